import Derived.Test.YtobgdeffhdefeaaDoorMk
/- Contracts of functions, one theorem each: what the call returns, and that nothing old is changed. Printed by gen.py. -/
namespace Go.Proofs.YtobgdeffhdefeaaDoor
open Go Go.RowKit
set_option linter.unusedSimpArgs false
set_option linter.unusedVariables false

set_option maxRecDepth 100000 in
set_option maxHeartbeats 1000000 in
theorem croot_calls (w0 : World) (Z : Nat → Prop) (hZ : ∀ k, Z k → k < w0.heap.size) (tA : Option Addr) (tc : Nat) (t : List Nd) (ht : (dRow 4 tA t.length tc (encNs t)).φ w0 Z) (hl : t.length ≤ 1000000) (h0 : 0 < t.length) :
    Calls Tryd.prog 58 [.slice tA t.length tc].toArray w0 (fun e w' => e = .returned (.agg #[.int .i64 (((nth t (t.length - 1)).K)), .int .i64 (((nth t (t.length - 1)).N)), .int .i64 (((nth t (t.length - 1)).M)), .string ((nth t (t.length - 1)).S)]) ∧ Fr none_ w0 w') := by
  have hstart : ∀ k, Z k → imm Z w0 [] w0 k ∧ w0.heap[k]? = w0.heap[k]? := fun k hk => ⟨⟨hZ k hk, fun _ => hk, fun _ h => by cases h⟩, rfl⟩
  have hS3 : St w0 Z none_ w0 [] [dRow 4 tA t.length tc (encNs t)] := St.start w0 Z none_ _ (by
    intro d hd
    simp only [List.mem_cons, List.not_mem_nil, or_false] at hd
    rcases hd with rfl
    · exact Dat.mono _ _ _ _ _ ht hstart
    )
  refine c_enter Tryd.func58 rfl Tryd.ntmps58 rfl (fun a1 hR2 => ?_)
  refine wp_seq_k (fun K4 hK5 => ?_)
  refine c_region ?_
  refine m_alloc (cs := [.int .i64 0, .int .i64 0, .int .i64 0, .string (⟨#[]⟩ : ByteArray)]) (st_listV rfl) hR2 hS3 rfl rfl ze32 rfl (by decide) (fun a6 w7 g8 hR9 hS10 => ?_)
  refine wpList_nil ?_
  refine x_then_n (hK5 _ _ ?_)
  refine wp_seq_k (fun K11 hK12 => ?_)
  refine c_region ?_
  refine r_move (st_listV rfl) hR9 rfl rfl rfl (by decide) (fun a13 hR14 => ?_)
  refine r_move (st_listV rfl) hR14 rfl rfl rfl (by decide) (fun a15 hR16 => ?_)
  refine r_len (st_listV rfl) hR16 rfl rfl rfl rfl Tryd.underlying22 (by decide) (fun a17 hR18 => ?_)
  refine r_sub (z := (((t.length : Nat) : Int) - 1)) (st_listV rfl) hR18 rfl rfl rfl rfl (by decide) (by omega) (by omega) (by omega) (fun a19 hR20 => ?_)
  refine m_index (i := (t.length) - (1)) (j := ((t.length) - (1)) * 4) (st_listV rfl) hR20 rfl rfl rfl rfl Tryd.underlying22 sz32 (by omega) (by omega) (nds_elem (t := t) (k := (t.length) - (1)) (hS10.row (i := 0) rfl).2 (by omega)).some_ rfl (by decide) (fun a21 hR22 => ?_)
  refine m_loadEN (st_listV rfl) hR22 rfl rfl rfl (nds_elem (t := t) (k := (t.length) - (1)) (hS10.row (i := 0) rfl).2 (by omega)) Tryd.underlying32 rfl sz32 (by decide) (fun a23 hR24 => ?_)
  refine m_store (i := 0) (cs' := [.int .i64 (((nth t ((t.length) - (1))).K)), .int .i64 (((nth t ((t.length) - (1))).N)), .int .i64 (((nth t ((t.length) - (1))).M)), .string ((nth t ((t.length) - (1))).S)]) (st_list rfl) hR24 hS10 rfl rfl rfl rfl rfl sz32 rfl rfl rfl (fun a25 w26 hR27 hS28 => ?_)
  refine wpList_nil ?_
  refine x_then_n (hK12 _ _ ?_)
  refine wp_ret ?_
  refine e_cell (i := 0) (vs := [.int .i64 (((nth t ((t.length) - (1))).K)), .int .i64 (((nth t ((t.length) - (1))).N)), .int .i64 (((nth t ((t.length) - (1))).M)), .string ((nth t ((t.length) - (1))).S)]) (.inl rfl) hR27 hS28 rfl rfl rfl Tryd.underlying32 rfl sz32 ?_
  refine ⟨?_, hS28.fr⟩
  exact congrArg Ending.returned rfl

set_option maxRecDepth 100000 in
set_option maxHeartbeats 1000000 in
theorem crule1_calls (w0 : World) (Z : Nat → Prop) (hZ : ∀ k, Z k → k < w0.heap.size) (cg : Nat) (ce : Int) (caA : Option Addr) (cac : Nat) (ca : List Nd) (cbA : Option Addr) (cbc : Nat) (cb : List Nd) (ctA : Option Addr) (ctc : Nat) (ct : List Nd) (cn : Nd) (hc : (Res.box cg 74 [.int .i64 (ce), .slice caA ca.length cac, .slice cbA cb.length cbc, .slice ctA ct.length ctc, .int .i64 (cn.K), .int .i64 (cn.N), .int .i64 (cn.M), .string cn.S]).holds w0) (hcz : ¬ Z cg) (hca : (dRow 4 caA ca.length cac (encNs ca)).φ w0 Z) (hcb : (dRow 4 cbA cb.length cbc (encNs cb)).φ w0 Z) (hct : (dRow 4 ctA ct.length ctc (encNs ct)).φ w0 Z) (hl : ct.length ≤ 1000000) (h0 : 0 < ct.length) :
    Calls Tryd.prog 80 [.pointer (some ⟨cg, 0, none⟩)].toArray w0 (fun e w' => e = .returned (.bool (decide ((nth ct (ct.length - 1)).K = 29))) ∧ Fr (· = cg) w0 w' ∧ (Res.box cg 74 [.int .i64 (ce), .slice caA ca.length cac, .slice cbA cb.length cbc, .slice ctA ct.length ctc, .int .i64 (cn.K), .int .i64 (cn.N), .int .i64 (cn.M), .string cn.S]).holds w') := by
  have hstart : ∀ k, Z k → imm Z w0 [.box cg 74 [.int .i64 (ce), .slice caA ca.length cac, .slice cbA cb.length cbc, .slice ctA ct.length ctc, .int .i64 (cn.K), .int .i64 (cn.N), .int .i64 (cn.M), .string cn.S]] w0 k ∧ w0.heap[k]? = w0.heap[k]? := fun k hk => imm_startM hZ hcz hk
  have hS3 : St w0 Z (· = cg) w0 [.box cg 74 [.int .i64 (ce), .slice caA ca.length cac, .slice cbA cb.length cbc, .slice ctA ct.length ctc, .int .i64 (cn.K), .int .i64 (cn.N), .int .i64 (cn.M), .string cn.S]] [dRow 4 caA ca.length cac (encNs ca), dRow 4 cbA cb.length cbc (encNs cb), dRow 4 ctA ct.length ctc (encNs ct)] := St.startM w0 Z _ cg 74 _ hc (by
    intro d hd
    simp only [List.mem_cons, List.not_mem_nil, or_false] at hd
    rcases hd with rfl | rfl | rfl
    · exact Dat.mono _ _ _ _ _ hca hstart
    · exact Dat.mono _ _ _ _ _ hcb hstart
    · exact Dat.mono _ _ _ _ _ hct hstart
    )
  refine c_enter Tryd.func80 rfl Tryd.ntmps80 rfl (fun a1 hR2 => ?_)
  refine wp_seq_k (fun K4 hK5 => ?_)
  refine c_region ?_
  refine r_assign (st_listV rfl) hR2 rfl rfl rfl (by decide) (fun a6 hR7 => ?_)
  refine wpList_nil ?_
  refine x_then_n (hK5 _ _ ?_)
  refine wp_seq_k (fun K8 hK9 => ?_)
  refine c_region ?_
  refine r_move (st_listV rfl) hR7 rfl rfl rfl (by decide) (fun a10 hR11 => ?_)
  refine r_nilCheck (st_listV rfl) hR11 rfl rfl rfl (by decide) (fun a12 hR13 => ?_)
  refine m_field (j' := 3) (st_listV rfl) hR13 rfl rfl rfl Tryd.underlying74 rfl sz22 rfl rfl (by decide) (fun a14 hR15 => ?_)
  refine m_load (i := 0) (st_listV rfl) hR15 hS3 rfl rfl rfl rfl rfl Tryd.underlying22 rfl (by decide) (fun a16 hR17 => ?_)
  have hS18 : St w0 Z (· = cg) w0 [.box cg 74 [.int .i64 (ce), .slice caA ca.length cac, .slice cbA cb.length cbc, .slice ctA ct.length ctc, .int .i64 (cn.K), .int .i64 (cn.N), .int .i64 (cn.M), .string cn.S]] [dRow 4 caA ca.length cac (encNs ca), dRow 4 cbA cb.length cbc (encNs cb), dRow 4 ctA ct.length ctc (encNs ct)] := hS3
  refine k_call (xs := [.tmp 6]) (st_list rfl) hR17 rfl rfl rfl (by decide) ok58 (croot_calls _ (imm Z w0 [.box cg 74 [.int .i64 (ce), .slice caA ca.length cac, .slice cbA cb.length cbc, .slice ctA ct.length ctc, .int .i64 (cn.K), .int .i64 (cn.N), .int .i64 (cn.M), .string cn.S]] _) (fun _ h => h.1) ctA ctc ct (hS18.get (i := 2) rfl) (by first | assumption | omega | (simp; done) | (simp; omega)) (by first | assumption | omega | (simp; done) | (simp; omega))) ?_
  rintro e25 w20 ⟨rfl, hf23⟩
  have hS26 := hS18.below hf23.below
  refine ⟨_, rfl, fun a19 hR21 => ?_⟩
  refine m_fieldV (v := .int .i64 (((nth ct (ct.length - 1)).K))) (st_listV rfl) hR21 rfl rfl rfl (fun _ => by kernel_rfl) (by decide) (fun a27 hR28 => ?_)
  refine r_eql (st_listV rfl) hR28 rfl rfl rfl rfl (by decide) (fun a29 hR30 => ?_)
  refine r_assign (st_listV rfl) hR30 rfl rfl rfl (by decide) (fun a31 hR32 => ?_)
  refine wpList_nil ?_
  refine x_then_n (hK9 _ _ ?_)
  refine wp_ret ?_
  refine e_ret1 hR32 rfl rfl ?_
  refine ⟨?_, hS26.fr, hS26.res (i := 0) rfl⟩
  exact congrArg Ending.returned (ret_b (by first | rfl | omega | ( omega) | (simp []; done) | (simp [] at *; done) | (simp [] <;> omega) | (rw [Bool.eq_iff_iff]; simp [] <;> omega) | (rw [Bool.eq_iff_iff]; simp [] at * <;> omega)))

set_option maxRecDepth 100000 in
set_option maxHeartbeats 1000000 in
theorem cdo1_calls (w0 : World) (Z : Nat → Prop) (hZ : ∀ k, Z k → k < w0.heap.size) (cg : Nat) (ce : Int) (caA : Option Addr) (cac : Nat) (ca : List Nd) (cbA : Option Addr) (cbc : Nat) (cb : List Nd) (ctA : Option Addr) (ctc : Nat) (ct : List Nd) (cn : Nd) (hc : (Res.box cg 74 [.int .i64 (ce), .slice caA ca.length cac, .slice cbA cb.length cbc, .slice ctA ct.length ctc, .int .i64 (cn.K), .int .i64 (cn.N), .int .i64 (cn.M), .string cn.S]).holds w0) (hcz : ¬ Z cg) (hca : (dRow 4 caA ca.length cac (encNs ca)).φ w0 Z) (hcb : (dRow 4 cbA cb.length cbc (encNs cb)).φ w0 Z) (hct : (dRow 4 ctA ct.length ctc (encNs ct)).φ w0 Z) :
    Calls Tryd.prog 81 [.pointer (some ⟨cg, 0, none⟩)].toArray w0 (fun e w' => ∃ (rA0 : Option Addr) (rc0 : Nat), e = .returned (.slice rA0 ((if ce = 0 then [(⟨29, 0, 0, ⟨#[]⟩⟩ : Nd)] else [])).length rc0) ∧ Fr (· = cg) w0 w' ∧ (Res.box cg 74 [.int .i64 (ce), .slice caA ca.length cac, .slice cbA cb.length cbc, .slice ctA ct.length ctc, .int .i64 (cn.K), .int .i64 (cn.N), .int .i64 (cn.M), .string cn.S]).holds w' ∧ (dRow 4 rA0 (((if ce = 0 then [(⟨29, 0, 0, ⟨#[]⟩⟩ : Nd)] else [])).length) rc0 (encNs (if ce = 0 then [(⟨29, 0, 0, ⟨#[]⟩⟩ : Nd)] else []))).φ w' (nxt Z w0 w')) := by
  have hstart : ∀ k, Z k → imm Z w0 [.box cg 74 [.int .i64 (ce), .slice caA ca.length cac, .slice cbA cb.length cbc, .slice ctA ct.length ctc, .int .i64 (cn.K), .int .i64 (cn.N), .int .i64 (cn.M), .string cn.S]] w0 k ∧ w0.heap[k]? = w0.heap[k]? := fun k hk => imm_startM hZ hcz hk
  have hS3 : St w0 Z (· = cg) w0 [.box cg 74 [.int .i64 (ce), .slice caA ca.length cac, .slice cbA cb.length cbc, .slice ctA ct.length ctc, .int .i64 (cn.K), .int .i64 (cn.N), .int .i64 (cn.M), .string cn.S]] [dRow 4 caA ca.length cac (encNs ca), dRow 4 cbA cb.length cbc (encNs cb), dRow 4 ctA ct.length ctc (encNs ct)] := St.startM w0 Z _ cg 74 _ hc (by
    intro d hd
    simp only [List.mem_cons, List.not_mem_nil, or_false] at hd
    rcases hd with rfl | rfl | rfl
    · exact Dat.mono _ _ _ _ _ hca hstart
    · exact Dat.mono _ _ _ _ _ hcb hstart
    · exact Dat.mono _ _ _ _ _ hct hstart
    )
  refine c_enter Tryd.func81 rfl Tryd.ntmps81 rfl (fun a1 hR2 => ?_)
  refine wp_seq_k (fun K4 hK5 => ?_)
  refine c_region ?_
  refine r_assign (st_listV rfl) hR2 rfl rfl rfl (by decide) (fun a6 hR7 => ?_)
  refine wpList_nil ?_
  refine x_then_n (hK5 _ _ ?_)
  refine wp_seq_k (fun K8 hK9 => ?_)
  refine c_region ?_
  refine r_move (st_listV rfl) hR7 rfl rfl rfl (by decide) (fun a10 hR11 => ?_)
  refine r_nilCheck (st_listV rfl) hR11 rfl rfl rfl (by decide) (fun a12 hR13 => ?_)
  refine m_field (j' := 0) (st_listV rfl) hR13 rfl rfl rfl Tryd.underlying74 rfl sz72 rfl rfl (by decide) (fun a14 hR15 => ?_)
  have hS16 : St w0 Z (· = cg) w0 [.box cg 74 [.int .i64 (ce), .slice caA ca.length cac, .slice cbA cb.length cbc, .slice ctA ct.length ctc, .int .i64 (cn.K), .int .i64 (cn.N), .int .i64 (cn.M), .string cn.S]] [dRow 4 caA ca.length cac (encNs ca), dRow 4 cbA cb.length cbc (encNs cb), dRow 4 ctA ct.length ctc (encNs ct)] := hS3
  refine k_call (xs := [.tmp 5]) (st_list rfl) hR15 rfl rfl rfl (by decide) ok82 (tick_calls _ (imm Z w0 [.box cg 74 [.int .i64 (ce), .slice caA ca.length cac, .slice cbA cb.length cbc, .slice ctA ct.length ctc, .int .i64 (cn.K), .int .i64 (cn.N), .int .i64 (cn.M), .string cn.S]] _) (fun _ h => h.1) cg 74 (ce) ([.slice caA ca.length cac, .slice cbA cb.length cbc, .slice ctA ct.length ctc, .int .i64 (cn.K), .int .i64 (cn.N), .int .i64 (cn.M), .string cn.S]) (hS16.res (i := 0) rfl) (imm_box (i := 0) rfl)) ?_
  rintro e26 w18 ⟨A22, c23, rfl, hf21, hb25, hd24⟩
  have hS27 := hS16.callM (i := 0) rfl hf21 hb25
  have hS28 := hS27.data (dRow 4 A22 ((if (ce) = 0 then [(⟨29, 0, 0, ⟨#[]⟩⟩ : Nd)] else []).length) c23 (encNs (if (ce) = 0 then [(⟨29, 0, 0, ⟨#[]⟩⟩ : Nd)] else []))) ⟨hd24.1, hd24.2.mono (fun _ hk => ⟨imm_set (i := 0) rfl (nxt_imm hS16 hk), rfl⟩)⟩
  refine ⟨_, rfl, fun a17 hR19 => ?_⟩
  refine r_assign (st_listV rfl) hR19 rfl rfl rfl (by decide) (fun a29 hR30 => ?_)
  refine wpList_nil ?_
  refine x_then_n (hK9 _ _ ?_)
  refine wp_ret ?_
  refine e_ret1 hR30 rfl rfl ?_
  have he31 : (if ce = 0 then [(⟨29, 0, 0, ⟨#[]⟩⟩ : Nd)] else []) = (if (ce) = 0 then [(⟨29, 0, 0, ⟨#[]⟩⟩ : Nd)] else []) := rfl
  rw [he31]
  refine ⟨A22, c23, ?_, hS28.fr, hS28.res (i := 0) rfl, ⟨by have := (hS28.row (i := 3) rfl).1; exact this, ((hS28.row (i := 3) rfl).2.mono (fun _ hk => ⟨imm_nxt hk, rfl⟩))⟩⟩
  exact congrArg Ending.returned rfl

set_option maxRecDepth 100000 in
set_option maxHeartbeats 1000000 in
theorem ckind_calls (w0 : World) (Z : Nat → Prop) (hZ : ∀ k, Z k → k < w0.heap.size) (k : Int) (f : Nat)  :
    Calls Tryd.prog 83 [.int .i64 k, .func (.func f) #[] #[]].toArray w0 (fun e w' => ∃ q0_0 : Nat, ∃ q0_1 : Nat, e = .returned (.func (.func 117) #[] #[.pointer (some ⟨q0_0, 0, none⟩), .pointer (some ⟨q0_1, 0, none⟩)]) ∧ Fr none_ w0 w' ∧ (dBox q0_0 [.int .i64 (k)]).φ w' (nxt Z w0 w') ∧ (dBox q0_1 [.func (.func f) #[] #[]]).φ w' (nxt Z w0 w')) := by
  have hstart : ∀ k, Z k → imm Z w0 [] w0 k ∧ w0.heap[k]? = w0.heap[k]? := fun k hk => ⟨⟨hZ k hk, fun _ => hk, fun _ h => by cases h⟩, rfl⟩
  have hS3 : St w0 Z none_ w0 [] [] := St.start w0 Z none_ _ (by
    intro d hd
    cases hd
    )
  refine c_enter Tryd.func83 rfl Tryd.ntmps83 rfl (fun a1 hR2 => ?_)
  refine wp_seq_k (fun K4 hK5 => ?_)
  refine c_region ?_
  refine m_box (cs := [.int .i64 (k)]) (st_listV rfl) hR2 hS3 rfl rfl rfl rfl (by decide) (fun a6 w7 g8 hR9 hS10 => ?_)
  refine m_box (cs := [.func (.func f) #[] #[]]) (st_listV rfl) hR9 hS10 rfl rfl rfl rfl (by decide) (fun a11 w12 g13 hR14 hS15 => ?_)
  refine r_assign (st_listV rfl) hR14 rfl rfl rfl (by decide) (fun a16 hR17 => ?_)
  refine wpList_nil ?_
  refine x_then_n (hK5 _ _ ?_)
  refine wp_seq_k (fun K18 hK19 => ?_)
  refine c_region ?_
  refine r_makeFunc (st_listV rfl) hR17 rfl rfl rfl (by decide) (fun a20 hR21 => ?_)
  refine r_assign (st_listV rfl) hR21 rfl rfl rfl (by decide) (fun a22 hR23 => ?_)
  refine wpList_nil ?_
  refine x_then_n (hK19 _ _ ?_)
  refine wp_ret ?_
  refine e_ret1 hR23 rfl rfl ?_
  obtain ⟨hS24, hbx25⟩ := hS15.box_data (i := 0) rfl (fun _ h => h)
  have hS26 := hS24.data (dBox g8 [.int .i64 (k)]) hbx25
  obtain ⟨hS27, hbx28⟩ := hS26.box_data (i := 0) rfl (fun _ h => h)
  have hS29 := hS27.data (dBox g13 [.func (.func f) #[] #[]]) hbx28
  refine ⟨g8, g13, ?_, hS29.fr, ((hS29.get (i := 0) rfl).imp imm_nxt id), ((hS29.get (i := 1) rfl).imp imm_nxt id)⟩
  exact congrArg Ending.returned rfl

set_option maxRecDepth 100000 in
set_option maxHeartbeats 1000000 in
theorem crules_calls (w0 : World) (Z : Nat → Prop) (hZ : ∀ k, Z k → k < w0.heap.size)   :
    Calls Tryd.prog 59 [].toArray w0 (fun e w' => ∃ q2_0 : Nat, ∃ q2_1 : Nat, ∃ q4_0 : Nat, ∃ q4_1 : Nat, ∃ q6_0 : Nat, ∃ q6_1 : Nat, ∃ q8_0 : Nat, ∃ q8_1 : Nat, ∃ q10_0 : Nat, ∃ q10_1 : Nat, ∃ q12_0 : Nat, ∃ q12_1 : Nat, e = .returned (.agg #[.func (.func 80) #[] #[], .func (.func 81) #[] #[], .func (.func 117) #[] #[.pointer (some ⟨q2_0, 0, none⟩), .pointer (some ⟨q2_1, 0, none⟩)], .func (.func 85) #[] #[], .func (.func 117) #[] #[.pointer (some ⟨q4_0, 0, none⟩), .pointer (some ⟨q4_1, 0, none⟩)], .func (.func 85) #[] #[], .func (.func 117) #[] #[.pointer (some ⟨q6_0, 0, none⟩), .pointer (some ⟨q6_1, 0, none⟩)], .func (.func 85) #[] #[], .func (.func 117) #[] #[.pointer (some ⟨q8_0, 0, none⟩), .pointer (some ⟨q8_1, 0, none⟩)], .func (.func 87) #[] #[], .func (.func 117) #[] #[.pointer (some ⟨q10_0, 0, none⟩), .pointer (some ⟨q10_1, 0, none⟩)], .func (.func 89) #[] #[], .func (.func 117) #[] #[.pointer (some ⟨q12_0, 0, none⟩), .pointer (some ⟨q12_1, 0, none⟩)], .func (.func 91) #[] #[]]) ∧ Fr none_ w0 w' ∧ (dBox q2_0 [.int .i64 10]).φ w' (nxt Z w0 w') ∧ (dBox q2_1 [.func (.func 84) #[] #[]]).φ w' (nxt Z w0 w') ∧ (dBox q4_0 [.int .i64 2]).φ w' (nxt Z w0 w') ∧ (dBox q4_1 [.func (.func 84) #[] #[]]).φ w' (nxt Z w0 w') ∧ (dBox q6_0 [.int .i64 25]).φ w' (nxt Z w0 w') ∧ (dBox q6_1 [.func (.func 84) #[] #[]]).φ w' (nxt Z w0 w') ∧ (dBox q8_0 [.int .i64 3]).φ w' (nxt Z w0 w') ∧ (dBox q8_1 [.func (.func 86) #[] #[]]).φ w' (nxt Z w0 w') ∧ (dBox q10_0 [.int .i64 6]).φ w' (nxt Z w0 w') ∧ (dBox q10_1 [.func (.func 88) #[] #[]]).φ w' (nxt Z w0 w') ∧ (dBox q12_0 [.int .i64 22]).φ w' (nxt Z w0 w') ∧ (dBox q12_1 [.func (.func 90) #[] #[]]).φ w' (nxt Z w0 w')) := by
  have hstart : ∀ k, Z k → imm Z w0 [] w0 k ∧ w0.heap[k]? = w0.heap[k]? := fun k hk => ⟨⟨hZ k hk, fun _ => hk, fun _ h => by cases h⟩, rfl⟩
  have hS3 : St w0 Z none_ w0 [] [] := St.start w0 Z none_ _ (by
    intro d hd
    cases hd
    )
  refine c_enter Tryd.func59 rfl Tryd.ntmps59 rfl (fun a1 hR2 => ?_)
  refine wp_seq_k (fun K4 hK5 => ?_)
  refine c_region ?_
  refine m_alloc (cs := [.nilFunc, .nilFunc, .nilFunc, .nilFunc, .nilFunc, .nilFunc, .nilFunc, .nilFunc, .nilFunc, .nilFunc, .nilFunc, .nilFunc, .nilFunc, .nilFunc]) (st_listV rfl) hR2 hS3 rfl rfl ze79 rfl (by decide) (fun a6 w7 g8 hR9 hS10 => ?_)
  refine wpList_nil ?_
  refine x_then_n (hK5 _ _ ?_)
  refine wp_seq_k (fun K11 hK12 => ?_)
  refine c_region ?_
  refine m_build (ps := [(0, .func 80), (1, .func 81)]) (v := .agg #[.func (.func 80) #[] #[], .func (.func 81) #[] #[]]) (st_listV rfl) hR9 rfl rfl rfl (fun _ => by kernel_rfl) (by decide) (fun a13 hR14 => ?_)
  have hS15 : St w0 Z none_ w7 [.box g8 79 [.nilFunc, .nilFunc, .nilFunc, .nilFunc, .nilFunc, .nilFunc, .nilFunc, .nilFunc, .nilFunc, .nilFunc, .nilFunc, .nilFunc, .nilFunc, .nilFunc]] [] := hS10
  refine k_call (xs := [.const (.int .i64 10), .func 84]) (st_list rfl) hR14 rfl rfl rfl (by decide) ok83 (ckind_calls _ (imm Z w0 [.box g8 79 [.nilFunc, .nilFunc, .nilFunc, .nilFunc, .nilFunc, .nilFunc, .nilFunc, .nilFunc, .nilFunc, .nilFunc, .nilFunc, .nilFunc, .nilFunc, .nilFunc]] _) (fun _ h => h.1) 10 84) ?_
  rintro e26 w17 ⟨q21, q23, rfl, hf20, hd22, hd24⟩
  have hS27 := hS15.below hf20.below
  have hS28 := hS27.data (dBox q21 [.int .i64 10]) (hd22.imp (fun hk => nxt_imm hS15 hk) id)
  have hS29 := hS28.data (dBox q23 [.func (.func 84) #[] #[]]) (hd24.imp (fun hk => nxt_imm hS15 hk) id)
  refine ⟨_, rfl, fun a16 hR18 => ?_⟩
  refine m_build (ps := [(0, .tmp 2), (1, .func 85)]) (v := .agg #[.func (.func 117) #[] #[.pointer (some ⟨q21, 0, none⟩), .pointer (some ⟨q23, 0, none⟩)], .func (.func 85) #[] #[]]) (st_listV rfl) hR18 rfl rfl rfl (fun _ => by kernel_rfl) (by decide) (fun a30 hR31 => ?_)
  have hS32 : St w0 Z none_ w17 [.box g8 79 [.nilFunc, .nilFunc, .nilFunc, .nilFunc, .nilFunc, .nilFunc, .nilFunc, .nilFunc, .nilFunc, .nilFunc, .nilFunc, .nilFunc, .nilFunc, .nilFunc]] [dBox q21 [.int .i64 10], dBox q23 [.func (.func 84) #[] #[]]] := hS29
  refine k_call (xs := [.const (.int .i64 2), .func 84]) (st_list rfl) hR31 rfl rfl rfl (by decide) ok83 (ckind_calls _ (imm Z w0 [.box g8 79 [.nilFunc, .nilFunc, .nilFunc, .nilFunc, .nilFunc, .nilFunc, .nilFunc, .nilFunc, .nilFunc, .nilFunc, .nilFunc, .nilFunc, .nilFunc, .nilFunc]] _) (fun _ h => h.1) 2 84) ?_
  rintro e43 w34 ⟨q38, q40, rfl, hf37, hd39, hd41⟩
  have hS44 := hS32.below hf37.below
  have hS45 := hS44.data (dBox q38 [.int .i64 2]) (hd39.imp (fun hk => nxt_imm hS32 hk) id)
  have hS46 := hS45.data (dBox q40 [.func (.func 84) #[] #[]]) (hd41.imp (fun hk => nxt_imm hS32 hk) id)
  refine ⟨_, rfl, fun a33 hR35 => ?_⟩
  refine m_build (ps := [(0, .tmp 4), (1, .func 85)]) (v := .agg #[.func (.func 117) #[] #[.pointer (some ⟨q38, 0, none⟩), .pointer (some ⟨q40, 0, none⟩)], .func (.func 85) #[] #[]]) (st_listV rfl) hR35 rfl rfl rfl (fun _ => by kernel_rfl) (by decide) (fun a47 hR48 => ?_)
  have hS49 : St w0 Z none_ w34 [.box g8 79 [.nilFunc, .nilFunc, .nilFunc, .nilFunc, .nilFunc, .nilFunc, .nilFunc, .nilFunc, .nilFunc, .nilFunc, .nilFunc, .nilFunc, .nilFunc, .nilFunc]] [dBox q21 [.int .i64 10], dBox q23 [.func (.func 84) #[] #[]], dBox q38 [.int .i64 2], dBox q40 [.func (.func 84) #[] #[]]] := hS46
  refine k_call (xs := [.const (.int .i64 25), .func 84]) (st_list rfl) hR48 rfl rfl rfl (by decide) ok83 (ckind_calls _ (imm Z w0 [.box g8 79 [.nilFunc, .nilFunc, .nilFunc, .nilFunc, .nilFunc, .nilFunc, .nilFunc, .nilFunc, .nilFunc, .nilFunc, .nilFunc, .nilFunc, .nilFunc, .nilFunc]] _) (fun _ h => h.1) 25 84) ?_
  rintro e60 w51 ⟨q55, q57, rfl, hf54, hd56, hd58⟩
  have hS61 := hS49.below hf54.below
  have hS62 := hS61.data (dBox q55 [.int .i64 25]) (hd56.imp (fun hk => nxt_imm hS49 hk) id)
  have hS63 := hS62.data (dBox q57 [.func (.func 84) #[] #[]]) (hd58.imp (fun hk => nxt_imm hS49 hk) id)
  refine ⟨_, rfl, fun a50 hR52 => ?_⟩
  refine m_build (ps := [(0, .tmp 6), (1, .func 85)]) (v := .agg #[.func (.func 117) #[] #[.pointer (some ⟨q55, 0, none⟩), .pointer (some ⟨q57, 0, none⟩)], .func (.func 85) #[] #[]]) (st_listV rfl) hR52 rfl rfl rfl (fun _ => by kernel_rfl) (by decide) (fun a64 hR65 => ?_)
  have hS66 : St w0 Z none_ w51 [.box g8 79 [.nilFunc, .nilFunc, .nilFunc, .nilFunc, .nilFunc, .nilFunc, .nilFunc, .nilFunc, .nilFunc, .nilFunc, .nilFunc, .nilFunc, .nilFunc, .nilFunc]] [dBox q21 [.int .i64 10], dBox q23 [.func (.func 84) #[] #[]], dBox q38 [.int .i64 2], dBox q40 [.func (.func 84) #[] #[]], dBox q55 [.int .i64 25], dBox q57 [.func (.func 84) #[] #[]]] := hS63
  refine k_call (xs := [.const (.int .i64 3), .func 86]) (st_list rfl) hR65 rfl rfl rfl (by decide) ok83 (ckind_calls _ (imm Z w0 [.box g8 79 [.nilFunc, .nilFunc, .nilFunc, .nilFunc, .nilFunc, .nilFunc, .nilFunc, .nilFunc, .nilFunc, .nilFunc, .nilFunc, .nilFunc, .nilFunc, .nilFunc]] _) (fun _ h => h.1) 3 86) ?_
  rintro e77 w68 ⟨q72, q74, rfl, hf71, hd73, hd75⟩
  have hS78 := hS66.below hf71.below
  have hS79 := hS78.data (dBox q72 [.int .i64 3]) (hd73.imp (fun hk => nxt_imm hS66 hk) id)
  have hS80 := hS79.data (dBox q74 [.func (.func 86) #[] #[]]) (hd75.imp (fun hk => nxt_imm hS66 hk) id)
  refine ⟨_, rfl, fun a67 hR69 => ?_⟩
  refine m_build (ps := [(0, .tmp 8), (1, .func 87)]) (v := .agg #[.func (.func 117) #[] #[.pointer (some ⟨q72, 0, none⟩), .pointer (some ⟨q74, 0, none⟩)], .func (.func 87) #[] #[]]) (st_listV rfl) hR69 rfl rfl rfl (fun _ => by kernel_rfl) (by decide) (fun a81 hR82 => ?_)
  have hS83 : St w0 Z none_ w68 [.box g8 79 [.nilFunc, .nilFunc, .nilFunc, .nilFunc, .nilFunc, .nilFunc, .nilFunc, .nilFunc, .nilFunc, .nilFunc, .nilFunc, .nilFunc, .nilFunc, .nilFunc]] [dBox q21 [.int .i64 10], dBox q23 [.func (.func 84) #[] #[]], dBox q38 [.int .i64 2], dBox q40 [.func (.func 84) #[] #[]], dBox q55 [.int .i64 25], dBox q57 [.func (.func 84) #[] #[]], dBox q72 [.int .i64 3], dBox q74 [.func (.func 86) #[] #[]]] := hS80
  refine k_call (xs := [.const (.int .i64 6), .func 88]) (st_list rfl) hR82 rfl rfl rfl (by decide) ok83 (ckind_calls _ (imm Z w0 [.box g8 79 [.nilFunc, .nilFunc, .nilFunc, .nilFunc, .nilFunc, .nilFunc, .nilFunc, .nilFunc, .nilFunc, .nilFunc, .nilFunc, .nilFunc, .nilFunc, .nilFunc]] _) (fun _ h => h.1) 6 88) ?_
  rintro e94 w85 ⟨q89, q91, rfl, hf88, hd90, hd92⟩
  have hS95 := hS83.below hf88.below
  have hS96 := hS95.data (dBox q89 [.int .i64 6]) (hd90.imp (fun hk => nxt_imm hS83 hk) id)
  have hS97 := hS96.data (dBox q91 [.func (.func 88) #[] #[]]) (hd92.imp (fun hk => nxt_imm hS83 hk) id)
  refine ⟨_, rfl, fun a84 hR86 => ?_⟩
  refine m_build (ps := [(0, .tmp 10), (1, .func 89)]) (v := .agg #[.func (.func 117) #[] #[.pointer (some ⟨q89, 0, none⟩), .pointer (some ⟨q91, 0, none⟩)], .func (.func 89) #[] #[]]) (st_listV rfl) hR86 rfl rfl rfl (fun _ => by kernel_rfl) (by decide) (fun a98 hR99 => ?_)
  have hS100 : St w0 Z none_ w85 [.box g8 79 [.nilFunc, .nilFunc, .nilFunc, .nilFunc, .nilFunc, .nilFunc, .nilFunc, .nilFunc, .nilFunc, .nilFunc, .nilFunc, .nilFunc, .nilFunc, .nilFunc]] [dBox q21 [.int .i64 10], dBox q23 [.func (.func 84) #[] #[]], dBox q38 [.int .i64 2], dBox q40 [.func (.func 84) #[] #[]], dBox q55 [.int .i64 25], dBox q57 [.func (.func 84) #[] #[]], dBox q72 [.int .i64 3], dBox q74 [.func (.func 86) #[] #[]], dBox q89 [.int .i64 6], dBox q91 [.func (.func 88) #[] #[]]] := hS97
  refine k_call (xs := [.const (.int .i64 22), .func 90]) (st_list rfl) hR99 rfl rfl rfl (by decide) ok83 (ckind_calls _ (imm Z w0 [.box g8 79 [.nilFunc, .nilFunc, .nilFunc, .nilFunc, .nilFunc, .nilFunc, .nilFunc, .nilFunc, .nilFunc, .nilFunc, .nilFunc, .nilFunc, .nilFunc, .nilFunc]] _) (fun _ h => h.1) 22 90) ?_
  rintro e111 w102 ⟨q106, q108, rfl, hf105, hd107, hd109⟩
  have hS112 := hS100.below hf105.below
  have hS113 := hS112.data (dBox q106 [.int .i64 22]) (hd107.imp (fun hk => nxt_imm hS100 hk) id)
  have hS114 := hS113.data (dBox q108 [.func (.func 90) #[] #[]]) (hd109.imp (fun hk => nxt_imm hS100 hk) id)
  refine ⟨_, rfl, fun a101 hR103 => ?_⟩
  refine m_build (ps := [(0, .tmp 12), (1, .func 91)]) (v := .agg #[.func (.func 117) #[] #[.pointer (some ⟨q106, 0, none⟩), .pointer (some ⟨q108, 0, none⟩)], .func (.func 91) #[] #[]]) (st_listV rfl) hR103 rfl rfl rfl (fun _ => by kernel_rfl) (by decide) (fun a115 hR116 => ?_)
  refine m_build (ps := [(0, .tmp 1), (1, .tmp 3), (2, .tmp 5), (3, .tmp 7), (4, .tmp 9), (5, .tmp 11), (6, .tmp 13)]) (v := .agg #[.func (.func 80) #[] #[], .func (.func 81) #[] #[], .func (.func 117) #[] #[.pointer (some ⟨q21, 0, none⟩), .pointer (some ⟨q23, 0, none⟩)], .func (.func 85) #[] #[], .func (.func 117) #[] #[.pointer (some ⟨q38, 0, none⟩), .pointer (some ⟨q40, 0, none⟩)], .func (.func 85) #[] #[], .func (.func 117) #[] #[.pointer (some ⟨q55, 0, none⟩), .pointer (some ⟨q57, 0, none⟩)], .func (.func 85) #[] #[], .func (.func 117) #[] #[.pointer (some ⟨q72, 0, none⟩), .pointer (some ⟨q74, 0, none⟩)], .func (.func 87) #[] #[], .func (.func 117) #[] #[.pointer (some ⟨q89, 0, none⟩), .pointer (some ⟨q91, 0, none⟩)], .func (.func 89) #[] #[], .func (.func 117) #[] #[.pointer (some ⟨q106, 0, none⟩), .pointer (some ⟨q108, 0, none⟩)], .func (.func 91) #[] #[]]) (st_listV rfl) hR116 rfl rfl rfl (fun _ => by kernel_rfl) (by decide) (fun a117 hR118 => ?_)
  refine m_store (i := 0) (cs' := [.func (.func 80) #[] #[], .func (.func 81) #[] #[], .func (.func 117) #[] #[.pointer (some ⟨q21, 0, none⟩), .pointer (some ⟨q23, 0, none⟩)], .func (.func 85) #[] #[], .func (.func 117) #[] #[.pointer (some ⟨q38, 0, none⟩), .pointer (some ⟨q40, 0, none⟩)], .func (.func 85) #[] #[], .func (.func 117) #[] #[.pointer (some ⟨q55, 0, none⟩), .pointer (some ⟨q57, 0, none⟩)], .func (.func 85) #[] #[], .func (.func 117) #[] #[.pointer (some ⟨q72, 0, none⟩), .pointer (some ⟨q74, 0, none⟩)], .func (.func 87) #[] #[], .func (.func 117) #[] #[.pointer (some ⟨q89, 0, none⟩), .pointer (some ⟨q91, 0, none⟩)], .func (.func 89) #[] #[], .func (.func 117) #[] #[.pointer (some ⟨q106, 0, none⟩), .pointer (some ⟨q108, 0, none⟩)], .func (.func 91) #[] #[]]) (st_list rfl) hR118 hS114 rfl rfl rfl rfl rfl sz79 rfl rfl rfl (fun a119 w120 hR121 hS122 => ?_)
  refine wpList_nil ?_
  refine x_then_n (hK12 _ _ ?_)
  refine wp_ret ?_
  refine e_cell (i := 0) (vs := [.func (.func 80) #[] #[], .func (.func 81) #[] #[], .func (.func 117) #[] #[.pointer (some ⟨q21, 0, none⟩), .pointer (some ⟨q23, 0, none⟩)], .func (.func 85) #[] #[], .func (.func 117) #[] #[.pointer (some ⟨q38, 0, none⟩), .pointer (some ⟨q40, 0, none⟩)], .func (.func 85) #[] #[], .func (.func 117) #[] #[.pointer (some ⟨q55, 0, none⟩), .pointer (some ⟨q57, 0, none⟩)], .func (.func 85) #[] #[], .func (.func 117) #[] #[.pointer (some ⟨q72, 0, none⟩), .pointer (some ⟨q74, 0, none⟩)], .func (.func 87) #[] #[], .func (.func 117) #[] #[.pointer (some ⟨q89, 0, none⟩), .pointer (some ⟨q91, 0, none⟩)], .func (.func 89) #[] #[], .func (.func 117) #[] #[.pointer (some ⟨q106, 0, none⟩), .pointer (some ⟨q108, 0, none⟩)], .func (.func 91) #[] #[]]) (.inl rfl) hR121 hS122 rfl rfl rfl Tryd.underlying79 rfl sz79 ?_
  refine ⟨q21, q23, q38, q40, q55, q57, q72, q74, q89, q91, q106, q108, ?_, hS122.fr, ((hS122.get (i := 0) rfl).imp imm_nxt id), ((hS122.get (i := 1) rfl).imp imm_nxt id), ((hS122.get (i := 2) rfl).imp imm_nxt id), ((hS122.get (i := 3) rfl).imp imm_nxt id), ((hS122.get (i := 4) rfl).imp imm_nxt id), ((hS122.get (i := 5) rfl).imp imm_nxt id), ((hS122.get (i := 6) rfl).imp imm_nxt id), ((hS122.get (i := 7) rfl).imp imm_nxt id), ((hS122.get (i := 8) rfl).imp imm_nxt id), ((hS122.get (i := 9) rfl).imp imm_nxt id), ((hS122.get (i := 10) rfl).imp imm_nxt id), ((hS122.get (i := 11) rfl).imp imm_nxt id)⟩
  exact congrArg Ending.returned rfl

set_option maxRecDepth 100000 in
set_option maxHeartbeats 1000000 in
theorem calways_calls (w0 : World) (Z : Nat → Prop) (hZ : ∀ k, Z k → k < w0.heap.size) (cg : Nat) (ce : Int) (caA : Option Addr) (cac : Nat) (ca : List Nd) (cbA : Option Addr) (cbc : Nat) (cb : List Nd) (ctA : Option Addr) (ctc : Nat) (ct : List Nd) (cn : Nd) (hc : (Res.box cg 74 [.int .i64 (ce), .slice caA ca.length cac, .slice cbA cb.length cbc, .slice ctA ct.length ctc, .int .i64 (cn.K), .int .i64 (cn.N), .int .i64 (cn.M), .string cn.S]).holds w0) (hcz : ¬ Z cg) (hca : (dRow 4 caA ca.length cac (encNs ca)).φ w0 Z) (hcb : (dRow 4 cbA cb.length cbc (encNs cb)).φ w0 Z) (hct : (dRow 4 ctA ct.length ctc (encNs ct)).φ w0 Z) :
    Calls Tryd.prog 84 [.pointer (some ⟨cg, 0, none⟩)].toArray w0 (fun e w' => e = .returned (.bool (true)) ∧ Fr (· = cg) w0 w' ∧ (Res.box cg 74 [.int .i64 (ce), .slice caA ca.length cac, .slice cbA cb.length cbc, .slice ctA ct.length ctc, .int .i64 (cn.K), .int .i64 (cn.N), .int .i64 (cn.M), .string cn.S]).holds w') := by
  have hstart : ∀ k, Z k → imm Z w0 [.box cg 74 [.int .i64 (ce), .slice caA ca.length cac, .slice cbA cb.length cbc, .slice ctA ct.length ctc, .int .i64 (cn.K), .int .i64 (cn.N), .int .i64 (cn.M), .string cn.S]] w0 k ∧ w0.heap[k]? = w0.heap[k]? := fun k hk => imm_startM hZ hcz hk
  have hS3 : St w0 Z (· = cg) w0 [.box cg 74 [.int .i64 (ce), .slice caA ca.length cac, .slice cbA cb.length cbc, .slice ctA ct.length ctc, .int .i64 (cn.K), .int .i64 (cn.N), .int .i64 (cn.M), .string cn.S]] [dRow 4 caA ca.length cac (encNs ca), dRow 4 cbA cb.length cbc (encNs cb), dRow 4 ctA ct.length ctc (encNs ct)] := St.startM w0 Z _ cg 74 _ hc (by
    intro d hd
    simp only [List.mem_cons, List.not_mem_nil, or_false] at hd
    rcases hd with rfl | rfl | rfl
    · exact Dat.mono _ _ _ _ _ hca hstart
    · exact Dat.mono _ _ _ _ _ hcb hstart
    · exact Dat.mono _ _ _ _ _ hct hstart
    )
  refine c_enter Tryd.func84 rfl Tryd.ntmps84 rfl (fun a1 hR2 => ?_)
  refine wp_seq_k (fun K4 hK5 => ?_)
  refine c_region ?_
  refine r_assign (st_listV rfl) hR2 rfl rfl rfl (by decide) (fun a6 hR7 => ?_)
  refine wpList_nil ?_
  refine x_then_n (hK5 _ _ ?_)
  refine wp_seq_k (fun K8 hK9 => ?_)
  refine c_region ?_
  refine r_assign (st_listV rfl) hR7 rfl rfl rfl (by decide) (fun a10 hR11 => ?_)
  refine wpList_nil ?_
  refine x_then_n (hK9 _ _ ?_)
  refine wp_ret ?_
  refine e_ret1 hR11 rfl rfl ?_
  refine ⟨?_, hS3.fr, hS3.res (i := 0) rfl⟩
  exact congrArg Ending.returned (ret_b (by first | rfl | omega | ( omega) | (simp []; done) | (simp [] at *; done) | (simp [] <;> omega) | (rw [Bool.eq_iff_iff]; simp [] <;> omega) | (rw [Bool.eq_iff_iff]; simp [] at * <;> omega)))

set_option maxRecDepth 100000 in
set_option maxHeartbeats 1000000 in
theorem ckind84_calls (w0 : World) (Z : Nat → Prop) (hZ : ∀ k, Z k → k < w0.heap.size) (cg : Nat) (ce : Int) (caA : Option Addr) (cac : Nat) (ca : List Nd) (cbA : Option Addr) (cbc : Nat) (cb : List Nd) (ctA : Option Addr) (ctc : Nat) (ct : List Nd) (cn : Nd) (kg : Nat) (k : Int) (fg : Nat)  (hc : (Res.box cg 74 [.int .i64 (ce), .slice caA ca.length cac, .slice cbA cb.length cbc, .slice ctA ct.length ctc, .int .i64 (cn.K), .int .i64 (cn.N), .int .i64 (cn.M), .string cn.S]).holds w0) (hcz : ¬ Z cg) (hca : (dRow 4 caA ca.length cac (encNs ca)).φ w0 Z) (hcb : (dRow 4 cbA cb.length cbc (encNs cb)).φ w0 Z) (hct : (dRow 4 ctA ct.length ctc (encNs ct)).φ w0 Z) (hk : (dBox kg [.int .i64 (k)]).φ w0 Z) (hf : (dBox fg [.func (.func 84) #[] #[]]).φ w0 Z) (hla : ca.length ≤ 1000000) (hlb : cb.length ≤ 1000000) (hlt : ct.length ≤ 1000000) (h0a : 0 < ca.length) (h0b : 0 < cb.length) (h0t : 0 < ct.length) :
    Calls Tryd.prog 117 [.pointer (some ⟨cg, 0, none⟩), .pointer (some ⟨kg, 0, none⟩), .pointer (some ⟨fg, 0, none⟩)].toArray w0 (fun e w' => e = .returned (.bool ((decide (cn.K = k) && decide (nth cb (cb.length - 1) = cn)) && true)) ∧ Fr (· = cg) w0 w' ∧ (Res.box cg 74 [.int .i64 (ce), .slice caA ca.length cac, .slice cbA cb.length cbc, .slice ctA ct.length ctc, .int .i64 (cn.K), .int .i64 (cn.N), .int .i64 (cn.M), .string cn.S]).holds w') := by
  have hstart : ∀ k, Z k → imm Z w0 [.box cg 74 [.int .i64 (ce), .slice caA ca.length cac, .slice cbA cb.length cbc, .slice ctA ct.length ctc, .int .i64 (cn.K), .int .i64 (cn.N), .int .i64 (cn.M), .string cn.S]] w0 k ∧ w0.heap[k]? = w0.heap[k]? := fun k hk => imm_startM hZ hcz hk
  have hS3 : St w0 Z (· = cg) w0 [.box cg 74 [.int .i64 (ce), .slice caA ca.length cac, .slice cbA cb.length cbc, .slice ctA ct.length ctc, .int .i64 (cn.K), .int .i64 (cn.N), .int .i64 (cn.M), .string cn.S]] [dRow 4 caA ca.length cac (encNs ca), dRow 4 cbA cb.length cbc (encNs cb), dRow 4 ctA ct.length ctc (encNs ct), dBox kg [.int .i64 (k)], dBox fg [.func (.func 84) #[] #[]]] := St.startM w0 Z _ cg 74 _ hc (by
    intro d hd
    simp only [List.mem_cons, List.not_mem_nil, or_false] at hd
    rcases hd with rfl | rfl | rfl | rfl | rfl
    · exact Dat.mono _ _ _ _ _ hca hstart
    · exact Dat.mono _ _ _ _ _ hcb hstart
    · exact Dat.mono _ _ _ _ _ hct hstart
    · exact Dat.mono _ _ _ _ _ hk hstart
    · exact Dat.mono _ _ _ _ _ hf hstart
    )
  refine c_enter Tryd.func117 rfl Tryd.ntmps117 rfl (fun a1 hR2 => ?_)
  refine wp_seq_k (fun K4 hK5 => ?_)
  refine c_region ?_
  refine r_assign (st_listV rfl) hR2 rfl rfl rfl (by decide) (fun a6 hR7 => ?_)
  refine wpList_nil ?_
  refine x_then_n (hK5 _ _ ?_)
  refine wp_seq_k (fun K8 hK9 => ?_)
  obtain ⟨J10, hJ11, hS12⟩ := hS3.agree
  refine d_region2 (S := (fun x => (∀ k, J10 k → x.heap[k]? = w0.heap[k]?) ∧ (x.cell? ⟨cg, 0, none⟩ = some (.int .i64 (ce))) ∧ (x.cell? ⟨cg, 1, none⟩ = some (.slice caA ca.length cac)) ∧ (x.cell? ⟨cg, 2, none⟩ = some (.slice cbA cb.length cbc)) ∧ (x.cell? ⟨cg, 3, none⟩ = some (.slice ctA ct.length ctc)) ∧ (x.cell? ⟨cg, 4, none⟩ = some (.int .i64 (cn.K))) ∧ (x.cell? ⟨cg, 5, none⟩ = some (.int .i64 (cn.N))) ∧ (x.cell? ⟨cg, 6, none⟩ = some (.int .i64 (cn.M))) ∧ (x.cell? ⟨cg, 7, none⟩ = some (.string cn.S)) ∧ (True))) (n := 25) mixed rfl hS12 (pan_then pan_body) (fun Q15 hP16 hN17 w13 hS14 => ?_)
  have hSw18 : (∀ k, J10 k → w13.heap[k]? = w0.heap[k]?) ∧ (w13.cell? ⟨cg, 0, none⟩ = some (.int .i64 (ce))) ∧ (w13.cell? ⟨cg, 1, none⟩ = some (.slice caA ca.length cac)) ∧ (w13.cell? ⟨cg, 2, none⟩ = some (.slice cbA cb.length cbc)) ∧ (w13.cell? ⟨cg, 3, none⟩ = some (.slice ctA ct.length ctc)) ∧ (w13.cell? ⟨cg, 4, none⟩ = some (.int .i64 (cn.K))) ∧ (w13.cell? ⟨cg, 5, none⟩ = some (.int .i64 (cn.N))) ∧ (w13.cell? ⟨cg, 6, none⟩ = some (.int .i64 (cn.M))) ∧ (w13.cell? ⟨cg, 7, none⟩ = some (.string cn.S)) ∧ (True) := ⟨fun k hk => (hS14.get (i := 5) rfl k hk).2, (box_cell (hS14.res (i := 0) rfl) rfl), (box_cell (hS14.res (i := 0) rfl) rfl), (box_cell (hS14.res (i := 0) rfl) rfl), (box_cell (hS14.res (i := 0) rfl) rfl), (box_cell (hS14.res (i := 0) rfl) rfl), (box_cell (hS14.res (i := 0) rfl) rfl), (box_cell (hS14.res (i := 0) rfl) rfl), (box_cell (hS14.res (i := 0) rfl) rfl), trivial⟩
  refine d_take (i := 0) rfl (by kernel_rfl) (by kernel_rfl) (by kernel_rfl) (fun c a w h => hP16 c _ _ _ _ h) rfl (by decide) hR7 (want_n rfl) (fun x hx => r_move (st_yield hR7 rfl (by decide)) hR7 rfl rfl rfl (by decide) (fun _ h => ⟨h.get _ _ rfl, rfl⟩)) hSw18 (fun a19 hR20 => ?_)
  refine d_take (i := 1) rfl (by kernel_rfl) (by kernel_rfl) (by kernel_rfl) (fun c a w h => hP16 c _ _ _ _ h) rfl (by decide) hR20 (want_n rfl) (fun x hx => r_nilCheck (st_yield hR20 rfl (by decide)) hR20 rfl rfl rfl (by decide) (fun _ h => ⟨h.get _ _ rfl, rfl⟩)) hSw18 (fun a21 hR22 => ?_)
  refine d_take (i := 2) rfl (by kernel_rfl) (by kernel_rfl) (by kernel_rfl) (fun c a w h => hP16 c _ _ _ _ h) rfl (by decide) hR22 (want_n rfl) (fun x hx => m_field (j' := 4) (st_yield hR22 rfl (by decide)) hR22 rfl rfl rfl Tryd.underlying74 rfl sz32 rfl rfl (by decide) (fun _ h => ⟨h.get _ _ rfl, rfl⟩)) hSw18 (fun a23 hR24 => ?_)
  refine d_take (i := 3) rfl (by kernel_rfl) (by kernel_rfl) (by kernel_rfl) (fun c a w h => hP16 c _ _ _ _ h) rfl (by decide) hR24 (want_n rfl) (fun x hx => m_field (j' := 4) (st_yield hR24 rfl (by decide)) hR24 rfl rfl rfl Tryd.underlying32 rfl sz3 rfl rfl (by decide) (fun _ h => ⟨h.get _ _ rfl, rfl⟩)) hSw18 (fun a25 hR26 => ?_)
  refine d_take (i := 4) rfl (by kernel_rfl) (by kernel_rfl) (by kernel_rfl) (fun c a w h => hP16 c _ _ _ _ h) rfl (by decide) hR26 (want_n rfl) (fun x hx => m_loadC (st_yield hR26 rfl (by decide)) hR26 rfl rfl rfl hx.2.2.2.2.2.1 Tryd.underlying3 rfl (by decide) (fun _ h => ⟨h.get _ _ rfl, rfl⟩)) hSw18 (fun a27 hR28 => ?_)
  refine d_take (i := 5) rfl (by kernel_rfl) (by kernel_rfl) (by kernel_rfl) (fun c a w h => hP16 c _ _ _ _ h) rfl (by decide) hR28 (want_n rfl) (fun x hx => m_loadC (st_yield hR28 rfl (by decide)) hR28 rfl rfl rfl (dbox_cell (sdat (hJ11 3 _ rfl) hx.1) rfl) Tryd.underlying3 rfl (by decide) (fun _ h => ⟨h.get _ _ rfl, rfl⟩)) hSw18 (fun a29 hR30 => ?_)
  refine d_take (i := 6) rfl (by kernel_rfl) (by kernel_rfl) (by kernel_rfl) (fun c a w h => hP16 c _ _ _ _ h) rfl (by decide) hR30 (want_n rfl) (fun x hx => r_eql (st_yield hR30 rfl (by decide)) hR30 rfl rfl rfl rfl (by decide) (fun _ h => ⟨h.get _ _ rfl, rfl⟩)) hSw18 (fun a31 hR32 => ?_)
  refine d_take (i := 7) rfl (by kernel_rfl) (by kernel_rfl) (by kernel_rfl) (fun c a w h => hP16 c _ _ _ _ h) rfl (by decide) hR32 (want_n rfl) (fun x hx => r_move (st_yield hR32 rfl (by decide)) hR32 rfl rfl rfl (by decide) (fun _ h => ⟨h.get _ _ rfl, rfl⟩)) hSw18 (fun a33 hR34 => ?_)
  rcases Decidable.em ((cn.K) = (k)) with h35 | h35
  · skip
    have hR36 := hR34.setb (d := 12) (b := true) rfl (decide_eq_true h35)
    refine d_take (i := 8) rfl (by kernel_rfl) (by kernel_rfl) (by kernel_rfl) (fun c a w h => hP16 c _ _ _ _ h) rfl (by decide) hR36 (want_t hR36 rfl rfl rfl (by decide) rfl) (fun x hx => r_move (st_yield hR36 rfl (by decide)) hR36 rfl rfl rfl (by decide) (fun _ h => ⟨h.get _ _ rfl, rfl⟩)) hSw18 (fun a37 hR38 => ?_)
    refine d_take (i := 9) rfl (by kernel_rfl) (by kernel_rfl) (by kernel_rfl) (fun c a w h => hP16 c _ _ _ _ h) rfl (by decide) hR38 (want_t hR38 rfl rfl rfl (by decide) rfl) (fun x hx => r_nilCheck (st_yield hR38 rfl (by decide)) hR38 rfl rfl rfl (by decide) (fun _ h => ⟨h.get _ _ rfl, rfl⟩)) hSw18 (fun a39 hR40 => ?_)
    refine d_take (i := 10) rfl (by kernel_rfl) (by kernel_rfl) (by kernel_rfl) (fun c a w h => hP16 c _ _ _ _ h) rfl (by decide) hR40 (want_t hR40 rfl rfl rfl (by decide) rfl) (fun x hx => m_field (j' := 2) (st_yield hR40 rfl (by decide)) hR40 rfl rfl rfl Tryd.underlying74 rfl sz22 rfl rfl (by decide) (fun _ h => ⟨h.get _ _ rfl, rfl⟩)) hSw18 (fun a41 hR42 => ?_)
    refine d_take (i := 11) rfl (by kernel_rfl) (by kernel_rfl) (by kernel_rfl) (fun c a w h => hP16 c _ _ _ _ h) rfl (by decide) hR42 (want_t hR42 rfl rfl rfl (by decide) rfl) (fun x hx => m_loadC (st_yield hR42 rfl (by decide)) hR42 rfl rfl rfl hx.2.2.2.1 Tryd.underlying22 rfl (by decide) (fun _ h => ⟨h.get _ _ rfl, rfl⟩)) hSw18 (fun a43 hR44 => ?_)
    refine d_take (i := 13) rfl (by kernel_rfl) (by kernel_rfl) (by kernel_rfl) (fun c a w h => hP16 c _ _ _ _ h) rfl (by decide) hR44 (want_t hR44 rfl rfl rfl (by decide) rfl) (fun x hx => r_move (st_yield hR44 rfl (by decide)) hR44 rfl rfl rfl (by decide) (fun _ h => ⟨h.get _ _ rfl, rfl⟩)) hSw18 (fun a45 hR46 => ?_)
    refine d_take (i := 14) rfl (by kernel_rfl) (by kernel_rfl) (by kernel_rfl) (fun c a w h => hP16 c _ _ _ _ h) rfl (by decide) hR46 (want_t hR46 rfl rfl rfl (by decide) rfl) (fun x hx => r_nilCheck (st_yield hR46 rfl (by decide)) hR46 rfl rfl rfl (by decide) (fun _ h => ⟨h.get _ _ rfl, rfl⟩)) hSw18 (fun a47 hR48 => ?_)
    refine d_take (i := 15) rfl (by kernel_rfl) (by kernel_rfl) (by kernel_rfl) (fun c a w h => hP16 c _ _ _ _ h) rfl (by decide) hR48 (want_t hR48 rfl rfl rfl (by decide) rfl) (fun x hx => m_field (j' := 4) (st_yield hR48 rfl (by decide)) hR48 rfl rfl rfl Tryd.underlying74 rfl sz32 rfl rfl (by decide) (fun _ h => ⟨h.get _ _ rfl, rfl⟩)) hSw18 (fun a49 hR50 => ?_)
    refine d_take (i := 16) rfl (by kernel_rfl) (by kernel_rfl) (by kernel_rfl) (fun c a w h => hP16 c _ _ _ _ h) rfl (by decide) hR50 (want_t hR50 rfl rfl rfl (by decide) rfl) (fun x hx => m_loadCN (st_yield hR50 rfl (by decide)) hR50 rfl rfl rfl (CellsAt.cons_ hx.2.2.2.2.2.1 (CellsAt.cons_ hx.2.2.2.2.2.2.1 (CellsAt.cons_ hx.2.2.2.2.2.2.2.1 (CellsAt.cons_ hx.2.2.2.2.2.2.2.2.1 (CellsAt.nil _ _))))) Tryd.underlying32 rfl sz32 (by decide) (fun _ h => ⟨h.get _ _ rfl, rfl⟩)) hSw18 (fun a51 hR52 => ?_)
    refine d_one (i := 12) (by kernel_rfl) ?_
    have hS53 : St w0 Z (· = cg) w13 [.box cg 74 [.int .i64 (ce), .slice caA ca.length cac, .slice cbA cb.length cbc, .slice ctA ct.length ctc, .int .i64 (cn.K), .int .i64 (cn.N), .int .i64 (cn.M), .string cn.S]] [dRow 4 caA ca.length cac (encNs ca), dRow 4 cbA cb.length cbc (encNs cb), dRow 4 ctA ct.length ctc (encNs ct), dBox kg [.int .i64 (k)], dBox fg [.func (.func 84) #[] #[]], dAg w0 J10] := hS14
    refine k_call (xs := [.tmp 16]) (st_op rfl (want_t hR52 rfl rfl rfl (by decide) rfl)) hR52 rfl rfl rfl (by decide) ok58 (croot_calls _ (imm Z w0 [.box cg 74 [.int .i64 (ce), .slice caA ca.length cac, .slice cbA cb.length cbc, .slice ctA ct.length ctc, .int .i64 (cn.K), .int .i64 (cn.N), .int .i64 (cn.M), .string cn.S]] _) (fun _ h => h.1) cbA cbc cb (hS53.get (i := 1) rfl) (by first | assumption | omega | (simp; done) | (simp; omega)) (by first | assumption | omega | (simp; done) | (simp; omega))) ?_
    rintro e60 w55 ⟨rfl, hf58⟩
    have hS61 := hS53.below hf58.below
    refine ⟨_, rfl, fun a54 hR56 => ?_⟩
    have hSw62 : (∀ k, J10 k → w55.heap[k]? = w0.heap[k]?) ∧ (w55.cell? ⟨cg, 0, none⟩ = some (.int .i64 (ce))) ∧ (w55.cell? ⟨cg, 1, none⟩ = some (.slice caA ca.length cac)) ∧ (w55.cell? ⟨cg, 2, none⟩ = some (.slice cbA cb.length cbc)) ∧ (w55.cell? ⟨cg, 3, none⟩ = some (.slice ctA ct.length ctc)) ∧ (w55.cell? ⟨cg, 4, none⟩ = some (.int .i64 (cn.K))) ∧ (w55.cell? ⟨cg, 5, none⟩ = some (.int .i64 (cn.N))) ∧ (w55.cell? ⟨cg, 6, none⟩ = some (.int .i64 (cn.M))) ∧ (w55.cell? ⟨cg, 7, none⟩ = some (.string cn.S)) ∧ (True) := ⟨fun k hk => (hS61.get (i := 5) rfl k hk).2, (box_cell (hS61.res (i := 0) rfl) rfl), (box_cell (hS61.res (i := 0) rfl) rfl), (box_cell (hS61.res (i := 0) rfl) rfl), (box_cell (hS61.res (i := 0) rfl) rfl), (box_cell (hS61.res (i := 0) rfl) rfl), (box_cell (hS61.res (i := 0) rfl) rfl), (box_cell (hS61.res (i := 0) rfl) rfl), (box_cell (hS61.res (i := 0) rfl) rfl), trivial⟩
    refine ⟨hSw62, ?_⟩
    refine d_take (i := 17) rfl (by kernel_rfl) (by kernel_rfl) (by kernel_rfl) (fun c a w h => hP16 c _ _ _ _ h) rfl (by decide) hR56 (want_t hR56 rfl rfl rfl (by decide) rfl) (fun x hx => r_eqlN (m := (nth cb (cb.length - 1))) (n := cn) (st_yield hR56 rfl (by decide)) hR56 rfl rfl rfl rfl (by decide) (fun _ h => ⟨h.get _ _ rfl, rfl⟩)) hSw62 (fun a63 hR64 => ?_)
    refine d_take (i := 18) rfl (by kernel_rfl) (by kernel_rfl) (by kernel_rfl) (fun c a w h => hP16 c _ _ _ _ h) rfl (by decide) hR64 (want_n rfl) (fun x hx => r_pick_t (st_yield hR64 rfl (by decide)) hR64 rfl rfl rfl rfl (by decide) (fun _ h => ⟨h.get _ _ rfl, rfl⟩)) hSw62 (fun a65 hR66 => ?_)
    refine d_take (i := 19) rfl (by kernel_rfl) (by kernel_rfl) (by kernel_rfl) (fun c a w h => hP16 c _ _ _ _ h) rfl (by decide) hR66 (want_n rfl) (fun x hx => r_move (st_yield hR66 rfl (by decide)) hR66 rfl rfl rfl (by decide) (fun _ h => ⟨h.get _ _ rfl, rfl⟩)) hSw62 (fun a67 hR68 => ?_)
    rcases Decidable.em ((nth cb (cb.length - 1)) = cn) with h69 | h69
    · skip
      have hR70 := hR68.setb (d := 24) (b := true) rfl (decide_eq_true h69)
      refine d_take (i := 20) rfl (by kernel_rfl) (by kernel_rfl) (by kernel_rfl) (fun c a w h => hP16 c _ _ _ _ h) rfl (by decide) hR70 (want_t hR70 rfl rfl rfl (by decide) rfl) (fun x hx => m_loadC (st_yield hR70 rfl (by decide)) hR70 rfl rfl rfl (dbox_cell (sdat (hJ11 4 _ rfl) hx.1) rfl) Tryd.underlying75 rfl (by decide) (fun _ h => ⟨h.get _ _ rfl, rfl⟩)) hSw62 (fun a71 hR72 => ?_)
      refine d_take (i := 21) rfl (by kernel_rfl) (by kernel_rfl) (by kernel_rfl) (fun c a w h => hP16 c _ _ _ _ h) rfl (by decide) hR72 (want_t hR72 rfl rfl rfl (by decide) rfl) (fun x hx => r_move (st_yield hR72 rfl (by decide)) hR72 rfl rfl rfl (by decide) (fun _ h => ⟨h.get _ _ rfl, rfl⟩)) hSw62 (fun a73 hR74 => ?_)
      refine d_one (i := 22) (by kernel_rfl) ?_
      have hS75 : St w0 Z (· = cg) w55 [.box cg 74 [.int .i64 (ce), .slice caA ca.length cac, .slice cbA cb.length cbc, .slice ctA ct.length ctc, .int .i64 (cn.K), .int .i64 (cn.N), .int .i64 (cn.M), .string cn.S]] [dRow 4 caA ca.length cac (encNs ca), dRow 4 cbA cb.length cbc (encNs cb), dRow 4 ctA ct.length ctc (encNs ct), dBox kg [.int .i64 (k)], dBox fg [.func (.func 84) #[] #[]], dAg w0 J10] := hS61
      refine k_callV (xs := [.tmp 26]) (st_op rfl (want_t hR74 rfl rfl rfl (by decide) rfl)) hR74 rfl rfl rfl rfl (by decide) ok84 (calways_calls _ (imm Z w0 [.box cg 74 [.int .i64 (ce), .slice caA ca.length cac, .slice cbA cb.length cbc, .slice ctA ct.length ctc, .int .i64 (cn.K), .int .i64 (cn.N), .int .i64 (cn.M), .string cn.S]] _) (fun _ h => h.1) cg (ce) caA cac ca cbA cbc cb ctA ctc ct cn (hS75.res (i := 0) rfl) (imm_box (i := 0) rfl) (hS75.get (i := 0) rfl) (hS75.get (i := 1) rfl) (hS75.get (i := 2) rfl)) ?_
      rintro e82 w77 ⟨rfl, hf80, hb81⟩
      have hS83 := hS75.callM (i := 0) rfl hf80 hb81
      refine ⟨_, rfl, fun a76 hR78 => ?_⟩
      have hSw84 : (∀ k, J10 k → w77.heap[k]? = w0.heap[k]?) ∧ (w77.cell? ⟨cg, 0, none⟩ = some (.int .i64 (ce))) ∧ (w77.cell? ⟨cg, 1, none⟩ = some (.slice caA ca.length cac)) ∧ (w77.cell? ⟨cg, 2, none⟩ = some (.slice cbA cb.length cbc)) ∧ (w77.cell? ⟨cg, 3, none⟩ = some (.slice ctA ct.length ctc)) ∧ (w77.cell? ⟨cg, 4, none⟩ = some (.int .i64 (cn.K))) ∧ (w77.cell? ⟨cg, 5, none⟩ = some (.int .i64 (cn.N))) ∧ (w77.cell? ⟨cg, 6, none⟩ = some (.int .i64 (cn.M))) ∧ (w77.cell? ⟨cg, 7, none⟩ = some (.string cn.S)) ∧ (True) := ⟨fun k hk => (hS83.get (i := 5) rfl k hk).2, (box_cell (hS83.res (i := 0) rfl) rfl), (box_cell (hS83.res (i := 0) rfl) rfl), (box_cell (hS83.res (i := 0) rfl) rfl), (box_cell (hS83.res (i := 0) rfl) rfl), (box_cell (hS83.res (i := 0) rfl) rfl), (box_cell (hS83.res (i := 0) rfl) rfl), (box_cell (hS83.res (i := 0) rfl) rfl), (box_cell (hS83.res (i := 0) rfl) rfl), trivial⟩
      refine ⟨hSw84, ?_⟩
      refine d_take (i := 23) rfl (by kernel_rfl) (by kernel_rfl) (by kernel_rfl) (fun c a w h => hP16 c _ _ _ _ h) rfl (by decide) hR78 (want_n rfl) (fun x hx => r_pick_t (st_yield hR78 rfl (by decide)) hR78 rfl rfl rfl rfl (by decide) (fun _ h => ⟨h.get _ _ rfl, rfl⟩)) hSw84 (fun a85 hR86 => ?_)
      refine d_take (i := 24) rfl (by kernel_rfl) (by kernel_rfl) (by kernel_rfl) (fun c a w h => hP16 c _ _ _ _ h) rfl (by decide) hR86 (want_n rfl) (fun x hx => r_assign (st_yield hR86 rfl (by decide)) hR86 rfl rfl rfl (by decide) (fun _ h => ⟨h.get _ _ rfl, rfl⟩)) hSw84 (fun a87 hR88 => ?_)
      refine wpAnyH_done (by kernel_rfl) (hN17 _ _ ?_) _
      refine x_then_n (hK9 _ _ ?_)
      refine wp_ret ?_
      refine e_ret1 hR88 rfl rfl ?_
      refine ⟨?_, hS83.fr, hS83.res (i := 0) rfl⟩
      exact congrArg Ending.returned (ret_b (by first | rfl | omega | (have q0 := h35; (try simp at q0); have q1 := h69; (try simp at q1);  omega) | (simp [h35, h69]; done) | (simp [] at *; done) | (simp [h35, h69] <;> omega) | (rw [Bool.eq_iff_iff]; simp [h35, h69] <;> omega) | (rw [Bool.eq_iff_iff]; simp [h35, h69] at * <;> omega)))
    · skip
      have hR89 := hR68.setb (d := 24) (b := false) rfl (decide_eq_false h69)
      refine d_pass (i := 20) rfl (by kernel_rfl) (by kernel_rfl) (by kernel_rfl) (fun c a w h => hP16 c _ _ _ _ h) rfl (by decide) hR89 (want_f hR89 rfl rfl rfl (by decide) rfl rfl) hSw62 (fun a90 hR91 => ?_)
      refine d_pass (i := 21) rfl (by kernel_rfl) (by kernel_rfl) (by kernel_rfl) (fun c a w h => hP16 c _ _ _ _ h) rfl (by decide) hR91 (want_f hR91 rfl rfl rfl (by decide) rfl rfl) hSw62 (fun a92 hR93 => ?_)
      refine d_pass (i := 22) rfl (by kernel_rfl) (by kernel_rfl) (by kernel_rfl) (fun c a w h => hP16 c _ _ _ _ h) rfl (by decide) hR93 (want_f hR93 rfl rfl rfl (by decide) rfl rfl) hSw62 (fun a94 hR95 => ?_)
      refine d_take (i := 23) rfl (by kernel_rfl) (by kernel_rfl) (by kernel_rfl) (fun c a w h => hP16 c _ _ _ _ h) rfl (by decide) hR95 (want_n rfl) (fun x hx => r_pick_f (st_yield hR95 rfl (by decide)) hR95 rfl rfl rfl rfl (by decide) (fun _ h => ⟨h.get _ _ rfl, rfl⟩)) hSw62 (fun a96 hR97 => ?_)
      refine d_take (i := 24) rfl (by kernel_rfl) (by kernel_rfl) (by kernel_rfl) (fun c a w h => hP16 c _ _ _ _ h) rfl (by decide) hR97 (want_n rfl) (fun x hx => r_assign (st_yield hR97 rfl (by decide)) hR97 rfl rfl rfl (by decide) (fun _ h => ⟨h.get _ _ rfl, rfl⟩)) hSw62 (fun a98 hR99 => ?_)
      refine wpAnyH_done (by kernel_rfl) (hN17 _ _ ?_) _
      refine x_then_n (hK9 _ _ ?_)
      refine wp_ret ?_
      refine e_ret1 hR99 rfl rfl ?_
      refine ⟨?_, hS61.fr, hS61.res (i := 0) rfl⟩
      exact congrArg Ending.returned (ret_b (by first | rfl | omega | (have q0 := h35; (try simp at q0); have q1 := h69; (try simp at q1);  omega) | (simp [h35, h69]; done) | (simp [] at *; done) | (simp [h35, h69] <;> omega) | (rw [Bool.eq_iff_iff]; simp [h35, h69] <;> omega) | (rw [Bool.eq_iff_iff]; simp [h35, h69] at * <;> omega)))
  · skip
    have hR100 := hR34.setb (d := 12) (b := false) rfl (decide_eq_false h35)
    refine d_pass (i := 8) rfl (by kernel_rfl) (by kernel_rfl) (by kernel_rfl) (fun c a w h => hP16 c _ _ _ _ h) rfl (by decide) hR100 (want_f hR100 rfl rfl rfl (by decide) rfl rfl) hSw18 (fun a101 hR102 => ?_)
    refine d_pass (i := 9) rfl (by kernel_rfl) (by kernel_rfl) (by kernel_rfl) (fun c a w h => hP16 c _ _ _ _ h) rfl (by decide) hR102 (want_f hR102 rfl rfl rfl (by decide) rfl rfl) hSw18 (fun a103 hR104 => ?_)
    refine d_pass (i := 10) rfl (by kernel_rfl) (by kernel_rfl) (by kernel_rfl) (fun c a w h => hP16 c _ _ _ _ h) rfl (by decide) hR104 (want_f hR104 rfl rfl rfl (by decide) rfl rfl) hSw18 (fun a105 hR106 => ?_)
    refine d_pass (i := 11) rfl (by kernel_rfl) (by kernel_rfl) (by kernel_rfl) (fun c a w h => hP16 c _ _ _ _ h) rfl (by decide) hR106 (want_f hR106 rfl rfl rfl (by decide) rfl rfl) hSw18 (fun a107 hR108 => ?_)
    refine d_pass (i := 12) rfl (by kernel_rfl) (by kernel_rfl) (by kernel_rfl) (fun c a w h => hP16 c _ _ _ _ h) rfl (by decide) hR108 (want_f hR108 rfl rfl rfl (by decide) rfl rfl) hSw18 (fun a109 hR110 => ?_)
    refine d_pass (i := 13) rfl (by kernel_rfl) (by kernel_rfl) (by kernel_rfl) (fun c a w h => hP16 c _ _ _ _ h) rfl (by decide) hR110 (want_f hR110 rfl rfl rfl (by decide) rfl rfl) hSw18 (fun a111 hR112 => ?_)
    refine d_pass (i := 14) rfl (by kernel_rfl) (by kernel_rfl) (by kernel_rfl) (fun c a w h => hP16 c _ _ _ _ h) rfl (by decide) hR112 (want_f hR112 rfl rfl rfl (by decide) rfl rfl) hSw18 (fun a113 hR114 => ?_)
    refine d_pass (i := 15) rfl (by kernel_rfl) (by kernel_rfl) (by kernel_rfl) (fun c a w h => hP16 c _ _ _ _ h) rfl (by decide) hR114 (want_f hR114 rfl rfl rfl (by decide) rfl rfl) hSw18 (fun a115 hR116 => ?_)
    refine d_pass (i := 16) rfl (by kernel_rfl) (by kernel_rfl) (by kernel_rfl) (fun c a w h => hP16 c _ _ _ _ h) rfl (by decide) hR116 (want_f hR116 rfl rfl rfl (by decide) rfl rfl) hSw18 (fun a117 hR118 => ?_)
    refine d_pass (i := 17) rfl (by kernel_rfl) (by kernel_rfl) (by kernel_rfl) (fun c a w h => hP16 c _ _ _ _ h) rfl (by decide) hR118 (want_f hR118 rfl rfl rfl (by decide) rfl rfl) hSw18 (fun a119 hR120 => ?_)
    refine d_take (i := 18) rfl (by kernel_rfl) (by kernel_rfl) (by kernel_rfl) (fun c a w h => hP16 c _ _ _ _ h) rfl (by decide) hR120 (want_n rfl) (fun x hx => r_pick_f (st_yield hR120 rfl (by decide)) hR120 rfl rfl rfl rfl (by decide) (fun _ h => ⟨h.get _ _ rfl, rfl⟩)) hSw18 (fun a121 hR122 => ?_)
    refine d_take (i := 19) rfl (by kernel_rfl) (by kernel_rfl) (by kernel_rfl) (fun c a w h => hP16 c _ _ _ _ h) rfl (by decide) hR122 (want_n rfl) (fun x hx => r_move (st_yield hR122 rfl (by decide)) hR122 rfl rfl rfl (by decide) (fun _ h => ⟨h.get _ _ rfl, rfl⟩)) hSw18 (fun a123 hR124 => ?_)
    refine d_pass (i := 20) rfl (by kernel_rfl) (by kernel_rfl) (by kernel_rfl) (fun c a w h => hP16 c _ _ _ _ h) rfl (by decide) hR124 (want_f hR124 rfl rfl rfl (by decide) rfl rfl) hSw18 (fun a125 hR126 => ?_)
    refine d_pass (i := 21) rfl (by kernel_rfl) (by kernel_rfl) (by kernel_rfl) (fun c a w h => hP16 c _ _ _ _ h) rfl (by decide) hR126 (want_f hR126 rfl rfl rfl (by decide) rfl rfl) hSw18 (fun a127 hR128 => ?_)
    refine d_pass (i := 22) rfl (by kernel_rfl) (by kernel_rfl) (by kernel_rfl) (fun c a w h => hP16 c _ _ _ _ h) rfl (by decide) hR128 (want_f hR128 rfl rfl rfl (by decide) rfl rfl) hSw18 (fun a129 hR130 => ?_)
    refine d_take (i := 23) rfl (by kernel_rfl) (by kernel_rfl) (by kernel_rfl) (fun c a w h => hP16 c _ _ _ _ h) rfl (by decide) hR130 (want_n rfl) (fun x hx => r_pick_f (st_yield hR130 rfl (by decide)) hR130 rfl rfl rfl rfl (by decide) (fun _ h => ⟨h.get _ _ rfl, rfl⟩)) hSw18 (fun a131 hR132 => ?_)
    refine d_take (i := 24) rfl (by kernel_rfl) (by kernel_rfl) (by kernel_rfl) (fun c a w h => hP16 c _ _ _ _ h) rfl (by decide) hR132 (want_n rfl) (fun x hx => r_assign (st_yield hR132 rfl (by decide)) hR132 rfl rfl rfl (by decide) (fun _ h => ⟨h.get _ _ rfl, rfl⟩)) hSw18 (fun a133 hR134 => ?_)
    refine wpAnyH_done (by kernel_rfl) (hN17 _ _ ?_) _
    refine x_then_n (hK9 _ _ ?_)
    refine wp_ret ?_
    refine e_ret1 hR134 rfl rfl ?_
    refine ⟨?_, hS14.fr, hS14.res (i := 0) rfl⟩
    exact congrArg Ending.returned (ret_b (by first | rfl | omega | (have q0 := h35; (try simp at q0);  omega) | (simp [h35]; done) | (simp [] at *; done) | (simp [h35] <;> omega) | (rw [Bool.eq_iff_iff]; simp [h35] <;> omega) | (rw [Bool.eq_iff_iff]; simp [h35] at * <;> omega)))

set_option maxRecDepth 100000 in
set_option maxHeartbeats 1000000 in
theorem citself_calls (w0 : World) (Z : Nat → Prop) (hZ : ∀ k, Z k → k < w0.heap.size) (cg : Nat) (ce : Int) (caA : Option Addr) (cac : Nat) (ca : List Nd) (cbA : Option Addr) (cbc : Nat) (cb : List Nd) (ctA : Option Addr) (ctc : Nat) (ct : List Nd) (cn : Nd) (hc : (Res.box cg 74 [.int .i64 (ce), .slice caA ca.length cac, .slice cbA cb.length cbc, .slice ctA ct.length ctc, .int .i64 (cn.K), .int .i64 (cn.N), .int .i64 (cn.M), .string cn.S]).holds w0) (hcz : ¬ Z cg) (hca : (dRow 4 caA ca.length cac (encNs ca)).φ w0 Z) (hcb : (dRow 4 cbA cb.length cbc (encNs cb)).φ w0 Z) (hct : (dRow 4 ctA ct.length ctc (encNs ct)).φ w0 Z) :
    Calls Tryd.prog 85 [.pointer (some ⟨cg, 0, none⟩)].toArray w0 (fun e w' => ∃ (rA0 : Option Addr) (rc0 : Nat), e = .returned (.slice rA0 (ct).length rc0) ∧ Fr (· = cg) w0 w' ∧ (Res.box cg 74 [.int .i64 (ce), .slice caA ca.length cac, .slice cbA cb.length cbc, .slice ctA ct.length ctc, .int .i64 (cn.K), .int .i64 (cn.N), .int .i64 (cn.M), .string cn.S]).holds w' ∧ (dRow 4 rA0 ((ct).length) rc0 (encNs ct)).φ w' (nxt Z w0 w')) := by
  have hstart : ∀ k, Z k → imm Z w0 [.box cg 74 [.int .i64 (ce), .slice caA ca.length cac, .slice cbA cb.length cbc, .slice ctA ct.length ctc, .int .i64 (cn.K), .int .i64 (cn.N), .int .i64 (cn.M), .string cn.S]] w0 k ∧ w0.heap[k]? = w0.heap[k]? := fun k hk => imm_startM hZ hcz hk
  have hS3 : St w0 Z (· = cg) w0 [.box cg 74 [.int .i64 (ce), .slice caA ca.length cac, .slice cbA cb.length cbc, .slice ctA ct.length ctc, .int .i64 (cn.K), .int .i64 (cn.N), .int .i64 (cn.M), .string cn.S]] [dRow 4 caA ca.length cac (encNs ca), dRow 4 cbA cb.length cbc (encNs cb), dRow 4 ctA ct.length ctc (encNs ct)] := St.startM w0 Z _ cg 74 _ hc (by
    intro d hd
    simp only [List.mem_cons, List.not_mem_nil, or_false] at hd
    rcases hd with rfl | rfl | rfl
    · exact Dat.mono _ _ _ _ _ hca hstart
    · exact Dat.mono _ _ _ _ _ hcb hstart
    · exact Dat.mono _ _ _ _ _ hct hstart
    )
  refine c_enter Tryd.func85 rfl Tryd.ntmps85 rfl (fun a1 hR2 => ?_)
  refine wp_seq_k (fun K4 hK5 => ?_)
  refine c_region ?_
  refine r_assign (st_listV rfl) hR2 rfl rfl rfl (by decide) (fun a6 hR7 => ?_)
  refine wpList_nil ?_
  refine x_then_n (hK5 _ _ ?_)
  refine wp_seq_k (fun K8 hK9 => ?_)
  refine c_region ?_
  refine r_move (st_listV rfl) hR7 rfl rfl rfl (by decide) (fun a10 hR11 => ?_)
  refine r_nilCheck (st_listV rfl) hR11 rfl rfl rfl (by decide) (fun a12 hR13 => ?_)
  refine m_field (j' := 3) (st_listV rfl) hR13 rfl rfl rfl Tryd.underlying74 rfl sz22 rfl rfl (by decide) (fun a14 hR15 => ?_)
  refine m_load (i := 0) (st_listV rfl) hR15 hS3 rfl rfl rfl rfl rfl Tryd.underlying22 rfl (by decide) (fun a16 hR17 => ?_)
  refine r_assign (st_listV rfl) hR17 rfl rfl rfl (by decide) (fun a18 hR19 => ?_)
  refine wpList_nil ?_
  refine x_then_n (hK9 _ _ ?_)
  refine wp_ret ?_
  refine e_ret1 hR19 rfl rfl ?_
  refine ⟨ctA, ctc, ?_, hS3.fr, hS3.res (i := 0) rfl, ⟨by have := (hS3.row (i := 2) rfl).1; exact this, ((hS3.row (i := 2) rfl).2.mono (fun _ hk => ⟨imm_nxt hk, rfl⟩))⟩⟩
  exact congrArg Ending.returned rfl
end Go.Proofs.YtobgdeffhdefeaaDoor
