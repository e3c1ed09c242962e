import Derived.Test.YtobgdeffhdefeaaDoorZxf
/- Contracts of functions, one theorem each: what the call returns, and that nothing old is changed. Printed by gen.py. -/
namespace Go.Proofs.YtobgdeffhdefeaaDoor
open Go Go.RowKit
set_option linter.unusedSimpArgs false
set_option linter.unusedVariables false

set_option maxRecDepth 100000 in
set_option maxHeartbeats 1000000 in
theorem binds_calls (w0 : World) (Z : Nat → Prop) (hZ : ∀ k, Z k → k < w0.heap.size) (n : Nd) (hShp : Shapes w0 Z) (hs : n.S.size < 1000000) :
    Calls Tryd.prog 71 [.agg #[.int .i64 (n.K), .int .i64 (n.N), .int .i64 (n.M), .string n.S]].toArray w0 (fun e w' => ∃ (rA0 : Option Addr) (rc0 : Nat), e = .returned (.tuple #[.slice rA0 (bindsR n).length rc0, .bool (right n)]) ∧ Fr none_ w0 w' ∧ (dRow 1 rA0 ((bindsR n).length) rc0 (encIs (bindsR n))).φ w' (nxt Z w0 w')) := by
  have hstart : ∀ k, Z k → imm Z w0 [] w0 k ∧ w0.heap[k]? = w0.heap[k]? := fun k hk => ⟨⟨hZ k hk, fun _ => hk, fun _ h => by cases h⟩, rfl⟩
  have hS3 : St w0 Z none_ w0 [] [dShapes] := St.start w0 Z none_ _ (by
    intro d hd
    simp only [List.mem_cons, List.not_mem_nil, or_false] at hd
    rcases hd with rfl
    · exact Dat.mono _ _ _ _ _ (Nat.le_refl _) hShp hstart
    )
  refine c_enter Tryd.func71 rfl Tryd.ntmps71 rfl (fun a1 hR2 => ?_)
  refine wp_seq_k (fun K4 hK5 => ?_)
  refine c_region ?_
  refine m_box (cs := [.int .i64 (n.K), .int .i64 (n.N), .int .i64 (n.M), .string n.S]) sv hR2 hS3 rfl rfl rfl rfl (by decide) (fun a6 w7 g8 hR9 hS10 => ?_)
  refine asg hR9 (fun a11 hR12 => ?_)
  refine asg hR12 (fun a13 hR14 => ?_)
  refine wpList_nil (x_then_n (hK5 _ _ ?_))
  refine wp_seq_k (fun K15 hK16 => ?_)
  refine wp_seq_k (fun K17 hK18 => ?_)
  refine c_region ?_
  refine m_loadN (i := 0) (vs := [.int .i64 (n.K), .int .i64 (n.N), .int .i64 (n.M), .string n.S]) sv hR14 hS10 rfl rfl rfl rfl rfl Tryd.underlying32 rfl sz32 (by decide) (fun a19 hR20 => ?_)
  have hS21 : St w0 Z none_ w7 [.box g8 32 [.int .i64 (n.K), .int .i64 (n.N), .int .i64 (n.M), .string n.S]] [dShapes] := hS10
  refine k_call (xs := [.tmp 4]) se hR20 rfl rfl rfl (by decide) ok112 (right_calls _ (imm Z w0 [.box g8 32 [.int .i64 (n.K), .int .i64 (n.N), .int .i64 (n.M), .string n.S]] _) (fun _ h => h.1) n (hS21.get (i := 0) rfl) (by first | assumption | omega | (simp; done) | (simp; omega))) ?_
  rintro e28 w23 ⟨rfl, hf26⟩
  have hS29 := hS21.below hf26.below
  refine ⟨_, rfl, fun a22 hR24 => ?_⟩
  refine r_not sv hR24 rfl rfl rfl (by decide) (fun a30 hR31 => ?_)
  refine wpList_nil (x_then_n (hK18 _ _ ?_))
  rcases Bool.eq_false_or_eq_true (right n) with h32 | h32
  · skip
    have hk := right_K h32
    have hR33 := hR31.setb (d := 6) (b := false) rfl (by rw [h32]; rfl)
    refine wp_cond_false (hR33.ev rfl) ?_
    refine wp_skip ?_
    refine x_then_n (hK16 _ _ ?_)
    refine wp_seq_k (fun K34 hK35 => ?_)
    refine wp_seq_k (fun K36 hK37 => ?_)
    refine c_region ?_
    refine m_field (j' := 0) sv hR33 rfl rfl rfl Tryd.underlying32 rfl sz3 rfl rfl (by decide) (fun a38 hR39 => ?_)
    refine m_load (i := 0) sv hR39 hS29 rfl rfl rfl rfl rfl Tryd.underlying3 rfl (by decide) (fun a40 hR41 => ?_)
    refine wpList_nil (x_then_n (hK37 _ _ ?_))
    refine wp_block ?_
    refine wp_seq_k (fun K42 hK43 => ?_)
    refine c_region ?_
    refine r_eql sv hR41 rfl rfl rfl rfl (by decide) (fun a44 hR45 => ?_)
    refine asg hR45 (fun a46 hR47 => ?_)
    refine wpList_nil (x_then_n (hK43 _ _ ?_))
    rcases Decidable.em ((n.K) = 26) with h48 | h48
    · skip
      have hcn := right_con (by assumption) (by omega)
      have hR49 := hR47.setb (d := 9) (b := true) rfl (decide_eq_true h48)
      refine wp_cond_true (hR49.ev rfl) ?_
      refine wp_seq_k (fun K50 hK51 => ?_)
      refine c_region ?_
      refine m_field (j' := 2) sv hR49 rfl rfl rfl Tryd.underlying32 rfl sz3 rfl rfl (by decide) (fun a52 hR53 => ?_)
      refine m_load (i := 0) sv hR53 hS29 rfl rfl rfl rfl rfl Tryd.underlying3 rfl (by decide) (fun a54 hR55 => ?_)
      have hn56 : (n.M) = ((n.M.toNat : Nat) : Int) := by omega
      refine m_makeInts (n := n.M.toNat) sv hR55 hS29 rfl rfl rfl rfl hn56 hn56 Tryd.underlying66 zi3 (by omega) (by decide) (fun a57 w58 g59 hR60 hS61 => ?_)
      have hl62 : (List.replicate (n.M.toNat) (0 : Int)).length = n.M.toNat := by simp
      refine asg hR60 (fun a63 hR64 => ?_)
      refine asg hR64 (fun a65 hR66 => ?_)
      refine wpList_nil (x_then_n (hK51 _ _ ?_))
      refine wp_ret ?_
      refine x_block_r ?_
      refine x_then_r ?_
      refine e_ret2 hR66 rfl rfl rfl rfl ?_
      have he67 : bindsR n = List.replicate (n.M.toNat) (0 : Int) := by unfold bindsR; rw [if_pos (by assumption)]; simp [binds, h48]
      rw [he67]
      have hc71 := own_cap (hS61.res (i := 1) rfl)
      obtain ⟨hS68, hrow69⟩ := hS61.row_data (i := 1) rfl (fun _ h => h)
      have hS70 := hS68.data (dRow 1 (some ⟨g59, 0, none⟩) ((List.replicate (n.M.toNat) (0 : Int) : List Int).length) ((List.replicate (n.M.toNat) (0 : Int) : List Int).length) (encIs (List.replicate (n.M.toNat) (0 : Int)))) ⟨hc71, hrow69⟩
      refine ⟨(some ⟨g59, 0, none⟩), ((List.replicate (n.M.toNat) (0 : Int) : List Int).length), ?_, hS70.fr, ⟨by have := (hS70.row (i := 1) rfl).1; exact this, ((hS70.row (i := 1) rfl).2.mono (fun _ hk => ⟨imm_nxt hk, rfl⟩))⟩⟩
      exact ret_t2 rfl (ret_b (by first | rfl | omega | assumption | exact decide_eq_true (by assumption) | (have q0 := h32; (try simp at q0); have q1 := h48; (try simp at q1);  omega) | (simp [h32, h48]; done) | (simp [] at *; done) | (simp [h32, h48] <;> omega) | (rw [Bool.eq_iff_iff]; simp [h32, h48] <;> omega) | (rw [Bool.eq_iff_iff]; simp [h32, h48] at * <;> omega)))
    · skip
      have hR72 := hR47.setb (d := 9) (b := false) rfl (decide_eq_false h48)
      refine wp_cond_false (hR72.ev rfl) ?_
      refine wp_seq_k (fun K73 hK74 => ?_)
      refine c_region ?_
      refine r_eql sv hR72 rfl rfl rfl rfl (by decide) (fun a75 hR76 => ?_)
      refine asg hR76 (fun a77 hR78 => ?_)
      refine wpList_nil (x_then_n (hK74 _ _ ?_))
      rcases Decidable.em ((n.K) = 27) with h79 | h79
      · skip
        have hel := right_elim (by assumption) (by omega)
        have hR80 := hR78.setb (d := 14) (b := true) rfl (decide_eq_true h79)
        refine wp_cond_true (hR80.ev rfl) ?_
        refine wp_seq_k (fun K81 hK82 => ?_)
        refine c_region ?_
        refine m_buildSlice (ps := [(0, .const (.int .i64 1))]) (cs := [.int .i64 1]) sv hR80 hS29 rfl rfl rfl Tryd.underlying66 zi3 rfl rfl (by kernel_rfl) rfl (by decide) (fun a83 w84 g85 hR86 hS87 => ?_)
        refine m_field (j' := 2) sv hR86 rfl rfl rfl Tryd.underlying32 rfl sz3 rfl rfl (by decide) (fun a88 hR89 => ?_)
        refine m_load (i := 0) sv hR89 hS87 rfl rfl rfl rfl rfl Tryd.underlying3 rfl (by decide) (fun a90 hR91 => ?_)
        refine r_add (z := (n.M + 1)) sv hR91 rfl rfl rfl rfl (by decide) (by omega) (by omega) (by omega) (fun a92 hR93 => ?_)
        have hn94 : (n.M + 1) = ((n.M.toNat + 1 : Nat) : Int) := by omega
        refine m_appendZ (i := 1) ([1]) (n.M.toNat + 1) sv hR93 hS87 rfl rfl rfl rfl rfl hn94 (by omega) (by simp) (by simp; omega) Tryd.underlying66 Tryd.underlying3 zi3 (by decide) (fun a95 w96 A97 c98 hc99 hR100 hS101 => ?_)
        refine asg hR100 (fun a102 hR103 => ?_)
        refine asg hR103 (fun a104 hR105 => ?_)
        refine wpList_nil (x_then_n (hK82 _ _ ?_))
        refine wp_ret ?_
        refine x_block_r ?_
        refine x_then_r ?_
        refine e_ret2 hR105 rfl rfl rfl rfl ?_
        have he106 : bindsR n = ([1]) ++ List.replicate (n.M.toNat + 1) 0 := by unfold bindsR; rw [if_pos (by assumption)]; simp [binds, h48, h79]
        rw [he106]
        have hc110 := own_cap (hS101.res (i := 1) rfl)
        obtain ⟨hS107, hrow108⟩ := hS101.row_data (i := 1) rfl (fun _ h => h)
        have hS109 := hS107.data (dRow 1 A97 ((([1]) ++ List.replicate (n.M.toNat + 1) 0 : List Int).length) c98 (encIs (([1]) ++ List.replicate (n.M.toNat + 1) 0))) ⟨hc110, hrow108⟩
        refine ⟨A97, c98, ?_, hS109.fr, ⟨by have := (hS109.row (i := 1) rfl).1; exact this, ((hS109.row (i := 1) rfl).2.mono (fun _ hk => ⟨imm_nxt hk, rfl⟩))⟩⟩
        exact ret_t2 rfl (ret_b (by first | rfl | omega | assumption | exact decide_eq_true (by assumption) | (have q0 := h32; (try simp at q0); have q1 := h48; (try simp at q1); have q2 := h79; (try simp at q2);  omega) | (simp [h32, h48, h79]; done) | (simp [] at *; done) | (simp [h32, h48, h79] <;> omega) | (rw [Bool.eq_iff_iff]; simp [h32, h48, h79] <;> omega) | (rw [Bool.eq_iff_iff]; simp [h32, h48, h79] at * <;> omega)))
      · skip
        have hR111 := hR78.setb (d := 14) (b := false) rfl (decide_eq_false h79)
        refine wp_cond_false (hR111.ev rfl) ?_
        refine wp_skip ?_
        refine x_block_n ?_
        refine x_then_n (hK35 _ _ ?_)
        refine wp_seq_k (fun K112 hK113 => ?_)
        refine c_region ?_
        refine m_field (j' := 0) sv hR111 rfl rfl rfl Tryd.underlying32 rfl sz3 rfl rfl (by decide) (fun a114 hR115 => ?_)
        refine m_load (i := 0) sv hR115 hS29 rfl rfl rfl rfl rfl Tryd.underlying3 rfl (by decide) (fun a116 hR117 => ?_)
        refine m_indexA (i := ((n.K)).toNat) (j := (((n.K)).toNat) * 4) sv hR117 rfl rfl rfl rfl Tryd.underlying130 sz129 (by omega) (by omega) rfl (by decide) (fun a118 hR119 => ?_)
        refine m_fieldE (j' := (((n.K)).toNat) * 4) sv hR119 rfl rfl rfl rfl Tryd.underlying129 rfl sz66 rfl rfl (by decide) (fun a120 hR121 => ?_)
        obtain ⟨A122, c123, hd124, he125⟩ := shapes_at (hS29.get (i := 0) rfl) (((n.K)).toNat) (by omega)
        have hS126 := hS29.data (dRow 1 A122 (shp (((n.K)).toNat)).b.length c123 (encIs (shp (((n.K)).toNat)).b)) hd124
        refine m_loadE sv hR121 rfl rfl rfl 0 ((((n.K)).toNat) * 4) he125 rfl rfl Tryd.underlying66 rfl (by decide) (fun a127 hR128 => ?_)
        have hS129 : St w0 Z none_ w23 [.box g8 32 [.int .i64 (n.K), .int .i64 (n.N), .int .i64 (n.M), .string n.S]] [dShapes, dRow 1 A122 (shp (((n.K)).toNat)).b.length c123 (encIs (shp (((n.K)).toNat)).b)] := hS126
        refine k_call (xs := [.tmp 25]) se hR128 rfl rfl rfl (by decide) ok113 (cloneI_calls _ (imm Z w0 [.box g8 32 [.int .i64 (n.K), .int .i64 (n.N), .int .i64 (n.M), .string n.S]] _) (fun _ h => h.1) A122 c123 ((shp (((n.K)).toNat)).b) (hS129.get (i := 1) rfl) (Nat.le_trans (shp_le _) (by omega))) ?_
        rintro e139 w131 ⟨A135, c136, rfl, hf134, hd137⟩
        have hS140 := hS129.below hf134.below
        have hS141 := hS140.data (dRow 1 A135 (((shp (((n.K)).toNat)).b).length) c136 (encIs ((shp (((n.K)).toNat)).b))) ⟨hd137.1, hd137.2.mono (fun _ hk => ⟨nxt_imm hS129 hk, rfl⟩)⟩
        refine ⟨_, rfl, fun a130 hR132 => ?_⟩
        refine asg hR132 (fun a142 hR143 => ?_)
        refine asg hR143 (fun a144 hR145 => ?_)
        refine wpList_nil (x_then_n (hK113 _ _ ?_))
        refine wp_ret ?_
        refine e_ret2 hR145 rfl rfl rfl rfl ?_
        have he146 : bindsR n = ((shp (((n.K)).toNat)).b) := by unfold bindsR; rw [if_pos (by assumption)]; simp [binds, h48, h79]
        rw [he146]
        refine ⟨A135, c136, ?_, hS141.fr, ⟨by have := (hS141.row (i := 2) rfl).1; exact this, ((hS141.row (i := 2) rfl).2.mono (fun _ hk => ⟨imm_nxt hk, rfl⟩))⟩⟩
        exact ret_t2 rfl (ret_b (by first | rfl | omega | assumption | exact decide_eq_true (by assumption) | (have q0 := h32; (try simp at q0); have q1 := h48; (try simp at q1); have q2 := h79; (try simp at q2);  omega) | (simp [h32, h48, h79]; done) | (simp [] at *; done) | (simp [h32, h48, h79] <;> omega) | (rw [Bool.eq_iff_iff]; simp [h32, h48, h79] <;> omega) | (rw [Bool.eq_iff_iff]; simp [h32, h48, h79] at * <;> omega)))
  · skip
    have hR147 := hR31.setb (d := 6) (b := true) rfl (by rw [h32]; rfl)
    refine wp_cond_true (hR147.ev rfl) ?_
    refine wp_seq_k (fun K148 hK149 => ?_)
    refine c_region ?_
    refine asg hR147 (fun a150 hR151 => ?_)
    refine asg hR151 (fun a152 hR153 => ?_)
    refine wpList_nil (x_then_n (hK149 _ _ ?_))
    refine wp_ret ?_
    refine x_then_r ?_
    refine e_ret2 hR153 rfl rfl rfl rfl ?_
    have he154 : bindsR n = [] := by unfold bindsR; rw [if_neg (by simp [h32])]
    rw [he154]
    refine ⟨none, 0, ?_, hS29.fr, ⟨Nat.le_refl _, RowI.nil _ _ _ _⟩⟩
    exact ret_t2 rfl (ret_b (by first | rfl | omega | assumption | exact decide_eq_true (by assumption) | (have q0 := h32; (try simp at q0);  omega) | (simp [h32]; done) | (simp [] at *; done) | (simp [h32] <;> omega) | (rw [Bool.eq_iff_iff]; simp [h32] <;> omega) | (rw [Bool.eq_iff_iff]; simp [h32] at * <;> omega)))
end Go.Proofs.YtobgdeffhdefeaaDoor
/- Contracts of functions, one theorem each: what the call returns, and that nothing old is changed. Printed by gen.py. -/
namespace Go.Proofs.YtobgdeffhdefeaaDoor
open Go Go.RowKit
set_option linter.unusedSimpArgs false
set_option linter.unusedVariables false

set_option maxRecDepth 100000 in
set_option maxHeartbeats 1000000 in
theorem backward_yields (w0 : World) (Z : Nat → Prop) (tg : Nat) (tA : Option Addr) (tc : Nat) (t : List Nd) (ht : (dRow 4 tA t.length tc (encNs t)).φ w0 Z) (htb : (dBox tg [.slice tA t.length tc]).φ w0 Z) (hl : t.length ≤ 1000000) :
    Yields Tryd.prog 151 [.pointer (some ⟨tg, 0, none⟩)].toArray (fun x : Int × Nd => #[.int .i64 x.1, .agg (encN x.2).toArray]) (bwL t) Z w0 := by
  refine yields_of Tryd.func151 rfl Tryd.ntmps151 rfl [dRow 4 tA t.length tc (encNs t), dBox tg [.slice tA t.length tc]] (by
    intro d hd
    simp only [List.mem_cons, List.not_mem_nil, or_false] at hd
    rcases hd with rfl | rfl
    · exact ht
    · exact htb
    ) (fun lp jf jx w0 C0 M0 hY hds a1 hR2 hS3 => ?_)
  refine wp_seq_k (fun K4 hK5 => ?_)
  refine c_region ?_
  refine m_loadC sv hR2 rfl rfl rfl (dbox_cell (hS3.get (i := 2) rfl) rfl) Tryd.underlying22 rfl (by decide) (fun a6 hR7 => ?_)
  refine r_len sv hR7 rfl rfl rfl rfl Tryd.underlying22 (by decide) (fun a8 hR9 => ?_)
  refine r_sub (z := (((t.length : Nat) : Int) - 1)) sv hR9 rfl rfl rfl rfl (by decide) (by omega) (by omega) (by omega) (fun a10 hR11 => ?_)
  refine asg hR11 (fun a12 hR13 => ?_)
  refine wpList_nil (x_then_n (hK5 _ _ ?_))
  refine wp_block ?_
  refine wp_loop_ghost (fun gn ga gw => ∃ k : Nat, (Reg ga 19 [(1000000, .bool false), (0, .func (.yield lp) #[] #[]), (1, .pointer (some ⟨tg, 0, none⟩)), (3, .int .i64 (((t.length : Nat) : Int) - ((k : Nat) : Int) - 1))]) ∧ (St w0 (oldB w0) M0 gw [] [dJ jf ((bwL t).take k) C0 M0 w0.heap.size, dRow 4 tA t.length tc (encNs t), dBox tg [.slice tA t.length tc]]) ∧ (k ≤ t.length) ∧ (t.length - k) = gn) _ ⟨0, (hR13.sub (rc rfl (rc rfl (rc rfl (rc rfl rnl))))), hS3, by omega, rfl⟩ ?_
  rintro r14 a15 w16 ⟨k, hR17, hS18, hk, hn19⟩
  refine wp_seq_k (fun K20 hK21 => ?_)
  refine wp_seq_k (fun K22 hK23 => ?_)
  refine c_region ?_
  refine mv hR17 (fun a24 hR25 => ?_)
  refine r_geq sv hR25 rfl rfl rfl rfl (by decide) (fun a26 hR27 => ?_)
  refine wpList_nil (x_then_n (hK23 _ _ ?_))
  rcases Decidable.em (0 ≤ (((t.length : Nat) : Int) - ((k : Nat) : Int) - 1)) with h28 | h28
  · skip
    have hR29 := hR27.setb (d := 8) (b := true) rfl (decide_eq_true h28)
    refine wp_cond_true (hR29.ev rfl) ?_
    refine wp_skip ?_
    refine x_then_n (hK21 _ _ ?_)
    refine wp_seq_k (fun K30 hK31 => ?_)
    refine wp_block ?_
    refine wp_seq_k (fun K32 hK33 => ?_)
    refine cy_region ?_
    refine r_move (st_listInV rfl rfl) hR29 rfl rfl rfl (by decide) (fun a34 hR35 => ?_)
    refine r_move (st_listInV rfl rfl) hR35 rfl rfl rfl (by decide) (fun a36 hR37 => ?_)
    refine m_loadC (st_listInV rfl rfl) hR37 rfl rfl rfl (dbox_cell (hS18.get (i := 2) rfl) rfl) Tryd.underlying22 rfl (by decide) (fun a38 hR39 => ?_)
    refine r_move (st_listInV rfl rfl) hR39 rfl rfl rfl (by decide) (fun a40 hR41 => ?_)
    refine m_index (i := (t.length) - (k + 1)) (j := ((t.length) - (k + 1)) * 4) (st_listInV rfl rfl) hR41 rfl rfl rfl rfl Tryd.underlying22 sz32 (by omega) (by omega) (nds_elem (t := t) (k := (t.length) - (k + 1)) (hS18.row (i := 1) rfl).2 (by omega)).some_ rfl (by decide) (fun a42 hR43 => ?_)
    refine m_loadEN (st_listInV rfl rfl) hR43 rfl rfl rfl (nds_elem (t := t) (k := (t.length) - (k + 1)) (hS18.row (i := 1) rfl).2 (by omega)) Tryd.underlying32 rfl sz32 (by decide) (fun a44 hR45 => ?_)
    have hS46 : St w0 (oldB w0) M0 w16 [] [dJ jf ((bwL t).take k) C0 M0 w0.heap.size, dRow 4 tA t.length tc (encNs t), dBox tg [.slice tA t.length tc]] := hS18
    refine y_call (t := .tmp 11) (xs := [.tmp 12, .tmp 16]) (pre := (bwL t).take k) (i := 0) (ds0 := [dRow 4 tA t.length tc (encNs t), dBox tg [.slice tA t.length tc]]) hY rfl hR45 hS46 rfl rfl rfl rfl (by decide) ((((((t.length : Nat) : Int) - ((k : Nat) : Int) - 1), (nth t ((t.length) - (k + 1)))) : Int × Nd)) rfl rfl (bwL_prefix (by omega)) hds (fun a47 w48 hR49 hS50 => ?_) (fun a47 w48 hR49 hS50 => ?_)
    · skip
      refine r_not (st_listInV rfl rfl) hR49 rfl rfl rfl (by decide) (fun a51 hR52 => ?_)
      refine li_nil ?_
      refine x_then_n (hK33 _ _ ?_)
      refine wp_cond_false (hR52.ev rfl) ?_
      refine wp_skip ?_
      refine x_block_n ?_
      refine x_then_n (hK31 _ _ ?_)
      refine c_region ?_
      refine mv hR52 (fun a53 hR54 => ?_)
      refine r_sub (z := (((t.length : Nat) : Int) - ((k : Nat) : Int) - 2)) sv hR54 rfl rfl rfl rfl (by decide) (by omega) (by omega) (by omega) (fun a55 hR56 => ?_)
      refine asg hR56 (fun a57 hR58 => ?_)
      refine wpList_nil ?_
      have he59 : (bwL t).take k ++ [((((((t.length : Nat) : Int) - ((k : Nat) : Int) - 1), (nth t ((t.length) - (k + 1)))) : Int × Nd))] = (bwL t).take (k + 1) := bwL_step (by omega)
      have hS60 := hS50
      rw [he59] at hS60
      exact ⟨_, by omega, k + 1, (hR58.sub (rc rfl (rc rfl (rc rfl (rc (ri rfl (by omega)) rnl))))), hS60, by omega, rfl⟩
    · skip
      refine r_not (st_listInV rfl rfl) hR49 rfl rfl rfl (by decide) (fun a61 hR62 => ?_)
      refine li_nil ?_
      refine x_then_n (hK33 _ _ ?_)
      refine wp_cond_true (hR62.ev rfl) ?_
      refine wp_ret ?_
      refine x_block_r ?_
      refine x_then_r ?_
      refine x_then_r ?_
      refine x_block_r ?_
      refine e_ret0 hR62 rfl rfl ?_
      exact it_stop hS50 (i := 0) rfl (bwL_prefix (by omega))
  · skip
    have hR63 := hR27.setb (d := 8) (b := false) rfl (decide_eq_false h28)
    refine wp_cond_false (hR63.ev rfl) ?_
    refine wp_exit ?_
    refine x_then_e ?_
    refine x_then_e ?_
    refine x_block_eq ?_
    refine e_end0 hR63 rfl rfl ?_
    exact it_all hS18 (i := 0) rfl (bwL_all (by omega))
end Go.Proofs.YtobgdeffhdefeaaDoor
/- Contracts of functions, one theorem each: what the call returns, and that nothing old is changed. Printed by gen.py. -/
namespace Go.Proofs.YtobgdeffhdefeaaDoor
open Go Go.RowKit
set_option linter.unusedSimpArgs false
set_option linter.unusedVariables false

set_option maxRecDepth 100000 in
set_option maxHeartbeats 1000000 in
theorem proofs_yields (w0 : World) (Z : Nat → Prop) (tg : Nat) (tA : Option Addr) (tc : Nat) (t : List Nd) (hShp : Shapes w0 Z) (ht : (dRow 4 tA t.length tc (encNs t)).φ w0 Z) (htb : (dBox tg [.slice tA t.length tc]).φ w0 Z) (hl : t.length ≤ 1000000) (hsm : sml t) :
    Yields Tryd.prog 70 [.pointer (some ⟨tg, 0, none⟩)].toArray (fun x : Int × Int => #[.int .i64 x.1, .int .i64 x.2]) (prfL t) Z w0 := by
  refine yields_of Tryd.func70 rfl Tryd.ntmps70 rfl [dShapes, dRow 4 tA t.length tc (encNs t), dBox tg [.slice tA t.length tc]] (by
    intro d hd
    simp only [List.mem_cons, List.not_mem_nil, or_false] at hd
    rcases hd with rfl | rfl | rfl
    · exact hShp
    · exact ht
    · exact htb
    ) (fun lp jf jx w0 C0 M0 hY hds a1 hR2 hS3 => ?_)
  refine wp_scope_straight ?_
  refine wp_seq_k (fun K4 hK5 => ?_)
  refine c_region ?_
  refine asg hR2 (fun a6 hR7 => ?_)
  refine wpList_nil (x_then_n (hK5 _ _ ?_))
  refine wp_seq_k (fun K8 hK9 => ?_)
  refine c_region ?_
  refine asg hR7 (fun a10 hR11 => ?_)
  refine wpList_nil (x_then_n (hK9 _ _ ?_))
  refine wp_seq_k (fun K12 hK13 => ?_)
  refine wp_label ?_
  refine x_then_n (hK13 _ _ ?_)
  refine wp_seq_k (fun K14 hK15 => ?_)
  refine c_region ?_
  refine m_loadC sv hR11 rfl rfl rfl (dbox_cell (hS3.get (i := 3) rfl) rfl) Tryd.underlying22 rfl (by decide) (fun a16 hR17 => ?_)
  refine r_len sv hR17 rfl rfl rfl rfl Tryd.underlying22 (by decide) (fun a18 hR19 => ?_)
  refine r_sub (z := (((t.length : Nat) : Int) - 1)) sv hR19 rfl rfl rfl rfl (by decide) (by omega) (by omega) (by omega) (fun a20 hR21 => ?_)
  refine asg hR21 (fun a22 hR23 => ?_)
  refine wpList_nil (x_then_n (hK15 _ _ ?_))
  refine wp_block ?_
  refine wp_loop_ghost (fun gn ga gw => ∃ k : Nat, (Reg ga 44 [(1000000, .bool false), (0, .func (.yield lp) #[] #[]), (1, .pointer (some ⟨tg, 0, none⟩)), (3, .int .i64 (((prS t k).2.2))), (4, .int .i64 (((prS t k).2.1))), (5, .int .i64 (((t.length : Nat) : Int) - ((k : Nat) : Int) - 1))]) ∧ (St w0 (oldB w0) M0 gw [] [dJ jf ((prS t k).1) C0 M0 w0.heap.size, dShapes, dRow 4 tA t.length tc (encNs t), dBox tg [.slice tA t.length tc]]) ∧ (k ≤ t.length) ∧ (t.length - k) = gn) _ ⟨0, (hR23.sub (rc rfl (rc rfl (rc rfl (rc rfl (rc rfl (rc rfl rnl))))))), hS3, by omega, rfl⟩ ?_
  rintro r24 a25 w26 ⟨k, hR27, hS28, hk, hn29⟩
  obtain ⟨hpb1, hpb2, hpb3, hpb4⟩ := prS_bound t k (by omega)
  have hbl := bindsR_le (nth t (t.length - (k + 1)))
  refine wp_seq_k (fun K30 hK31 => ?_)
  refine wp_seq_k (fun K32 hK33 => ?_)
  refine c_region ?_
  refine mv hR27 (fun a34 hR35 => ?_)
  refine r_geq sv hR35 rfl rfl rfl rfl (by decide) (fun a36 hR37 => ?_)
  refine wpList_nil (x_then_n (hK33 _ _ ?_))
  rcases Decidable.em (0 ≤ (((t.length : Nat) : Int) - ((k : Nat) : Int) - 1)) with h38 | h38
  · skip
    have hR39 := hR37.setb (d := 12) (b := true) rfl (decide_eq_true h38)
    refine wp_cond_true (hR39.ev rfl) ?_
    refine wp_skip ?_
    refine x_then_n (hK31 _ _ ?_)
    refine wp_seq_k (fun K40 hK41 => ?_)
    refine wp_block ?_
    refine wp_seq_k (fun K42 hK43 => ?_)
    refine wp_seq_k (fun K44 hK45 => ?_)
    refine c_region ?_
    refine mv hR39 (fun a46 hR47 => ?_)
    refine r_lss sv hR47 rfl rfl rfl rfl (by decide) (fun a48 hR49 => ?_)
    refine wpList_nil (x_then_n (hK45 _ _ ?_))
    rcases Decidable.em ((((prS t k).2.1)) < 0) with h50 | h50
    · skip
      have hR51 := hR49.setb (d := 16) (b := true) rfl (decide_eq_true h50)
      refine wp_cond_true (hR51.ev rfl) ?_
      refine wp_seq_k (fun K52 hK53 => ?_)
      refine wp_seq_k (fun K54 hK55 => ?_)
      refine c_region ?_
      refine m_loadC sv hR51 rfl rfl rfl (dbox_cell (hS28.get (i := 3) rfl) rfl) Tryd.underlying22 rfl (by decide) (fun a56 hR57 => ?_)
      refine mv hR57 (fun a58 hR59 => ?_)
      refine m_index (i := (t.length) - (k + 1)) (j := ((t.length) - (k + 1)) * 4) sv hR59 rfl rfl rfl rfl Tryd.underlying22 sz32 (by omega) (by omega) (nds_elem (t := t) (k := (t.length) - (k + 1)) (hS28.row (i := 2) rfl).2 (by omega)).some_ rfl (by decide) (fun a60 hR61 => ?_)
      refine m_fieldE (j' := ((t.length) - (k + 1)) * 4) sv hR61 rfl rfl rfl (nds_elem (t := t) (k := (t.length) - (k + 1)) (hS28.row (i := 2) rfl).2 (by omega)).some_ Tryd.underlying32 rfl sz3 rfl rfl (by decide) (fun a62 hR63 => ?_)
      refine m_loadE sv hR63 rfl rfl rfl 0 (((t.length) - (k + 1)) * 4) (nds_elem (t := t) (k := (t.length) - (k + 1)) (hS28.row (i := 2) rfl).2 (by omega)) rfl rfl Tryd.underlying3 rfl (by decide) (fun a64 hR65 => ?_)
      refine r_neq sv hR65 rfl rfl rfl rfl (by decide) (fun a66 hR67 => ?_)
      refine wpList_nil (x_then_n (hK55 _ _ ?_))
      rcases Decidable.em ((((nth t ((t.length) - (k + 1))).K)) = 28) with h68 | h68
      · skip
        have hR69 := hR67.setb (d := 22) (b := false) rfl (by rw [(decide_eq_true h68)]; rfl)
        refine wp_cond_false (hR69.ev rfl) ?_
        refine wp_skip ?_
        refine x_then_n (hK53 _ _ ?_)
        refine c_region ?_
        refine mv hR69 (fun a70 hR71 => ?_)
        refine asg hR71 (fun a72 hR73 => ?_)
        refine asg hR73 (fun a74 hR75 => ?_)
        refine wpList_nil (x_then_n (hK43 _ _ ?_))
        refine wp_seq_k (fun K76 hK77 => ?_)
        refine c_region ?_
        refine m_loadC sv hR75 rfl rfl rfl (dbox_cell (hS28.get (i := 3) rfl) rfl) Tryd.underlying22 rfl (by decide) (fun a78 hR79 => ?_)
        refine mv hR79 (fun a80 hR81 => ?_)
        refine m_index (i := (t.length) - (k + 1)) (j := ((t.length) - (k + 1)) * 4) sv hR81 rfl rfl rfl rfl Tryd.underlying22 sz32 (by omega) (by omega) (nds_elem (t := t) (k := (t.length) - (k + 1)) (hS28.row (i := 2) rfl).2 (by omega)).some_ rfl (by decide) (fun a82 hR83 => ?_)
        refine m_loadEN sv hR83 rfl rfl rfl (nds_elem (t := t) (k := (t.length) - (k + 1)) (hS28.row (i := 2) rfl).2 (by omega)) Tryd.underlying32 rfl sz32 (by decide) (fun a84 hR85 => ?_)
        have hS86 : St w0 (oldB w0) M0 w26 [] [dJ jf ((prS t k).1) C0 M0 w0.heap.size, dShapes, dRow 4 tA t.length tc (encNs t), dBox tg [.slice tA t.length tc]] := hS28
        refine k_call (xs := [.tmp 28]) se hR85 rfl rfl rfl (by decide) ok71 (binds_calls _ (imm (oldB w0) w0 [] _) (fun _ h => h.1) (nth t ((t.length) - (k + 1))) (hS86.get (i := 1) rfl) (hsm _ (by omega))) ?_
        rintro e96 w88 ⟨A92, c93, rfl, hf91, hd94⟩
        have hS97 := hS86.below hf91.below
        have hS98 := hS97.data (dRow 1 A92 ((bindsR (nth t ((t.length) - (k + 1)))).length) c93 (encIs (bindsR (nth t ((t.length) - (k + 1)))))) ⟨hd94.1, hd94.2.mono (fun _ hk => ⟨nxt_imm hS86 hk, rfl⟩)⟩
        refine ⟨_, rfl, fun a87 hR89 => ?_⟩
        refine mv hR89 (fun a99 hR100 => ?_)
        refine r_extract sv hR100 rfl rfl rfl rfl (by decide) (fun a101 hR102 => ?_)
        refine r_extract sv hR102 rfl rfl rfl rfl (by decide) (fun a103 hR104 => ?_)
        refine asg hR104 (fun a105 hR106 => ?_)
        refine asg hR106 (fun a107 hR108 => ?_)
        refine wpList_nil (x_then_n (hK77 _ _ ?_))
        refine wp_seq_k (fun K109 hK110 => ?_)
        refine wp_seq_k (fun K111 hK112 => ?_)
        refine c_region ?_
        refine mv hR108 (fun a113 hR114 => ?_)
        refine mv hR114 (fun a115 hR116 => ?_)
        refine r_len sv hR116 rfl rfl rfl rfl Tryd.underlying66 (by decide) (fun a117 hR118 => ?_)
        refine r_sub (z := ((((bindsR (nth t ((t.length) - (k + 1)))).length : Nat) : Int) - 1)) sv hR118 rfl rfl rfl rfl (by decide) (by omega) (by omega) (by omega) (fun a119 hR120 => ?_)
        refine r_add (z := (((bindsR (nth t ((t.length) - (k + 1)))).length : Nat) : Int)) sv hR120 rfl rfl rfl rfl (by decide) (by omega) (by omega) (by omega) (fun a121 hR122 => ?_)
        refine asg hR122 (fun a123 hR124 => ?_)
        refine wpList_nil (x_then_n (hK112 _ _ ?_))
        refine wp_seq_k (fun K125 hK126 => ?_)
        refine c_region ?_
        refine mv hR124 (fun a127 hR128 => ?_)
        refine r_gtr sv hR128 rfl rfl rfl rfl (by decide) (fun a129 hR130 => ?_)
        refine wpList_nil (x_then_n (hK126 _ _ ?_))
        rcases Decidable.em (0 < (((bindsR (nth t ((t.length) - (k + 1)))).length : Nat) : Int)) with h131 | h131
        · skip
          have hR132 := hR130.setb (d := 38) (b := true) rfl (decide_eq_true h131)
          refine wp_cond_true (hR132.ev rfl) ?_
          refine wp_exit ?_
          refine x_then_e ?_
          refine x_block_eq ?_
          refine x_then_n (hK41 _ _ ?_)
          refine c_region ?_
          refine mv hR132 (fun a133 hR134 => ?_)
          refine r_sub (z := (((t.length : Nat) : Int) - ((k : Nat) : Int) - 2)) sv hR134 rfl rfl rfl rfl (by decide) (by omega) (by omega) (by omega) (fun a135 hR136 => ?_)
          refine asg hR136 (fun a137 hR138 => ?_)
          refine wpList_nil ?_
          have hst := prS_new1 (t := t) (k := k) (n := (((bindsR (nth t ((t.length) - (k + 1)))).length : Nat) : Int)) (r := ((t.length : Nat) : Int) - ((k : Nat) : Int) - 1) (by omega) (by omega) (by omega) (by omega) (by omega)
          have he139 : (prS t k).1 = (prS t (k + 1)).1 := by rw [hst]
          have hS140 := hS98
          rw [he139] at hS140
          have hS141 := hS140.forget 4
          exact ⟨_, by omega, k + 1, (hR138.sub (rc rfl (rc rfl (rc rfl (rc (ri rfl (by simp only [hst])) (rc (ri rfl (by simp only [hst])) (rc (ri rfl (by omega)) rnl))))))), hS141, by omega, rfl⟩
        · skip
          have hR142 := hR130.setb (d := 38) (b := false) rfl (decide_eq_false h131)
          refine wp_cond_false (hR142.ev rfl) ?_
          refine wp_skip ?_
          refine x_then_n (hK110 _ _ ?_)
          refine wp_seq_k (fun K143 hK144 => ?_)
          refine wp_seq_k (fun K145 hK146 => ?_)
          refine cy_region ?_
          refine r_move (st_listInV rfl rfl) hR142 rfl rfl rfl (by decide) (fun a147 hR148 => ?_)
          refine r_move (st_listInV rfl rfl) hR148 rfl rfl rfl (by decide) (fun a149 hR150 => ?_)
          refine r_move (st_listInV rfl rfl) hR150 rfl rfl rfl (by decide) (fun a151 hR152 => ?_)
          have hS153 : St w0 (oldB w0) M0 w88 [] [dJ jf ((prS t k).1) C0 M0 w0.heap.size, dShapes, dRow 4 tA t.length tc (encNs t), dBox tg [.slice tA t.length tc], dRow 1 A92 ((bindsR (nth t ((t.length) - (k + 1)))).length) c93 (encIs (bindsR (nth t ((t.length) - (k + 1)))))] := hS98
          refine y_call (t := .tmp 39) (xs := [.tmp 40, .tmp 41]) (pre := (prS t k).1) (i := 0) (ds0 := [dShapes, dRow 4 tA t.length tc (encNs t), dBox tg [.slice tA t.length tc]]) hY rfl hR152 hS153 rfl rfl rfl rfl (by decide) ((((((t.length : Nat) : Int) - ((k : Nat) : Int) - 1), (((t.length : Nat) : Int) - ((k : Nat) : Int) - 1)) : Int × Int)) rfl rfl ((by have hst := prS_new0 (t := t) (k := k) (n := (((bindsR (nth t ((t.length) - (k + 1)))).length : Nat) : Int)) (r := ((t.length : Nat) : Int) - ((k : Nat) : Int) - 1) (by omega) (by omega) (by omega) (by omega) (by omega); have hpp := prS_prfL (t := t) (k := k + 1) (by omega); rw [hst] at hpp; exact hpp)) hds (fun a154 w155 hR156 hS157 => ?_) (fun a154 w155 hR156 hS157 => ?_)
          · skip
            refine r_not (st_listInV rfl rfl) hR156 rfl rfl rfl (by decide) (fun a158 hR159 => ?_)
            refine li_nil ?_
            refine x_then_n (hK146 _ _ ?_)
            refine wp_cond_false (hR159.ev rfl) ?_
            refine wp_skip ?_
            refine x_then_n (hK144 _ _ ?_)
            refine c_region ?_
            refine asg hR159 (fun a160 hR161 => ?_)
            refine wpList_nil ?_
            refine x_block_n ?_
            refine x_then_n (hK41 _ _ ?_)
            refine c_region ?_
            refine mv hR161 (fun a162 hR163 => ?_)
            refine r_sub (z := (((t.length : Nat) : Int) - ((k : Nat) : Int) - 2)) sv hR163 rfl rfl rfl rfl (by decide) (by omega) (by omega) (by omega) (fun a164 hR165 => ?_)
            refine asg hR165 (fun a166 hR167 => ?_)
            refine wpList_nil ?_
            have hst := prS_new0 (t := t) (k := k) (n := (((bindsR (nth t ((t.length) - (k + 1)))).length : Nat) : Int)) (r := ((t.length : Nat) : Int) - ((k : Nat) : Int) - 1) (by omega) (by omega) (by omega) (by omega) (by omega)
            have he168 : (prS t k).1 ++ [((((((t.length : Nat) : Int) - ((k : Nat) : Int) - 1), (((t.length : Nat) : Int) - ((k : Nat) : Int) - 1)) : Int × Int))] = (prS t (k + 1)).1 := by rw [hst]
            have hS169 := hS157
            rw [he168] at hS169
            exact ⟨_, by omega, k + 1, (hR167.sub (rc rfl (rc rfl (rc rfl (rc (ri rfl (by simp only [hst])) (rc (ri rfl (by simp only [hst])) (rc (ri rfl (by omega)) rnl))))))), hS169, by omega, rfl⟩
          · skip
            refine r_not (st_listInV rfl rfl) hR156 rfl rfl rfl (by decide) (fun a170 hR171 => ?_)
            refine li_nil ?_
            refine x_then_n (hK146 _ _ ?_)
            refine wp_cond_true (hR171.ev rfl) ?_
            refine wp_ret ?_
            refine x_then_r ?_
            refine x_block_r ?_
            refine x_then_r ?_
            refine x_then_r ?_
            refine x_block_r ?_
            refine x_scope_r ?_
            refine e_ret0 hR171 rfl rfl ?_
            exact it_stop hS157 (i := 0) rfl ((by have hst := prS_new0 (t := t) (k := k) (n := (((bindsR (nth t ((t.length) - (k + 1)))).length : Nat) : Int)) (r := ((t.length : Nat) : Int) - ((k : Nat) : Int) - 1) (by omega) (by omega) (by omega) (by omega) (by omega); have hpp := prS_prfL (t := t) (k := k + 1) (by omega); rw [hst] at hpp; exact hpp))
      · skip
        have hR172 := hR67.setb (d := 22) (b := true) rfl (by rw [(decide_eq_false h68)]; rfl)
        refine wp_cond_true (hR172.ev rfl) ?_
        refine wp_exit ?_
        refine x_then_e ?_
        refine x_then_e ?_
        refine x_block_eq ?_
        refine x_then_n (hK41 _ _ ?_)
        refine c_region ?_
        refine mv hR172 (fun a173 hR174 => ?_)
        refine r_sub (z := (((t.length : Nat) : Int) - ((k : Nat) : Int) - 2)) sv hR174 rfl rfl rfl rfl (by decide) (by omega) (by omega) (by omega) (fun a175 hR176 => ?_)
        refine asg hR176 (fun a177 hR178 => ?_)
        refine wpList_nil ?_
        have hst := prS_same (t := t) (k := k) (by omega) (by omega)
        have he179 : (prS t k).1 = (prS t (k + 1)).1 := by rw [hst]
        have hS180 := hS28
        rw [he179] at hS180
        exact ⟨_, by omega, k + 1, (hR178.sub (rc rfl (rc rfl (rc rfl (rc (ri rfl (by simp only [hst])) (rc (ri rfl (by simp only [hst])) (rc (ri rfl (by omega)) rnl))))))), hS180, by omega, rfl⟩
    · skip
      have hR181 := hR49.setb (d := 16) (b := false) rfl (decide_eq_false h50)
      refine wp_cond_false (hR181.ev rfl) ?_
      refine wp_skip ?_
      refine x_then_n (hK43 _ _ ?_)
      refine wp_seq_k (fun K182 hK183 => ?_)
      refine c_region ?_
      refine m_loadC sv hR181 rfl rfl rfl (dbox_cell (hS28.get (i := 3) rfl) rfl) Tryd.underlying22 rfl (by decide) (fun a184 hR185 => ?_)
      refine mv hR185 (fun a186 hR187 => ?_)
      refine m_index (i := (t.length) - (k + 1)) (j := ((t.length) - (k + 1)) * 4) sv hR187 rfl rfl rfl rfl Tryd.underlying22 sz32 (by omega) (by omega) (nds_elem (t := t) (k := (t.length) - (k + 1)) (hS28.row (i := 2) rfl).2 (by omega)).some_ rfl (by decide) (fun a188 hR189 => ?_)
      refine m_loadEN sv hR189 rfl rfl rfl (nds_elem (t := t) (k := (t.length) - (k + 1)) (hS28.row (i := 2) rfl).2 (by omega)) Tryd.underlying32 rfl sz32 (by decide) (fun a190 hR191 => ?_)
      have hS192 : St w0 (oldB w0) M0 w26 [] [dJ jf ((prS t k).1) C0 M0 w0.heap.size, dShapes, dRow 4 tA t.length tc (encNs t), dBox tg [.slice tA t.length tc]] := hS28
      refine k_call (xs := [.tmp 28]) se hR191 rfl rfl rfl (by decide) ok71 (binds_calls _ (imm (oldB w0) w0 [] _) (fun _ h => h.1) (nth t ((t.length) - (k + 1))) (hS192.get (i := 1) rfl) (hsm _ (by omega))) ?_
      rintro e202 w194 ⟨A198, c199, rfl, hf197, hd200⟩
      have hS203 := hS192.below hf197.below
      have hS204 := hS203.data (dRow 1 A198 ((bindsR (nth t ((t.length) - (k + 1)))).length) c199 (encIs (bindsR (nth t ((t.length) - (k + 1)))))) ⟨hd200.1, hd200.2.mono (fun _ hk => ⟨nxt_imm hS192 hk, rfl⟩)⟩
      refine ⟨_, rfl, fun a193 hR195 => ?_⟩
      refine mv hR195 (fun a205 hR206 => ?_)
      refine r_extract sv hR206 rfl rfl rfl rfl (by decide) (fun a207 hR208 => ?_)
      refine r_extract sv hR208 rfl rfl rfl rfl (by decide) (fun a209 hR210 => ?_)
      refine asg hR210 (fun a211 hR212 => ?_)
      refine asg hR212 (fun a213 hR214 => ?_)
      refine wpList_nil (x_then_n (hK183 _ _ ?_))
      refine wp_seq_k (fun K215 hK216 => ?_)
      refine wp_seq_k (fun K217 hK218 => ?_)
      refine c_region ?_
      refine mv hR214 (fun a219 hR220 => ?_)
      refine mv hR220 (fun a221 hR222 => ?_)
      refine r_len sv hR222 rfl rfl rfl rfl Tryd.underlying66 (by decide) (fun a223 hR224 => ?_)
      refine r_sub (z := ((((bindsR (nth t ((t.length) - (k + 1)))).length : Nat) : Int) - 1)) sv hR224 rfl rfl rfl rfl (by decide) (by omega) (by omega) (by omega) (fun a225 hR226 => ?_)
      refine r_add (z := (((prS t k).2.2) + (((bindsR (nth t ((t.length) - (k + 1)))).length : Nat) : Int) - 1)) sv hR226 rfl rfl rfl rfl (by decide) (by omega) (by omega) (by omega) (fun a227 hR228 => ?_)
      refine asg hR228 (fun a229 hR230 => ?_)
      refine wpList_nil (x_then_n (hK218 _ _ ?_))
      refine wp_seq_k (fun K231 hK232 => ?_)
      refine c_region ?_
      refine mv hR230 (fun a233 hR234 => ?_)
      refine r_gtr sv hR234 rfl rfl rfl rfl (by decide) (fun a235 hR236 => ?_)
      refine wpList_nil (x_then_n (hK232 _ _ ?_))
      rcases Decidable.em (0 < (((prS t k).2.2) + (((bindsR (nth t ((t.length) - (k + 1)))).length : Nat) : Int) - 1)) with h237 | h237
      · skip
        have hR238 := hR236.setb (d := 38) (b := true) rfl (decide_eq_true h237)
        refine wp_cond_true (hR238.ev rfl) ?_
        refine wp_exit ?_
        refine x_then_e ?_
        refine x_block_eq ?_
        refine x_then_n (hK41 _ _ ?_)
        refine c_region ?_
        refine mv hR238 (fun a239 hR240 => ?_)
        refine r_sub (z := (((t.length : Nat) : Int) - ((k : Nat) : Int) - 2)) sv hR240 rfl rfl rfl rfl (by decide) (by omega) (by omega) (by omega) (fun a241 hR242 => ?_)
        refine asg hR242 (fun a243 hR244 => ?_)
        refine wpList_nil ?_
        have hst := prS_on (t := t) (k := k) (n := (((prS t k).2.2) + (((bindsR (nth t ((t.length) - (k + 1)))).length : Nat) : Int) - 1)) (by omega) (by omega) (by omega)
        have he245 : (prS t k).1 = (prS t (k + 1)).1 := by rw [hst]
        have hS246 := hS204
        rw [he245] at hS246
        have hS247 := hS246.forget 4
        exact ⟨_, by omega, k + 1, (hR244.sub (rc rfl (rc rfl (rc rfl (rc (ri rfl (by simp only [hst])) (rc (ri rfl (by simp only [hst])) (rc (ri rfl (by omega)) rnl))))))), hS247, by omega, rfl⟩
      · skip
        have hR248 := hR236.setb (d := 38) (b := false) rfl (decide_eq_false h237)
        refine wp_cond_false (hR248.ev rfl) ?_
        refine wp_skip ?_
        refine x_then_n (hK216 _ _ ?_)
        refine wp_seq_k (fun K249 hK250 => ?_)
        refine wp_seq_k (fun K251 hK252 => ?_)
        refine cy_region ?_
        refine r_move (st_listInV rfl rfl) hR248 rfl rfl rfl (by decide) (fun a253 hR254 => ?_)
        refine r_move (st_listInV rfl rfl) hR254 rfl rfl rfl (by decide) (fun a255 hR256 => ?_)
        refine r_move (st_listInV rfl rfl) hR256 rfl rfl rfl (by decide) (fun a257 hR258 => ?_)
        have hS259 : St w0 (oldB w0) M0 w194 [] [dJ jf ((prS t k).1) C0 M0 w0.heap.size, dShapes, dRow 4 tA t.length tc (encNs t), dBox tg [.slice tA t.length tc], dRow 1 A198 ((bindsR (nth t ((t.length) - (k + 1)))).length) c199 (encIs (bindsR (nth t ((t.length) - (k + 1)))))] := hS204
        refine y_call (t := .tmp 39) (xs := [.tmp 40, .tmp 41]) (pre := (prS t k).1) (i := 0) (ds0 := [dShapes, dRow 4 tA t.length tc (encNs t), dBox tg [.slice tA t.length tc]]) hY rfl hR258 hS259 rfl rfl rfl rfl (by decide) ((((((t.length : Nat) : Int) - ((k : Nat) : Int) - 1), (((prS t k).2.1))) : Int × Int)) rfl rfl ((by have hst := prS_end (t := t) (k := k) (n := (((prS t k).2.2) + (((bindsR (nth t ((t.length) - (k + 1)))).length : Nat) : Int) - 1)) (i := ((t.length : Nat) : Int) - ((k : Nat) : Int) - 1) (by omega) (by omega) (by omega) (by omega); have hpp := prS_prfL (t := t) (k := k + 1) (by omega); rw [hst] at hpp; exact hpp)) hds (fun a260 w261 hR262 hS263 => ?_) (fun a260 w261 hR262 hS263 => ?_)
        · skip
          refine r_not (st_listInV rfl rfl) hR262 rfl rfl rfl (by decide) (fun a264 hR265 => ?_)
          refine li_nil ?_
          refine x_then_n (hK252 _ _ ?_)
          refine wp_cond_false (hR265.ev rfl) ?_
          refine wp_skip ?_
          refine x_then_n (hK250 _ _ ?_)
          refine c_region ?_
          refine asg hR265 (fun a266 hR267 => ?_)
          refine wpList_nil ?_
          refine x_block_n ?_
          refine x_then_n (hK41 _ _ ?_)
          refine c_region ?_
          refine mv hR267 (fun a268 hR269 => ?_)
          refine r_sub (z := (((t.length : Nat) : Int) - ((k : Nat) : Int) - 2)) sv hR269 rfl rfl rfl rfl (by decide) (by omega) (by omega) (by omega) (fun a270 hR271 => ?_)
          refine asg hR271 (fun a272 hR273 => ?_)
          refine wpList_nil ?_
          have hst := prS_end (t := t) (k := k) (n := (((prS t k).2.2) + (((bindsR (nth t ((t.length) - (k + 1)))).length : Nat) : Int) - 1)) (i := ((t.length : Nat) : Int) - ((k : Nat) : Int) - 1) (by omega) (by omega) (by omega) (by omega)
          have he274 : (prS t k).1 ++ [((((((t.length : Nat) : Int) - ((k : Nat) : Int) - 1), (((prS t k).2.1))) : Int × Int))] = (prS t (k + 1)).1 := by rw [hst]
          have hS275 := hS263
          rw [he274] at hS275
          exact ⟨_, by omega, k + 1, (hR273.sub (rc rfl (rc rfl (rc rfl (rc (ri rfl (by simp only [hst])) (rc (ri rfl (by simp only [hst])) (rc (ri rfl (by omega)) rnl))))))), hS275, by omega, rfl⟩
        · skip
          refine r_not (st_listInV rfl rfl) hR262 rfl rfl rfl (by decide) (fun a276 hR277 => ?_)
          refine li_nil ?_
          refine x_then_n (hK252 _ _ ?_)
          refine wp_cond_true (hR277.ev rfl) ?_
          refine wp_ret ?_
          refine x_then_r ?_
          refine x_block_r ?_
          refine x_then_r ?_
          refine x_then_r ?_
          refine x_block_r ?_
          refine x_scope_r ?_
          refine e_ret0 hR277 rfl rfl ?_
          exact it_stop hS263 (i := 0) rfl ((by have hst := prS_end (t := t) (k := k) (n := (((prS t k).2.2) + (((bindsR (nth t ((t.length) - (k + 1)))).length : Nat) : Int) - 1)) (i := ((t.length : Nat) : Int) - ((k : Nat) : Int) - 1) (by omega) (by omega) (by omega) (by omega); have hpp := prS_prfL (t := t) (k := k + 1) (by omega); rw [hst] at hpp; exact hpp))
  · skip
    have hR278 := hR37.setb (d := 12) (b := false) rfl (decide_eq_false h38)
    refine wp_cond_false (hR278.ev rfl) ?_
    refine wp_exit ?_
    refine x_then_e ?_
    refine x_then_e ?_
    refine x_block_eq ?_
    refine x_scope_n ?_
    refine e_end0 hR278 rfl rfl ?_
    exact it_all hS28 (i := 0) rfl ((by rw [show k = t.length by omega]; rfl))
end Go.Proofs.YtobgdeffhdefeaaDoor
/- Contracts of functions, one theorem each: what the call returns, and that nothing old is changed. Printed by gen.py. -/
namespace Go.Proofs.YtobgdeffhdefeaaDoor
open Go Go.RowKit
set_option linter.unusedSimpArgs false
set_option linter.unusedVariables false

set_option maxRecDepth 100000 in
set_option maxHeartbeats 1000000 in
theorem stripP_calls (w0 : World) (Z : Nat → Prop) (hZ : ∀ k, Z k → k < w0.heap.size) (n : Nd)  :
    Calls Tryd.prog 65 [.agg #[.int .i64 (n.K), .int .i64 (n.N), .int .i64 (n.M), .string n.S]].toArray w0 (fun e w' => e = .returned (.bool (decide (n.K = 28))) ∧ Fr none_ w0 w') := by
  have hstart : ∀ k, Z k → imm Z w0 [] w0 k ∧ w0.heap[k]? = w0.heap[k]? := fun k hk => ⟨⟨hZ k hk, fun _ => hk, fun _ h => by cases h⟩, rfl⟩
  have hS3 : St w0 Z none_ w0 [] [] := St.start w0 Z none_ _ (by
    intro d hd
    cases hd
    )
  refine c_enter Tryd.func65 rfl Tryd.ntmps65 rfl (fun a1 hR2 => ?_)
  refine wp_seq_k (fun K4 hK5 => ?_)
  refine c_region ?_
  refine m_box (cs := [.int .i64 (n.K), .int .i64 (n.N), .int .i64 (n.M), .string n.S]) sv hR2 hS3 rfl rfl rfl rfl (by decide) (fun a6 w7 g8 hR9 hS10 => ?_)
  refine asg hR9 (fun a11 hR12 => ?_)
  refine wpList_nil (x_then_n (hK5 _ _ ?_))
  refine wp_seq_k (fun K13 hK14 => ?_)
  refine c_region ?_
  refine m_field (j' := 0) sv hR12 rfl rfl rfl Tryd.underlying32 rfl sz3 rfl rfl (by decide) (fun a15 hR16 => ?_)
  refine m_load (i := 0) sv hR16 hS10 rfl rfl rfl rfl rfl Tryd.underlying3 rfl (by decide) (fun a17 hR18 => ?_)
  refine r_eql sv hR18 rfl rfl rfl rfl (by decide) (fun a19 hR20 => ?_)
  refine asg hR20 (fun a21 hR22 => ?_)
  refine wpList_nil (x_then_n (hK14 _ _ ?_))
  refine wp_ret ?_
  refine e_ret1 hR22 rfl rfl rfl ?_
  refine ⟨?_, hS10.fr⟩
  exact congrArg Ending.returned (ret_b (by first | rfl | omega | assumption | exact decide_eq_true (by assumption) | ( omega) | (simp []; done) | (simp [] at *; done) | (simp [] <;> omega) | (rw [Bool.eq_iff_iff]; simp [] <;> omega) | (rw [Bool.eq_iff_iff]; simp [] at * <;> omega)))

set_option maxRecDepth 100000 in
set_option maxHeartbeats 1000000 in
theorem indexN_calls (w0 : World) (Z : Nat → Prop) (hZ : ∀ k, Z k → k < w0.heap.size) (tA : Option Addr) (tc : Nat) (t : List Nd) (ht : (Res.row tA (t).length tc 32 4 (encNs t)).holds w0) (htz : ∀ k, rM tA k → ¬ Z k) (hl : t.length ≤ 1000000) :
    Calls Tryd.prog 105 [.slice tA t.length tc, .func (.func 65) #[] #[]].toArray w0 (fun e w' => e = .returned (.int .i64 (ixP t)) ∧ Fr (rM tA) w0 w' ∧ (Res.row tA (t).length tc 32 4 (encNs t)).holds w') := by
  have hstart : ∀ k, Z k → imm Z w0 [.row tA ((t).length) tc 32 4 (encNs t)] w0 k ∧ w0.heap[k]? = w0.heap[k]? := fun k hk => imm_startR hZ htz hk
  have hS3 : St w0 Z (rM tA) w0 [.row tA ((t).length) tc 32 4 (encNs t)] [] := St.startR w0 Z _ _ _ _ _ _ _ ht (by
    intro d hd
    cases hd
    )
  refine c_enter Tryd.func105 rfl Tryd.ntmps105 rfl (fun a1 hR2 => ?_)
  refine wp_seq_k (fun K4 hK5 => ?_)
  refine c_region ?_
  refine asg hR2 (fun a6 hR7 => ?_)
  refine wpList_nil (x_then_n (hK5 _ _ ?_))
  refine wp_seq_k (fun K8 hK9 => ?_)
  refine wp_seq_k (fun K10 hK11 => ?_)
  refine c_region ?_
  refine mv hR7 (fun a12 hR13 => ?_)
  refine r_len sv hR13 rfl rfl rfl rfl Tryd.underlying22 (by decide) (fun a14 hR15 => ?_)
  refine mv hR15 (fun a16 hR17 => ?_)
  refine wpList_nil (x_then_n (hK11 _ _ ?_))
  refine wp_block ?_
  refine wp_loop_ghost (fun gn ga gw => ∃ k : Nat, (Reg ga 19 [(1000000, .bool false), (0, .slice tA t.length tc), (1, .func (.func 65) #[] #[]), (7, .int .i64 ((t.length : Nat) : Int)), (8, .int .i64 ((k : Nat) : Int))]) ∧ (St w0 Z (rM tA) gw [.row tA ((t).length) tc 32 4 (encNs t)] []) ∧ (k ≤ t.length) ∧ (∀ i, i < k → (nth t i).K ≠ 28) ∧ (t.length - k) = gn) _ ⟨0, (hR17.sub (rc rfl (rc rfl (rc rfl (rc rfl (rc rfl rnl)))))), hS3, by omega, (fun _ h => by omega), rfl⟩ ?_
  rintro r18 a19 w20 ⟨k, hR21, hS22, hk, hi, hn23⟩
  refine wp_seq_k (fun K24 hK25 => ?_)
  refine c_region ?_
  refine r_lss sv hR21 rfl rfl rfl rfl (by decide) (fun a26 hR27 => ?_)
  refine wpList_nil (x_then_n (hK25 _ _ ?_))
  refine wp_seq_k (fun K28 hK29 => ?_)
  rcases Decidable.em (((k : Nat) : Int) < ((t.length : Nat) : Int)) with h30 | h30
  · skip
    have hR31 := hR27.setb (d := 9) (b := true) rfl (decide_eq_true h30)
    refine wp_cond_true (hR31.ev rfl) ?_
    refine wp_skip ?_
    refine x_then_n (hK29 _ _ ?_)
    refine wp_seq_k (fun K32 hK33 => ?_)
    refine wp_block ?_
    refine wp_seq_k (fun K34 hK35 => ?_)
    refine c_region ?_
    refine mv hR31 (fun a36 hR37 => ?_)
    refine asg hR37 (fun a38 hR39 => ?_)
    refine wpList_nil (x_then_n (hK35 _ _ ?_))
    refine wp_seq_k (fun K40 hK41 => ?_)
    refine c_region ?_
    refine mv hR39 (fun a42 hR43 => ?_)
    refine mv hR43 (fun a44 hR45 => ?_)
    refine mv hR45 (fun a46 hR47 => ?_)
    refine m_index (i := k) (j := k * 4) sv hR47 rfl rfl rfl rfl Tryd.underlying22 sz32 (by omega) (by omega) (own_nds (t := t) (k := k) (hS22.res (i := 0) rfl) (by omega)).some_ rfl (by decide) (fun a48 hR49 => ?_)
    refine m_loadEN sv hR49 rfl rfl rfl (own_nds (t := t) (k := k) (hS22.res (i := 0) rfl) (by omega)) Tryd.underlying32 rfl sz32 (by decide) (fun a50 hR51 => ?_)
    have hS52 : St w0 Z (rM tA) w20 [.row tA ((t).length) tc 32 4 (encNs t)] [] := hS22
    refine k_callV (xs := [.tmp 15]) se hR51 rfl rfl rfl rfl (by decide) ok65 (stripP_calls _ (imm Z w0 [.row tA ((t).length) tc 32 4 (encNs t)] _) (fun _ h => h.1) (nth t k)) ?_
    rintro e59 w54 ⟨rfl, hf57⟩
    have hS60 := hS52.below hf57.below
    refine ⟨_, rfl, fun a53 hR55 => ?_⟩
    refine wpList_nil (x_then_n (hK41 _ _ ?_))
    rcases Bool.eq_false_or_eq_true (decide ((nth t k).K = 28)) with h61 | h61
    · skip
      have h62 := of_decide_eq_true h61
      have hR63 := hR55.setb (d := 16) (b := true) rfl h61
      refine wp_cond_true (hR63.ev rfl) ?_
      refine wp_seq_k (fun K64 hK65 => ?_)
      refine c_region ?_
      refine mv hR63 (fun a66 hR67 => ?_)
      refine asg hR67 (fun a68 hR69 => ?_)
      refine wpList_nil (x_then_n (hK65 _ _ ?_))
      refine wp_ret ?_
      refine x_block_r ?_
      refine x_then_r ?_
      refine x_then_r ?_
      refine x_block_r ?_
      refine x_then_r ?_
      refine e_ret1 hR69 rfl rfl rfl ?_
      refine ⟨?_, hS60.fr, hS60.res (i := 0) rfl⟩
      exact congrArg Ending.returned (ret_i (by first | exact (ixP_here (k := k) (by omega) hi (by omega)).symm | exact (ixP_none (fun i h => hi i (by omega))).symm))
    · skip
      have h70 := of_decide_eq_false h61
      have hR71 := hR55.setb (d := 16) (b := false) rfl h61
      refine wp_cond_false (hR71.ev rfl) ?_
      refine wp_skip ?_
      refine x_block_n ?_
      refine x_then_n (hK33 _ _ ?_)
      refine c_region ?_
      refine r_add (z := ((k + 1 : Nat) : Int)) sv hR71 rfl rfl rfl rfl (by decide) (by omega) (by omega) (by omega) (fun a72 hR73 => ?_)
      refine mv hR73 (fun a74 hR75 => ?_)
      refine wpList_nil ?_
      exact ⟨_, by omega, k + 1, (hR75.sub (rc rfl (rc rfl (rc rfl (rc rfl (rc rfl rnl)))))), hS60, by omega, (fun i h => by rcases Nat.lt_or_eq_of_le (Nat.le_of_lt_succ h) with h' | h'; exact hi i h'; subst h'; omega), rfl⟩
  · skip
    have hR76 := hR27.setb (d := 9) (b := false) rfl (decide_eq_false h30)
    refine wp_cond_false (hR76.ev rfl) ?_
    refine wp_exit ?_
    refine x_then_e ?_
    refine x_then_e ?_
    refine x_block_eq ?_
    refine x_then_n (hK9 _ _ ?_)
    refine wp_seq_k (fun K77 hK78 => ?_)
    refine c_region ?_
    refine asg hR76 (fun a79 hR80 => ?_)
    refine wpList_nil (x_then_n (hK78 _ _ ?_))
    refine wp_ret ?_
    refine e_ret1 hR80 rfl rfl rfl ?_
    refine ⟨?_, hS22.fr, hS22.res (i := 0) rfl⟩
    exact congrArg Ending.returned (ret_i (by first | exact (ixP_here (k := k) (by omega) hi (by omega)).symm | exact (ixP_none (fun i h => hi i (by omega))).symm))

set_option maxRecDepth 100000 in
set_option maxHeartbeats 1000000 in
theorem delete_calls (w0 : World) (Z : Nat → Prop) (hZ : ∀ k, Z k → k < w0.heap.size) (tA : Option Addr) (tc : Nat) (t : List Nd) (ht : (Res.row tA (t).length tc 32 4 (encNs t)).holds w0) (htz : ∀ k, rM tA k → ¬ Z k) (hl : t.length ≤ 1000000) :
    Calls Tryd.prog 64 [.slice tA t.length tc, .func (.func 65) #[] #[]].toArray w0 (fun e w' => e = .returned (.slice tA (t.filter nPrf).length tc) ∧ Fr (rM tA) w0 w' ∧ (Res.row tA (t.filter nPrf).length tc 32 4 (encNs (t.filter nPrf))).holds w') := by
  have hstart : ∀ k, Z k → imm Z w0 [.row tA ((t).length) tc 32 4 (encNs t)] w0 k ∧ w0.heap[k]? = w0.heap[k]? := fun k hk => imm_startR hZ htz hk
  have hS3 : St w0 Z (rM tA) w0 [.row tA ((t).length) tc 32 4 (encNs t)] [] := St.startR w0 Z _ _ _ _ _ _ _ ht (by
    intro d hd
    cases hd
    )
  refine c_enter Tryd.func64 rfl Tryd.ntmps64 rfl (fun a1 hR2 => ?_)
  refine wp_seq_k (fun K4 hK5 => ?_)
  refine c_region ?_
  refine asg hR2 (fun a6 hR7 => ?_)
  refine wpList_nil (x_then_n (hK5 _ _ ?_))
  refine wp_seq_k (fun K8 hK9 => ?_)
  refine c_region ?_
  refine mv hR7 (fun a10 hR11 => ?_)
  refine mv hR11 (fun a12 hR13 => ?_)
  have hS14 : St w0 Z (rM tA) w0 [.row tA ((t).length) tc 32 4 (encNs t)] [] := hS3
  refine k_call (xs := [.tmp 8, .tmp 9]) se hR13 rfl rfl rfl (by decide) ok105 (indexN_calls _ (imm Z w0 [.row tA ((t).length) tc 32 4 (encNs t)] _) (fun _ h => h.1) tA tc t (hS14.res (i := 0) rfl) (imm_row (i := 0) rfl) (by first | assumption | omega | (simp; done) | (simp; omega))) ?_
  rintro e21 w16 ⟨rfl, hf19, hb20⟩
  have hS22 := hS14.callR (i := 0) rfl hf19 hb20
  refine ⟨_, rfl, fun a15 hR17 => ?_⟩
  refine asg hR17 (fun a23 hR24 => ?_)
  refine wpList_nil (x_then_n (hK9 _ _ ?_))
  refine wp_seq_k (fun K25 hK26 => ?_)
  refine wp_seq_k (fun K27 hK28 => ?_)
  refine c_region ?_
  refine mv hR24 (fun a29 hR30 => ?_)
  refine r_eql sv hR30 rfl rfl rfl rfl (by decide) (fun a31 hR32 => ?_)
  refine wpList_nil (x_then_n (hK28 _ _ ?_))
  rcases Decidable.em (((ixP t)) = (-1)) with h33 | h33
  · skip
    have hxa := ixP_all h33
    have hR34 := hR32.setb (d := 12) (b := true) rfl (decide_eq_true h33)
    refine wp_cond_true (hR34.ev rfl) ?_
    refine wp_seq_k (fun K35 hK36 => ?_)
    refine c_region ?_
    refine mv hR34 (fun a37 hR38 => ?_)
    refine asg hR38 (fun a39 hR40 => ?_)
    refine wpList_nil (x_then_n (hK36 _ _ ?_))
    refine wp_ret ?_
    refine x_then_r ?_
    refine e_ret1 hR40 rfl rfl rfl ?_
    have he41 : t = t.filter nPrf := hxa.symm
    have hS42 := hS22
    rw [he41] at hS42
    refine ⟨?_, hS42.fr, hS42.res (i := 0) rfl⟩
    exact congrArg Ending.returned (ret_s (by first | rfl | (exact congrArg List.length he41; done) | (rw [← he41]; simp; done) | (rw [← he41]; simp; omega) | omega))
  · skip
    obtain ⟨hx0, hx1, hx2⟩ := ixP_pos h33
    have hR43 := hR32.setb (d := 12) (b := false) rfl (decide_eq_false h33)
    refine wp_cond_false (hR43.ev rfl) ?_
    refine wp_skip ?_
    refine x_then_n (hK26 _ _ ?_)
    refine wp_seq_k (fun K44 hK45 => ?_)
    refine wp_seq_k (fun K46 hK47 => ?_)
    refine c_region ?_
    refine mv hR43 (fun a48 hR49 => ?_)
    refine r_add (z := ((ixP t) + 1)) sv hR49 rfl rfl rfl rfl (by decide) (by omega) (by omega) (by omega) (fun a50 hR51 => ?_)
    refine asg hR51 (fun a52 hR53 => ?_)
    refine wpList_nil (x_then_n (hK47 _ _ ?_))
    refine wp_block ?_
    refine wp_loop_ghost (fun gn ga gw => ∃ i : Nat, ∃ j : Nat, ∃ R : List Nd, (Reg ga 42 [(1000000, .bool false), (0, .slice tA t.length tc), (1, .func (.func 65) #[] #[]), (4, .slice none 0 0), (5, .int .i64 ((i : Nat) : Int)), (6, .int .i64 ((j : Nat) : Int))]) ∧ (St w0 Z (rM tA) gw [.row tA ((R).length) tc 32 4 (encNs R)] []) ∧ (i < j) ∧ (j ≤ t.length) ∧ (R.length = t.length) ∧ (R.take i = (t.take j).filter nPrf) ∧ (R.drop j = t.drop j) ∧ (t.length - j) = gn) _ ⟨(ixP t).toNat, (ixP t).toNat + 1, t, (hR53.sub (rc rfl (rc rfl (rc rfl (rc rfl (rc (ri rfl (by omega)) (rc (ri rfl (by omega)) rnl))))))), hS22, by omega, by omega, rfl, hx2, rfl, rfl⟩ ?_
    rintro r54 a55 w56 ⟨i, j, R, hR57, hS58, hij, hj, h1, h2, h3, hn59⟩
    refine wp_seq_k (fun K60 hK61 => ?_)
    refine wp_seq_k (fun K62 hK63 => ?_)
    refine c_region ?_
    refine mv hR57 (fun a64 hR65 => ?_)
    refine mv hR65 (fun a66 hR67 => ?_)
    refine r_len sv hR67 rfl rfl rfl rfl Tryd.underlying22 (by decide) (fun a68 hR69 => ?_)
    refine r_lss sv hR69 rfl rfl rfl rfl (by decide) (fun a70 hR71 => ?_)
    refine wpList_nil (x_then_n (hK63 _ _ ?_))
    rcases Decidable.em (((j : Nat) : Int) < ((t.length : Nat) : Int)) with h72 | h72
    · skip
      have hR73 := hR71.setb (d := 19) (b := true) rfl (decide_eq_true h72)
      refine wp_cond_true (hR73.ev rfl) ?_
      refine wp_skip ?_
      refine x_then_n (hK61 _ _ ?_)
      refine wp_seq_k (fun K74 hK75 => ?_)
      refine wp_block ?_
      refine wp_seq_k (fun K76 hK77 => ?_)
      refine c_region ?_
      refine mv hR73 (fun a78 hR79 => ?_)
      refine mv hR79 (fun a80 hR81 => ?_)
      refine m_index (i := j) (j := j * 4) sv hR81 rfl rfl rfl rfl Tryd.underlying22 sz32 (by omega) (by omega) (own_nds (t := R) (k := j) (hS58.res (i := 0) rfl) (by omega)).some_ rfl (by decide) (fun a82 hR83 => ?_)
      refine m_loadEN sv hR83 rfl rfl rfl (own_nds (t := R) (k := j) (hS58.res (i := 0) rfl) (by omega)) Tryd.underlying32 rfl sz32 (by decide) (fun a84 hR85 => ?_)
      refine m_alloc (cs := [.int .i64 0, .int .i64 0, .int .i64 0, .string (⟨#[]⟩ : ByteArray)]) sv hR85 hS58 rfl rfl ze32 rfl (by decide) (fun a86 w87 g88 hR89 hS90 => ?_)
      refine m_store (i := 1) (cs' := [.int .i64 (((nth R j).K)), .int .i64 (((nth R j).N)), .int .i64 (((nth R j).M)), .string ((nth R j).S)]) se hR89 hS90 rfl rfl rfl rfl rfl sz32 rfl rfl rfl (fun a91 w92 hR93 hS94 => ?_)
      refine wpList_nil (x_then_n (hK77 _ _ ?_))
      refine wp_seq_k (fun K95 hK96 => ?_)
      refine c_region ?_
      refine mv hR93 (fun a97 hR98 => ?_)
      refine m_loadN (i := 1) (vs := [.int .i64 (((nth R j).K)), .int .i64 (((nth R j).N)), .int .i64 (((nth R j).M)), .string ((nth R j).S)]) sv hR98 hS94 rfl rfl rfl rfl rfl Tryd.underlying32 rfl sz32 (by decide) (fun a99 hR100 => ?_)
      have hS101 : St w0 Z (rM tA) w92 [.row tA ((R).length) tc 32 4 (encNs R), .box g88 32 [.int .i64 (((nth R j).K)), .int .i64 (((nth R j).N)), .int .i64 (((nth R j).M)), .string ((nth R j).S)]] [] := hS94
      refine k_callV (xs := [.tmp 27]) se hR100 rfl rfl rfl rfl (by decide) ok65 (stripP_calls _ (imm Z w0 [.row tA ((R).length) tc 32 4 (encNs R), .box g88 32 [.int .i64 (((nth R j).K)), .int .i64 (((nth R j).N)), .int .i64 (((nth R j).M)), .string ((nth R j).S)]] _) (fun _ h => h.1) (nth R j)) ?_
      rintro e108 w103 ⟨rfl, hf106⟩
      have hS109 := hS101.below hf106.below
      refine ⟨_, rfl, fun a102 hR104 => ?_⟩
      refine r_not sv hR104 rfl rfl rfl (by decide) (fun a110 hR111 => ?_)
      refine wpList_nil (x_then_n (hK96 _ _ ?_))
      rcases Bool.eq_false_or_eq_true (decide ((nth R j).K = 28)) with h112 | h112
      · skip
        have h113 := of_decide_eq_true h112
        have hR114 := hR111.setb (d := 29) (b := false) rfl (by rw [h112]; rfl)
        refine wp_cond_false (hR114.ev rfl) ?_
        refine wp_skip ?_
        refine x_block_n ?_
        refine x_then_n (hK75 _ _ ?_)
        refine c_region ?_
        refine mv hR114 (fun a115 hR116 => ?_)
        refine r_add (z := ((j + 1 : Nat) : Int)) sv hR116 rfl rfl rfl rfl (by decide) (by omega) (by omega) (by omega) (fun a117 hR118 => ?_)
        refine asg hR118 (fun a119 hR120 => ?_)
        refine wpList_nil ?_
        obtain ⟨hq2, hq3⟩ := del_drop h1 h2 h3 (by omega) (by omega)
        have hS121 := hS109.erase 1
        exact ⟨_, by omega, i, j + 1, R, (hR120.sub (rc rfl (rc rfl (rc rfl (rc rfl (rc rfl (rc rfl rnl))))))), hS121, by omega, by omega, h1, hq2, hq3, rfl⟩
      · skip
        have h122 := of_decide_eq_false h112
        have hR123 := hR111.setb (d := 29) (b := true) rfl (by rw [h112]; rfl)
        refine wp_cond_true (hR123.ev rfl) ?_
        refine wp_seq_k (fun K124 hK125 => ?_)
        refine c_region ?_
        refine mv hR123 (fun a126 hR127 => ?_)
        refine mv hR127 (fun a128 hR129 => ?_)
        refine m_loadN (i := 1) (vs := [.int .i64 (((nth R j).K)), .int .i64 (((nth R j).N)), .int .i64 (((nth R j).M)), .string ((nth R j).S)]) sv hR129 hS109 rfl rfl rfl rfl rfl Tryd.underlying32 rfl sz32 (by decide) (fun a130 hR131 => ?_)
        refine m_index (i := i) (j := i * 4) sv hR131 rfl rfl rfl rfl Tryd.underlying22 sz32 (by omega) (by omega) (own_nds (t := R) (k := i) (hS109.res (i := 0) rfl) (by omega)).some_ rfl (by decide) (fun a132 hR133 => ?_)
        refine m_storeE (f := encN) (i := 0) (k := i) (L := R) (z := (nth R j)) se hR133 hS109 rfl rfl rfl rfl rfl rfl (by omega) encN_len (one1 (f := encN) encN_one) rfl sz32 (fun a134 w135 hR136 hS137 => ?_)
        have hl138 : (R.set (i) (nth R j)).length = (R).length := by simp
        refine wpList_nil (x_then_n (hK125 _ _ (c_region ?_)))
        refine mv hR136 (fun a139 hR140 => ?_)
        refine r_add (z := ((i + 1 : Nat) : Int)) sv hR140 rfl rfl rfl rfl (by decide) (by omega) (by omega) (by omega) (fun a141 hR142 => ?_)
        refine asg hR142 (fun a143 hR144 => ?_)
        refine wpList_nil ?_
        refine x_block_n ?_
        refine x_then_n (hK75 _ _ ?_)
        refine c_region ?_
        refine mv hR144 (fun a145 hR146 => ?_)
        refine r_add (z := ((j + 1 : Nat) : Int)) sv hR146 rfl rfl rfl rfl (by decide) (by omega) (by omega) (by omega) (fun a147 hR148 => ?_)
        refine asg hR148 (fun a149 hR150 => ?_)
        refine wpList_nil ?_
        obtain ⟨hq2, hq3⟩ := del_keep h1 h2 h3 hij (by omega) (by omega)
        have hS151 := hS137.erase 1
        exact ⟨_, by omega, i + 1, j + 1, _, (hR150.sub (rc rfl (rc rfl (rc rfl (rc rfl (rc rfl (rc rfl rnl))))))), hS151, by omega, by omega, by simpa using h1, hq2, hq3, rfl⟩
    · skip
      have hR152 := hR71.setb (d := 19) (b := false) rfl (decide_eq_false h72)
      refine wp_cond_false (hR152.ev rfl) ?_
      refine wp_exit ?_
      refine x_then_e ?_
      refine x_then_e ?_
      refine x_block_eq ?_
      refine x_then_n (hK45 _ _ ?_)
      refine wp_seq_k (fun K153 hK154 => ?_)
      refine c_region ?_
      refine mv hR152 (fun a155 hR156 => ?_)
      refine mv hR156 (fun a157 hR158 => ?_)
      have hcap165 := own_cap (hS58.res (i := 0) rfl)
      refine m_sliceV (lo := some (.tmp 37)) (hi := none) (vlo := (some (.int .i64 ((i : Nat) : Int)))) (vhi := none) (kd := .i64) (kd' := .i64) sv hR158 rfl rfl rfl rfl rfl (i) ((t.length) - (i)) (.inl (by first | rfl | (congr 2; omega))) (.inr ⟨rfl, by omega⟩) Tryd.underlying22 sz32 (by omega) (by decide) (fun a159 A161 c162 hc163 hv164 hR160 => ?_)
      refine m_clear (f := encN) (i := 0) (L := R) (k := i) (z0 := (⟨0, 0, 0, (⟨#[]⟩ : ByteArray)⟩ : Nd)) sv hR160 hS58 rfl rfl rfl rfl hv164 (by omega) Tryd.underlying22 zi32 encN_len (one1 (f := encN) encN_one) rfl _ rfl (fun a166 w167 hR168 hS169 => ?_)
      have hl170 : (R.take (i) ++ List.replicate ((t.length) - (i)) (⟨0, 0, 0, (⟨#[]⟩ : ByteArray)⟩ : Nd) ++ R.drop (i + ((t.length) - (i))) : List Nd).length = (R).length := by simp only [List.length_append, List.length_take, List.length_drop, List.length_replicate]; omega
      refine wpList_nil (x_then_n (hK154 _ _ ?_))
      refine wp_seq_k (fun K171 hK172 => ?_)
      refine c_region ?_
      refine mv hR168 (fun a173 hR174 => ?_)
      refine mv hR174 (fun a175 hR176 => ?_)
      have hcap179 := own_cap (hS169.res (i := 0) rfl)
      refine m_sliceP (q := i) sv hR176 rfl rfl rfl rfl (by omega) Tryd.underlying22 sz32 (by omega) (by decide) (fun a180 hR181 => ?_)
      refine asg hR181 (fun a182 hR183 => ?_)
      refine wpList_nil (x_then_n (hK172 _ _ ?_))
      refine wp_ret ?_
      refine e_ret1 hR183 rfl rfl rfl ?_
      have hS184 := hS169.trim encN_len (i := 0) (L := (R.take (i) ++ List.replicate ((t.length) - (i)) (⟨0, 0, 0, (⟨#[]⟩ : ByteArray)⟩ : Nd) ++ R.drop (i + ((t.length) - (i))))) rfl (i) (by omega)
      have he185 : (R.take (i) ++ List.replicate ((t.length) - (i)) (⟨0, 0, 0, (⟨#[]⟩ : ByteArray)⟩ : Nd) ++ R.drop (i + ((t.length) - (i)))).take (i) = t.filter nPrf := by rw [show j = t.length by omega, List.take_length] at h2; rw [← h2, List.append_assoc, List.take_append_of_le_length (by rw [List.length_take]; omega), List.take_take, Nat.min_self]
      have hS186 := hS184
      rw [he185] at hS186
      refine ⟨?_, hS186.fr, hS186.res (i := 0) rfl⟩
      exact congrArg Ending.returned (ret_s (by first | rfl | (exact congrArg List.length he185; done) | (rw [← he185]; simp; done) | (rw [← he185]; simp; omega) | omega))

set_option maxRecDepth 100000 in
set_option maxHeartbeats 1000000 in
theorem strip_calls (w0 : World) (Z : Nat → Prop) (hZ : ∀ k, Z k → k < w0.heap.size) (tA : Option Addr) (tc : Nat) (t : List Nd) (hShp : Shapes w0 Z) (ht : (dRow 4 tA t.length tc (encNs t)).φ w0 Z) (hsm : sml t) (hl : t.length ≤ 1000000) :
    Calls Tryd.prog 41 [.slice tA t.length tc].toArray w0 (fun e w' => ∃ (rA0 : Option Addr) (rc0 : Nat), e = .returned (.tuple #[.slice rA0 (stA t).length rc0, .int .i64 (chk t)]) ∧ Fr none_ w0 w' ∧ (dRow 4 rA0 ((stA t).length) rc0 (encNs (stA t))).φ w' (nxt Z w0 w')) := by
  have hstart : ∀ k, Z k → imm Z w0 [] w0 k ∧ w0.heap[k]? = w0.heap[k]? := fun k hk => ⟨⟨hZ k hk, fun _ => hk, fun _ h => by cases h⟩, rfl⟩
  have hS3 : St w0 Z none_ w0 [] [dShapes, dRow 4 tA t.length tc (encNs t)] := St.start w0 Z none_ _ (by
    intro d hd
    simp only [List.mem_cons, List.not_mem_nil, or_false] at hd
    rcases hd with rfl | rfl
    · exact Dat.mono _ _ _ _ _ (Nat.le_refl _) hShp hstart
    · exact Dat.mono _ _ _ _ _ (Nat.le_refl _) ht hstart
    )
  refine c_enter Tryd.func41 rfl Tryd.ntmps41 rfl (fun a1 hR2 => ?_)
  refine wp_seq_k (fun K4 hK5 => ?_)
  refine c_region ?_
  refine asg hR2 (fun a6 hR7 => ?_)
  refine asg hR7 (fun a8 hR9 => ?_)
  refine wpList_nil (x_then_n (hK5 _ _ ?_))
  refine wp_seq_k (fun K10 hK11 => ?_)
  refine wp_seq_k (fun K12 hK13 => ?_)
  refine c_region ?_
  refine mv hR9 (fun a14 hR15 => ?_)
  have hS16 : St w0 Z none_ w0 [] [dShapes, dRow 4 tA t.length tc (encNs t)] := hS3
  refine k_call (xs := [.tmp 5]) se hR15 rfl rfl rfl (by decide) ok44 (check_calls _ (imm Z w0 [] _) (fun _ h => h.1) tA tc t (hS16.get (i := 0) rfl) (hS16.get (i := 1) rfl) (by first | assumption | omega | (simp; done) | (simp; omega)) (by first | assumption | omega | (simp; done) | (simp; omega))) ?_
  rintro e23 w18 ⟨rfl, hf21⟩
  have hS24 := hS16.below hf21.below
  refine ⟨_, rfl, fun a17 hR19 => ?_⟩
  refine asg hR19 (fun a25 hR26 => ?_)
  refine wpList_nil (x_then_n (hK13 _ _ ?_))
  refine wp_seq_k (fun K27 hK28 => ?_)
  refine c_region ?_
  refine mv hR26 (fun a29 hR30 => ?_)
  refine r_neq sv hR30 rfl rfl rfl rfl (by decide) (fun a31 hR32 => ?_)
  refine wpList_nil (x_then_n (hK28 _ _ ?_))
  rcases Decidable.em (((chk t)) = 0) with h33 | h33
  · skip
    have hR34 := hR32.setb (d := 8) (b := false) rfl (by rw [(decide_eq_true h33)]; rfl)
    refine wp_cond_false (hR34.ev rfl) ?_
    refine wp_skip ?_
    refine x_then_n (hK11 _ _ ?_)
    refine wp_seq_k (fun K35 hK36 => ?_)
    refine c_region ?_
    refine mv hR34 (fun a37 hR38 => ?_)
    have hS39 : St w0 Z none_ w18 [] [dShapes, dRow 4 tA t.length tc (encNs t)] := hS24
    refine k_call (xs := [.tmp 10]) se hR38 rfl rfl rfl (by decide) ok51 (cloneN_calls _ (imm Z w0 [] _) (fun _ h => h.1) tA tc t (hS39.get (i := 1) rfl) (by first | assumption | omega | (simp; done) | (simp; omega))) ?_
    rintro e50 w41 ⟨A45, c46, rfl, hf44, hd47, hf48⟩
    have hS51 := hS39.callO hf44 hd47 hf48
    refine ⟨_, rfl, fun a40 hR42 => ?_⟩
    have hS52 : St w0 Z none_ w41 [.row A45 t.length c46 32 4 (encNs t)] [dShapes, dRow 4 tA t.length tc (encNs t)] := hS51
    refine k_call (xs := [.tmp 11, .func 65]) se hR42 rfl rfl rfl (by decide) ok64 (delete_calls _ (imm Z w0 [.row A45 t.length c46 32 4 (encNs t)] _) (fun _ h => h.1) A45 c46 t (hS52.res (i := 0) rfl) (imm_row (i := 0) rfl) (by first | assumption | omega | (simp; done) | (simp; omega))) ?_
    rintro e59 w54 ⟨rfl, hf57, hb58⟩
    have hS60 := hS52.callR (i := 0) rfl hf57 hb58
    refine ⟨_, rfl, fun a53 hR55 => ?_⟩
    refine asg hR55 (fun a61 hR62 => ?_)
    refine asg hR62 (fun a63 hR64 => ?_)
    refine wpList_nil (x_then_n (hK36 _ _ ?_))
    refine wp_ret ?_
    refine e_ret2 hR64 rfl rfl rfl rfl ?_
    have he65 : stA t = t.filter nPrf := stA_ok (by assumption)
    rw [he65]
    have hc69 := own_cap (hS60.res (i := 0) rfl)
    obtain ⟨hS66, hrow67⟩ := hS60.row_data (i := 0) rfl (fun _ h => h)
    have hS68 := hS66.data (dRow 4 A45 ((t.filter nPrf).length) c46 (encNs (t.filter nPrf))) ⟨hc69, hrow67⟩
    refine ⟨A45, c46, ?_, hS68.fr, ⟨by have := (hS68.row (i := 2) rfl).1; exact this, ((hS68.row (i := 2) rfl).2.mono (fun _ hk => ⟨imm_nxt hk, rfl⟩))⟩⟩
    exact ret_t2 rfl (ret_i (by first | rfl | omega | assumption | exact decide_eq_true (by assumption) | (have q0 := h33; (try simp at q0);  omega) | (simp [h33]; done) | (simp [] at *; done) | (simp [h33] <;> omega) | (rw [Bool.eq_iff_iff]; simp [h33] <;> omega) | (rw [Bool.eq_iff_iff]; simp [h33] at * <;> omega)))
  · skip
    have hR70 := hR32.setb (d := 8) (b := true) rfl (by rw [(decide_eq_false h33)]; rfl)
    refine wp_cond_true (hR70.ev rfl) ?_
    refine wp_seq_k (fun K71 hK72 => ?_)
    refine c_region ?_
    refine mv hR70 (fun a73 hR74 => ?_)
    refine asg hR74 (fun a75 hR76 => ?_)
    refine asg hR76 (fun a77 hR78 => ?_)
    refine wpList_nil (x_then_n (hK72 _ _ ?_))
    refine wp_ret ?_
    refine x_then_r ?_
    refine e_ret2 hR78 rfl rfl rfl rfl ?_
    have he79 : stA t = [] := stA_no (by assumption)
    rw [he79]
    refine ⟨none, 0, ?_, hS24.fr, ⟨Nat.le_refl _, RowI.nil _ _ _ _⟩⟩
    exact ret_t2 rfl (ret_i (by first | rfl | omega | assumption | exact decide_eq_true (by assumption) | (have q0 := h33; (try simp at q0);  omega) | (simp [h33]; done) | (simp [] at *; done) | (simp [h33] <;> omega) | (rw [Bool.eq_iff_iff]; simp [h33] <;> omega) | (rw [Bool.eq_iff_iff]; simp [h33] at * <;> omega)))
end Go.Proofs.YtobgdeffhdefeaaDoor
/- Contracts of functions, one theorem each: what the call returns, and that nothing old is changed. Printed by gen.py. -/
namespace Go.Proofs.YtobgdeffhdefeaaDoor
open Go Go.RowKit
set_option linter.unusedSimpArgs false
set_option linter.unusedVariables false

set_option maxRecDepth 100000 in
set_option maxHeartbeats 1000000 in
theorem replace_calls (w0 : World) (Z : Nat → Prop) (hZ : ∀ k, Z k → k < w0.heap.size) (tA : Option Addr) (tc : Nat) (t : List Nd) (i : Nat) (j : Nat) (vA : Option Addr) (vc : Nat) (v : List Nd) (ht : (Res.row tA (t).length tc 32 4 (encNs t)).holds w0) (htz : ∀ k, rM tA k → ¬ Z k) (hv : (dRow 4 vA v.length vc (encNs v)).φ w0 Z) (hl : t.length ≤ 1000000) (hij : i < j) (hj : j ≤ t.length) (hvl : v.length = 1) :
    Calls Tryd.prog 53 [.slice tA t.length tc, .int .i64 ((i : Nat) : Int), .int .i64 ((j : Nat) : Int), .slice vA v.length vc].toArray w0 (fun e w' => e = .returned (.slice tA (t.take i ++ v ++ t.drop j).length tc) ∧ Fr (rM tA) w0 w' ∧ (Res.row tA (t.take i ++ v ++ t.drop j).length tc 32 4 (encNs (t.take i ++ v ++ t.drop j))).holds w') := by
  have hstart : ∀ k, Z k → imm Z w0 [.row tA ((t).length) tc 32 4 (encNs t)] w0 k ∧ w0.heap[k]? = w0.heap[k]? := fun k hk => imm_startR hZ htz hk
  have hS3 : St w0 Z (rM tA) w0 [.row tA ((t).length) tc 32 4 (encNs t)] [dRow 4 vA v.length vc (encNs v)] := St.startR w0 Z _ _ _ _ _ _ _ ht (by
    intro d hd
    simp only [List.mem_cons, List.not_mem_nil, or_false] at hd
    rcases hd with rfl
    · exact Dat.mono _ _ _ _ _ (Nat.le_refl _) hv hstart
    )
  refine c_enter Tryd.func53 rfl Tryd.ntmps53 rfl (fun a1 hR2 => ?_)
  refine wp_seq_k (fun K4 hK5 => ?_)
  refine c_region ?_
  refine asg hR2 (fun a6 hR7 => ?_)
  refine wpList_nil (x_then_n (hK5 _ _ ?_))
  refine wp_seq_k (fun K8 hK9 => ?_)
  refine c_region ?_
  refine mv hR7 (fun a10 hR11 => ?_)
  refine mv hR11 (fun a12 hR13 => ?_)
  refine mv hR13 (fun a14 hR15 => ?_)
  have hcap22 := own_cap (hS3.res (i := 0) rfl)
  refine m_sliceV (lo := some (.tmp 16)) (hi := some (.tmp 17)) (vlo := (some (.int .i64 ((i : Nat) : Int)))) (vhi := (some (.int .i64 ((j : Nat) : Int)))) (kd := .i64) (kd' := .i64) sv hR15 rfl rfl rfl rfl rfl (i) ((j) - (i)) (.inl (by first | rfl | (congr 2; omega))) (.inl (by congr 2; omega)) Tryd.underlying22 sz32 (by omega) (by decide) (fun a16 A18 c19 hc20 hv21 hR17 => ?_)
  refine wpList_nil (x_then_n (hK9 _ _ ?_))
  refine wp_seq_k (fun K23 hK24 => ?_)
  refine wp_seq_k (fun K25 hK26 => ?_)
  refine c_region ?_
  refine mv hR17 (fun a27 hR28 => ?_)
  refine mv hR28 (fun a29 hR30 => ?_)
  refine r_eql sv hR30 rfl rfl rfl rfl (by decide) (fun a31 hR32 => ?_)
  refine wpList_nil (x_then_n (hK26 _ _ ?_))
  rcases Decidable.em (((i : Nat) : Int) = ((j : Nat) : Int)) with h33 | h33
  · skip
    exfalso; omega
  · skip
    have hR34 := hR32.setb (d := 21) (b := false) rfl (decide_eq_false h33)
    refine wp_cond_false (hR34.ev rfl) ?_
    refine wp_skip ?_
    refine x_then_n (hK24 _ _ ?_)
    refine wp_seq_k (fun K35 hK36 => ?_)
    refine wp_seq_k (fun K37 hK38 => ?_)
    refine c_region ?_
    refine mv hR34 (fun a39 hR40 => ?_)
    refine mv hR40 (fun a41 hR42 => ?_)
    refine r_len sv hR42 rfl rfl rfl rfl Tryd.underlying22 (by decide) (fun a43 hR44 => ?_)
    refine r_eql sv hR44 rfl rfl rfl rfl (by decide) (fun a45 hR46 => ?_)
    refine wpList_nil (x_then_n (hK38 _ _ ?_))
    rcases Decidable.em (((j : Nat) : Int) = ((t.length : Nat) : Int)) with h47 | h47
    · skip
      have hR48 := hR46.setb (d := 29) (b := true) rfl (decide_eq_true h47)
      refine wp_cond_true (hR48.ev rfl) ?_
      refine wp_seq_k (fun K49 hK50 => ?_)
      refine c_region ?_
      refine mv hR48 (fun a51 hR52 => ?_)
      refine mv hR52 (fun a53 hR54 => ?_)
      have hcap57 := own_cap (hS3.res (i := 0) rfl)
      refine m_sliceP (q := i) sv hR54 rfl rfl rfl rfl (by omega) Tryd.underlying22 sz32 (by omega) (by decide) (fun a58 hR59 => ?_)
      refine mv hR59 (fun a60 hR61 => ?_)
      refine m_appendFit (f := encN) (i := 0) (L := t) (K := v) sv hR61 hS3 rfl rfl rfl rfl rfl (by omega) (by omega) Tryd.underlying22 sz32 encN_len (one1 (f := encN) encN_one) (by first | rfl | omega) (hS3.row (i := 0) rfl).2.news _ rfl (by decide) (fun a62 w63 hR64 hS65 => ?_)
      have hl66 : (t.take (i) ++ v ++ t.drop (i + v.length)).length = (t).length := by simp only [List.length_append, List.length_take, List.length_drop]; omega
      refine asg hR64 (fun a67 hR68 => ?_)
      refine wpList_nil (x_then_n (hK50 _ _ ?_))
      refine wp_seq_k (fun K69 hK70 => ?_)
      refine wp_seq_k (fun K71 hK72 => ?_)
      refine c_region ?_
      refine mv hR68 (fun a73 hR74 => ?_)
      refine r_len sv hR74 rfl rfl rfl rfl Tryd.underlying22 (by decide) (fun a75 hR76 => ?_)
      refine mv hR76 (fun a77 hR78 => ?_)
      refine r_len sv hR78 rfl rfl rfl rfl Tryd.underlying22 (by decide) (fun a79 hR80 => ?_)
      refine r_lss sv hR80 rfl rfl rfl rfl (by decide) (fun a81 hR82 => ?_)
      refine wpList_nil (x_then_n (hK72 _ _ ?_))
      rcases Decidable.em (((i + v.length : Nat) : Int) < ((t.length : Nat) : Int)) with h83 | h83
      · skip
        have hR84 := hR82.setb (d := 39) (b := true) rfl (decide_eq_true h83)
        refine wp_cond_true (hR84.ev rfl) ?_
        refine c_region ?_
        refine mv hR84 (fun a85 hR86 => ?_)
        refine mv hR86 (fun a87 hR88 => ?_)
        refine r_len sv hR88 rfl rfl rfl rfl Tryd.underlying22 (by decide) (fun a89 hR90 => ?_)
        have hcap97 := own_cap (hS65.res (i := 0) rfl)
        refine m_sliceV (lo := some (.tmp 42)) (hi := none) (vlo := (some (.int .i64 ((i + v.length : Nat) : Int)))) (vhi := none) (kd := .i64) (kd' := .i64) sv hR90 rfl rfl rfl rfl rfl (i + v.length) ((t.length) - (i + v.length)) (.inl (by first | rfl | (congr 2; omega))) (.inr ⟨rfl, by omega⟩) Tryd.underlying22 sz32 (by omega) (by decide) (fun a91 A93 c94 hc95 hv96 hR92 => ?_)
        refine m_clear (f := encN) (i := 0) (L := (t.take (i) ++ v ++ t.drop (i + v.length))) (k := (i + v.length)) (z0 := (⟨0, 0, 0, (⟨#[]⟩ : ByteArray)⟩ : Nd)) sv hR92 hS65 rfl rfl rfl rfl hv96 (by omega) Tryd.underlying22 zi32 encN_len (one1 (f := encN) encN_one) rfl _ rfl (fun a98 w99 hR100 hS101 => ?_)
        have hl102 : ((t.take (i) ++ v ++ t.drop (i + v.length)).take (i + v.length) ++ List.replicate ((t.length) - (i + v.length)) (⟨0, 0, 0, (⟨#[]⟩ : ByteArray)⟩ : Nd) ++ (t.take (i) ++ v ++ t.drop (i + v.length)).drop ((i + v.length) + ((t.length) - (i + v.length))) : List Nd).length = (t.take (i) ++ v ++ t.drop (i + v.length)).length := by simp only [List.length_append, List.length_take, List.length_drop, List.length_replicate]; omega
        refine wpList_nil (x_then_n (hK70 _ _ ?_))
        refine wp_seq_k (fun K103 hK104 => ?_)
        refine c_region ?_
        refine mv hR100 (fun a105 hR106 => ?_)
        refine asg hR106 (fun a107 hR108 => ?_)
        refine wpList_nil (x_then_n (hK104 _ _ ?_))
        refine wp_ret ?_
        refine x_then_r ?_
        refine e_ret1 hR108 rfl rfl rfl ?_
        have hS109 := hS101.trim encN_len (i := 0) (L := ((t.take (i) ++ v ++ t.drop (i + v.length)).take (i + v.length) ++ List.replicate ((t.length) - (i + v.length)) (⟨0, 0, 0, (⟨#[]⟩ : ByteArray)⟩ : Nd) ++ (t.take (i) ++ v ++ t.drop (i + v.length)).drop ((i + v.length) + ((t.length) - (i + v.length))))) rfl (i + v.length) (by omega)
        have he110 : ((t.take (i) ++ v ++ t.drop (i + v.length)).take (i + v.length) ++ List.replicate ((t.length) - (i + v.length)) (⟨0, 0, 0, (⟨#[]⟩ : ByteArray)⟩ : Nd) ++ (t.take (i) ++ v ++ t.drop (i + v.length)).drop ((i + v.length) + ((t.length) - (i + v.length)))).take (i + v.length) = t.take i ++ v ++ t.drop j := by first | exact rep_end (by omega) (by omega) rfl | exact rep_end2 (by omega) (by omega) rfl (List.append_assoc _ _ _)
        have hS111 := hS109
        rw [he110] at hS111
        refine ⟨?_, hS111.fr, hS111.res (i := 0) rfl⟩
        exact congrArg Ending.returned (ret_s (by first | rfl | (exact congrArg List.length he110; done) | (rw [← he110]; simp; done) | (rw [← he110]; simp; omega) | omega))
      · skip
        have hR112 := hR82.setb (d := 39) (b := false) rfl (decide_eq_false h83)
        refine wp_cond_false (hR112.ev rfl) ?_
        refine wp_skip ?_
        refine x_then_n (hK70 _ _ ?_)
        refine wp_seq_k (fun K113 hK114 => ?_)
        refine c_region ?_
        refine mv hR112 (fun a115 hR116 => ?_)
        refine asg hR116 (fun a117 hR118 => ?_)
        refine wpList_nil (x_then_n (hK114 _ _ ?_))
        refine wp_ret ?_
        refine x_then_r ?_
        refine e_ret1 hR118 rfl rfl rfl ?_
        have hS119 := hS65.trim encN_len (i := 0) (L := (t.take (i) ++ v ++ t.drop (i + v.length))) rfl (i + v.length) (by omega)
        have he120 : (t.take (i) ++ v ++ t.drop (i + v.length)).take (i + v.length) = t.take i ++ v ++ t.drop j := by first | exact rep_end (by omega) (by omega) rfl | exact rep_end2 (by omega) (by omega) rfl (List.append_assoc _ _ _)
        have hS121 := hS119
        rw [he120] at hS121
        refine ⟨?_, hS121.fr, hS121.res (i := 0) rfl⟩
        exact congrArg Ending.returned (ret_s (by first | rfl | (exact congrArg List.length he120; done) | (rw [← he120]; simp; done) | (rw [← he120]; simp; omega) | omega))
    · skip
      have hR122 := hR46.setb (d := 29) (b := false) rfl (decide_eq_false h47)
      refine wp_cond_false (hR122.ev rfl) ?_
      refine wp_skip ?_
      refine x_then_n (hK36 _ _ ?_)
      refine wp_seq_k (fun K123 hK124 => ?_)
      obtain ⟨J125, hJ126, hS127⟩ := hS3.agree
      refine d_region2 (S := (fun x => agr w0 J125 x ∧ True)) (n := 13) mixed rfl hS127 (pan_then pan_body) (fun Q130 hP131 hN132 w128 hS129 => ?_)
      have hSw133 : agr w0 J125 w128 ∧ True := ⟨⟨(hS129.get (i := 1) rfl).1, fun k hk => ((hS129.get (i := 1) rfl).2 k hk).2⟩, trivial⟩
      refine dt 0 rfl hP131 hR122 (want_n rfl) (fun x hx => r_move (sy hR122) hR122 rfl rfl rfl (by decide) gt) hSw133 (fun a134 hR135 => ?_)
      refine dt 1 rfl hP131 hR135 (want_n rfl) (fun x hx => r_move (sy hR135) hR135 rfl rfl rfl (by decide) gt) hSw133 (fun a136 hR137 => ?_)
      refine dt 2 rfl hP131 hR137 (want_n rfl) (fun x hx => m_sliceP (q := i) (sy hR137) hR137 rfl rfl rfl rfl (by omega) Tryd.underlying22 sz32 (by omega) (by decide) gt) hSw133 (fun a140 hR141 => ?_)
      refine dt 3 rfl hP131 hR141 (want_n rfl) (fun x hx => r_len (sy hR141) hR141 rfl rfl rfl rfl Tryd.underlying22 (by decide) gt) hSw133 (fun a142 hR143 => ?_)
      refine dt 4 rfl hP131 hR143 (want_n rfl) (fun x hx => r_move (sy hR143) hR143 rfl rfl rfl (by decide) gt) hSw133 (fun a144 hR145 => ?_)
      refine dt 5 rfl hP131 hR145 (want_n rfl) (fun x hx => r_len (sy hR145) hR145 rfl rfl rfl rfl Tryd.underlying22 (by decide) gt) hSw133 (fun a146 hR147 => ?_)
      refine dt 6 rfl hP131 hR147 (want_n rfl) (fun x hx => r_add (z := ((i + v.length : Nat) : Int)) (sy hR147) hR147 rfl rfl rfl rfl (by decide) (by omega) (by omega) (by omega) gt) hSw133 (fun a148 hR149 => ?_)
      refine dt 7 rfl hP131 hR149 (want_n rfl) (fun x hx => r_move (sy hR149) hR149 rfl rfl rfl (by decide) gt) hSw133 (fun a150 hR151 => ?_)
      refine dt 8 rfl hP131 hR151 (want_n rfl) (fun x hx => r_move (sy hR151) hR151 rfl rfl rfl (by decide) gt) hSw133 (fun a152 hR153 => ?_)
      refine dt 9 rfl hP131 hR153 (want_n rfl) (fun x hx => m_sliceA (lo := some (.tmp 53)) (hi := none) (vlo := (some (.int .i64 ((j : Nat) : Int)))) (vhi := none) (kd := .i64) (kd' := .i64) (sy hR153) hR153 rfl rfl rfl rfl rfl (j) ((t.length) - (j)) (.inl (by first | rfl | (congr 2; omega))) (.inr ⟨rfl, by omega⟩) Tryd.underlying22 sz32 (by omega) (by decide) gt) hSw133 (fun a156 hR157 => ?_)
      refine dt 10 rfl hP131 hR157 (want_n rfl) (fun x hx => r_len (sy hR157) hR157 rfl rfl rfl rfl Tryd.underlying22 (by decide) gt) hSw133 (fun a158 hR159 => ?_)
      refine dt 11 rfl hP131 hR159 (want_n rfl) (fun x hx => r_add (z := (((i : Nat) : Int) + ((v.length : Nat) : Int) + ((t.length : Nat) : Int) - ((j : Nat) : Int))) (sy hR159) hR159 rfl rfl rfl rfl (by decide) (by omega) (by omega) (by omega) gt) hSw133 (fun a160 hR161 => ?_)
      refine dt 12 rfl hP131 hR161 (want_n rfl) (fun x hx => r_assign (sy hR161) hR161 rfl rfl rfl (by decide) gt) hSw133 (fun a162 hR163 => ?_)
      refine wpAnyH_done (by kernel_rfl) (hN132 _ _ ?_) _
      refine x_then_n (hK124 _ _ ?_)
      refine wp_seq_k (fun K164 hK165 => ?_)
      refine wp_seq_k (fun K166 hK167 => ?_)
      refine c_region ?_
      refine mv hR163 (fun a168 hR169 => ?_)
      refine mv hR169 (fun a170 hR171 => ?_)
      refine r_cap sv hR171 rfl rfl rfl rfl Tryd.underlying22 (by decide) (fun a172 hR173 => ?_)
      refine r_gtr sv hR173 rfl rfl rfl rfl (by decide) (fun a174 hR175 => ?_)
      refine wpList_nil (x_then_n (hK167 _ _ ?_))
      rcases Decidable.em (((tc : Nat) : Int) < (((i : Nat) : Int) + ((v.length : Nat) : Int) + ((t.length : Nat) : Int) - ((j : Nat) : Int))) with h176 | h176
      · skip
        exfalso; omega
      · skip
        have hR177 := hR175.setb (d := 60) (b := false) rfl (decide_eq_false h176)
        refine wp_cond_false (hR177.ev rfl) ?_
        refine wp_skip ?_
        refine x_then_n (hK165 _ _ ?_)
        refine wp_seq_k (fun K178 hK179 => ?_)
        refine c_region ?_
        refine mv hR177 (fun a180 hR181 => ?_)
        refine mv hR181 (fun a182 hR183 => ?_)
        have hcap186 := own_cap (hS129.res (i := 0) rfl)
        refine m_sliceP (q := (i + v.length + t.length) - (j)) sv hR183 rfl rfl rfl rfl (by omega) Tryd.underlying22 sz32 (by omega) (by decide) (fun a187 hR188 => ?_)
        refine asg hR188 (fun a189 hR190 => ?_)
        refine wpList_nil (x_then_n (hK179 _ _ ?_))
        refine wp_seq_k (fun K191 hK192 => ?_)
        refine wp_seq_k (fun K193 hK194 => ?_)
        refine c_region ?_
        refine mv hR190 (fun a195 hR196 => ?_)
        refine mv hR196 (fun a197 hR198 => ?_)
        refine r_len sv hR198 rfl rfl rfl rfl Tryd.underlying22 (by decide) (fun a199 hR200 => ?_)
        refine r_add (z := ((i + v.length : Nat) : Int)) sv hR200 rfl rfl rfl rfl (by decide) (by omega) (by omega) (by omega) (fun a201 hR202 => ?_)
        refine mv hR202 (fun a203 hR204 => ?_)
        refine r_leq sv hR204 rfl rfl rfl rfl (by decide) (fun a205 hR206 => ?_)
        refine wpList_nil (x_then_n (hK194 _ _ ?_))
        rcases Decidable.em (((i + v.length : Nat) : Int) ≤ ((j : Nat) : Int)) with h207 | h207
        · skip
          have hR208 := hR206.setb (d := 92) (b := true) rfl (decide_eq_true h207)
          refine wp_cond_true (hR208.ev rfl) ?_
          refine wp_seq_k (fun K209 hK210 => ?_)
          refine c_region ?_
          refine mv hR208 (fun a211 hR212 => ?_)
          refine mv hR212 (fun a213 hR214 => ?_)
          have hcap221 := own_cap (hS129.res (i := 0) rfl)
          refine m_sliceV (lo := some (.tmp 94)) (hi := none) (vlo := (some (.int .i64 ((i : Nat) : Int)))) (vhi := none) (kd := .i64) (kd' := .i64) sv hR214 rfl rfl rfl rfl rfl (i) ((v.length + t.length) - (j)) (.inl (by first | rfl | (congr 2; omega))) (.inr ⟨rfl, by omega⟩) Tryd.underlying22 sz32 (by omega) (by decide) (fun a215 A217 c218 hc219 hv220 hR216 => ?_)
          refine mv hR216 (fun a222 hR223 => ?_)
          have hk228 : (v).length = Nat.min (v.length) ((v.length + t.length) - (j)) := by show _ = min _ _; first | omega | (simp only [List.length_append, List.length_take, List.length_drop, List.length_cons, List.length_nil]; omega)
          have := Nat.min_le_right (v.length) ((v.length + t.length) - (j))
          refine m_copy (f := encN) (i := 0) (L := t) (K := v) (k := i) sv hR223 hS129 rfl rfl rfl rfl rfl hv220 (by omega) Tryd.underlying22 sz32 encN_len (one1 (f := encN) encN_one) hk228 (hS129.row (i := 0) rfl).2.news _ rfl (by decide) (fun a224 w225 hR226 hS227 => ?_)
          have hl229 : (t.take (i) ++ v ++ t.drop (i + v.length)).length = (t).length := by simp only [List.length_append, List.length_take, List.length_drop]; omega
          refine wpList_nil (x_then_n (hK210 _ _ ?_))
          refine wp_seq_k (fun K230 hK231 => ?_)
          obtain ⟨J232, hJ233, hS234⟩ := hS227.agree
          refine d_region2 (S := (fun x => agr w225 J232 x ∧ True)) (n := 10) mixed rfl hS234 (pan_then (pan_then pan_body)) (fun Q237 hP238 hN239 w235 hS236 => ?_)
          have hSw240 : agr w225 J232 w235 ∧ True := ⟨⟨(hS236.get (i := 2) rfl).1, fun k hk => ((hS236.get (i := 2) rfl).2 k hk).2⟩, trivial⟩
          refine dt 0 rfl hP238 hR226 (want_n rfl) (fun x hx => r_move (sy hR226) hR226 rfl rfl rfl (by decide) gt) hSw240 (fun a241 hR242 => ?_)
          refine dt 1 rfl hP238 hR242 (want_n rfl) (fun x hx => r_move (sy hR242) hR242 rfl rfl rfl (by decide) gt) hSw240 (fun a243 hR244 => ?_)
          refine dt 2 rfl hP238 hR244 (want_n rfl) (fun x hx => r_move (sy hR244) hR244 rfl rfl rfl (by decide) gt) hSw240 (fun a245 hR246 => ?_)
          refine dt 3 rfl hP238 hR246 (want_n rfl) (fun x hx => r_len (sy hR246) hR246 rfl rfl rfl rfl Tryd.underlying22 (by decide) gt) hSw240 (fun a247 hR248 => ?_)
          refine dt 4 rfl hP238 hR248 (want_n rfl) (fun x hx => r_add (z := ((i + v.length : Nat) : Int)) (sy hR248) hR248 rfl rfl rfl rfl (by decide) (by omega) (by omega) (by omega) gt) hSw240 (fun a249 hR250 => ?_)
          refine dt 5 rfl hP238 hR250 (want_n rfl) (fun x hx => m_sliceA (lo := some (.tmp 102)) (hi := none) (vlo := (some (.int .i64 ((i + v.length : Nat) : Int)))) (vhi := none) (kd := .i64) (kd' := .i64) (sy hR250) hR250 rfl rfl rfl rfl rfl (i + v.length) ((t.length) - (j)) (.inl (by first | rfl | (congr 2; omega))) (.inr ⟨rfl, by omega⟩) Tryd.underlying22 sz32 (by omega) (by decide) gt) hSw240 (fun a253 hR254 => ?_)
          refine dt 6 rfl hP238 hR254 (want_n rfl) (fun x hx => r_move (sy hR254) hR254 rfl rfl rfl (by decide) gt) hSw240 (fun a255 hR256 => ?_)
          refine dt 7 rfl hP238 hR256 (want_n rfl) (fun x hx => r_move (sy hR256) hR256 rfl rfl rfl (by decide) gt) hSw240 (fun a257 hR258 => ?_)
          refine dt 8 rfl hP238 hR258 (want_n rfl) (fun x hx => m_sliceA (lo := some (.tmp 105)) (hi := none) (vlo := (some (.int .i64 ((j : Nat) : Int)))) (vhi := none) (kd := .i64) (kd' := .i64) (sy hR258) hR258 rfl rfl rfl rfl rfl (j) ((t.length) - (j)) (.inl (by first | rfl | (congr 2; omega))) (.inr ⟨rfl, by omega⟩) Tryd.underlying22 sz32 (by omega) (by decide) gt) hSw240 (fun a261 hR262 => ?_)
          refine d_one (i := 9) (by kernel_rfl) ?_
          have hk267 : (((t.take (i) ++ v ++ t.drop (i + v.length)).drop (j)).take ((t.length) - (j))).length = Nat.min ((t.length) - (j)) ((t.length) - (j)) := by show _ = min _ _; first | omega | (simp only [List.length_append, List.length_take, List.length_drop, List.length_cons, List.length_nil]; omega)
          have := Nat.min_le_right ((t.length) - (j)) ((t.length) - (j))
          refine m_copy (f := encN) (i := 0) (L := (t.take (i) ++ v ++ t.drop (i + v.length))) (K := (((t.take (i) ++ v ++ t.drop (i + v.length)).drop (j)).take ((t.length) - (j)))) (k := (i + v.length)) (st_opV rfl (want_n rfl)) hR262 hS236 rfl rfl rfl rfl rfl (cut_A (by omega)) (by omega) Tryd.underlying22 sz32 encN_len (one1 (f := encN) encN_one) hk267 (own_cut_cells (f := encN) (i := 0) (L := (t.take (i) ++ v ++ t.drop (i + v.length))) (k := j) (q := (t.length) - (j)) hS236 rfl (cut_A (by omega)) encN_len (by omega)) _ rfl (by decide) (fun a263 w264 hR265 hS266 => ?_)
          have hl268 : ((t.take (i) ++ v ++ t.drop (i + v.length)).take (i + v.length) ++ (((t.take (i) ++ v ++ t.drop (i + v.length)).drop (j)).take ((t.length) - (j))) ++ (t.take (i) ++ v ++ t.drop (i + v.length)).drop ((i + v.length) + (((t.take (i) ++ v ++ t.drop (i + v.length)).drop (j)).take ((t.length) - (j))).length)).length = (t.take (i) ++ v ++ t.drop (i + v.length)).length := by simp only [List.length_append, List.length_take, List.length_drop]; omega
          have hSw269 : agr w225 J232 w264 ∧ True := ⟨⟨(hS266.get (i := 2) rfl).1, fun k hk => ((hS266.get (i := 2) rfl).2 k hk).2⟩, trivial⟩
          refine ⟨hSw269, ?_⟩
          refine wpAnyH_done (by kernel_rfl) (hN239 _ _ ?_) _
          refine x_then_n (hK231 _ _ ?_)
          refine wp_seq_k (fun K270 hK271 => ?_)
          refine c_region ?_
          refine mv hR265 (fun a272 hR273 => ?_)
          refine mv hR273 (fun a274 hR275 => ?_)
          have hcap282 := own_cap (hS266.res (i := 0) rfl)
          refine m_sliceV (lo := some (.tmp 109)) (hi := none) (vlo := (some (.int .i64 (((i : Nat) : Int) + ((v.length : Nat) : Int) + ((t.length : Nat) : Int) - ((j : Nat) : Int))))) (vhi := none) (kd := .i64) (kd' := .i64) sv hR275 rfl rfl rfl rfl rfl ((i + v.length + t.length) - (j)) ((j) - (i + v.length)) (.inl (by first | rfl | (congr 2; omega))) (.inr ⟨rfl, by omega⟩) Tryd.underlying22 sz32 (by omega) (by decide) (fun a276 A278 c279 hc280 hv281 hR277 => ?_)
          refine m_clear (f := encN) (i := 0) (L := ((t.take (i) ++ v ++ t.drop (i + v.length)).take (i + v.length) ++ (((t.take (i) ++ v ++ t.drop (i + v.length)).drop (j)).take ((t.length) - (j))) ++ (t.take (i) ++ v ++ t.drop (i + v.length)).drop ((i + v.length) + (((t.take (i) ++ v ++ t.drop (i + v.length)).drop (j)).take ((t.length) - (j))).length))) (k := ((i + v.length + t.length) - (j))) (z0 := (⟨0, 0, 0, (⟨#[]⟩ : ByteArray)⟩ : Nd)) sv hR277 hS266 rfl rfl rfl rfl hv281 (by omega) Tryd.underlying22 zi32 encN_len (one1 (f := encN) encN_one) rfl _ rfl (fun a283 w284 hR285 hS286 => ?_)
          have hl287 : (((t.take (i) ++ v ++ t.drop (i + v.length)).take (i + v.length) ++ (((t.take (i) ++ v ++ t.drop (i + v.length)).drop (j)).take ((t.length) - (j))) ++ (t.take (i) ++ v ++ t.drop (i + v.length)).drop ((i + v.length) + (((t.take (i) ++ v ++ t.drop (i + v.length)).drop (j)).take ((t.length) - (j))).length)).take ((i + v.length + t.length) - (j)) ++ List.replicate ((j) - (i + v.length)) (⟨0, 0, 0, (⟨#[]⟩ : ByteArray)⟩ : Nd) ++ ((t.take (i) ++ v ++ t.drop (i + v.length)).take (i + v.length) ++ (((t.take (i) ++ v ++ t.drop (i + v.length)).drop (j)).take ((t.length) - (j))) ++ (t.take (i) ++ v ++ t.drop (i + v.length)).drop ((i + v.length) + (((t.take (i) ++ v ++ t.drop (i + v.length)).drop (j)).take ((t.length) - (j))).length)).drop (((i + v.length + t.length) - (j)) + ((j) - (i + v.length))) : List Nd).length = ((t.take (i) ++ v ++ t.drop (i + v.length)).take (i + v.length) ++ (((t.take (i) ++ v ++ t.drop (i + v.length)).drop (j)).take ((t.length) - (j))) ++ (t.take (i) ++ v ++ t.drop (i + v.length)).drop ((i + v.length) + (((t.take (i) ++ v ++ t.drop (i + v.length)).drop (j)).take ((t.length) - (j))).length)).length := by simp only [List.length_append, List.length_take, List.length_drop, List.length_replicate]; omega
          refine wpList_nil (x_then_n (hK271 _ _ ?_))
          refine wp_seq_k (fun K288 hK289 => ?_)
          refine c_region ?_
          refine mv hR285 (fun a290 hR291 => ?_)
          refine asg hR291 (fun a292 hR293 => ?_)
          refine wpList_nil (x_then_n (hK289 _ _ ?_))
          refine wp_ret ?_
          refine x_then_r ?_
          refine e_ret1 hR293 rfl rfl rfl ?_
          have hS294 := hS286.trim encN_len (i := 0) (L := (((t.take (i) ++ v ++ t.drop (i + v.length)).take (i + v.length) ++ (((t.take (i) ++ v ++ t.drop (i + v.length)).drop (j)).take ((t.length) - (j))) ++ (t.take (i) ++ v ++ t.drop (i + v.length)).drop ((i + v.length) + (((t.take (i) ++ v ++ t.drop (i + v.length)).drop (j)).take ((t.length) - (j))).length)).take ((i + v.length + t.length) - (j)) ++ List.replicate ((j) - (i + v.length)) (⟨0, 0, 0, (⟨#[]⟩ : ByteArray)⟩ : Nd) ++ ((t.take (i) ++ v ++ t.drop (i + v.length)).take (i + v.length) ++ (((t.take (i) ++ v ++ t.drop (i + v.length)).drop (j)).take ((t.length) - (j))) ++ (t.take (i) ++ v ++ t.drop (i + v.length)).drop ((i + v.length) + (((t.take (i) ++ v ++ t.drop (i + v.length)).drop (j)).take ((t.length) - (j))).length)).drop (((i + v.length + t.length) - (j)) + ((j) - (i + v.length))))) rfl ((i + v.length + t.length) - (j)) (by omega)
          have he295 : (((t.take (i) ++ v ++ t.drop (i + v.length)).take (i + v.length) ++ (((t.take (i) ++ v ++ t.drop (i + v.length)).drop (j)).take ((t.length) - (j))) ++ (t.take (i) ++ v ++ t.drop (i + v.length)).drop ((i + v.length) + (((t.take (i) ++ v ++ t.drop (i + v.length)).drop (j)).take ((t.length) - (j))).length)).take ((i + v.length + t.length) - (j)) ++ List.replicate ((j) - (i + v.length)) (⟨0, 0, 0, (⟨#[]⟩ : ByteArray)⟩ : Nd) ++ ((t.take (i) ++ v ++ t.drop (i + v.length)).take (i + v.length) ++ (((t.take (i) ++ v ++ t.drop (i + v.length)).drop (j)).take ((t.length) - (j))) ++ (t.take (i) ++ v ++ t.drop (i + v.length)).drop ((i + v.length) + (((t.take (i) ++ v ++ t.drop (i + v.length)).drop (j)).take ((t.length) - (j))).length)).drop (((i + v.length + t.length) - (j)) + ((j) - (i + v.length)))).take ((i + v.length + t.length) - (j)) = t.take i ++ v ++ t.drop j := rep_mid2 (by omega) (by omega) (by omega) rfl rfl rfl rfl
          have hS296 := hS294
          rw [he295] at hS296
          refine ⟨?_, hS296.fr, hS296.res (i := 0) rfl⟩
          exact congrArg Ending.returned (ret_s (by first | rfl | (exact congrArg List.length he295; done) | (rw [← he295]; simp; done) | (rw [← he295]; simp; omega) | omega))
        · skip
          exfalso; omega
end Go.Proofs.YtobgdeffhdefeaaDoor
/- Contracts of functions, one theorem each: what the call returns, and that nothing old is changed. Printed by gen.py. -/
namespace Go.Proofs.YtobgdeffhdefeaaDoor
open Go Go.RowKit
set_option linter.unusedSimpArgs false
set_option linter.unusedVariables false

set_option maxRecDepth 100000 in
set_option maxHeartbeats 1000000 in
theorem proofsMk_calls (w0 : World) (Z : Nat → Prop) (hZ : ∀ k, Z k → k < w0.heap.size) (tA : Option Addr) (tc : Nat) (t : List Nd) (ht : (dRow 4 tA t.length tc (encNs t)).φ w0 Z) (hl : t.length ≤ 1000000) :
    Calls Tryd.prog 52 [.slice tA t.length tc].toArray w0 (fun e w' => ∃ q0_0 : Nat, e = .returned (.func (.func 70) #[] #[.pointer (some ⟨q0_0, 0, none⟩)]) ∧ Fr none_ w0 w' ∧ (dBox q0_0 [.slice tA t.length tc]).φ w' (nxt Z w0 w')) := by
  have hstart : ∀ k, Z k → imm Z w0 [] w0 k ∧ w0.heap[k]? = w0.heap[k]? := fun k hk => ⟨⟨hZ k hk, fun _ => hk, fun _ h => by cases h⟩, rfl⟩
  have hS3 : St w0 Z none_ w0 [] [dRow 4 tA t.length tc (encNs t)] := St.start w0 Z none_ _ (by
    intro d hd
    simp only [List.mem_cons, List.not_mem_nil, or_false] at hd
    rcases hd with rfl
    · exact Dat.mono _ _ _ _ _ (Nat.le_refl _) ht hstart
    )
  refine c_enter Tryd.func52 rfl Tryd.ntmps52 rfl (fun a1 hR2 => ?_)
  refine wp_seq_k (fun K4 hK5 => ?_)
  refine c_region ?_
  refine m_box (cs := [.slice tA t.length tc]) sv hR2 hS3 rfl rfl rfl rfl (by decide) (fun a6 w7 g8 hR9 hS10 => ?_)
  refine asg hR9 (fun a11 hR12 => ?_)
  refine wpList_nil (x_then_n (hK5 _ _ ?_))
  refine wp_seq_k (fun K13 hK14 => ?_)
  refine c_region ?_
  refine r_makeFunc sv hR12 rfl rfl rfl (by decide) (fun a15 hR16 => ?_)
  refine asg hR16 (fun a17 hR18 => ?_)
  refine wpList_nil (x_then_n (hK14 _ _ ?_))
  refine wp_ret ?_
  refine e_ret1 hR18 rfl rfl rfl ?_
  obtain ⟨hS19, hbx20⟩ := hS10.box_data (i := 0) rfl (fun _ h => h)
  have hS21 := hS19.data (dBox g8 [.slice tA t.length tc]) hbx20
  refine ⟨g8, ?_, hS21.fr, ((hS21.get (i := 1) rfl).imp imm_nxt id)⟩
  exact congrArg Ending.returned rfl

set_option maxRecDepth 100000 in
set_option maxHeartbeats 1000000 in
theorem nodesMk_calls (w0 : World) (Z : Nat → Prop) (hZ : ∀ k, Z k → k < w0.heap.size) (tA : Option Addr) (tc : Nat) (t : List Nd) (ht : (dRow 4 tA t.length tc (encNs t)).φ w0 Z) (hl : t.length ≤ 1000000) :
    Calls Tryd.prog 140 [.slice tA t.length tc].toArray w0 (fun e w' => ∃ q0_0 : Nat, e = .returned (.func (.func 146) #[] #[.pointer (some ⟨q0_0, 0, none⟩)]) ∧ Fr none_ w0 w' ∧ (dBox q0_0 [.slice tA t.length tc]).φ w' (nxt Z w0 w')) := by
  have hstart : ∀ k, Z k → imm Z w0 [] w0 k ∧ w0.heap[k]? = w0.heap[k]? := fun k hk => ⟨⟨hZ k hk, fun _ => hk, fun _ h => by cases h⟩, rfl⟩
  have hS3 : St w0 Z none_ w0 [] [dRow 4 tA t.length tc (encNs t)] := St.start w0 Z none_ _ (by
    intro d hd
    simp only [List.mem_cons, List.not_mem_nil, or_false] at hd
    rcases hd with rfl
    · exact Dat.mono _ _ _ _ _ (Nat.le_refl _) ht hstart
    )
  refine c_enter Tryd.func140 rfl Tryd.ntmps140 rfl (fun a1 hR2 => ?_)
  refine wp_seq_k (fun K4 hK5 => ?_)
  refine c_region ?_
  refine m_box (cs := [.slice tA t.length tc]) sv hR2 hS3 rfl rfl rfl rfl (by decide) (fun a6 w7 g8 hR9 hS10 => ?_)
  refine asg hR9 (fun a11 hR12 => ?_)
  refine wpList_nil (x_then_n (hK5 _ _ ?_))
  refine wp_seq_k (fun K13 hK14 => ?_)
  refine c_region ?_
  refine r_makeFunc sv hR12 rfl rfl rfl (by decide) (fun a15 hR16 => ?_)
  refine asg hR16 (fun a17 hR18 => ?_)
  refine wpList_nil (x_then_n (hK14 _ _ ?_))
  refine wp_ret ?_
  refine e_ret1 hR18 rfl rfl rfl ?_
  obtain ⟨hS19, hbx20⟩ := hS10.box_data (i := 0) rfl (fun _ h => h)
  have hS21 := hS19.data (dBox g8 [.slice tA t.length tc]) hbx20
  refine ⟨g8, ?_, hS21.fr, ((hS21.get (i := 1) rfl).imp imm_nxt id)⟩
  exact congrArg Ending.returned rfl
end Go.Proofs.YtobgdeffhdefeaaDoor
/- Contracts of functions, one theorem each: what the call returns, and that nothing old is changed. Printed by gen.py. -/
namespace Go.Proofs.YtobgdeffhdefeaaDoor
open Go Go.RowKit
set_option linter.unusedSimpArgs false
set_option linter.unusedVariables false

set_option maxRecDepth 100000 in
set_option maxHeartbeats 1000000 in
theorem erase_calls (w0 : World) (Z : Nat → Prop) (hZ : ∀ k, Z k → k < w0.heap.size) (tA : Option Addr) (tc : Nat) (t : List Nd) (hShp : Shapes w0 Z) (ht : (dRow 4 tA t.length tc (encNs t)).φ w0 Z) (hsm : sml t) (hl : t.length ≤ 1000000) :
    Calls Tryd.prog 28 [.slice tA t.length tc].toArray w0 (fun e w' => ∃ (rA0 : Option Addr) (rc0 : Nat), e = .returned (.tuple #[.slice rA0 (erA t).length rc0, .int .i64 (chk t)]) ∧ Fr none_ w0 w' ∧ (dRow 4 rA0 ((erA t).length) rc0 (encNs (erA t))).φ w' (nxt Z w0 w')) := by
  have hstart : ∀ k, Z k → imm Z w0 [] w0 k ∧ w0.heap[k]? = w0.heap[k]? := fun k hk => ⟨⟨hZ k hk, fun _ => hk, fun _ h => by cases h⟩, rfl⟩
  have hS3 : St w0 Z none_ w0 [] [dShapes, dRow 4 tA t.length tc (encNs t)] := St.start w0 Z none_ _ (by
    intro d hd
    simp only [List.mem_cons, List.not_mem_nil, or_false] at hd
    rcases hd with rfl | rfl
    · exact Dat.mono _ _ _ _ _ (Nat.le_refl _) hShp hstart
    · exact Dat.mono _ _ _ _ _ (Nat.le_refl _) ht hstart
    )
  refine c_enterM Tryd.func28 rfl Tryd.ntmps28 rfl (fun a1 hR2 => ?_)
  refine wp_seq_k (fun K4 hK5 => ?_)
  refine c_region ?_
  refine asg hR2 (fun a6 hR7 => ?_)
  refine asg hR7 (fun a8 hR9 => ?_)
  refine wpList_nil (x_then_n (hK5 _ _ ?_))
  refine wp_seq_k (fun K10 hK11 => ?_)
  refine wp_seq_k (fun K12 hK13 => ?_)
  refine c_region ?_
  refine mv hR9 (fun a14 hR15 => ?_)
  have hS16 : St w0 Z none_ w0 [] [dShapes, dRow 4 tA t.length tc (encNs t)] := hS3
  refine k_call (xs := [.tmp 8]) se hR15 rfl rfl rfl (by decide) ok44 (check_calls _ (imm Z w0 [] _) (fun _ h => h.1) tA tc t (hS16.get (i := 0) rfl) (hS16.get (i := 1) rfl) (by first | assumption | omega | (simp; done) | (simp; omega)) (by first | assumption | omega | (simp; done) | (simp; omega))) ?_
  rintro e23 w18 ⟨rfl, hf21⟩
  have hS24 := hS16.below hf21.below
  refine ⟨_, rfl, fun a17 hR19 => ?_⟩
  refine asg hR19 (fun a25 hR26 => ?_)
  refine wpList_nil (x_then_n (hK13 _ _ ?_))
  refine wp_seq_k (fun K27 hK28 => ?_)
  refine c_region ?_
  refine mv hR26 (fun a29 hR30 => ?_)
  refine r_neq sv hR30 rfl rfl rfl rfl (by decide) (fun a31 hR32 => ?_)
  refine wpList_nil (x_then_n (hK28 _ _ ?_))
  rcases Decidable.em (((chk t)) = 0) with h33 | h33
  · skip
    have hR34 := hR32.setb (d := 11) (b := false) rfl (by rw [(decide_eq_true h33)]; rfl)
    refine wp_cond_false (hR34.ev rfl) ?_
    refine wp_skip ?_
    refine x_then_n (hK11 _ _ ?_)
    refine wp_seq_k (fun K35 hK36 => ?_)
    refine c_region ?_
    refine mv hR34 (fun a37 hR38 => ?_)
    have hS39 : St w0 Z none_ w18 [] [dShapes, dRow 4 tA t.length tc (encNs t)] := hS24
    refine k_call (xs := [.tmp 13]) se hR38 rfl rfl rfl (by decide) ok51 (cloneN_calls _ (imm Z w0 [] _) (fun _ h => h.1) tA tc t (hS39.get (i := 1) rfl) (by first | assumption | omega | (simp; done) | (simp; omega))) ?_
    rintro e50 w41 ⟨A45, c46, rfl, hf44, hd47, hf48⟩
    have hS51 := hS39.callO hf44 hd47 hf48
    refine ⟨_, rfl, fun a40 hR42 => ?_⟩
    refine m_alloc (cs := [.slice none 0 0]) sv hR42 hS51 rfl rfl ze22 rfl (by decide) (fun a52 w53 g54 hR55 hS56 => ?_)
    refine m_store (i := 1) (cs' := [.slice A45 t.length c46]) se hR55 hS56 rfl rfl rfl rfl rfl sz22 rfl rfl rfl (fun a57 w58 hR59 hS60 => ?_)
    refine wpList_nil (x_then_n (hK36 _ _ ?_))
    refine wp_seq_k (fun K61 hK62 => ?_)
    refine wp_seq_k (fun K63 hK64 => ?_)
    refine c_region ?_
    refine mv hR59 (fun a65 hR66 => ?_)
    have hS67 : St w0 Z none_ w58 [.row A45 t.length c46 32 4 (encNs t), .box g54 22 [.slice A45 t.length c46]] [dShapes, dRow 4 tA t.length tc (encNs t)] := hS60
    refine k_call (xs := [.tmp 15]) se hR66 rfl rfl rfl (by decide) ok52 (proofsMk_calls _ (imm Z w0 [.row A45 t.length c46 32 4 (encNs t), .box g54 22 [.slice A45 t.length c46]] _) (fun _ h => h.1) tA tc t (hS67.get (i := 1) rfl) (by first | assumption | omega | (simp; done) | (simp; omega))) ?_
    rintro e76 w69 ⟨q73, rfl, hf72, hd74⟩
    have hS77 := hS67.below hf72.below
    have hS78 := hS77.data (dBox q73 [.slice tA t.length tc]) (hd74.imp (fun hk => nxt_imm hS67 hk) id)
    refine ⟨_, rfl, fun a68 hR70 => ?_⟩
    refine wpList_nil (x_then_n (hK64 _ _ ?_))
    refine wp_block ?_
    have hS79 : St w0 Z none_ w69 [.row A45 t.length c46 32 4 (encNs t), .box g54 22 [.slice A45 t.length c46]] [dShapes, dRow 4 tA t.length tc (encNs t), dBox q73 [.slice tA t.length tc]] := hS78
    have hR80 : Reg a68 27 [(1000000, .bool false), (2, .slice none 0 0), (3, .int .i64 0), (5, .pointer (some ⟨g54, 0, none⟩)), (16, .func (.func 70) #[] #[.pointer (some ⟨q73, 0, none⟩)])] := (hR70.sub (rc rfl (rc rfl (rc rfl (rc rfl (rc rfl rnl))))))
    refine w_range (xs := prfL t) (encs := (fun x : Int × Int => #[.int .i64 x.1, .int .i64 x.2])) (hR80.ev rfl) ok70 (proofs_yields _ (imm Z w0 [.row A45 t.length c46 32 4 (encNs t), .box g54 22 [.slice A45 t.length c46]] _) q73 tA tc t (hS79.get (i := 0) rfl) (hS79.get (i := 1) rfl) (hS79.get (i := 2) rfl) (by first | assumption | omega | (simp; done) | (simp; omega)) (by first | assumption | omega | (simp; done) | (simp; omega))) (fun _ => rfl) hS79 (fun _ h => h) (fun (pre : List (Int × Int)) (mm : List Res) => ∃ Ao : Option Addr, ∃ co : Nat, mm = [.row Ao ((repP t pre).length) co 32 4 (encNs (repP t pre)), .box g54 22 [.slice Ao ((repP t pre).length) co]]) (fun _ _ _ => False) ⟨A45, c46, rfl⟩ ?_ ?_ ?_
    · skip
      rintro l81 pre x w82 m1 hp ⟨Ao, co, rfl⟩ hS83
      obtain ⟨xi, xj, rfl, hxi, hxj, hxy⟩ := prfL_nat hp
      refine (?_ : ∀ a0, Reg a0 27 [(18, .int .i64 ((xj : Nat) : Int)), (17, .int .i64 ((xi : Nat) : Int)), (1000000, .bool false), (2, .slice none 0 0), (3, .int .i64 0), (5, .pointer (some ⟨g54, 0, none⟩)), (16, .func (.func 70) #[] #[.pointer (some ⟨q73, 0, none⟩)])] → Code.wpIn (rI l81) 0 _ _ _ a0 w82) _ (Reg.round2n hR80 (by decide) (by decide) rfl)
      intro a84 hR85
      have hpl := repP_le (List.IsPrefix.trans (List.prefix_append _ _) hp)
      have hpj := repP_len hxj hxy
      refine wpIn_seq_k (fun K86 hK87 => ?_)
      refine ci_region (by kernel_rfl) (out_then (out_then (fun _ _ h => h))) ?_
      refine asg hR85 (fun a88 hR89 => ?_)
      refine wpList_nil (x_then_n (hK87 _ _ ?_))
      refine ci_region (by kernel_rfl) (out_then (fun _ _ h => h)) ?_
      refine asg hR89 (fun a90 hR91 => ?_)
      refine wpList_nil ?_
      have hS92 : St w0 Z none_ w82 [.row Ao ((repP t pre).length) co 32 4 (encNs (repP t pre)), .box g54 22 [.slice Ao ((repP t pre).length) co]] [dShapes, dRow 4 tA t.length tc (encNs t), dBox q73 [.slice tA t.length tc], dAg w82 (imm Z w0 [.row Ao ((repP t pre).length) co 32 4 (encNs (repP t pre)), .box g54 22 [.slice Ao ((repP t pre).length) co]] w82)] := hS83
      refine x_then_n ⟨_, _, 3, hS92, rfl, (fun _ h => False.elim h), (fun _ h => False.elim h), fun w93 hS94 => ?_⟩
      refine wpIn_block ?_
      refine ci_region (by kernel_rfl) (out_block out_rPost) ?_
      refine m_load (i := 1) sv hR91 hS94 rfl rfl rfl rfl rfl Tryd.underlying22 rfl (by decide) (fun a95 hR96 => ?_)
      refine mv hR96 (fun a97 hR98 => ?_)
      refine mv hR98 (fun a99 hR100 => ?_)
      refine r_add (z := ((xj + 1 : Nat) : Int)) sv hR100 rfl rfl rfl rfl (by decide) (by omega) (by omega) (by omega) (fun a101 hR102 => ?_)
      refine m_build (ps := [(0, .const (.int .i64 29))]) (v := .agg #[.int .i64 29, .int .i64 0, .int .i64 0, .string (⟨#[]⟩ : ByteArray)]) sv hR102 rfl rfl rfl (fun _ => by kernel_rfl) (by decide) (fun a103 hR104 => ?_)
      refine m_buildSlice (ps := [(0, .tmp 23)]) (cs := [.int .i64 29, .int .i64 0, .int .i64 0, .string (⟨#[]⟩ : ByteArray)]) sv hR104 hS94 rfl rfl rfl Tryd.underlying22 zi32 rfl rfl (by kernel_rfl) rfl (by decide) (fun a105 w106 g107 hR108 hS109 => ?_)
      have hS110 : St w0 Z none_ w106 [.row Ao ((repP t pre).length) co 32 4 (encNs (repP t pre)), .box g54 22 [.slice Ao ((repP t pre).length) co], .row (some ⟨g107, 0, none⟩) 1 1 32 4 (encNs ([(⟨29, 0, 0, (⟨#[]⟩ : ByteArray)⟩ : Nd)]))] [dShapes, dRow 4 tA t.length tc (encNs t), dBox q73 [.slice tA t.length tc], dAg w93 (imm Z w0 [.row Ao ((repP t pre).length) co 32 4 (encNs (repP t pre)), .box g54 22 [.slice Ao ((repP t pre).length) co]] w93)] := hS109
      have hc114 := own_cap (hS110.res (i := 2) rfl)
      obtain ⟨hS111, hrow112⟩ := hS110.row_data (i := 2) rfl (fun _ h => h)
      have hS113 := hS111.data (dRow 4 (some ⟨g107, 0, none⟩) 1 1 (encNs ([(⟨29, 0, 0, (⟨#[]⟩ : ByteArray)⟩ : Nd)]))) ⟨hc114, hrow112⟩
      refine k_call (xs := [.tmp 19, .tmp 20, .tmp 22, .tmp 24]) se hR108 rfl rfl rfl (by decide) ok53 (replace_calls _ (imm Z w0 [.row Ao ((repP t pre).length) co 32 4 (encNs (repP t pre)), .box g54 22 [.slice Ao ((repP t pre).length) co]] _) (fun _ h => h.1) Ao co (repP t pre) xi (xj + 1) (some ⟨g107, 0, none⟩) 1 ([(⟨29, 0, 0, (⟨#[]⟩ : ByteArray)⟩ : Nd)]) (hS113.res (i := 0) rfl) (imm_row (i := 0) rfl) (hS113.get (i := 4) rfl) (by first | assumption | omega | (simp; done) | (simp; omega)) (by first | assumption | omega | (simp; done) | (simp; omega)) (by first | assumption | omega | (simp; done) | (simp; omega)) (by first | assumption | omega | (simp; done) | (simp; omega))) ?_
      rintro e121 w116 ⟨rfl, hf119, hb120⟩
      have hS122 := hS113.callR (i := 0) rfl hf119 hb120
      refine ⟨_, rfl, fun a115 hR117 => ?_⟩
      refine m_store (i := 1) (cs' := [.slice Ao (((repP t pre).take xi ++ ([(⟨29, 0, 0, (⟨#[]⟩ : ByteArray)⟩ : Nd)]) ++ (repP t pre).drop (xj + 1)).length) co]) se hR117 hS122 rfl rfl rfl rfl rfl sz22 rfl rfl rfl (fun a123 w124 hR125 hS126 => ?_)
      refine wpList_nil ?_
      refine x_block_n ?_
      have hS127 : St w0 Z none_ w124 [.row Ao (((repP t pre).take xi ++ ([(⟨29, 0, 0, (⟨#[]⟩ : ByteArray)⟩ : Nd)]) ++ (repP t pre).drop (xj + 1)).length) co 32 4 (encNs ((repP t pre).take xi ++ ([(⟨29, 0, 0, (⟨#[]⟩ : ByteArray)⟩ : Nd)]) ++ (repP t pre).drop (xj + 1))), .box g54 22 [.slice Ao (((repP t pre).take xi ++ ([(⟨29, 0, 0, (⟨#[]⟩ : ByteArray)⟩ : Nd)]) ++ (repP t pre).drop (xj + 1)).length) co]] [dShapes, dRow 4 tA t.length tc (encNs t), dBox q73 [.slice tA t.length tc], dAg w93 (imm Z w0 [.row Ao ((repP t pre).length) co 32 4 (encNs (repP t pre)), .box g54 22 [.slice Ao ((repP t pre).length) co]] w93), dRow 4 (some ⟨g107, 0, none⟩) 1 1 (encNs ([(⟨29, 0, 0, (⟨#[]⟩ : ByteArray)⟩ : Nd)]))] := hS126
      have he128 : (repP t pre).take xi ++ ([(⟨29, 0, 0, (⟨#[]⟩ : ByteArray)⟩ : Nd)]) ++ (repP t pre).drop (xj + 1) = repP t (pre ++ [(((xi : Nat) : Int), ((xj : Nat) : Int))]) := repP_step
      have hS129 := hS127
      rw [he128] at hS129
      exact ⟨_, _, 3, hS129, rfl, _, _, rfl⟩
    · skip
      rintro D130 m1 w131 ⟨Ao, co, rfl⟩ hS132
      have hR133 := Reg.marked hR80 D130
      refine x_block_n ?_
      refine x_then_n (hK62 _ _ ?_)
      refine wp_seq_k (fun K134 hK135 => ?_)
      refine c_region ?_
      refine m_load (i := 1) sv hR133 hS132 rfl rfl rfl rfl rfl Tryd.underlying22 rfl (by decide) (fun a136 hR137 => ?_)
      refine asg hR137 (fun a138 hR139 => ?_)
      refine asg hR139 (fun a140 hR141 => ?_)
      refine wpList_nil (x_then_n (hK135 _ _ ?_))
      refine wp_ret ?_
      have hc145 := own_cap (hS132.res (i := 0) rfl)
      obtain ⟨hS142, hrow143⟩ := hS132.row_data (i := 0) rfl (fun _ h => h)
      have hS144 := hS142.data (dRow 4 Ao ((repP t (prfL t)).length) co (encNs (repP t (prfL t)))) ⟨hc145, hrow143⟩
      have hS146 : St w0 Z none_ w131 [.box g54 22 [.slice Ao ((repP t (prfL t)).length) co]] [dShapes, dRow 4 tA t.length tc (encNs t), dBox q73 [.slice tA t.length tc], dMark w0.heap.size D130, dRow 4 Ao ((repP t (prfL t)).length) co (encNs (repP t (prfL t)))] := hS144
      obtain ⟨hD147, hS148⟩ := hS146.shut (i := 3) rfl [dRow 4 Ao ((repP t (prfL t)).length) co (encNs (repP t (prfL t)))] (by intro d hd; simp only [List.mem_cons, List.not_mem_nil, or_false] at hd; rcases hd with rfl; exact ⟨List.mem_of_getElem? (i := 4) rfl, datC_row (by decide) _ _ _ _⟩)
      refine m_mark (.inl rfl) hR141 rfl hD147 (res2 hR141 rfl rfl rfl _) ?_
      have he149 : erA t = repP t (prfL t) := by rw [erA_ok (by assumption), ← era_eq (meas_chk (by assumption))]
      rw [he149]
      refine ⟨Ao, co, ?_, hS148.fr, ⟨by have := (hS148.row (i := 0) rfl).1; exact this, ((hS148.row (i := 0) rfl).2.mono (fun _ hk => ⟨imm_nxt hk, rfl⟩))⟩⟩
      exact ret_t2 rfl (ret_i (by first | rfl | omega | assumption | exact decide_eq_true (by assumption) | (have q0 := h33; (try simp at q0);  omega) | (simp [h33]; done) | (simp [] at *; done) | (simp [h33] <;> omega) | (rw [Bool.eq_iff_iff]; simp [h33] <;> omega) | (rw [Bool.eq_iff_iff]; simp [h33] at * <;> omega)))
    · skip
      rintro _ _ _ _ _ _ h _
      exact h.elim
  · skip
    have hR150 := hR32.setb (d := 11) (b := true) rfl (by rw [(decide_eq_false h33)]; rfl)
    refine wp_cond_true (hR150.ev rfl) ?_
    refine wp_seq_k (fun K151 hK152 => ?_)
    refine c_region ?_
    refine mv hR150 (fun a153 hR154 => ?_)
    refine asg hR154 (fun a155 hR156 => ?_)
    refine asg hR156 (fun a157 hR158 => ?_)
    refine wpList_nil (x_then_n (hK152 _ _ ?_))
    refine wp_ret ?_
    refine x_then_r ?_
    refine m_none (.inl rfl) hR158 rfl (res2 hR158 rfl rfl rfl _) ?_
    have he159 : erA t = [] := erA_no (by assumption)
    rw [he159]
    refine ⟨none, 0, ?_, hS24.fr, ⟨Nat.le_refl _, RowI.nil _ _ _ _⟩⟩
    exact ret_t2 rfl (ret_i (by first | rfl | omega | assumption | exact decide_eq_true (by assumption) | (have q0 := h33; (try simp at q0);  omega) | (simp [h33]; done) | (simp [] at *; done) | (simp [h33] <;> omega) | (rw [Bool.eq_iff_iff]; simp [h33] <;> omega) | (rw [Bool.eq_iff_iff]; simp [h33] at * <;> omega)))
end Go.Proofs.YtobgdeffhdefeaaDoor
/- Contracts of functions, one theorem each: what the call returns, and that nothing old is changed. Printed by gen.py. -/
namespace Go.Proofs.YtobgdeffhdefeaaDoor
open Go Go.RowKit
set_option linter.unusedSimpArgs false
set_option linter.unusedVariables false

set_option maxRecDepth 100000 in
set_option maxHeartbeats 1000000 in
theorem revS_calls (w0 : World) (Z : Nat → Prop) (hZ : ∀ k, Z k → k < w0.heap.size) (tA : Option Addr) (tc : Nat) (t : List Sl) (ht : (Res.row tA (t).length tc 22 1 (encSs t)).holds w0) (htz : ∀ k, rM tA k → ¬ Z k) (hl : t.length ≤ 1000000) :
    Calls Tryd.prog 55 [.slice tA t.length tc].toArray w0 (fun e w' => e = .returned (.tuple #[]) ∧ Fr (rM tA) w0 w' ∧ (Res.row tA (t.reverse).length tc 22 1 (encSs t.reverse)).holds w') := by
  have hstart : ∀ k, Z k → imm Z w0 [.row tA ((t).length) tc 22 1 (encSs t)] w0 k ∧ w0.heap[k]? = w0.heap[k]? := fun k hk => imm_startR hZ htz hk
  have hS3 : St w0 Z (rM tA) w0 [.row tA ((t).length) tc 22 1 (encSs t)] [] := St.startR w0 Z _ _ _ _ _ _ _ ht (by
    intro d hd
    cases hd
    )
  refine c_enter Tryd.func55 rfl Tryd.ntmps55 rfl (fun a1 hR2 => ?_)
  refine wp_seq_k (fun K4 hK5 => ?_)
  refine c_region ?_
  refine mv hR2 (fun a6 hR7 => ?_)
  refine r_len sv hR7 rfl rfl rfl rfl Tryd.underlying39 (by decide) (fun a8 hR9 => ?_)
  refine r_sub (z := (((t.length : Nat) : Int) - 1)) sv hR9 rfl rfl rfl rfl (by decide) (by omega) (by omega) (by omega) (fun a10 hR11 => ?_)
  refine asg hR11 (fun a12 hR13 => ?_)
  refine asg hR13 (fun a14 hR15 => ?_)
  refine wpList_nil (x_then_n (hK5 _ _ ?_))
  refine wp_block ?_
  refine wp_loop_ghost (fun gn ga gw => ∃ k : Nat, ∃ R : List Sl, (Reg ga 28 [(1000000, .bool false), (0, .slice tA t.length tc), (2, .int .i64 ((k : Nat) : Int)), (3, .int .i64 (((t.length : Nat) : Int) - ((k : Nat) : Int) - 1))]) ∧ (St w0 Z (rM tA) gw [.row tA ((R).length) tc 22 1 (encSs R)] []) ∧ (RevTo t R k) ∧ (2 * k ≤ t.length + 1) ∧ (t.length - k) = gn) _ ⟨0, t, (hR15.sub (rc rfl (rc rfl (rc rfl (rc rfl rnl))))), hS3, RevTo.zero t, by omega, rfl⟩ ?_
  rintro r16 a17 w18 ⟨k, R, hR19, hS20, hr, hkn, hn21⟩
  have hrl := hr.len
  refine wp_seq_k (fun K22 hK23 => ?_)
  refine wp_seq_k (fun K24 hK25 => ?_)
  refine c_region ?_
  refine mv hR19 (fun a26 hR27 => ?_)
  refine mv hR27 (fun a28 hR29 => ?_)
  refine r_lss sv hR29 rfl rfl rfl rfl (by decide) (fun a30 hR31 => ?_)
  refine wpList_nil (x_then_n (hK25 _ _ ?_))
  rcases Decidable.em (((k : Nat) : Int) < (((t.length : Nat) : Int) - ((k : Nat) : Int) - 1)) with h32 | h32
  · skip
    have hR33 := hR31.setb (d := 9) (b := true) rfl (decide_eq_true h32)
    refine wp_cond_true (hR33.ev rfl) ?_
    refine wp_skip ?_
    refine x_then_n (hK23 _ _ ?_)
    refine wp_seq_k (fun K34 hK35 => ?_)
    refine wp_block ?_
    obtain ⟨J36, hJ37, hS38⟩ := hS20.agree
    refine dl_region2 (S := (fun x => agr w18 J36 x ∧ (Res.row tA ((R).length) tc 22 1 (encSs R)).holds x ∧ True)) (n := 16) [13, 14, 15] mixed rfl hS38 (pan_block (pan_then (pan_then (pan_block pan_body)))) (fun Q41 hP42 hN43 w39 hS40 => ?_)
    have hSw44 : agr w18 J36 w39 ∧ (Res.row tA ((R).length) tc 22 1 (encSs R)).holds w39 ∧ True := ⟨⟨(hS40.get (i := 0) rfl).1, fun k hk => ((hS40.get (i := 0) rfl).2 k hk).2⟩, (hS40.res (i := 0) rfl), trivial⟩
    refine dl_takeA (i := 0) rfl (by kernel_rfl) (by kernel_rfl) (by kernel_rfl) (fun c a w h => hP42 c _ _ _ _ h) rfl (by decide) hR33 (want_n rfl) (fun x => r_move (sy hR33) hR33 rfl rfl rfl (by decide) gt) (fun a45 hR46 => ?_)
    refine dl_takeA (i := 1) rfl (by kernel_rfl) (by kernel_rfl) (by kernel_rfl) (fun c a w h => hP42 c _ _ _ _ h) rfl (by decide) hR46 (want_n rfl) (fun x => r_move (sy hR46) hR46 rfl rfl rfl (by decide) gt) (fun a47 hR48 => ?_)
    refine dl_takeA (i := 2) rfl (by kernel_rfl) (by kernel_rfl) (by kernel_rfl) (fun c a w h => hP42 c _ _ _ _ h) rfl (by decide) hR48 (want_n rfl) (fun x => r_move (sy hR48) hR48 rfl rfl rfl (by decide) gt) (fun a49 hR50 => ?_)
    refine dl_takeA (i := 3) rfl (by kernel_rfl) (by kernel_rfl) (by kernel_rfl) (fun c a w h => hP42 c _ _ _ _ h) rfl (by decide) hR50 (want_n rfl) (fun x => r_move (sy hR50) hR50 rfl rfl rfl (by decide) gt) (fun a51 hR52 => ?_)
    refine dl_takeA (i := 4) rfl (by kernel_rfl) (by kernel_rfl) (by kernel_rfl) (fun c a w h => hP42 c _ _ _ _ h) rfl (by decide) hR52 (want_n rfl) (fun x => r_move (sy hR52) hR52 rfl rfl rfl (by decide) gt) (fun a53 hR54 => ?_)
    refine dl_takeA (i := 5) rfl (by kernel_rfl) (by kernel_rfl) (by kernel_rfl) (fun c a w h => hP42 c _ _ _ _ h) rfl (by decide) hR54 (want_n rfl) (fun x => r_move (sy hR54) hR54 rfl rfl rfl (by decide) gt) (fun a55 hR56 => ?_)
    refine dl_takeA (i := 6) rfl (by kernel_rfl) (by kernel_rfl) (by kernel_rfl) (fun c a w h => hP42 c _ _ _ _ h) rfl (by decide) hR56 (want_n rfl) (fun x => m_index (i := (t.length) - (k + 1)) (j := ((t.length) - (k + 1)) * 1) (sy hR56) hR56 rfl rfl rfl rfl Tryd.underlying39 sz22 (by omega) (by omega) (own_ss (t := R) (k := (t.length) - (k + 1)) (hS40.res (i := 0) rfl) (by omega)).some_ rfl (by decide) gt) (fun a57 hR58 => ?_)
    refine dl_take (i := 7) rfl (by kernel_rfl) (by kernel_rfl) (by kernel_rfl) (by kernel_rfl) (fun c a w h => hP42 c _ _ _ _ h) rfl (by decide) hR58 (want_n rfl) (fun x hx => m_loadE (sy hR58) hR58 rfl rfl rfl 0 (((t.length) - (k + 1)) * 1) (own_ss (t := R) (k := (t.length) - (k + 1)) hx.2.1 (by omega)) rfl rfl Tryd.underlying22 rfl (by decide) gt) hSw44 (fun a59 hR60 => ?_)
    refine dl_takeA (i := 8) rfl (by kernel_rfl) (by kernel_rfl) (by kernel_rfl) (fun c a w h => hP42 c _ _ _ _ h) rfl (by decide) hR60 (want_n rfl) (fun x => r_move (sy hR60) hR60 rfl rfl rfl (by decide) gt) (fun a61 hR62 => ?_)
    refine dl_takeA (i := 9) rfl (by kernel_rfl) (by kernel_rfl) (by kernel_rfl) (fun c a w h => hP42 c _ _ _ _ h) rfl (by decide) hR62 (want_n rfl) (fun x => r_move (sy hR62) hR62 rfl rfl rfl (by decide) gt) (fun a63 hR64 => ?_)
    refine dl_takeA (i := 10) rfl (by kernel_rfl) (by kernel_rfl) (by kernel_rfl) (fun c a w h => hP42 c _ _ _ _ h) rfl (by decide) hR64 (want_n rfl) (fun x => m_index (i := k) (j := k * 1) (sy hR64) hR64 rfl rfl rfl rfl Tryd.underlying39 sz22 (by omega) (by omega) (own_ss (t := R) (k := k) (hS40.res (i := 0) rfl) (by omega)).some_ rfl (by decide) gt) (fun a65 hR66 => ?_)
    refine dl_take (i := 11) rfl (by kernel_rfl) (by kernel_rfl) (by kernel_rfl) (by kernel_rfl) (fun c a w h => hP42 c _ _ _ _ h) rfl (by decide) hR66 (want_n rfl) (fun x hx => m_loadE (sy hR66) hR66 rfl rfl rfl 0 (k * 1) (own_ss (t := R) (k := k) hx.2.1 (by omega)) rfl rfl Tryd.underlying22 rfl (by decide) gt) hSw44 (fun a67 hR68 => ?_)
    refine dl_takeA (i := 12) rfl (by kernel_rfl) (by kernel_rfl) (by kernel_rfl) (fun c a w h => hP42 c _ _ _ _ h) rfl (by decide) hR68 (want_n rfl) (fun x => m_index (i := k) (j := k * 1) (sy hR68) hR68 rfl rfl rfl rfl Tryd.underlying39 sz22 (by omega) (by omega) (own_ss (t := R) (k := k) (hS40.res (i := 0) rfl) (by omega)).some_ rfl (by decide) gt) (fun a69 hR70 => ?_)
    refine dl_one (i := 13) (by kernel_rfl) ?_
    refine m_storeE (f := encS) (i := 0) (k := k) (L := R) (z := (((nthS R ((t.length) - (k + 1))).1, (nthS R ((t.length) - (k + 1))).2.1, (nthS R ((t.length) - (k + 1))).2.2) : Sl)) (st_op rfl (want_n rfl)) hR70 hS40 rfl rfl rfl rfl rfl rfl (by omega) encS_len (one1 (f := encS) encS_one) rfl sz22 (fun a71 w72 hR73 hS74 => ?_)
    have hl75 : (R.set (k) (((nthS R ((t.length) - (k + 1))).1, (nthS R ((t.length) - (k + 1))).2.1, (nthS R ((t.length) - (k + 1))).2.2) : Sl)).length = (R).length := by simp
    refine ⟨fun h => absurd h (by decide), ?_⟩
    refine dl_takeA (i := 14) rfl (by kernel_rfl) (by kernel_rfl) (by kernel_rfl) (fun c a w h => hP42 c _ _ _ _ h) rfl (by decide) hR73 (want_n rfl) (fun x => m_index (i := (t.length) - (k + 1)) (j := ((t.length) - (k + 1)) * 1) (sy hR73) hR73 rfl rfl rfl rfl Tryd.underlying39 sz22 (by omega) (by omega) (own_ss (t := R.set (k) (((nthS R ((t.length) - (k + 1))).1, (nthS R ((t.length) - (k + 1))).2.1, (nthS R ((t.length) - (k + 1))).2.2) : Sl)) (k := (t.length) - (k + 1)) (hS74.res (i := 0) rfl) (by omega)).some_ rfl (by decide) gt) (fun a76 hR77 => ?_)
    refine dl_one (i := 15) (by kernel_rfl) ?_
    refine m_storeE (f := encS) (i := 0) (k := (t.length) - (k + 1)) (L := (R.set (k) (((nthS R ((t.length) - (k + 1))).1, (nthS R ((t.length) - (k + 1))).2.1, (nthS R ((t.length) - (k + 1))).2.2) : Sl))) (z := (((nthS R k).1, (nthS R k).2.1, (nthS R k).2.2) : Sl)) (st_op rfl (want_n rfl)) hR77 hS74 rfl rfl rfl rfl rfl rfl (by omega) encS_len (one1 (f := encS) encS_one) rfl sz22 (fun a78 w79 hR80 hS81 => ?_)
    have hl82 : ((R.set (k) (((nthS R ((t.length) - (k + 1))).1, (nthS R ((t.length) - (k + 1))).2.1, (nthS R ((t.length) - (k + 1))).2.2) : Sl)).set ((t.length) - (k + 1)) (((nthS R k).1, (nthS R k).2.1, (nthS R k).2.2) : Sl)).length = (R.set (k) (((nthS R ((t.length) - (k + 1))).1, (nthS R ((t.length) - (k + 1))).2.1, (nthS R ((t.length) - (k + 1))).2.2) : Sl)).length := by simp
    refine ⟨fun h => absurd h (by decide), ?_⟩
    refine dl_done (by kernel_rfl) (hN43 _ _ ?_) _
    refine x_block_n ?_
    refine x_then_n (hK35 _ _ ?_)
    refine c_region ?_
    refine mv hR80 (fun a83 hR84 => ?_)
    refine r_add (z := ((k + 1 : Nat) : Int)) sv hR84 rfl rfl rfl rfl (by decide) (by omega) (by omega) (by omega) (fun a85 hR86 => ?_)
    refine mv hR86 (fun a87 hR88 => ?_)
    refine r_sub (z := (((t.length : Nat) : Int) - ((k : Nat) : Int) - 2)) sv hR88 rfl rfl rfl rfl (by decide) (by omega) (by omega) (by omega) (fun a89 hR90 => ?_)
    refine asg hR90 (fun a91 hR92 => ?_)
    refine asg hR92 (fun a93 hR94 => ?_)
    refine wpList_nil ?_
    have hS95 := hS81.forget 0
    exact ⟨_, by omega, k + 1, (R.set (k) (((nthS R ((t.length) - (k + 1))).1, (nthS R ((t.length) - (k + 1))).2.1, (nthS R ((t.length) - (k + 1))).2.2) : Sl)).set ((t.length) - (k + 1)) (((nthS R k).1, (nthS R k).2.1, (nthS R k).2.2) : Sl), (hR94.sub (rc rfl (rc rfl (rc rfl (rc (ri rfl (by omega)) rnl))))), hS95, RevTo.step hr (by omega) (by omega) rfl rfl, by omega, rfl⟩
  · skip
    have hR96 := hR31.setb (d := 9) (b := false) rfl (decide_eq_false h32)
    refine wp_cond_false (hR96.ev rfl) ?_
    refine wp_exit ?_
    refine x_then_e ?_
    refine x_then_e ?_
    refine x_block_eq ?_
    refine e_end0 hR96 rfl rfl ?_
    have he97 : R = t.reverse := hr.done (by omega)
    have hS98 := hS20
    rw [he97] at hS98
    refine ⟨?_, hS98.fr, hS98.res (i := 0) rfl⟩
    rfl
end Go.Proofs.YtobgdeffhdefeaaDoor
/- Contracts of functions, one theorem each: what the call returns, and that nothing old is changed. Printed by gen.py. -/
namespace Go.Proofs.YtobgdeffhdefeaaDoor
open Go Go.RowKit
set_option linter.unusedSimpArgs false
set_option linter.unusedVariables false

set_option maxRecDepth 100000 in
set_option maxHeartbeats 1000000 in
theorem eraProofs_calls (w0 : World) (Z : Nat → Prop) (hZ : ∀ k, Z k → k < w0.heap.size) (tA : Option Addr) (tc : Nat) (t : List Nd) (hShp : Shapes w0 Z) (ht : (dRow 4 tA t.length tc (encNs t)).φ w0 Z) (hsm : sml t) (hl : t.length ≤ 1000000) :
    Calls Tryd.prog 31 [.slice tA t.length tc].toArray w0 (fun e w' => ∃ (rA0 : Option Addr) (rc0 : Nat) (rL0 : List Sl), e = .returned (.tuple #[.slice rA0 rL0.length rc0, .int .i64 (chk t)]) ∧ Fr none_ w0 w' ∧ (dRow 1 rA0 rL0.length rc0 (encSs rL0)).φ w' (nxt Z w0 w') ∧ (dAll rL0).φ w' (nxt Z w0 w') ∧ lsts rL0 = prA t) := by
  have hstart : ∀ k, Z k → imm Z w0 [] w0 k ∧ w0.heap[k]? = w0.heap[k]? := fun k hk => ⟨⟨hZ k hk, fun _ => hk, fun _ h => by cases h⟩, rfl⟩
  have hS3 : St w0 Z none_ w0 [] [dShapes, dRow 4 tA t.length tc (encNs t)] := St.start w0 Z none_ _ (by
    intro d hd
    simp only [List.mem_cons, List.not_mem_nil, or_false] at hd
    rcases hd with rfl | rfl
    · exact Dat.mono _ _ _ _ _ (Nat.le_refl _) hShp hstart
    · exact Dat.mono _ _ _ _ _ (Nat.le_refl _) ht hstart
    )
  refine c_enterM Tryd.func31 rfl Tryd.ntmps31 rfl (fun a1 hR2 => ?_)
  refine wp_seq_k (fun K4 hK5 => ?_)
  refine c_region ?_
  refine m_box (cs := [.slice tA t.length tc]) sv hR2 hS3 rfl rfl rfl rfl (by decide) (fun a6 w7 g8 hR9 hS10 => ?_)
  refine asg hR9 (fun a11 hR12 => ?_)
  refine asg hR12 (fun a13 hR14 => ?_)
  refine wpList_nil (x_then_n (hK5 _ _ ?_))
  refine wp_seq_k (fun K15 hK16 => ?_)
  refine wp_seq_k (fun K17 hK18 => ?_)
  refine c_region ?_
  refine m_load (i := 0) sv hR14 hS10 rfl rfl rfl rfl rfl Tryd.underlying22 rfl (by decide) (fun a19 hR20 => ?_)
  have hS21 : St w0 Z none_ w7 [.box g8 22 [.slice tA t.length tc]] [dShapes, dRow 4 tA t.length tc (encNs t)] := hS10
  refine k_call (xs := [.tmp 8]) se hR20 rfl rfl rfl (by decide) ok44 (check_calls _ (imm Z w0 [.box g8 22 [.slice tA t.length tc]] _) (fun _ h => h.1) tA tc t (hS21.get (i := 0) rfl) (hS21.get (i := 1) rfl) (by first | assumption | omega | (simp; done) | (simp; omega)) (by first | assumption | omega | (simp; done) | (simp; omega))) ?_
  rintro e28 w23 ⟨rfl, hf26⟩
  have hS29 := hS21.below hf26.below
  refine ⟨_, rfl, fun a22 hR24 => ?_⟩
  refine asg hR24 (fun a30 hR31 => ?_)
  refine wpList_nil (x_then_n (hK18 _ _ ?_))
  refine wp_seq_k (fun K32 hK33 => ?_)
  refine c_region ?_
  refine mv hR31 (fun a34 hR35 => ?_)
  refine r_neq sv hR35 rfl rfl rfl rfl (by decide) (fun a36 hR37 => ?_)
  refine wpList_nil (x_then_n (hK33 _ _ ?_))
  rcases Decidable.em (((chk t)) = 0) with h38 | h38
  · skip
    have hR39 := hR37.setb (d := 11) (b := false) rfl (by rw [(decide_eq_true h38)]; rfl)
    refine wp_cond_false (hR39.ev rfl) ?_
    refine wp_skip ?_
    refine x_then_n (hK16 _ _ ?_)
    refine wp_seq_k (fun K40 hK41 => ?_)
    refine c_region ?_
    refine m_alloc (cs := [.slice none 0 0]) sv hR39 hS29 rfl rfl ze39 rfl (by decide) (fun a42 w43 g44 hR45 hS46 => ?_)
    refine wpList_nil (x_then_n (hK41 _ _ ?_))
    refine wp_seq_k (fun K47 hK48 => ?_)
    refine wp_seq_k (fun K49 hK50 => ?_)
    refine c_region ?_
    refine m_load (i := 0) sv hR45 hS46 rfl rfl rfl rfl rfl Tryd.underlying22 rfl (by decide) (fun a51 hR52 => ?_)
    have hS53 : St w0 Z none_ w43 [.box g8 22 [.slice tA t.length tc], .box g44 39 [.slice none 0 0]] [dShapes, dRow 4 tA t.length tc (encNs t)] := hS46
    refine k_call (xs := [.tmp 13]) se hR52 rfl rfl rfl (by decide) ok52 (proofsMk_calls _ (imm Z w0 [.box g8 22 [.slice tA t.length tc], .box g44 39 [.slice none 0 0]] _) (fun _ h => h.1) tA tc t (hS53.get (i := 1) rfl) (by first | assumption | omega | (simp; done) | (simp; omega))) ?_
    rintro e62 w55 ⟨q59, rfl, hf58, hd60⟩
    have hS63 := hS53.below hf58.below
    have hS64 := hS63.data (dBox q59 [.slice tA t.length tc]) (hd60.imp (fun hk => nxt_imm hS53 hk) id)
    refine ⟨_, rfl, fun a54 hR56 => ?_⟩
    refine wpList_nil (x_then_n (hK50 _ _ ?_))
    refine wp_block ?_
    have hS65 : St w0 Z none_ w55 [.box g8 22 [.slice tA t.length tc], .box g44 39 [.slice none 0 0]] [dShapes, dRow 4 tA t.length tc (encNs t), dBox q59 [.slice tA t.length tc]] := hS64
    have hS66 := hS65.nilrow 22 1
    have hS67 : St w0 Z none_ w55 [.box g8 22 [.slice tA t.length tc], .box g44 39 [.slice none 0 0], .row none 0 0 22 1 (encSs ([]))] [dShapes, dRow 4 tA t.length tc (encNs t), dBox q59 [.slice tA t.length tc]] := hS66
    have hR68 : Reg a54 29 [(1000000, .bool false), (1, .pointer (some ⟨g8, 0, none⟩)), (2, .slice none 0 0), (3, .int .i64 0), (5, .pointer (some ⟨g44, 0, none⟩)), (14, .func (.func 70) #[] #[.pointer (some ⟨q59, 0, none⟩)])] := (hR56.sub (rc rfl (rc rfl (rc rfl (rc rfl (rc rfl (rc rfl rnl)))))))
    refine w_range (xs := prfL t) (encs := (fun x : Int × Int => #[.int .i64 x.1, .int .i64 x.2])) (hR68.ev rfl) ok70 (proofs_yields _ (imm Z w0 [.box g8 22 [.slice tA t.length tc], .box g44 39 [.slice none 0 0], .row none 0 0 22 1 (encSs ([]))] _) q59 tA tc t (hS67.get (i := 0) rfl) (hS67.get (i := 1) rfl) (hS67.get (i := 2) rfl) (by first | assumption | omega | (simp; done) | (simp; omega)) (by first | assumption | omega | (simp; done) | (simp; omega))) (fun _ => rfl) hS67 (fun _ h => h) (fun (pre : List (Int × Int)) (mm : List Res) => ∃ Ao : Option Addr, ∃ co : Nat, ∃ Ls : List Sl, mm = ([.box g8 22 [.slice tA t.length tc], .box g44 39 [.slice Ao ((Ls).length) co], .row Ao ((Ls).length) co 22 1 (encSs Ls)] ++ (Ls).map (rowOf 32)) ∧ (lsts Ls = prfsOf t pre) ∧ (Ls.length = pre.length)) (fun _ _ _ => False) ⟨none, 0, [], rfl, rfl, rfl⟩ ?_ ?_ ?_
    · skip
      rintro l69 pre x w70 m1 hp ⟨Ao, co, Ls, rfl, hLs, hLn⟩ hS71
      obtain ⟨xi, xj, rfl, hxi, hxj, hxy⟩ := prfL_nat hp
      refine (?_ : ∀ a0, Reg a0 29 [(16, .int .i64 ((xj : Nat) : Int)), (15, .int .i64 ((xi : Nat) : Int)), (1000000, .bool false), (1, .pointer (some ⟨g8, 0, none⟩)), (2, .slice none 0 0), (3, .int .i64 0), (5, .pointer (some ⟨g44, 0, none⟩)), (14, .func (.func 70) #[] #[.pointer (some ⟨q59, 0, none⟩)])] → Code.wpIn (rI l69) 0 _ _ _ a0 w70) _ (Reg.round2n hR68 (by decide) (by decide) rfl)
      intro a72 hR73
      have hpl := prfL_len (List.IsPrefix.trans (List.prefix_append _ _) hp)
      refine wpIn_seq_k (fun K74 hK75 => ?_)
      refine ci_region (by kernel_rfl) (out_then (out_then (fun _ _ h => h))) ?_
      refine asg hR73 (fun a76 hR77 => ?_)
      refine wpList_nil (x_then_n (hK75 _ _ ?_))
      refine ci_region (by kernel_rfl) (out_then (fun _ _ h => h)) ?_
      refine asg hR77 (fun a78 hR79 => ?_)
      refine wpList_nil ?_
      have hS80 : St w0 Z none_ w70 ([.box g8 22 [.slice tA t.length tc], .box g44 39 [.slice Ao ((Ls).length) co], .row Ao ((Ls).length) co 22 1 (encSs Ls)] ++ (Ls).map (rowOf 32)) [dShapes, dRow 4 tA t.length tc (encNs t), dBox q59 [.slice tA t.length tc], dAg w70 (imm Z w0 ([.box g8 22 [.slice tA t.length tc], .box g44 39 [.slice Ao ((Ls).length) co], .row Ao ((Ls).length) co 22 1 (encSs Ls)] ++ (Ls).map (rowOf 32)) w70)] := hS71
      refine x_then_n ⟨_, _, 3, hS80, rfl, (fun _ h => False.elim h), (fun _ h => False.elim h), fun w81 hS82 => ?_⟩
      refine wpIn_block ?_
      obtain ⟨J83, hJ84, hS85⟩ := hS82.agree
      refine dli_region2 (S := (fun x => agr w81 J83 x ∧ cel g8 0 (.slice tA t.length tc) x ∧ cel g44 0 (.slice Ao ((Ls).length) co) x ∧ True)) (k := 10) [9] mixed rfl (by kernel_rfl) hS85 (pan_block pan_rPost) (out_block out_rPost) (fun Q88 hP89 hN90 w86 hS87 => ?_)
      have hSw91 : agr w81 J83 w86 ∧ cel g8 0 (.slice tA t.length tc) w86 ∧ cel g44 0 (.slice Ao ((Ls).length) co) w86 ∧ True := ⟨⟨(hS87.get (i := 4) rfl).1, fun k hk => ((hS87.get (i := 4) rfl).2 k hk).2⟩, (box_cell (hS87.res (i := 0) rfl) rfl), (box_cell (hS87.res (i := 1) rfl) rfl), trivial⟩
      refine dl_take (i := 0) rfl (by kernel_rfl) (by kernel_rfl) (by kernel_rfl) (by kernel_rfl) (fun c a w h => hP89 c _ _ _ _ h) rfl (by decide) hR79 (want_n rfl) (fun x hx => m_loadC (sy hR79) hR79 rfl rfl rfl hx.2.2.1 Tryd.underlying39 rfl (by decide) gt) hSw91 (fun a92 hR93 => ?_)
      refine dl_take (i := 1) rfl (by kernel_rfl) (by kernel_rfl) (by kernel_rfl) (by kernel_rfl) (fun c a w h => hP89 c _ _ _ _ h) rfl (by decide) hR93 (want_n rfl) (fun x hx => m_loadC (sy hR93) hR93 rfl rfl rfl hx.2.1 Tryd.underlying22 rfl (by decide) gt) hSw91 (fun a94 hR95 => ?_)
      refine dl_takeA (i := 2) rfl (by kernel_rfl) (by kernel_rfl) (by kernel_rfl) (fun c a w h => hP89 c _ _ _ _ h) rfl (by decide) hR95 (want_n rfl) (fun x => r_move (sy hR95) hR95 rfl rfl rfl (by decide) gt) (fun a96 hR97 => ?_)
      refine dl_takeA (i := 3) rfl (by kernel_rfl) (by kernel_rfl) (by kernel_rfl) (fun c a w h => hP89 c _ _ _ _ h) rfl (by decide) hR97 (want_n rfl) (fun x => r_move (sy hR97) hR97 rfl rfl rfl (by decide) gt) (fun a98 hR99 => ?_)
      refine dl_takeA (i := 4) rfl (by kernel_rfl) (by kernel_rfl) (by kernel_rfl) (fun c a w h => hP89 c _ _ _ _ h) rfl (by decide) hR99 (want_n rfl) (fun x => r_add (z := ((xj + 1 : Nat) : Int)) (sy hR99) hR99 rfl rfl rfl rfl (by decide) (by omega) (by omega) (by omega) gt) (fun a100 hR101 => ?_)
      have hl104 : (((t).drop (xi)).take ((xj + 1) - (xi))).length = (xj + 1) - (xi) := by simp only [List.length_drop, List.length_take]; omega
      have hS105 := hS87.data (dRow 4 (if tc = xi then tA else (tA).map (·.add (xi * 4))) ((((t).drop (xi)).take ((xj + 1) - (xi))).length) (tc - xi) (encNs (((t).drop (xi)).take ((xj + 1) - (xi))))) (cut_row (f := encN) (L := t) (hS87.get (i := 1) rfl) encN_len (by omega))
      have hcp106 := (hS105.get (i := 1) rfl).1
      refine dl_takeA (i := 5) rfl (by kernel_rfl) (by kernel_rfl) (by kernel_rfl) (fun c a w h => hP89 c _ _ _ _ h) rfl (by decide) hR101 (want_n rfl) (fun x => m_sliceA (lo := some (.tmp 19)) (hi := some (.tmp 21)) (vlo := (some (.int .i64 ((xi : Nat) : Int)))) (vhi := (some (.int .i64 ((xj + 1 : Nat) : Int)))) (kd := .i64) (kd' := .i64) (sy hR101) hR101 rfl rfl rfl rfl rfl (xi) ((((t).drop (xi)).take ((xj + 1) - (xi))).length) (.inl (by first | rfl | (congr 2; omega))) (.inl (by first | rfl | (congr 2; omega))) Tryd.underlying22 sz32 (by omega) (by decide) gt) (fun a107 hR108 => ?_)
      refine dl_one (i := 6) (by kernel_rfl) ?_
      have hS109 : St w0 Z none_ w86 ([.box g8 22 [.slice tA t.length tc], .box g44 39 [.slice Ao ((Ls).length) co], .row Ao ((Ls).length) co 22 1 (encSs Ls)] ++ (Ls).map (rowOf 32)) [dShapes, dRow 4 tA t.length tc (encNs t), dBox q59 [.slice tA t.length tc], dAg w81 (imm Z w0 ([.box g8 22 [.slice tA t.length tc], .box g44 39 [.slice Ao ((Ls).length) co], .row Ao ((Ls).length) co 22 1 (encSs Ls)] ++ (Ls).map (rowOf 32)) w81), dAg w81 J83, dRow 4 (if tc = xi then tA else (tA).map (·.add (xi * 4))) ((((t).drop (xi)).take ((xj + 1) - (xi))).length) (tc - xi) (encNs (((t).drop (xi)).take ((xj + 1) - (xi))))] := hS105
      refine k_call (xs := [.tmp 22]) (st_op rfl (want_n rfl)) hR108 rfl rfl rfl (by decide) ok51 (cloneN_calls _ (imm Z w0 ([.box g8 22 [.slice tA t.length tc], .box g44 39 [.slice Ao ((Ls).length) co], .row Ao ((Ls).length) co 22 1 (encSs Ls)] ++ (Ls).map (rowOf 32)) _) (fun _ h => h.1) (if tc = xi then tA else (tA).map (·.add (xi * 4))) (tc - xi) (((t).drop (xi)).take ((xj + 1) - (xi))) (hS109.get (i := 5) rfl) (by first | assumption | omega | (simp; done) | (simp; omega))) ?_
      rintro e120 w111 ⟨A115, c116, rfl, hf114, hd117, hf118⟩
      have hS121 := hS109.callO hf114 hd117 hf118
      have hS122 := St.rot (A := [.box g8 22 [.slice tA t.length tc], .box g44 39 [.slice Ao ((Ls).length) co], .row Ao ((Ls).length) co 22 1 (encSs Ls)]) (T := (Ls).map (rowOf 32)) hS121
      refine ⟨_, rfl, fun a110 hR112 => ?_⟩
      have hSw123 : agr w81 J83 w111 ∧ cel g8 0 (.slice tA t.length tc) w111 ∧ cel g44 0 (.slice Ao ((Ls).length) co) w111 ∧ True := ⟨⟨(hS122.get (i := 4) rfl).1, fun k hk => ((hS122.get (i := 4) rfl).2 k hk).2⟩, (box_cell (hS122.res (i := 0) rfl) rfl), (box_cell (hS122.res (i := 1) rfl) rfl), trivial⟩
      refine ⟨fun _ _ => hSw123, ?_⟩
      refine dl_one (i := 7) (by kernel_rfl) ?_
      have hS124 := St.absorb (e := 32) (A := [.box g8 22 [.slice tA t.length tc], .box g44 39 [.slice Ao ((Ls).length) co], .row Ao ((Ls).length) co 22 1 (encSs Ls)]) (Ls := Ls) (B := A115) (c := c116) (L := (((t).drop (xi)).take ((xj + 1) - (xi)))) hS122
      refine m_buildSlice (ps := [(0, .tmp 23)]) (cs := [.slice A115 ((((t).drop (xi)).take ((xj + 1) - (xi))).length) c116]) (st_opV rfl (want_n rfl)) hR112 hS124 rfl rfl rfl Tryd.underlying39 zi22 rfl rfl (by kernel_rfl) rfl (by decide) (fun a125 w126 g127 hR128 hS129 => ?_)
      have hS130 := St.rot (A := [.box g8 22 [.slice tA t.length tc], .box g44 39 [.slice Ao ((Ls).length) co], .row Ao ((Ls).length) co 22 1 (encSs Ls)]) (T := (Ls ++ [((A115, c116, (((t).drop (xi)).take ((xj + 1) - (xi)))) : Sl)]).map (rowOf 32)) hS129
      have hSw131 : agr w81 J83 w126 ∧ cel g8 0 (.slice tA t.length tc) w126 ∧ cel g44 0 (.slice Ao ((Ls).length) co) w126 ∧ True := ⟨⟨(hS130.get (i := 4) rfl).1, fun k hk => ((hS130.get (i := 4) rfl).2 k hk).2⟩, (box_cell (hS130.res (i := 0) rfl) rfl), (box_cell (hS130.res (i := 1) rfl) rfl), trivial⟩
      refine ⟨fun _ _ => hSw131, ?_⟩
      refine dl_one (i := 8) (by kernel_rfl) ?_
      refine m_appendF (f := encS) (i := 2) (Ls) ([((A115, c116, (((t).drop (xi)).take ((xj + 1) - (xi)))) : Sl)]) (st_opV rfl (want_n rfl)) hR128 hS130 rfl rfl rfl rfl rfl encS_len (encS_one _) Tryd.underlying39 zi22 rfl rfl (own_lnews (f := encS) (hS130.res (i := 3) rfl)) rfl (by first | omega | (simp only [List.length_cons, List.length_nil]; omega)) (by decide) (fun a132 w133 A134 c135 hc136 hR137 hS138 => ?_)
      have hl140 : (Ls ++ ([((A115, c116, (((t).drop (xi)).take ((xj + 1) - (xi)))) : Sl)]) : List Sl).length = (Ls).length + 1 := by first | (simp only [List.length_append, List.length_take, List.length_cons, List.length_nil]; done) | (simp only [List.length_append, List.length_take, List.length_cons, List.length_nil]; omega)
      have hS141 := hS138.erase 3
      have hSw142 : agr w81 J83 w133 ∧ cel g8 0 (.slice tA t.length tc) w133 ∧ cel g44 0 (.slice Ao ((Ls).length) co) w133 ∧ True := ⟨⟨(hS141.get (i := 4) rfl).1, fun k hk => ((hS141.get (i := 4) rfl).2 k hk).2⟩, (box_cell (hS141.res (i := 0) rfl) rfl), (box_cell (hS141.res (i := 1) rfl) rfl), trivial⟩
      refine ⟨fun _ _ => hSw142, ?_⟩
      refine dl_one (i := 9) (by kernel_rfl) ?_
      refine m_store (i := 1) (cs' := [.slice A134 ((Ls ++ ([((A115, c116, (((t).drop (xi)).take ((xj + 1) - (xi)))) : Sl)]) : List Sl).length) c135]) (st_op rfl (want_n rfl)) hR137 hS141 rfl rfl rfl rfl rfl sz39 rfl rfl rfl (fun a143 w144 hR145 hS146 => ?_)
      refine ⟨fun h => absurd h (by decide), ?_⟩
      refine dl_done (by kernel_rfl) (hN90 _ _ ?_) _
      refine x_block_n ?_
      have hS147 : St w0 Z none_ w144 ([.box g8 22 [.slice tA t.length tc], .box g44 39 [.slice A134 ((Ls ++ ([((A115, c116, (((t).drop (xi)).take ((xj + 1) - (xi)))) : Sl)]) : List Sl).length) c135], .row A134 ((Ls ++ ([((A115, c116, (((t).drop (xi)).take ((xj + 1) - (xi)))) : Sl)]) : List Sl).length) c135 22 1 (encSs (Ls ++ ([((A115, c116, (((t).drop (xi)).take ((xj + 1) - (xi)))) : Sl)])))] ++ (Ls ++ [((A115, c116, (((t).drop (xi)).take ((xj + 1) - (xi)))) : Sl)]).map (rowOf 32)) [dShapes, dRow 4 tA t.length tc (encNs t), dBox q59 [.slice tA t.length tc], dAg w81 (imm Z w0 ([.box g8 22 [.slice tA t.length tc], .box g44 39 [.slice Ao ((Ls).length) co], .row Ao ((Ls).length) co 22 1 (encSs Ls)] ++ (Ls).map (rowOf 32)) w81), dAg w81 J83, dRow 4 (if tc = xi then tA else (tA).map (·.add (xi * 4))) ((((t).drop (xi)).take ((xj + 1) - (xi))).length) (tc - xi) (encNs (((t).drop (xi)).take ((xj + 1) - (xi))))] := hS146
      exact ⟨_, _, 3, hS147, rfl, _, _, Ls ++ [((A115, c116, (((t).drop (xi)).take ((xj + 1) - (xi)))) : Sl)], rfl, prfs_step hLs, by simp [hLn]⟩
    · skip
      rintro D148 m1 w149 ⟨Ao, co, Ls, rfl, hLs, hLn⟩ hS150
      have hR151 := Reg.marked hR68 D148
      have hS152 := St.tail_data (e := 32) (A := [.box g8 22 [.slice tA t.length tc], .box g44 39 [.slice Ao ((Ls).length) co], .row Ao ((Ls).length) co 22 1 (encSs Ls)]) (Ls := Ls) hS150 (fun _ h => h)
      have hpl := prfL_len (List.prefix_refl (prfL t))
      refine x_block_n ?_
      refine x_then_n (hK48 _ _ ?_)
      refine wp_seq_k (fun K153 hK154 => ?_)
      refine c_region ?_
      refine m_load (i := 1) sv hR151 hS152 rfl rfl rfl rfl rfl Tryd.underlying39 rfl (by decide) (fun a155 hR156 => ?_)
      have hS157 : St w0 Z none_ w149 [.box g8 22 [.slice tA t.length tc], .box g44 39 [.slice Ao ((Ls).length) co], .row Ao ((Ls).length) co 22 1 (encSs Ls)] [dShapes, dRow 4 tA t.length tc (encNs t), dBox q59 [.slice tA t.length tc], dMark w0.heap.size D148, dAll Ls] := hS152
      refine k_call (xs := [.tmp 26]) se hR156 rfl rfl rfl (by decide) ok55 (revS_calls _ (imm Z w0 [.box g8 22 [.slice tA t.length tc], .box g44 39 [.slice Ao ((Ls).length) co], .row Ao ((Ls).length) co 22 1 (encSs Ls)] _) (fun _ h => h.1) Ao co Ls (hS157.res (i := 2) rfl) (imm_row (i := 2) rfl) (by first | assumption | omega | (simp; done) | (simp; omega))) ?_
      rintro e164 w159 ⟨rfl, hf162, hb163⟩
      have hS165 := hS157.callR (i := 2) rfl hf162 hb163
      have hS166 := hS165.data (dAll (Ls.reverse)) (all_rev (hS165.get (i := 4) rfl))
      refine ⟨_, rfl, fun a158 hR160 => ?_⟩
      refine wpList_nil (x_then_n (hK154 _ _ ?_))
      refine wp_seq_k (fun K167 hK168 => ?_)
      refine c_region ?_
      refine m_load (i := 1) sv hR160 hS166 rfl rfl rfl rfl rfl Tryd.underlying39 rfl (by decide) (fun a169 hR170 => ?_)
      refine asg hR170 (fun a171 hR172 => ?_)
      refine asg hR172 (fun a173 hR174 => ?_)
      refine wpList_nil (x_then_n (hK168 _ _ ?_))
      refine wp_ret ?_
      have hc178 := own_cap (hS166.res (i := 2) rfl)
      obtain ⟨hS175, hrow176⟩ := hS166.row_data (i := 2) rfl (fun _ h => h)
      have hS177 := hS175.data (dRow 1 Ao ((Ls.reverse).length) co (encSs Ls.reverse)) ⟨hc178, hrow176⟩
      have hS179 : St w0 Z none_ w159 [.box g8 22 [.slice tA t.length tc], .box g44 39 [.slice Ao ((Ls).length) co]] [dShapes, dRow 4 tA t.length tc (encNs t), dBox q59 [.slice tA t.length tc], dMark w0.heap.size D148, dAll Ls, dAll (Ls.reverse), dRow 1 Ao ((Ls.reverse).length) co (encSs Ls.reverse)] := hS177
      obtain ⟨hD180, hS181⟩ := hS179.shut (i := 3) rfl [dRow 1 Ao ((Ls.reverse).length) co (encSs Ls.reverse), dAll (Ls.reverse)] (by intro d hd; simp only [List.mem_cons, List.not_mem_nil, or_false] at hd; rcases hd with rfl | rfl; exact ⟨List.mem_of_getElem? (i := 6) rfl, datC_row (by decide) _ _ _ _⟩; exact ⟨List.mem_of_getElem? (i := 5) rfl, datC_all _⟩)
      refine m_mark (.inl rfl) hR174 rfl hD180 (res2 hR174 rfl rfl rfl _) ?_
      refine ⟨Ao, co, Ls.reverse, ?_, hS181.fr, ⟨by have := (hS181.row (i := 0) rfl).1; exact this, ((hS181.row (i := 0) rfl).2.mono (fun _ hk => ⟨imm_nxt hk, rfl⟩))⟩, ((dAll _).mono _ _ _ _ (Nat.le_refl _) (hS181.get (i := 1) rfl) (fun k hk => ⟨imm_nxt hk, rfl⟩)), (by rw [prA_ok (by assumption), ← prf_eq (meas_chk (by assumption)), lsts_rev, hLs])⟩
      exact ret_t2 (ret_s (by first | rfl | (simp; done))) (ret_i (by first | rfl | omega | assumption | exact decide_eq_true (by assumption) | (have q0 := h38; (try simp at q0);  omega) | (simp [h38]; done) | (simp [] at *; done) | (simp [h38] <;> omega) | (rw [Bool.eq_iff_iff]; simp [h38] <;> omega) | (rw [Bool.eq_iff_iff]; simp [h38] at * <;> omega)))
    · skip
      rintro _ _ _ _ _ _ h _
      exact h.elim
  · skip
    have hR182 := hR37.setb (d := 11) (b := true) rfl (by rw [(decide_eq_false h38)]; rfl)
    refine wp_cond_true (hR182.ev rfl) ?_
    refine wp_seq_k (fun K183 hK184 => ?_)
    refine c_region ?_
    refine mv hR182 (fun a185 hR186 => ?_)
    refine asg hR186 (fun a187 hR188 => ?_)
    refine asg hR188 (fun a189 hR190 => ?_)
    refine wpList_nil (x_then_n (hK184 _ _ ?_))
    refine wp_ret ?_
    refine x_then_r ?_
    refine m_none (.inl rfl) hR190 rfl (res2 hR190 rfl rfl rfl _) ?_
    refine ⟨none, 0, [], ?_, hS29.fr, ⟨Nat.le_refl _, RowI.nil _ _ _ _⟩, all_nil, (prA_no (by assumption)).symm⟩
    exact ret_t2 (ret_s (by first | rfl | (simp; done))) (ret_i (by first | rfl | omega | assumption | exact decide_eq_true (by assumption) | (have q0 := h38; (try simp at q0);  omega) | (simp [h38]; done) | (simp [] at *; done) | (simp [h38] <;> omega) | (rw [Bool.eq_iff_iff]; simp [h38] <;> omega) | (rw [Bool.eq_iff_iff]; simp [h38] at * <;> omega)))
end Go.Proofs.YtobgdeffhdefeaaDoor
/- Contracts of functions, one theorem each: what the call returns, and that nothing old is changed. Printed by gen.py. -/
namespace Go.Proofs.YtobgdeffhdefeaaDoor
open Go Go.RowKit
set_option linter.unusedSimpArgs false
set_option linter.unusedVariables false

set_option maxRecDepth 100000 in
set_option maxHeartbeats 1000000 in
theorem heavy13_calls (w0 : World) (Z : Nat → Prop) (hZ : ∀ k, Z k → k < w0.heap.size) (tA : Option Addr) (tc : Nat) (t : List Nd) (ht : (dRow 4 tA t.length tc (encNs t)).φ w0 Z) :
    Calls Tryd.prog 34 [.slice tA t.length tc].toArray w0 (fun e w' => e = .returned (.bool (heavyB 100 t)) ∧ Fr none_ w0 w') := by
  have hstart : ∀ k, Z k → imm Z w0 [] w0 k ∧ w0.heap[k]? = w0.heap[k]? := fun k hk => ⟨⟨hZ k hk, fun _ => hk, fun _ h => by cases h⟩, rfl⟩
  have hS3 : St w0 Z none_ w0 [] [dRow 4 tA t.length tc (encNs t)] := St.start w0 Z none_ _ (by
    intro d hd
    simp only [List.mem_cons, List.not_mem_nil, or_false] at hd
    rcases hd with rfl
    · exact Dat.mono _ _ _ _ _ (Nat.le_refl _) ht hstart
    )
  refine c_enter Tryd.func34 rfl Tryd.ntmps34 rfl (fun a1 hR2 => ?_)
  refine wp_seq_k (fun K4 hK5 => ?_)
  refine c_region ?_
  refine asg hR2 (fun a6 hR7 => ?_)
  refine wpList_nil (x_then_n (hK5 _ _ ?_))
  refine wp_seq_k (fun K8 hK9 => ?_)
  refine wp_seq_k (fun K10 hK11 => ?_)
  refine c_region ?_
  refine mv hR7 (fun a12 hR13 => ?_)
  refine r_len sv hR13 rfl rfl rfl rfl Tryd.underlying22 (by decide) (fun a14 hR15 => ?_)
  refine r_gtr sv hR15 rfl rfl rfl rfl (by decide) (fun a16 hR17 => ?_)
  refine wpList_nil (x_then_n (hK11 _ _ ?_))
  rcases Decidable.em (100 < ((t.length : Nat) : Int)) with h18 | h18
  · skip
    have hR19 := hR17.setb (d := 6) (b := true) rfl (decide_eq_true h18)
    refine wp_cond_true (hR19.ev rfl) ?_
    refine wp_seq_k (fun K20 hK21 => ?_)
    refine c_region ?_
    refine asg hR19 (fun a22 hR23 => ?_)
    refine wpList_nil (x_then_n (hK21 _ _ ?_))
    refine wp_ret ?_
    refine x_then_r ?_
    refine e_ret1 hR23 rfl rfl rfl ?_
    refine ⟨?_, hS3.fr⟩
    exact congrArg Ending.returned (ret_b (by first | exact (heavy_len (by omega)).symm | exact (heavy_at (k := k) (by omega) (by omega)).symm | exact (heavy_no hi (by omega) (by omega)).symm))
  · skip
    have hR24 := hR17.setb (d := 6) (b := false) rfl (decide_eq_false h18)
    refine wp_cond_false (hR24.ev rfl) ?_
    refine wp_skip ?_
    refine x_then_n (hK9 _ _ ?_)
    refine wp_seq_k (fun K25 hK26 => ?_)
    refine wp_seq_k (fun K27 hK28 => ?_)
    refine c_region ?_
    refine asg hR24 (fun a29 hR30 => ?_)
    refine wpList_nil (x_then_n (hK28 _ _ ?_))
    refine wp_block ?_
    refine wp_loop_ghost (fun gn ga gw => ∃ k : Nat, (Reg ga 20 [(1000000, .bool false), (0, .slice tA t.length tc), (3, .int .i64 ((k : Nat) : Int))]) ∧ (St w0 Z none_ gw [] [dRow 4 tA t.length tc (encNs t)]) ∧ (k ≤ t.length) ∧ (lightTo t k) ∧ (t.length - k) = gn) _ ⟨0, (hR30.sub (rc rfl (rc rfl (rc rfl rnl)))), hS3, by omega, (fun _ h => by omega), rfl⟩ ?_
    rintro r31 a32 w33 ⟨k, hR34, hS35, hk, hi, hn36⟩
    refine wp_seq_k (fun K37 hK38 => ?_)
    refine wp_seq_k (fun K39 hK40 => ?_)
    refine c_region ?_
    refine mv hR34 (fun a41 hR42 => ?_)
    refine mv hR42 (fun a43 hR44 => ?_)
    refine r_len sv hR44 rfl rfl rfl rfl Tryd.underlying22 (by decide) (fun a45 hR46 => ?_)
    refine r_lss sv hR46 rfl rfl rfl rfl (by decide) (fun a47 hR48 => ?_)
    refine wpList_nil (x_then_n (hK40 _ _ ?_))
    rcases Decidable.em (((k : Nat) : Int) < ((t.length : Nat) : Int)) with h49 | h49
    · skip
      have hR50 := hR48.setb (d := 10) (b := true) rfl (decide_eq_true h49)
      refine wp_cond_true (hR50.ev rfl) ?_
      refine wp_skip ?_
      refine x_then_n (hK38 _ _ ?_)
      refine wp_seq_k (fun K51 hK52 => ?_)
      refine wp_block ?_
      refine wp_seq_k (fun K53 hK54 => ?_)
      refine c_region ?_
      refine mv hR50 (fun a55 hR56 => ?_)
      refine mv hR56 (fun a57 hR58 => ?_)
      refine m_index (i := k) (j := k * 4) sv hR58 rfl rfl rfl rfl Tryd.underlying22 sz32 (by omega) (by omega) (nds_elem (t := t) (k := k) (hS35.row (i := 0) rfl).2 (by omega)).some_ rfl (by decide) (fun a59 hR60 => ?_)
      refine m_fieldE (j' := k * 4 + 3) sv hR60 rfl rfl rfl (nds_elem (t := t) (k := k) (hS35.row (i := 0) rfl).2 (by omega)).some_ Tryd.underlying32 rfl sz9 rfl rfl (by decide) (fun a61 hR62 => ?_)
      refine m_loadE sv hR62 rfl rfl rfl 3 (k * 4) (nds_elem (t := t) (k := k) (hS35.row (i := 0) rfl).2 (by omega)) rfl rfl Tryd.underlying9 rfl (by decide) (fun a63 hR64 => ?_)
      refine r_lenS sv hR64 rfl rfl rfl rfl Tryd.underlying9 (by decide) (fun a65 hR66 => ?_)
      refine r_gtr sv hR66 rfl rfl rfl rfl (by decide) (fun a67 hR68 => ?_)
      refine wpList_nil (x_then_n (hK54 _ _ ?_))
      rcases Decidable.em (100 < ((((nth t k).S).size : Nat) : Int)) with h69 | h69
      · skip
        have hR70 := hR68.setb (d := 19) (b := true) rfl (decide_eq_true h69)
        refine wp_cond_true (hR70.ev rfl) ?_
        refine wp_seq_k (fun K71 hK72 => ?_)
        refine c_region ?_
        refine asg hR70 (fun a73 hR74 => ?_)
        refine wpList_nil (x_then_n (hK72 _ _ ?_))
        refine wp_ret ?_
        refine x_block_r ?_
        refine x_then_r ?_
        refine x_then_r ?_
        refine x_block_r ?_
        refine x_then_r ?_
        refine e_ret1 hR74 rfl rfl rfl ?_
        refine ⟨?_, hS35.fr⟩
        exact congrArg Ending.returned (ret_b (by first | exact (heavy_len (by omega)).symm | exact (heavy_at (k := k) (by omega) (by omega)).symm | exact (heavy_no hi (by omega) (by omega)).symm))
      · skip
        have hR75 := hR68.setb (d := 19) (b := false) rfl (decide_eq_false h69)
        refine wp_cond_false (hR75.ev rfl) ?_
        refine wp_skip ?_
        refine x_block_n ?_
        refine x_then_n (hK52 _ _ ?_)
        refine c_region ?_
        refine mv hR75 (fun a76 hR77 => ?_)
        refine r_add (z := ((k + 1 : Nat) : Int)) sv hR77 rfl rfl rfl rfl (by decide) (by omega) (by omega) (by omega) (fun a78 hR79 => ?_)
        refine asg hR79 (fun a80 hR81 => ?_)
        refine wpList_nil ?_
        exact ⟨_, by omega, k + 1, (hR81.sub (rc rfl (rc rfl (rc rfl rnl)))), hS35, by omega, light_step hi (by omega), rfl⟩
    · skip
      have hR82 := hR48.setb (d := 10) (b := false) rfl (decide_eq_false h49)
      refine wp_cond_false (hR82.ev rfl) ?_
      refine wp_exit ?_
      refine x_then_e ?_
      refine x_then_e ?_
      refine x_block_eq ?_
      refine x_then_n (hK26 _ _ ?_)
      refine wp_seq_k (fun K83 hK84 => ?_)
      refine c_region ?_
      refine asg hR82 (fun a85 hR86 => ?_)
      refine wpList_nil (x_then_n (hK84 _ _ ?_))
      refine wp_ret ?_
      refine e_ret1 hR86 rfl rfl rfl ?_
      refine ⟨?_, hS35.fr⟩
      exact congrArg Ending.returned (ret_b (by first | exact (heavy_len (by omega)).symm | exact (heavy_at (k := k) (by omega) (by omega)).symm | exact (heavy_no hi (by omega) (by omega)).symm))
end Go.Proofs.YtobgdeffhdefeaaDoor
/- Contracts of functions, one theorem each: what the call returns, and that nothing old is changed. Printed by gen.py. -/
namespace Go.Proofs.YtobgdeffhdefeaaDoor
open Go Go.RowKit
set_option linter.unusedSimpArgs false
set_option linter.unusedVariables false

set_option maxRecDepth 100000 in
set_option maxHeartbeats 1000000 in
theorem heavy11_calls (w0 : World) (Z : Nat → Prop) (hZ : ∀ k, Z k → k < w0.heap.size) (tA : Option Addr) (tc : Nat) (t : List Nd) (ht : (dRow 4 tA t.length tc (encNs t)).φ w0 Z) :
    Calls Tryd.prog 26 [.slice tA t.length tc].toArray w0 (fun e w' => e = .returned (.bool (heavyB 200 t)) ∧ Fr none_ w0 w') := by
  have hstart : ∀ k, Z k → imm Z w0 [] w0 k ∧ w0.heap[k]? = w0.heap[k]? := fun k hk => ⟨⟨hZ k hk, fun _ => hk, fun _ h => by cases h⟩, rfl⟩
  have hS3 : St w0 Z none_ w0 [] [dRow 4 tA t.length tc (encNs t)] := St.start w0 Z none_ _ (by
    intro d hd
    simp only [List.mem_cons, List.not_mem_nil, or_false] at hd
    rcases hd with rfl
    · exact Dat.mono _ _ _ _ _ (Nat.le_refl _) ht hstart
    )
  refine c_enter Tryd.func26 rfl Tryd.ntmps26 rfl (fun a1 hR2 => ?_)
  refine wp_seq_k (fun K4 hK5 => ?_)
  refine c_region ?_
  refine asg hR2 (fun a6 hR7 => ?_)
  refine wpList_nil (x_then_n (hK5 _ _ ?_))
  refine wp_seq_k (fun K8 hK9 => ?_)
  refine wp_seq_k (fun K10 hK11 => ?_)
  refine c_region ?_
  refine mv hR7 (fun a12 hR13 => ?_)
  refine r_len sv hR13 rfl rfl rfl rfl Tryd.underlying22 (by decide) (fun a14 hR15 => ?_)
  refine r_gtr sv hR15 rfl rfl rfl rfl (by decide) (fun a16 hR17 => ?_)
  refine wpList_nil (x_then_n (hK11 _ _ ?_))
  rcases Decidable.em (200 < ((t.length : Nat) : Int)) with h18 | h18
  · skip
    have hR19 := hR17.setb (d := 6) (b := true) rfl (decide_eq_true h18)
    refine wp_cond_true (hR19.ev rfl) ?_
    refine wp_seq_k (fun K20 hK21 => ?_)
    refine c_region ?_
    refine asg hR19 (fun a22 hR23 => ?_)
    refine wpList_nil (x_then_n (hK21 _ _ ?_))
    refine wp_ret ?_
    refine x_then_r ?_
    refine e_ret1 hR23 rfl rfl rfl ?_
    refine ⟨?_, hS3.fr⟩
    exact congrArg Ending.returned (ret_b (by first | exact (heavy_len (by omega)).symm | exact (heavy_at (k := k) (by omega) (by omega)).symm | exact (heavy_no hi (by omega) (by omega)).symm))
  · skip
    have hR24 := hR17.setb (d := 6) (b := false) rfl (decide_eq_false h18)
    refine wp_cond_false (hR24.ev rfl) ?_
    refine wp_skip ?_
    refine x_then_n (hK9 _ _ ?_)
    refine wp_seq_k (fun K25 hK26 => ?_)
    refine wp_seq_k (fun K27 hK28 => ?_)
    refine c_region ?_
    refine asg hR24 (fun a29 hR30 => ?_)
    refine wpList_nil (x_then_n (hK28 _ _ ?_))
    refine wp_block ?_
    refine wp_loop_ghost (fun gn ga gw => ∃ k : Nat, (Reg ga 20 [(1000000, .bool false), (0, .slice tA t.length tc), (3, .int .i64 ((k : Nat) : Int))]) ∧ (St w0 Z none_ gw [] [dRow 4 tA t.length tc (encNs t)]) ∧ (k ≤ t.length) ∧ (lightTo t k) ∧ (t.length - k) = gn) _ ⟨0, (hR30.sub (rc rfl (rc rfl (rc rfl rnl)))), hS3, by omega, (fun _ h => by omega), rfl⟩ ?_
    rintro r31 a32 w33 ⟨k, hR34, hS35, hk, hi, hn36⟩
    refine wp_seq_k (fun K37 hK38 => ?_)
    refine wp_seq_k (fun K39 hK40 => ?_)
    refine c_region ?_
    refine mv hR34 (fun a41 hR42 => ?_)
    refine mv hR42 (fun a43 hR44 => ?_)
    refine r_len sv hR44 rfl rfl rfl rfl Tryd.underlying22 (by decide) (fun a45 hR46 => ?_)
    refine r_lss sv hR46 rfl rfl rfl rfl (by decide) (fun a47 hR48 => ?_)
    refine wpList_nil (x_then_n (hK40 _ _ ?_))
    rcases Decidable.em (((k : Nat) : Int) < ((t.length : Nat) : Int)) with h49 | h49
    · skip
      have hR50 := hR48.setb (d := 10) (b := true) rfl (decide_eq_true h49)
      refine wp_cond_true (hR50.ev rfl) ?_
      refine wp_skip ?_
      refine x_then_n (hK38 _ _ ?_)
      refine wp_seq_k (fun K51 hK52 => ?_)
      refine wp_block ?_
      refine wp_seq_k (fun K53 hK54 => ?_)
      refine c_region ?_
      refine mv hR50 (fun a55 hR56 => ?_)
      refine mv hR56 (fun a57 hR58 => ?_)
      refine m_index (i := k) (j := k * 4) sv hR58 rfl rfl rfl rfl Tryd.underlying22 sz32 (by omega) (by omega) (nds_elem (t := t) (k := k) (hS35.row (i := 0) rfl).2 (by omega)).some_ rfl (by decide) (fun a59 hR60 => ?_)
      refine m_fieldE (j' := k * 4 + 3) sv hR60 rfl rfl rfl (nds_elem (t := t) (k := k) (hS35.row (i := 0) rfl).2 (by omega)).some_ Tryd.underlying32 rfl sz9 rfl rfl (by decide) (fun a61 hR62 => ?_)
      refine m_loadE sv hR62 rfl rfl rfl 3 (k * 4) (nds_elem (t := t) (k := k) (hS35.row (i := 0) rfl).2 (by omega)) rfl rfl Tryd.underlying9 rfl (by decide) (fun a63 hR64 => ?_)
      refine r_lenS sv hR64 rfl rfl rfl rfl Tryd.underlying9 (by decide) (fun a65 hR66 => ?_)
      refine r_gtr sv hR66 rfl rfl rfl rfl (by decide) (fun a67 hR68 => ?_)
      refine wpList_nil (x_then_n (hK54 _ _ ?_))
      rcases Decidable.em (100 < ((((nth t k).S).size : Nat) : Int)) with h69 | h69
      · skip
        have hR70 := hR68.setb (d := 19) (b := true) rfl (decide_eq_true h69)
        refine wp_cond_true (hR70.ev rfl) ?_
        refine wp_seq_k (fun K71 hK72 => ?_)
        refine c_region ?_
        refine asg hR70 (fun a73 hR74 => ?_)
        refine wpList_nil (x_then_n (hK72 _ _ ?_))
        refine wp_ret ?_
        refine x_block_r ?_
        refine x_then_r ?_
        refine x_then_r ?_
        refine x_block_r ?_
        refine x_then_r ?_
        refine e_ret1 hR74 rfl rfl rfl ?_
        refine ⟨?_, hS35.fr⟩
        exact congrArg Ending.returned (ret_b (by first | exact (heavy_len (by omega)).symm | exact (heavy_at (k := k) (by omega) (by omega)).symm | exact (heavy_no hi (by omega) (by omega)).symm))
      · skip
        have hR75 := hR68.setb (d := 19) (b := false) rfl (decide_eq_false h69)
        refine wp_cond_false (hR75.ev rfl) ?_
        refine wp_skip ?_
        refine x_block_n ?_
        refine x_then_n (hK52 _ _ ?_)
        refine c_region ?_
        refine mv hR75 (fun a76 hR77 => ?_)
        refine r_add (z := ((k + 1 : Nat) : Int)) sv hR77 rfl rfl rfl rfl (by decide) (by omega) (by omega) (by omega) (fun a78 hR79 => ?_)
        refine asg hR79 (fun a80 hR81 => ?_)
        refine wpList_nil ?_
        exact ⟨_, by omega, k + 1, (hR81.sub (rc rfl (rc rfl (rc rfl rnl)))), hS35, by omega, light_step hi (by omega), rfl⟩
    · skip
      have hR82 := hR48.setb (d := 10) (b := false) rfl (decide_eq_false h49)
      refine wp_cond_false (hR82.ev rfl) ?_
      refine wp_exit ?_
      refine x_then_e ?_
      refine x_then_e ?_
      refine x_block_eq ?_
      refine x_then_n (hK26 _ _ ?_)
      refine wp_seq_k (fun K83 hK84 => ?_)
      refine c_region ?_
      refine asg hR82 (fun a85 hR86 => ?_)
      refine wpList_nil (x_then_n (hK84 _ _ ?_))
      refine wp_ret ?_
      refine e_ret1 hR86 rfl rfl rfl ?_
      refine ⟨?_, hS35.fr⟩
      exact congrArg Ending.returned (ret_b (by first | exact (heavy_len (by omega)).symm | exact (heavy_at (k := k) (by omega) (by omega)).symm | exact (heavy_no hi (by omega) (by omega)).symm))
end Go.Proofs.YtobgdeffhdefeaaDoor
/- Contracts of functions, one theorem each: what the call returns, and that nothing old is changed. Printed by gen.py. -/
namespace Go.Proofs.YtobgdeffhdefeaaDoor
open Go Go.RowKit
set_option linter.unusedSimpArgs false
set_option linter.unusedVariables false

set_option maxRecDepth 100000 in
set_option maxHeartbeats 1000000 in
theorem shown11_calls (w0 : World) (Z : Nat → Prop) (hZ : ∀ k, Z k → k < w0.heap.size)  (hShp : Shapes w0 Z) :
    Calls Tryd.prog 27 [].toArray w0 (fun e w' => e = .returned (.bool (true)) ∧ Fr none_ w0 w') := by
  have hstart : ∀ k, Z k → imm Z w0 [] w0 k ∧ w0.heap[k]? = w0.heap[k]? := fun k hk => ⟨⟨hZ k hk, fun _ => hk, fun _ h => by cases h⟩, rfl⟩
  have hS3 : St w0 Z none_ w0 [] [dShapes] := St.start w0 Z none_ _ (by
    intro d hd
    simp only [List.mem_cons, List.not_mem_nil, or_false] at hd
    rcases hd with rfl
    · exact Dat.mono _ _ _ _ _ (Nat.le_refl _) hShp hstart
    )
  refine c_enter Tryd.func27 rfl Tryd.ntmps27 rfl (fun a1 hR2 => ?_)
  refine wp_seq_k (fun K4 hK5 => ?_)
  refine c_region ?_
  refine asg hR2 (fun a6 hR7 => ?_)
  refine wpList_nil (x_then_n (hK5 _ _ ?_))
  refine wp_seq_k (fun K8 hK9 => ?_)
  refine c_region ?_
  refine m_build (ps := [(0, .const (.int .i64 17))]) (v := .agg #[.int .i64 17, .int .i64 0, .int .i64 0, .string (⟨#[]⟩ : ByteArray)]) sv hR7 rfl rfl rfl (fun _ => by kernel_rfl) (by decide) (fun a10 hR11 => ?_)
  refine m_build (ps := [(0, .const (.int .i64 28))]) (v := .agg #[.int .i64 28, .int .i64 0, .int .i64 0, .string (⟨#[]⟩ : ByteArray)]) sv hR11 rfl rfl rfl (fun _ => by kernel_rfl) (by decide) (fun a12 hR13 => ?_)
  refine m_buildSlice (ps := [(0, .tmp 4), (1, .tmp 5)]) (cs := [.int .i64 17, .int .i64 0, .int .i64 0, .string (⟨#[]⟩ : ByteArray), .int .i64 28, .int .i64 0, .int .i64 0, .string (⟨#[]⟩ : ByteArray)]) sv hR13 hS3 rfl rfl rfl Tryd.underlying22 zi32 rfl rfl (by kernel_rfl) rfl (by decide) (fun a14 w15 g16 hR17 hS18 => ?_)
  refine asg hR17 (fun a19 hR20 => ?_)
  refine wpList_nil (x_then_n (hK9 _ _ ?_))
  refine wp_seq_k (fun K21 hK22 => ?_)
  refine c_region ?_
  refine mv hR20 (fun a23 hR24 => ?_)
  have hS25 : St w0 Z none_ w15 [.row (some ⟨g16, 0, none⟩) 2 2 32 4 (encNs ([(⟨17, 0, 0, (⟨#[]⟩ : ByteArray)⟩ : Nd), (⟨28, 0, 0, (⟨#[]⟩ : ByteArray)⟩ : Nd)]))] [dShapes] := hS18
  have hc29 := own_cap (hS25.res (i := 0) rfl)
  obtain ⟨hS26, hrow27⟩ := hS25.row_data (i := 0) rfl (fun _ h => h)
  have hS28 := hS26.data (dRow 4 (some ⟨g16, 0, none⟩) 2 2 (encNs ([(⟨17, 0, 0, (⟨#[]⟩ : ByteArray)⟩ : Nd), (⟨28, 0, 0, (⟨#[]⟩ : ByteArray)⟩ : Nd)]))) ⟨hc29, hrow27⟩
  refine k_call (xs := [.tmp 8]) se hR24 rfl rfl rfl (by decide) ok28 (erase_calls _ (imm Z w0 [] _) (fun _ h => h.1) (some ⟨g16, 0, none⟩) 2 ([(⟨17, 0, 0, (⟨#[]⟩ : ByteArray)⟩ : Nd), (⟨28, 0, 0, (⟨#[]⟩ : ByteArray)⟩ : Nd)]) (hS28.get (i := 0) rfl) (hS28.get (i := 1) rfl) sml_sp (by simp)) ?_
  rintro e39 w31 ⟨A35, c36, rfl, hf34, hd37⟩
  have hS40 := hS28.below hf34.below
  have hS41 := hS40.data (dRow 4 A35 ((erA ([(⟨17, 0, 0, (⟨#[]⟩ : ByteArray)⟩ : Nd), (⟨28, 0, 0, (⟨#[]⟩ : ByteArray)⟩ : Nd)])).length) c36 (encNs (erA ([(⟨17, 0, 0, (⟨#[]⟩ : ByteArray)⟩ : Nd), (⟨28, 0, 0, (⟨#[]⟩ : ByteArray)⟩ : Nd)])))) ⟨hd37.1, hd37.2.mono (fun _ hk => ⟨nxt_imm hS28 hk, rfl⟩)⟩
  refine ⟨_, rfl, fun a30 hR32 => ?_⟩
  refine mv hR32 (fun a42 hR43 => ?_)
  refine r_extract sv hR43 rfl rfl rfl rfl (by decide) (fun a44 hR45 => ?_)
  refine r_extract sv hR45 rfl rfl rfl rfl (by decide) (fun a46 hR47 => ?_)
  refine asg hR47 (fun a48 hR49 => ?_)
  refine asg hR49 (fun a50 hR51 => ?_)
  refine wpList_nil (x_then_n (hK22 _ _ ?_))
  refine wp_seq_k (fun K52 hK53 => ?_)
  refine c_region ?_
  refine mv hR51 (fun a54 hR55 => ?_)
  refine r_eql sv hR55 rfl rfl rfl rfl (by decide) (fun a56 hR57 => ?_)
  refine mv hR57 (fun a58 hR59 => ?_)
  refine l_join (fun ga gw => Reg ga 26 [(0, .bool false), (2, .slice A35 ((erA ([(⟨17, 0, 0, (⟨#[]⟩ : ByteArray)⟩ : Nd), (⟨28, 0, 0, (⟨#[]⟩ : ByteArray)⟩ : Nd)])).length) c36), (18, .bool ((decide (((chk ([(⟨17, 0, 0, (⟨#[]⟩ : ByteArray)⟩ : Nd), (⟨28, 0, 0, (⟨#[]⟩ : ByteArray)⟩ : Nd)]))) = 0)) && (decide ((((erA ([(⟨17, 0, 0, (⟨#[]⟩ : ByteArray)⟩ : Nd), (⟨28, 0, 0, (⟨#[]⟩ : ByteArray)⟩ : Nd)])).length : Nat) : Int) = 1)))), (1000000, .bool false)] ∧ St w0 Z none_ gw [] [dShapes, dRow 4 (some ⟨g16, 0, none⟩) 2 2 (encNs ([(⟨17, 0, 0, (⟨#[]⟩ : ByteArray)⟩ : Nd), (⟨28, 0, 0, (⟨#[]⟩ : ByteArray)⟩ : Nd)])), dRow 4 A35 ((erA ([(⟨17, 0, 0, (⟨#[]⟩ : ByteArray)⟩ : Nd), (⟨28, 0, 0, (⟨#[]⟩ : ByteArray)⟩ : Nd)])).length) c36 (encNs (erA ([(⟨17, 0, 0, (⟨#[]⟩ : ByteArray)⟩ : Nd), (⟨28, 0, 0, (⟨#[]⟩ : ByteArray)⟩ : Nd)])))]) 4 ?_ ?_
  · skip
    rcases Decidable.em (((chk ([(⟨17, 0, 0, (⟨#[]⟩ : ByteArray)⟩ : Nd), (⟨28, 0, 0, (⟨#[]⟩ : ByteArray)⟩ : Nd)]))) = 0) with h60 | h60
    · skip
      have hR61 := hR59.setb (d := 14) (b := true) rfl (decide_eq_true h60)
      refine r_move (st_listV_w (wt hR61)) hR61 rfl rfl rfl (by decide) (fun a62 hR63 => ?_)
      refine r_len (st_listV_w (wt hR63)) hR63 rfl rfl rfl rfl Tryd.underlying22 (by decide) (fun a64 hR65 => ?_)
      refine r_eql (st_listV_w (wt hR65)) hR65 rfl rfl rfl rfl (by decide) (fun a66 hR67 => ?_)
      refine r_pick_t sv hR67 rfl rfl rfl rfl (by decide) (fun a68 hR69 => ?_)
      refine wpList_nil ?_
      exact x_then_n ⟨(hR69.sub (rc rfl (rc rfl (rc (rb rfl (by first | rfl | (simp only [decide_eq_true h60, if_pos h60, bl]; done) | (simp [h60]; done) | (simp [h60]; omega))) (rc rfl rnl))))), hS41⟩
    · skip
      have hR70 := hR59.setb (d := 14) (b := false) rfl (decide_eq_false h60)
      refine sps hR70 (wff hR70) (fun a71 hR72 => ?_)
      refine sps hR72 (wff hR72) (fun a73 hR74 => ?_)
      refine sps hR74 (wff hR74) (fun a75 hR76 => ?_)
      refine r_pick_f sv hR76 rfl rfl rfl rfl (by decide) (fun a77 hR78 => ?_)
      refine wpList_nil ?_
      exact x_then_n ⟨(hR78.sub (rc rfl (rc rfl (rc (rb rfl (by first | rfl | (simp only [decide_eq_false h60, if_neg h60, bl]; done) | (simp [h60]; done) | (simp [h60]; omega))) (rc rfl rnl))))), hS41⟩
  rintro a79 w80 ⟨hR81, hS82⟩
  refine mv hR81 (fun a83 hR84 => ?_)
  refine l_join (fun ga gw => Reg ga 26 [(0, .bool false), (25, .bool (((decide (((chk ([(⟨17, 0, 0, (⟨#[]⟩ : ByteArray)⟩ : Nd), (⟨28, 0, 0, (⟨#[]⟩ : ByteArray)⟩ : Nd)]))) = 0)) && (decide ((((erA ([(⟨17, 0, 0, (⟨#[]⟩ : ByteArray)⟩ : Nd), (⟨28, 0, 0, (⟨#[]⟩ : ByteArray)⟩ : Nd)])).length : Nat) : Int) = 1))) && (decide ((((nth (erA ([(⟨17, 0, 0, (⟨#[]⟩ : ByteArray)⟩ : Nd), (⟨28, 0, 0, (⟨#[]⟩ : ByteArray)⟩ : Nd)])) 0).K)) = 29)))), (1000000, .bool false)] ∧ St w0 Z none_ gw [] [dShapes, dRow 4 (some ⟨g16, 0, none⟩) 2 2 (encNs ([(⟨17, 0, 0, (⟨#[]⟩ : ByteArray)⟩ : Nd), (⟨28, 0, 0, (⟨#[]⟩ : ByteArray)⟩ : Nd)])), dRow 4 A35 ((erA ([(⟨17, 0, 0, (⟨#[]⟩ : ByteArray)⟩ : Nd), (⟨28, 0, 0, (⟨#[]⟩ : ByteArray)⟩ : Nd)])).length) c36 (encNs (erA ([(⟨17, 0, 0, (⟨#[]⟩ : ByteArray)⟩ : Nd), (⟨28, 0, 0, (⟨#[]⟩ : ByteArray)⟩ : Nd)])))]) 6 ?_ ?_
  · skip
    rcases Bool.eq_false_or_eq_true (((decide (((chk ([(⟨17, 0, 0, (⟨#[]⟩ : ByteArray)⟩ : Nd), (⟨28, 0, 0, (⟨#[]⟩ : ByteArray)⟩ : Nd)]))) = 0)) && (decide ((((erA ([(⟨17, 0, 0, (⟨#[]⟩ : ByteArray)⟩ : Nd), (⟨28, 0, 0, (⟨#[]⟩ : ByteArray)⟩ : Nd)])).length : Nat) : Int) = 1)))) with h85 | h85
    · skip
      have h86 := and_tl h85
      have h87 := of_decide_eq_true h86
      have h88 := and_tr h85
      have h89 := of_decide_eq_true h88
      have hR90 := hR84.setb (d := 19) (b := true) rfl h85
      refine r_move (st_listV_w (wt hR90)) hR90 rfl rfl rfl (by decide) (fun a91 hR92 => ?_)
      refine m_index (i := 0) (j := 0 * 4) (st_listV_w (wt hR92)) hR92 rfl rfl rfl rfl Tryd.underlying22 sz32 (by omega) (by omega) (nds_elem (t := erA ([(⟨17, 0, 0, (⟨#[]⟩ : ByteArray)⟩ : Nd), (⟨28, 0, 0, (⟨#[]⟩ : ByteArray)⟩ : Nd)])) (k := 0) (hS82.row (i := 2) rfl).2 (by omega)).some_ rfl (by decide) (fun a93 hR94 => ?_)
      refine m_fieldE (j' := 0 * 4) (st_listV_w (wt hR94)) hR94 rfl rfl rfl (nds_elem (t := erA ([(⟨17, 0, 0, (⟨#[]⟩ : ByteArray)⟩ : Nd), (⟨28, 0, 0, (⟨#[]⟩ : ByteArray)⟩ : Nd)])) (k := 0) (hS82.row (i := 2) rfl).2 (by omega)).some_ Tryd.underlying32 rfl sz3 rfl rfl (by decide) (fun a95 hR96 => ?_)
      refine m_loadE (st_listV_w (wt hR96)) hR96 rfl rfl rfl 0 (0 * 4) (nds_elem (t := erA ([(⟨17, 0, 0, (⟨#[]⟩ : ByteArray)⟩ : Nd), (⟨28, 0, 0, (⟨#[]⟩ : ByteArray)⟩ : Nd)])) (k := 0) (hS82.row (i := 2) rfl).2 (by omega)) rfl rfl Tryd.underlying3 rfl (by decide) (fun a97 hR98 => ?_)
      refine r_eql (st_listV_w (wt hR98)) hR98 rfl rfl rfl rfl (by decide) (fun a99 hR100 => ?_)
      refine r_pick_t sv hR100 rfl rfl rfl rfl (by decide) (fun a101 hR102 => ?_)
      refine wpList_nil ?_
      exact x_then_n ⟨(hR102.sub (rc rfl (rc (rb rfl (by first | rfl | (simp only [h85, bl]; done) | (simp [h85]; done) | (simp [h85]; omega))) (rc rfl rnl)))), hS82⟩
    · skip
      have hq103 := h85
      try simp only [Bool.or_eq_true, Bool.and_eq_true, Bool.not_eq_true', Bool.not_eq_false', decide_eq_true_eq, decide_eq_false_iff_not, Bool.or_eq_false_iff, Bool.and_eq_false_iff] at hq103
      have hR104 := hR84.setb (d := 19) (b := false) rfl h85
      refine sps hR104 (wff hR104) (fun a105 hR106 => ?_)
      refine sps hR106 (wff hR106) (fun a107 hR108 => ?_)
      refine sps hR108 (wff hR108) (fun a109 hR110 => ?_)
      refine sps hR110 (wff hR110) (fun a111 hR112 => ?_)
      refine sps hR112 (wff hR112) (fun a113 hR114 => ?_)
      refine r_pick_f sv hR114 rfl rfl rfl rfl (by decide) (fun a115 hR116 => ?_)
      refine wpList_nil ?_
      exact x_then_n ⟨(hR116.sub (rc rfl (rc (rb rfl (by first | rfl | (simp only [h85, bl]; done) | (simp [h85]; done) | (simp [h85]; omega))) (rc rfl rnl)))), hS82⟩
  rintro a117 w118 ⟨hR119, hS120⟩
  refine asg hR119 (fun a121 hR122 => ?_)
  refine wpList_nil (x_then_n (hK53 _ _ ?_))
  refine wp_ret ?_
  refine e_ret1 hR122 rfl rfl rfl ?_
  refine ⟨?_, hS120.fr⟩
  exact congrArg Ending.returned (ret_b (by simp [chk_sp, era_sp, show (nth [tick] 0).K = 29 from rfl]))
end Go.Proofs.YtobgdeffhdefeaaDoor
