import Derived.Test.YtobgdeffhdefeaaDoorZud
/- Contracts of functions, one theorem each: what the call returns, and that nothing old is changed. Printed by gen.py. -/
namespace Go.Proofs.YtobgdeffhdefeaaDoor
open Go Go.RowKit
set_option linter.unusedSimpArgs false
set_option linter.unusedVariables false

set_option maxRecDepth 100000 in
set_option maxHeartbeats 1000000 in
theorem revS_calls (w0 : World) (Z : Nat → Prop) (hZ : ∀ k, Z k → k < w0.heap.size) (tA : Option Addr) (tc : Nat) (t : List Sl) (ht : (Res.row tA (t).length tc 22 1 (encSs t)).holds w0) (htz : ∀ k, rM tA k → ¬ Z k) (hl : t.length ≤ 1000000) :
    Calls Tryd.prog 55 [.slice tA t.length tc].toArray w0 (fun e w' => e = .returned (.tuple #[]) ∧ Fr (rM tA) w0 w' ∧ (Res.row tA (t.reverse).length tc 22 1 (encSs t.reverse)).holds w') := by
  have hstart : ∀ k, Z k → imm Z w0 [.row tA ((t).length) tc 22 1 (encSs t)] w0 k ∧ w0.heap[k]? = w0.heap[k]? := fun k hk => imm_startR hZ htz hk
  have hS3 : St w0 Z (rM tA) w0 [.row tA ((t).length) tc 22 1 (encSs t)] [] := St.startR w0 Z _ _ _ _ _ _ _ ht (by
    intro d hd
    cases hd
    )
  refine c_enter Tryd.func55 rfl Tryd.ntmps55 rfl (fun a1 hR2 => ?_)
  refine wp_seq_k (fun K4 hK5 => ?_)
  refine c_region ?_
  refine r_move (st_listV rfl) hR2 rfl rfl rfl (by decide) (fun a6 hR7 => ?_)
  refine r_len (st_listV rfl) hR7 rfl rfl rfl rfl Tryd.underlying39 (by decide) (fun a8 hR9 => ?_)
  refine r_sub (z := (((t.length : Nat) : Int) - 1)) (st_listV rfl) hR9 rfl rfl rfl rfl (by decide) (by omega) (by omega) (by omega) (fun a10 hR11 => ?_)
  refine r_assign (st_listV rfl) hR11 rfl rfl rfl (by decide) (fun a12 hR13 => ?_)
  refine r_assign (st_listV rfl) hR13 rfl rfl rfl (by decide) (fun a14 hR15 => ?_)
  refine wpList_nil ?_
  refine x_then_n (hK5 _ _ ?_)
  refine wp_block ?_
  refine wp_loop_ghost (fun gn ga gw => ∃ k : Nat, ∃ R : List Sl, (Reg ga 28 [(1000000, .bool false), (0, .slice tA t.length tc), (2, .int .i64 ((k : Nat) : Int)), (3, .int .i64 (((t.length : Nat) : Int) - ((k : Nat) : Int) - 1))]) ∧ (St w0 Z (rM tA) gw [.row tA ((R).length) tc 22 1 (encSs R)] []) ∧ (RevTo t R k) ∧ (2 * k ≤ t.length + 1) ∧ (t.length - k) = gn) _ ⟨0, t, (Reg.cons hR15 (Reg.cons hR15 (Reg.cons hR15 (Reg.cons hR15 (hR15.nil) rfl) rfl) rfl) rfl), hS3, RevTo.zero t, by omega, rfl⟩ ?_
  rintro r16 a17 w18 ⟨k, R, hR19, hS20, hr, hkn, hn21⟩
  have hrl := hr.len
  refine wp_seq_k (fun K22 hK23 => ?_)
  refine wp_seq_k (fun K24 hK25 => ?_)
  refine c_region ?_
  refine r_move (st_listV rfl) hR19 rfl rfl rfl (by decide) (fun a26 hR27 => ?_)
  refine r_move (st_listV rfl) hR27 rfl rfl rfl (by decide) (fun a28 hR29 => ?_)
  refine r_lss (st_listV rfl) hR29 rfl rfl rfl rfl (by decide) (fun a30 hR31 => ?_)
  refine wpList_nil ?_
  refine x_then_n (hK25 _ _ ?_)
  rcases Decidable.em (((k : Nat) : Int) < (((t.length : Nat) : Int) - ((k : Nat) : Int) - 1)) with h32 | h32
  · skip
    have hR33 := hR31.setb (d := 9) (b := true) rfl (decide_eq_true h32)
    refine wp_cond_true (hR33.ev rfl) ?_
    refine wp_skip ?_
    refine x_then_n (hK23 _ _ ?_)
    refine wp_seq_k (fun K34 hK35 => ?_)
    refine wp_block ?_
    obtain ⟨J36, hJ37, hS38⟩ := hS20.agree
    refine dl_region2 (S := (fun x => (w18.heap.size ≤ x.heap.size ∧ ∀ k, J36 k → x.heap[k]? = w18.heap[k]?) ∧ ((Res.row tA ((R).length) tc 22 1 (encSs R)).holds x) ∧ (True))) (n := 16) [13, 14, 15] mixed rfl hS38 (pan_block (pan_then (pan_then (pan_block pan_body)))) (fun Q41 hP42 hN43 w39 hS40 => ?_)
    have hSw44 : (w18.heap.size ≤ w39.heap.size ∧ ∀ k, J36 k → w39.heap[k]? = w18.heap[k]?) ∧ ((Res.row tA ((R).length) tc 22 1 (encSs R)).holds w39) ∧ (True) := ⟨⟨(hS40.get (i := 0) rfl).1, fun k hk => ((hS40.get (i := 0) rfl).2 k hk).2⟩, (hS40.res (i := 0) rfl), trivial⟩
    refine dl_takeA (i := 0) rfl (by kernel_rfl) (by kernel_rfl) (by kernel_rfl) (fun c a w h => hP42 c _ _ _ _ h) rfl (by decide) hR33 (want_n rfl) (fun x => r_move (st_yield hR33 rfl (by decide)) hR33 rfl rfl rfl (by decide) (fun _ h => ⟨h.get _ _ (by decide) rfl, rfl⟩)) (fun a45 hR46 => ?_)
    refine dl_takeA (i := 1) rfl (by kernel_rfl) (by kernel_rfl) (by kernel_rfl) (fun c a w h => hP42 c _ _ _ _ h) rfl (by decide) hR46 (want_n rfl) (fun x => r_move (st_yield hR46 rfl (by decide)) hR46 rfl rfl rfl (by decide) (fun _ h => ⟨h.get _ _ (by decide) rfl, rfl⟩)) (fun a47 hR48 => ?_)
    refine dl_takeA (i := 2) rfl (by kernel_rfl) (by kernel_rfl) (by kernel_rfl) (fun c a w h => hP42 c _ _ _ _ h) rfl (by decide) hR48 (want_n rfl) (fun x => r_move (st_yield hR48 rfl (by decide)) hR48 rfl rfl rfl (by decide) (fun _ h => ⟨h.get _ _ (by decide) rfl, rfl⟩)) (fun a49 hR50 => ?_)
    refine dl_takeA (i := 3) rfl (by kernel_rfl) (by kernel_rfl) (by kernel_rfl) (fun c a w h => hP42 c _ _ _ _ h) rfl (by decide) hR50 (want_n rfl) (fun x => r_move (st_yield hR50 rfl (by decide)) hR50 rfl rfl rfl (by decide) (fun _ h => ⟨h.get _ _ (by decide) rfl, rfl⟩)) (fun a51 hR52 => ?_)
    refine dl_takeA (i := 4) rfl (by kernel_rfl) (by kernel_rfl) (by kernel_rfl) (fun c a w h => hP42 c _ _ _ _ h) rfl (by decide) hR52 (want_n rfl) (fun x => r_move (st_yield hR52 rfl (by decide)) hR52 rfl rfl rfl (by decide) (fun _ h => ⟨h.get _ _ (by decide) rfl, rfl⟩)) (fun a53 hR54 => ?_)
    refine dl_takeA (i := 5) rfl (by kernel_rfl) (by kernel_rfl) (by kernel_rfl) (fun c a w h => hP42 c _ _ _ _ h) rfl (by decide) hR54 (want_n rfl) (fun x => r_move (st_yield hR54 rfl (by decide)) hR54 rfl rfl rfl (by decide) (fun _ h => ⟨h.get _ _ (by decide) rfl, rfl⟩)) (fun a55 hR56 => ?_)
    refine dl_takeA (i := 6) rfl (by kernel_rfl) (by kernel_rfl) (by kernel_rfl) (fun c a w h => hP42 c _ _ _ _ h) rfl (by decide) hR56 (want_n rfl) (fun x => m_index (i := (t.length) - (k + 1)) (j := ((t.length) - (k + 1)) * 1) (st_yield hR56 rfl (by decide)) hR56 rfl rfl rfl rfl Tryd.underlying39 sz22 (by omega) (by omega) (own_ss (t := R) (k := (t.length) - (k + 1)) (hS40.res (i := 0) rfl) (by omega)).some_ rfl (by decide) (fun _ h => ⟨h.get _ _ (by decide) rfl, rfl⟩)) (fun a57 hR58 => ?_)
    refine dl_take (i := 7) rfl (by kernel_rfl) (by kernel_rfl) (by kernel_rfl) (by kernel_rfl) (fun c a w h => hP42 c _ _ _ _ h) rfl (by decide) hR58 (want_n rfl) (fun x hx => m_loadE (st_yield hR58 rfl (by decide)) hR58 rfl rfl rfl 0 (((t.length) - (k + 1)) * 1) (own_ss (t := R) (k := (t.length) - (k + 1)) hx.2.1 (by omega)) rfl rfl Tryd.underlying22 rfl (by decide) (fun _ h => ⟨h.get _ _ (by decide) rfl, rfl⟩)) hSw44 (fun a59 hR60 => ?_)
    refine dl_takeA (i := 8) rfl (by kernel_rfl) (by kernel_rfl) (by kernel_rfl) (fun c a w h => hP42 c _ _ _ _ h) rfl (by decide) hR60 (want_n rfl) (fun x => r_move (st_yield hR60 rfl (by decide)) hR60 rfl rfl rfl (by decide) (fun _ h => ⟨h.get _ _ (by decide) rfl, rfl⟩)) (fun a61 hR62 => ?_)
    refine dl_takeA (i := 9) rfl (by kernel_rfl) (by kernel_rfl) (by kernel_rfl) (fun c a w h => hP42 c _ _ _ _ h) rfl (by decide) hR62 (want_n rfl) (fun x => r_move (st_yield hR62 rfl (by decide)) hR62 rfl rfl rfl (by decide) (fun _ h => ⟨h.get _ _ (by decide) rfl, rfl⟩)) (fun a63 hR64 => ?_)
    refine dl_takeA (i := 10) rfl (by kernel_rfl) (by kernel_rfl) (by kernel_rfl) (fun c a w h => hP42 c _ _ _ _ h) rfl (by decide) hR64 (want_n rfl) (fun x => m_index (i := k) (j := k * 1) (st_yield hR64 rfl (by decide)) hR64 rfl rfl rfl rfl Tryd.underlying39 sz22 (by omega) (by omega) (own_ss (t := R) (k := k) (hS40.res (i := 0) rfl) (by omega)).some_ rfl (by decide) (fun _ h => ⟨h.get _ _ (by decide) rfl, rfl⟩)) (fun a65 hR66 => ?_)
    refine dl_take (i := 11) rfl (by kernel_rfl) (by kernel_rfl) (by kernel_rfl) (by kernel_rfl) (fun c a w h => hP42 c _ _ _ _ h) rfl (by decide) hR66 (want_n rfl) (fun x hx => m_loadE (st_yield hR66 rfl (by decide)) hR66 rfl rfl rfl 0 (k * 1) (own_ss (t := R) (k := k) hx.2.1 (by omega)) rfl rfl Tryd.underlying22 rfl (by decide) (fun _ h => ⟨h.get _ _ (by decide) rfl, rfl⟩)) hSw44 (fun a67 hR68 => ?_)
    refine dl_takeA (i := 12) rfl (by kernel_rfl) (by kernel_rfl) (by kernel_rfl) (fun c a w h => hP42 c _ _ _ _ h) rfl (by decide) hR68 (want_n rfl) (fun x => m_index (i := k) (j := k * 1) (st_yield hR68 rfl (by decide)) hR68 rfl rfl rfl rfl Tryd.underlying39 sz22 (by omega) (by omega) (own_ss (t := R) (k := k) (hS40.res (i := 0) rfl) (by omega)).some_ rfl (by decide) (fun _ h => ⟨h.get _ _ (by decide) rfl, rfl⟩)) (fun a69 hR70 => ?_)
    refine dl_one (i := 13) (by kernel_rfl) ?_
    refine m_storeE (f := encS) (i := 0) (k := k) (L := R) (z := (((nthS R ((t.length) - (k + 1))).1, (nthS R ((t.length) - (k + 1))).2.1, (nthS R ((t.length) - (k + 1))).2.2) : Sl)) (st_op rfl (want_n rfl)) hR70 hS40 rfl rfl rfl rfl rfl rfl (by omega) encS_len (one1 (f := encS) encS_one) rfl sz22 (fun a71 w72 hR73 hS74 => ?_)
    have hl75 : (R.set (k) (((nthS R ((t.length) - (k + 1))).1, (nthS R ((t.length) - (k + 1))).2.1, (nthS R ((t.length) - (k + 1))).2.2) : Sl)).length = (R).length := by simp
    refine ⟨fun h => absurd h (by decide), ?_⟩
    refine dl_takeA (i := 14) rfl (by kernel_rfl) (by kernel_rfl) (by kernel_rfl) (fun c a w h => hP42 c _ _ _ _ h) rfl (by decide) hR73 (want_n rfl) (fun x => m_index (i := (t.length) - (k + 1)) (j := ((t.length) - (k + 1)) * 1) (st_yield hR73 rfl (by decide)) hR73 rfl rfl rfl rfl Tryd.underlying39 sz22 (by omega) (by omega) (own_ss (t := R.set (k) (((nthS R ((t.length) - (k + 1))).1, (nthS R ((t.length) - (k + 1))).2.1, (nthS R ((t.length) - (k + 1))).2.2) : Sl)) (k := (t.length) - (k + 1)) (hS74.res (i := 0) rfl) (by omega)).some_ rfl (by decide) (fun _ h => ⟨h.get _ _ (by decide) rfl, rfl⟩)) (fun a76 hR77 => ?_)
    refine dl_one (i := 15) (by kernel_rfl) ?_
    refine m_storeE (f := encS) (i := 0) (k := (t.length) - (k + 1)) (L := (R.set (k) (((nthS R ((t.length) - (k + 1))).1, (nthS R ((t.length) - (k + 1))).2.1, (nthS R ((t.length) - (k + 1))).2.2) : Sl))) (z := (((nthS R k).1, (nthS R k).2.1, (nthS R k).2.2) : Sl)) (st_op rfl (want_n rfl)) hR77 hS74 rfl rfl rfl rfl rfl rfl (by omega) encS_len (one1 (f := encS) encS_one) rfl sz22 (fun a78 w79 hR80 hS81 => ?_)
    have hl82 : ((R.set (k) (((nthS R ((t.length) - (k + 1))).1, (nthS R ((t.length) - (k + 1))).2.1, (nthS R ((t.length) - (k + 1))).2.2) : Sl)).set ((t.length) - (k + 1)) (((nthS R k).1, (nthS R k).2.1, (nthS R k).2.2) : Sl)).length = (R.set (k) (((nthS R ((t.length) - (k + 1))).1, (nthS R ((t.length) - (k + 1))).2.1, (nthS R ((t.length) - (k + 1))).2.2) : Sl)).length := by simp
    refine ⟨fun h => absurd h (by decide), ?_⟩
    refine dl_done (by kernel_rfl) (hN43 _ _ ?_) _
    refine x_block_n ?_
    refine x_then_n (hK35 _ _ ?_)
    refine c_region ?_
    refine r_move (st_listV rfl) hR80 rfl rfl rfl (by decide) (fun a83 hR84 => ?_)
    refine r_add (z := ((k + 1 : Nat) : Int)) (st_listV rfl) hR84 rfl rfl rfl rfl (by decide) (by omega) (by omega) (by omega) (fun a85 hR86 => ?_)
    refine r_move (st_listV rfl) hR86 rfl rfl rfl (by decide) (fun a87 hR88 => ?_)
    refine r_sub (z := (((t.length : Nat) : Int) - ((k : Nat) : Int) - 2)) (st_listV rfl) hR88 rfl rfl rfl rfl (by decide) (by omega) (by omega) (by omega) (fun a89 hR90 => ?_)
    refine r_assign (st_listV rfl) hR90 rfl rfl rfl (by decide) (fun a91 hR92 => ?_)
    refine r_assign (st_listV rfl) hR92 rfl rfl rfl (by decide) (fun a93 hR94 => ?_)
    refine wpList_nil ?_
    have hS95 := hS81.forget 0
    exact ⟨_, by omega, k + 1, (R.set (k) (((nthS R ((t.length) - (k + 1))).1, (nthS R ((t.length) - (k + 1))).2.1, (nthS R ((t.length) - (k + 1))).2.2) : Sl)).set ((t.length) - (k + 1)) (((nthS R k).1, (nthS R k).2.1, (nthS R k).2.2) : Sl), (Reg.cons hR94 (Reg.cons hR94 (Reg.cons hR94 (Reg.consi hR94 (hR94.nil) rfl (by omega)) rfl) rfl) rfl), hS95, RevTo.step hr (by omega) (by omega) rfl rfl, by omega, rfl⟩
  · skip
    have hR96 := hR31.setb (d := 9) (b := false) rfl (decide_eq_false h32)
    refine wp_cond_false (hR96.ev rfl) ?_
    refine wp_exit ?_
    refine x_then_e ?_
    refine x_then_e ?_
    refine x_block_eq ?_
    refine e_end0 hR96 rfl rfl ?_
    have he97 : R = t.reverse := hr.done (by omega)
    have hS98 := hS20
    rw [he97] at hS98
    refine ⟨?_, hS98.fr, hS98.res (i := 0) rfl⟩
    rfl
end Go.Proofs.YtobgdeffhdefeaaDoor
/- Contracts of functions, one theorem each: what the call returns, and that nothing old is changed. Printed by gen.py. -/
namespace Go.Proofs.YtobgdeffhdefeaaDoor
open Go Go.RowKit
set_option linter.unusedSimpArgs false
set_option linter.unusedVariables false

set_option maxRecDepth 100000 in
set_option maxHeartbeats 1000000 in
theorem eraProofs_calls (w0 : World) (Z : Nat → Prop) (hZ : ∀ k, Z k → k < w0.heap.size) (tA : Option Addr) (tc : Nat) (t : List Nd) (hShp : Shapes w0 Z) (ht : (dRow 4 tA t.length tc (encNs t)).φ w0 Z) (hsm : sml t) (hl : t.length ≤ 1000000) :
    Calls Tryd.prog 31 [.slice tA t.length tc].toArray w0 (fun e w' => ∃ (rA0 : Option Addr) (rc0 : Nat) (rL0 : List Sl), e = .returned (.tuple #[.slice rA0 rL0.length rc0, .int .i64 (chk t)]) ∧ Fr none_ w0 w' ∧ (dRow 1 rA0 rL0.length rc0 (encSs rL0)).φ w' (nxt Z w0 w') ∧ (dAll rL0).φ w' (nxt Z w0 w') ∧ lsts rL0 = prA t) := by
  have hstart : ∀ k, Z k → imm Z w0 [] w0 k ∧ w0.heap[k]? = w0.heap[k]? := fun k hk => ⟨⟨hZ k hk, fun _ => hk, fun _ h => by cases h⟩, rfl⟩
  have hS3 : St w0 Z none_ w0 [] [dShapes, dRow 4 tA t.length tc (encNs t)] := St.start w0 Z none_ _ (by
    intro d hd
    simp only [List.mem_cons, List.not_mem_nil, or_false] at hd
    rcases hd with rfl | rfl
    · exact Dat.mono _ _ _ _ _ (Nat.le_refl _) hShp hstart
    · exact Dat.mono _ _ _ _ _ (Nat.le_refl _) ht hstart
    )
  refine c_enterM Tryd.func31 rfl Tryd.ntmps31 rfl (fun a1 hR2 => ?_)
  refine wp_seq_k (fun K4 hK5 => ?_)
  refine c_region ?_
  refine m_box (cs := [.slice tA t.length tc]) (st_listV rfl) hR2 hS3 rfl rfl rfl rfl (by decide) (fun a6 w7 g8 hR9 hS10 => ?_)
  refine r_assign (st_listV rfl) hR9 rfl rfl rfl (by decide) (fun a11 hR12 => ?_)
  refine r_assign (st_listV rfl) hR12 rfl rfl rfl (by decide) (fun a13 hR14 => ?_)
  refine wpList_nil ?_
  refine x_then_n (hK5 _ _ ?_)
  refine wp_seq_k (fun K15 hK16 => ?_)
  refine wp_seq_k (fun K17 hK18 => ?_)
  refine c_region ?_
  refine m_load (i := 0) (st_listV rfl) hR14 hS10 rfl rfl rfl rfl rfl Tryd.underlying22 rfl (by decide) (fun a19 hR20 => ?_)
  have hS21 : St w0 Z none_ w7 [.box g8 22 [.slice tA t.length tc]] [dShapes, dRow 4 tA t.length tc (encNs t)] := hS10
  refine k_call (xs := [.tmp 8]) (st_list rfl) hR20 rfl rfl rfl (by decide) ok44 (check_calls _ (imm Z w0 [.box g8 22 [.slice tA t.length tc]] _) (fun _ h => h.1) tA tc t (hS21.get (i := 0) rfl) (hS21.get (i := 1) rfl) (by first | assumption | omega | (simp; done) | (simp; omega)) (by first | assumption | omega | (simp; done) | (simp; omega))) ?_
  rintro e28 w23 ⟨rfl, hf26⟩
  have hS29 := hS21.below hf26.below
  refine ⟨_, rfl, fun a22 hR24 => ?_⟩
  refine r_assign (st_listV rfl) hR24 rfl rfl rfl (by decide) (fun a30 hR31 => ?_)
  refine wpList_nil ?_
  refine x_then_n (hK18 _ _ ?_)
  refine wp_seq_k (fun K32 hK33 => ?_)
  refine c_region ?_
  refine r_move (st_listV rfl) hR31 rfl rfl rfl (by decide) (fun a34 hR35 => ?_)
  refine r_neq (st_listV rfl) hR35 rfl rfl rfl rfl (by decide) (fun a36 hR37 => ?_)
  refine wpList_nil ?_
  refine x_then_n (hK33 _ _ ?_)
  rcases Decidable.em (((chk t)) = 0) with h38 | h38
  · skip
    have hR39 := hR37.setb (d := 11) (b := false) rfl (by rw [(decide_eq_true h38)]; rfl)
    refine wp_cond_false (hR39.ev rfl) ?_
    refine wp_skip ?_
    refine x_then_n (hK16 _ _ ?_)
    refine wp_seq_k (fun K40 hK41 => ?_)
    refine c_region ?_
    refine m_alloc (cs := [.slice none 0 0]) (st_listV rfl) hR39 hS29 rfl rfl ze39 rfl (by decide) (fun a42 w43 g44 hR45 hS46 => ?_)
    refine wpList_nil ?_
    refine x_then_n (hK41 _ _ ?_)
    refine wp_seq_k (fun K47 hK48 => ?_)
    refine wp_seq_k (fun K49 hK50 => ?_)
    refine c_region ?_
    refine m_load (i := 0) (st_listV rfl) hR45 hS46 rfl rfl rfl rfl rfl Tryd.underlying22 rfl (by decide) (fun a51 hR52 => ?_)
    have hS53 : St w0 Z none_ w43 [.box g8 22 [.slice tA t.length tc], .box g44 39 [.slice none 0 0]] [dShapes, dRow 4 tA t.length tc (encNs t)] := hS46
    refine k_call (xs := [.tmp 13]) (st_list rfl) hR52 rfl rfl rfl (by decide) ok52 (proofsMk_calls _ (imm Z w0 [.box g8 22 [.slice tA t.length tc], .box g44 39 [.slice none 0 0]] _) (fun _ h => h.1) tA tc t (hS53.get (i := 1) rfl) (by first | assumption | omega | (simp; done) | (simp; omega))) ?_
    rintro e62 w55 ⟨q59, rfl, hf58, hd60⟩
    have hS63 := hS53.below hf58.below
    have hS64 := hS63.data (dBox q59 [.slice tA t.length tc]) (hd60.imp (fun hk => nxt_imm hS53 hk) id)
    refine ⟨_, rfl, fun a54 hR56 => ?_⟩
    refine wpList_nil ?_
    refine x_then_n (hK50 _ _ ?_)
    refine wp_block ?_
    have hS65 : St w0 Z none_ w55 [.box g8 22 [.slice tA t.length tc], .box g44 39 [.slice none 0 0]] [dShapes, dRow 4 tA t.length tc (encNs t), dBox q59 [.slice tA t.length tc]] := hS64
    have hS66 := hS65.nilrow 22 1
    have hS67 : St w0 Z none_ w55 [.box g8 22 [.slice tA t.length tc], .box g44 39 [.slice none 0 0], .row none 0 0 22 1 (encSs ([]))] [dShapes, dRow 4 tA t.length tc (encNs t), dBox q59 [.slice tA t.length tc]] := hS66
    have hR68 : Reg a54 29 [(1000000, .bool false), (1, .pointer (some ⟨g8, 0, none⟩)), (2, .slice none 0 0), (3, .int .i64 0), (5, .pointer (some ⟨g44, 0, none⟩)), (14, .func (.func 70) #[] #[.pointer (some ⟨q59, 0, none⟩)])] := (Reg.cons hR56 (Reg.cons hR56 (Reg.cons hR56 (Reg.cons hR56 (Reg.cons hR56 (Reg.cons hR56 (hR56.nil) rfl) rfl) rfl) rfl) rfl) rfl)
    refine w_range (xs := prfL t) (encs := (fun x : Int × Int => #[.int .i64 x.1, .int .i64 x.2])) (hR68.ev rfl) ok70 (proofs_yields _ (imm Z w0 [.box g8 22 [.slice tA t.length tc], .box g44 39 [.slice none 0 0], .row none 0 0 22 1 (encSs ([]))] _) q59 tA tc t (hS67.get (i := 0) rfl) (hS67.get (i := 1) rfl) (hS67.get (i := 2) rfl) (by first | assumption | omega | (simp; done) | (simp; omega)) (by first | assumption | omega | (simp; done) | (simp; omega))) (fun _ => rfl) hS67 (fun _ h => h) (fun (pre : List (Int × Int)) (mm : List Res) => ∃ Ao : Option Addr, ∃ co : Nat, ∃ Ls : List Sl, mm = ([.box g8 22 [.slice tA t.length tc], .box g44 39 [.slice Ao ((Ls).length) co], .row Ao ((Ls).length) co 22 1 (encSs Ls)] ++ (Ls).map (rowOf 32)) ∧ (lsts Ls = prfsOf t pre) ∧ (Ls.length = pre.length)) (fun _ _ _ => False) ⟨none, 0, [], rfl, rfl, rfl⟩ ?_ ?_ ?_
    · skip
      rintro l69 pre x w70 m1 hp ⟨Ao, co, Ls, rfl, hLs, hLn⟩ hS71
      obtain ⟨xi, xj, rfl, hxi, hxj, hxy⟩ := prfL_nat hp
      refine (?_ : ∀ a0, Reg a0 29 [(16, .int .i64 ((xj : Nat) : Int)), (15, .int .i64 ((xi : Nat) : Int)), (1000000, .bool false), (1, .pointer (some ⟨g8, 0, none⟩)), (2, .slice none 0 0), (3, .int .i64 0), (5, .pointer (some ⟨g44, 0, none⟩)), (14, .func (.func 70) #[] #[.pointer (some ⟨q59, 0, none⟩)])] → Code.wpIn (rI l69) 0 _ _ _ a0 w70) _ (Reg.round2n hR68 (by decide) (by decide) rfl)
      intro a72 hR73
      have hpl := prfL_len (List.IsPrefix.trans (List.prefix_append _ _) hp)
      refine wpIn_seq_k (fun K74 hK75 => ?_)
      refine ci_region (by kernel_rfl) (out_then (out_then (fun _ _ h => h))) ?_
      refine r_assign (st_listV rfl) hR73 rfl rfl rfl (by decide) (fun a76 hR77 => ?_)
      refine wpList_nil ?_
      refine x_then_n (hK75 _ _ ?_)
      refine ci_region (by kernel_rfl) (out_then (fun _ _ h => h)) ?_
      refine r_assign (st_listV rfl) hR77 rfl rfl rfl (by decide) (fun a78 hR79 => ?_)
      refine wpList_nil ?_
      have hS80 : St w0 Z none_ w70 ([.box g8 22 [.slice tA t.length tc], .box g44 39 [.slice Ao ((Ls).length) co], .row Ao ((Ls).length) co 22 1 (encSs Ls)] ++ (Ls).map (rowOf 32)) [dShapes, dRow 4 tA t.length tc (encNs t), dBox q59 [.slice tA t.length tc], dAg w70 (imm Z w0 ([.box g8 22 [.slice tA t.length tc], .box g44 39 [.slice Ao ((Ls).length) co], .row Ao ((Ls).length) co 22 1 (encSs Ls)] ++ (Ls).map (rowOf 32)) w70)] := hS71
      refine x_then_n ⟨_, _, 3, hS80, rfl, (fun _ h => False.elim h), (fun _ h => False.elim h), fun w81 hS82 => ?_⟩
      refine wpIn_block ?_
      obtain ⟨J83, hJ84, hS85⟩ := hS82.agree
      refine dli_region2 (S := (fun x => (w81.heap.size ≤ x.heap.size ∧ ∀ k, J83 k → x.heap[k]? = w81.heap[k]?) ∧ (x.cell? ⟨g8, 0, none⟩ = some (.slice tA t.length tc)) ∧ (x.cell? ⟨g44, 0, none⟩ = some (.slice Ao ((Ls).length) co)) ∧ (True))) (k := 10) [9] mixed rfl (by kernel_rfl) hS85 (pan_block pan_rPost) (out_block out_rPost) (fun Q88 hP89 hN90 w86 hS87 => ?_)
      have hSw91 : (w81.heap.size ≤ w86.heap.size ∧ ∀ k, J83 k → w86.heap[k]? = w81.heap[k]?) ∧ (w86.cell? ⟨g8, 0, none⟩ = some (.slice tA t.length tc)) ∧ (w86.cell? ⟨g44, 0, none⟩ = some (.slice Ao ((Ls).length) co)) ∧ (True) := ⟨⟨(hS87.get (i := 4) rfl).1, fun k hk => ((hS87.get (i := 4) rfl).2 k hk).2⟩, (box_cell (hS87.res (i := 0) rfl) rfl), (box_cell (hS87.res (i := 1) rfl) rfl), trivial⟩
      refine dl_take (i := 0) rfl (by kernel_rfl) (by kernel_rfl) (by kernel_rfl) (by kernel_rfl) (fun c a w h => hP89 c _ _ _ _ h) rfl (by decide) hR79 (want_n rfl) (fun x hx => m_loadC (st_yield hR79 rfl (by decide)) hR79 rfl rfl rfl hx.2.2.1 Tryd.underlying39 rfl (by decide) (fun _ h => ⟨h.get _ _ (by decide) rfl, rfl⟩)) hSw91 (fun a92 hR93 => ?_)
      refine dl_take (i := 1) rfl (by kernel_rfl) (by kernel_rfl) (by kernel_rfl) (by kernel_rfl) (fun c a w h => hP89 c _ _ _ _ h) rfl (by decide) hR93 (want_n rfl) (fun x hx => m_loadC (st_yield hR93 rfl (by decide)) hR93 rfl rfl rfl hx.2.1 Tryd.underlying22 rfl (by decide) (fun _ h => ⟨h.get _ _ (by decide) rfl, rfl⟩)) hSw91 (fun a94 hR95 => ?_)
      refine dl_takeA (i := 2) rfl (by kernel_rfl) (by kernel_rfl) (by kernel_rfl) (fun c a w h => hP89 c _ _ _ _ h) rfl (by decide) hR95 (want_n rfl) (fun x => r_move (st_yield hR95 rfl (by decide)) hR95 rfl rfl rfl (by decide) (fun _ h => ⟨h.get _ _ (by decide) rfl, rfl⟩)) (fun a96 hR97 => ?_)
      refine dl_takeA (i := 3) rfl (by kernel_rfl) (by kernel_rfl) (by kernel_rfl) (fun c a w h => hP89 c _ _ _ _ h) rfl (by decide) hR97 (want_n rfl) (fun x => r_move (st_yield hR97 rfl (by decide)) hR97 rfl rfl rfl (by decide) (fun _ h => ⟨h.get _ _ (by decide) rfl, rfl⟩)) (fun a98 hR99 => ?_)
      refine dl_takeA (i := 4) rfl (by kernel_rfl) (by kernel_rfl) (by kernel_rfl) (fun c a w h => hP89 c _ _ _ _ h) rfl (by decide) hR99 (want_n rfl) (fun x => r_add (z := ((xj + 1 : Nat) : Int)) (st_yield hR99 rfl (by decide)) hR99 rfl rfl rfl rfl (by decide) (by omega) (by omega) (by omega) (fun _ h => ⟨h.get _ _ (by decide) rfl, rfl⟩)) (fun a100 hR101 => ?_)
      have hl104 : (((t).drop (xi)).take ((xj + 1) - (xi))).length = (xj + 1) - (xi) := by simp only [List.length_drop, List.length_take]; omega
      have hS105 := hS87.data (dRow 4 (if tc = xi then tA else (tA).map (·.add (xi * 4))) ((((t).drop (xi)).take ((xj + 1) - (xi))).length) (tc - xi) (encNs (((t).drop (xi)).take ((xj + 1) - (xi))))) (cut_row (f := encN) (L := t) (hS87.get (i := 1) rfl) encN_len (by omega))
      have hcp106 := (hS105.get (i := 1) rfl).1
      refine dl_takeA (i := 5) rfl (by kernel_rfl) (by kernel_rfl) (by kernel_rfl) (fun c a w h => hP89 c _ _ _ _ h) rfl (by decide) hR101 (want_n rfl) (fun x => m_sliceA (lo := some (.tmp 19)) (hi := some (.tmp 21)) (vlo := (some (.int .i64 ((xi : Nat) : Int)))) (vhi := (some (.int .i64 ((xj + 1 : Nat) : Int)))) (kd := .i64) (kd' := .i64) (st_yield hR101 rfl (by decide)) hR101 rfl rfl rfl rfl rfl (xi) ((((t).drop (xi)).take ((xj + 1) - (xi))).length) (.inl (by first | rfl | (congr 2; omega))) (.inl (by first | rfl | (congr 2; omega))) Tryd.underlying22 sz32 (by omega) (by decide) (fun _ h => ⟨h.get _ _ (by decide) rfl, rfl⟩)) (fun a107 hR108 => ?_)
      refine dl_one (i := 6) (by kernel_rfl) ?_
      have hS109 : St w0 Z none_ w86 ([.box g8 22 [.slice tA t.length tc], .box g44 39 [.slice Ao ((Ls).length) co], .row Ao ((Ls).length) co 22 1 (encSs Ls)] ++ (Ls).map (rowOf 32)) [dShapes, dRow 4 tA t.length tc (encNs t), dBox q59 [.slice tA t.length tc], dAg w81 (imm Z w0 ([.box g8 22 [.slice tA t.length tc], .box g44 39 [.slice Ao ((Ls).length) co], .row Ao ((Ls).length) co 22 1 (encSs Ls)] ++ (Ls).map (rowOf 32)) w81), dAg w81 J83, dRow 4 (if tc = xi then tA else (tA).map (·.add (xi * 4))) ((((t).drop (xi)).take ((xj + 1) - (xi))).length) (tc - xi) (encNs (((t).drop (xi)).take ((xj + 1) - (xi))))] := hS105
      refine k_call (xs := [.tmp 22]) (st_op rfl (want_n rfl)) hR108 rfl rfl rfl (by decide) ok51 (cloneN_calls _ (imm Z w0 ([.box g8 22 [.slice tA t.length tc], .box g44 39 [.slice Ao ((Ls).length) co], .row Ao ((Ls).length) co 22 1 (encSs Ls)] ++ (Ls).map (rowOf 32)) _) (fun _ h => h.1) (if tc = xi then tA else (tA).map (·.add (xi * 4))) (tc - xi) (((t).drop (xi)).take ((xj + 1) - (xi))) (hS109.get (i := 5) rfl) (by first | assumption | omega | (simp; done) | (simp; omega))) ?_
      rintro e120 w111 ⟨A115, c116, rfl, hf114, hd117, hf118⟩
      have hS121 := hS109.callO hf114 hd117 hf118
      have hS122 := St.rot (A := [.box g8 22 [.slice tA t.length tc], .box g44 39 [.slice Ao ((Ls).length) co], .row Ao ((Ls).length) co 22 1 (encSs Ls)]) (T := (Ls).map (rowOf 32)) hS121
      refine ⟨_, rfl, fun a110 hR112 => ?_⟩
      have hSw123 : (w81.heap.size ≤ w111.heap.size ∧ ∀ k, J83 k → w111.heap[k]? = w81.heap[k]?) ∧ (w111.cell? ⟨g8, 0, none⟩ = some (.slice tA t.length tc)) ∧ (w111.cell? ⟨g44, 0, none⟩ = some (.slice Ao ((Ls).length) co)) ∧ (True) := ⟨⟨(hS122.get (i := 4) rfl).1, fun k hk => ((hS122.get (i := 4) rfl).2 k hk).2⟩, (box_cell (hS122.res (i := 0) rfl) rfl), (box_cell (hS122.res (i := 1) rfl) rfl), trivial⟩
      refine ⟨fun _ _ => hSw123, ?_⟩
      refine dl_one (i := 7) (by kernel_rfl) ?_
      have hS124 := St.absorb (e := 32) (A := [.box g8 22 [.slice tA t.length tc], .box g44 39 [.slice Ao ((Ls).length) co], .row Ao ((Ls).length) co 22 1 (encSs Ls)]) (Ls := Ls) (B := A115) (c := c116) (L := (((t).drop (xi)).take ((xj + 1) - (xi)))) hS122
      refine m_buildSlice (ps := [(0, .tmp 23)]) (cs := [.slice A115 ((((t).drop (xi)).take ((xj + 1) - (xi))).length) c116]) (st_opV rfl (want_n rfl)) hR112 hS124 rfl rfl rfl Tryd.underlying39 zi22 rfl rfl (by kernel_rfl) rfl (by decide) (fun a125 w126 g127 hR128 hS129 => ?_)
      have hS130 := St.rot (A := [.box g8 22 [.slice tA t.length tc], .box g44 39 [.slice Ao ((Ls).length) co], .row Ao ((Ls).length) co 22 1 (encSs Ls)]) (T := (Ls ++ [((A115, c116, (((t).drop (xi)).take ((xj + 1) - (xi)))) : Sl)]).map (rowOf 32)) hS129
      have hSw131 : (w81.heap.size ≤ w126.heap.size ∧ ∀ k, J83 k → w126.heap[k]? = w81.heap[k]?) ∧ (w126.cell? ⟨g8, 0, none⟩ = some (.slice tA t.length tc)) ∧ (w126.cell? ⟨g44, 0, none⟩ = some (.slice Ao ((Ls).length) co)) ∧ (True) := ⟨⟨(hS130.get (i := 4) rfl).1, fun k hk => ((hS130.get (i := 4) rfl).2 k hk).2⟩, (box_cell (hS130.res (i := 0) rfl) rfl), (box_cell (hS130.res (i := 1) rfl) rfl), trivial⟩
      refine ⟨fun _ _ => hSw131, ?_⟩
      refine dl_one (i := 8) (by kernel_rfl) ?_
      refine m_appendF (f := encS) (i := 2) (Ls) ([((A115, c116, (((t).drop (xi)).take ((xj + 1) - (xi)))) : Sl)]) (st_opV rfl (want_n rfl)) hR128 hS130 rfl rfl rfl rfl rfl encS_len (encS_one _) Tryd.underlying39 zi22 rfl rfl (own_lnews (f := encS) (hS130.res (i := 3) rfl)) rfl (by first | omega | (simp only [List.length_cons, List.length_nil]; omega)) (by decide) (fun a132 w133 A134 c135 hc136 hR137 hS138 => ?_)
      have hl140 : (Ls ++ ([((A115, c116, (((t).drop (xi)).take ((xj + 1) - (xi)))) : Sl)]) : List Sl).length = (Ls).length + 1 := by first | (simp only [List.length_append, List.length_take, List.length_cons, List.length_nil]; done) | (simp only [List.length_append, List.length_take, List.length_cons, List.length_nil]; omega)
      have hS141 := hS138.erase 3
      have hSw142 : (w81.heap.size ≤ w133.heap.size ∧ ∀ k, J83 k → w133.heap[k]? = w81.heap[k]?) ∧ (w133.cell? ⟨g8, 0, none⟩ = some (.slice tA t.length tc)) ∧ (w133.cell? ⟨g44, 0, none⟩ = some (.slice Ao ((Ls).length) co)) ∧ (True) := ⟨⟨(hS141.get (i := 4) rfl).1, fun k hk => ((hS141.get (i := 4) rfl).2 k hk).2⟩, (box_cell (hS141.res (i := 0) rfl) rfl), (box_cell (hS141.res (i := 1) rfl) rfl), trivial⟩
      refine ⟨fun _ _ => hSw142, ?_⟩
      refine dl_one (i := 9) (by kernel_rfl) ?_
      refine m_store (i := 1) (cs' := [.slice A134 ((Ls ++ ([((A115, c116, (((t).drop (xi)).take ((xj + 1) - (xi)))) : Sl)]) : List Sl).length) c135]) (st_op rfl (want_n rfl)) hR137 hS141 rfl rfl rfl rfl rfl sz39 rfl rfl rfl (fun a143 w144 hR145 hS146 => ?_)
      refine ⟨fun h => absurd h (by decide), ?_⟩
      refine dl_done (by kernel_rfl) (hN90 _ _ ?_) _
      refine x_block_n ?_
      have hS147 : St w0 Z none_ w144 ([.box g8 22 [.slice tA t.length tc], .box g44 39 [.slice A134 ((Ls ++ ([((A115, c116, (((t).drop (xi)).take ((xj + 1) - (xi)))) : Sl)]) : List Sl).length) c135], .row A134 ((Ls ++ ([((A115, c116, (((t).drop (xi)).take ((xj + 1) - (xi)))) : Sl)]) : List Sl).length) c135 22 1 (encSs (Ls ++ ([((A115, c116, (((t).drop (xi)).take ((xj + 1) - (xi)))) : Sl)])))] ++ (Ls ++ [((A115, c116, (((t).drop (xi)).take ((xj + 1) - (xi)))) : Sl)]).map (rowOf 32)) [dShapes, dRow 4 tA t.length tc (encNs t), dBox q59 [.slice tA t.length tc], dAg w81 (imm Z w0 ([.box g8 22 [.slice tA t.length tc], .box g44 39 [.slice Ao ((Ls).length) co], .row Ao ((Ls).length) co 22 1 (encSs Ls)] ++ (Ls).map (rowOf 32)) w81), dAg w81 J83, dRow 4 (if tc = xi then tA else (tA).map (·.add (xi * 4))) ((((t).drop (xi)).take ((xj + 1) - (xi))).length) (tc - xi) (encNs (((t).drop (xi)).take ((xj + 1) - (xi))))] := hS146
      exact ⟨_, _, 3, hS147, rfl, _, _, Ls ++ [((A115, c116, (((t).drop (xi)).take ((xj + 1) - (xi)))) : Sl)], rfl, prfs_step hLs, by simp [hLn]⟩
    · skip
      rintro D148 m1 w149 ⟨Ao, co, Ls, rfl, hLs, hLn⟩ hS150
      have hR151 := Reg.marked hR68 D148
      have hS152 := St.tail_data (e := 32) (A := [.box g8 22 [.slice tA t.length tc], .box g44 39 [.slice Ao ((Ls).length) co], .row Ao ((Ls).length) co 22 1 (encSs Ls)]) (Ls := Ls) hS150 (fun _ h => h)
      have hpl := prfL_len (List.prefix_refl (prfL t))
      refine x_block_n ?_
      refine x_then_n (hK48 _ _ ?_)
      refine wp_seq_k (fun K153 hK154 => ?_)
      refine c_region ?_
      refine m_load (i := 1) (st_listV rfl) hR151 hS152 rfl rfl rfl rfl rfl Tryd.underlying39 rfl (by decide) (fun a155 hR156 => ?_)
      have hS157 : St w0 Z none_ w149 [.box g8 22 [.slice tA t.length tc], .box g44 39 [.slice Ao ((Ls).length) co], .row Ao ((Ls).length) co 22 1 (encSs Ls)] [dShapes, dRow 4 tA t.length tc (encNs t), dBox q59 [.slice tA t.length tc], dMark w0.heap.size D148, dAll Ls] := hS152
      refine k_call (xs := [.tmp 26]) (st_list rfl) hR156 rfl rfl rfl (by decide) ok55 (revS_calls _ (imm Z w0 [.box g8 22 [.slice tA t.length tc], .box g44 39 [.slice Ao ((Ls).length) co], .row Ao ((Ls).length) co 22 1 (encSs Ls)] _) (fun _ h => h.1) Ao co Ls (hS157.res (i := 2) rfl) (imm_row (i := 2) rfl) (by first | assumption | omega | (simp; done) | (simp; omega))) ?_
      rintro e164 w159 ⟨rfl, hf162, hb163⟩
      have hS165 := hS157.callR (i := 2) rfl hf162 hb163
      have hS166 := hS165.data (dAll (Ls.reverse)) (all_rev (hS165.get (i := 4) rfl))
      refine ⟨_, rfl, fun a158 hR160 => ?_⟩
      refine wpList_nil ?_
      refine x_then_n (hK154 _ _ ?_)
      refine wp_seq_k (fun K167 hK168 => ?_)
      refine c_region ?_
      refine m_load (i := 1) (st_listV rfl) hR160 hS166 rfl rfl rfl rfl rfl Tryd.underlying39 rfl (by decide) (fun a169 hR170 => ?_)
      refine r_assign (st_listV rfl) hR170 rfl rfl rfl (by decide) (fun a171 hR172 => ?_)
      refine r_assign (st_listV rfl) hR172 rfl rfl rfl (by decide) (fun a173 hR174 => ?_)
      refine wpList_nil ?_
      refine x_then_n (hK168 _ _ ?_)
      refine wp_ret ?_
      have hc178 := own_cap (hS166.res (i := 2) rfl)
      obtain ⟨hS175, hrow176⟩ := hS166.row_data (i := 2) rfl (fun _ h => h)
      have hS177 := hS175.data (dRow 1 Ao ((Ls.reverse).length) co (encSs Ls.reverse)) ⟨hc178, hrow176⟩
      have hS179 : St w0 Z none_ w159 [.box g8 22 [.slice tA t.length tc], .box g44 39 [.slice Ao ((Ls).length) co]] [dShapes, dRow 4 tA t.length tc (encNs t), dBox q59 [.slice tA t.length tc], dMark w0.heap.size D148, dAll Ls, dAll (Ls.reverse), dRow 1 Ao ((Ls.reverse).length) co (encSs Ls.reverse)] := hS177
      obtain ⟨hD180, hS181⟩ := hS179.shut (i := 3) rfl [dRow 1 Ao ((Ls.reverse).length) co (encSs Ls.reverse), dAll (Ls.reverse)] (by intro d hd; simp only [List.mem_cons, List.not_mem_nil, or_false] at hd; rcases hd with rfl | rfl; exact ⟨List.mem_of_getElem? (i := 6) rfl, datC_row (by decide) _ _ _ _⟩; exact ⟨List.mem_of_getElem? (i := 5) rfl, datC_all _⟩)
      refine m_mark (.inl rfl) hR174 rfl hD180 (res2 hR174 rfl rfl rfl _) ?_
      refine ⟨Ao, co, Ls.reverse, ?_, hS181.fr, ⟨by have := (hS181.row (i := 0) rfl).1; exact this, ((hS181.row (i := 0) rfl).2.mono (fun _ hk => ⟨imm_nxt hk, rfl⟩))⟩, ((dAll _).mono _ _ _ _ (Nat.le_refl _) (hS181.get (i := 1) rfl) (fun k hk => ⟨imm_nxt hk, rfl⟩)), (by rw [prA_ok (by assumption), ← prf_eq (meas_chk (by assumption)), lsts_rev, hLs])⟩
      exact ret_t2 (ret_s (by first | rfl | (simp; done))) (ret_i (by first | rfl | omega | (have q0 := h38; (try simp at q0);  omega) | (simp [h38]; done) | (simp [] at *; done) | (simp [h38] <;> omega) | (rw [Bool.eq_iff_iff]; simp [h38] <;> omega) | (rw [Bool.eq_iff_iff]; simp [h38] at * <;> omega)))
    · skip
      rintro _ _ _ _ _ _ h _
      exact h.elim
  · skip
    have hR182 := hR37.setb (d := 11) (b := true) rfl (by rw [(decide_eq_false h38)]; rfl)
    refine wp_cond_true (hR182.ev rfl) ?_
    refine wp_seq_k (fun K183 hK184 => ?_)
    refine c_region ?_
    refine r_move (st_listV rfl) hR182 rfl rfl rfl (by decide) (fun a185 hR186 => ?_)
    refine r_assign (st_listV rfl) hR186 rfl rfl rfl (by decide) (fun a187 hR188 => ?_)
    refine r_assign (st_listV rfl) hR188 rfl rfl rfl (by decide) (fun a189 hR190 => ?_)
    refine wpList_nil ?_
    refine x_then_n (hK184 _ _ ?_)
    refine wp_ret ?_
    refine x_then_r ?_
    refine m_none (.inl rfl) hR190 rfl (res2 hR190 rfl rfl rfl _) ?_
    refine ⟨none, 0, [], ?_, hS29.fr, ⟨Nat.le_refl _, RowI.nil _ _ _ _⟩, all_nil, (prA_no (by assumption)).symm⟩
    exact ret_t2 (ret_s (by first | rfl | (simp; done))) (ret_i (by first | rfl | omega | (have q0 := h38; (try simp at q0);  omega) | (simp [h38]; done) | (simp [] at *; done) | (simp [h38] <;> omega) | (rw [Bool.eq_iff_iff]; simp [h38] <;> omega) | (rw [Bool.eq_iff_iff]; simp [h38] at * <;> omega)))
end Go.Proofs.YtobgdeffhdefeaaDoor
/- Contracts of functions, one theorem each: what the call returns, and that nothing old is changed. Printed by gen.py. -/
namespace Go.Proofs.YtobgdeffhdefeaaDoor
open Go Go.RowKit
set_option linter.unusedSimpArgs false
set_option linter.unusedVariables false

set_option maxRecDepth 100000 in
set_option maxHeartbeats 1000000 in
theorem heavy13_calls (w0 : World) (Z : Nat → Prop) (hZ : ∀ k, Z k → k < w0.heap.size) (tA : Option Addr) (tc : Nat) (t : List Nd) (ht : (dRow 4 tA t.length tc (encNs t)).φ w0 Z) :
    Calls Tryd.prog 34 [.slice tA t.length tc].toArray w0 (fun e w' => e = .returned (.bool (heavyB 100 t)) ∧ Fr none_ w0 w') := by
  have hstart : ∀ k, Z k → imm Z w0 [] w0 k ∧ w0.heap[k]? = w0.heap[k]? := fun k hk => ⟨⟨hZ k hk, fun _ => hk, fun _ h => by cases h⟩, rfl⟩
  have hS3 : St w0 Z none_ w0 [] [dRow 4 tA t.length tc (encNs t)] := St.start w0 Z none_ _ (by
    intro d hd
    simp only [List.mem_cons, List.not_mem_nil, or_false] at hd
    rcases hd with rfl
    · exact Dat.mono _ _ _ _ _ (Nat.le_refl _) ht hstart
    )
  refine c_enter Tryd.func34 rfl Tryd.ntmps34 rfl (fun a1 hR2 => ?_)
  refine wp_seq_k (fun K4 hK5 => ?_)
  refine c_region ?_
  refine r_assign (st_listV rfl) hR2 rfl rfl rfl (by decide) (fun a6 hR7 => ?_)
  refine wpList_nil ?_
  refine x_then_n (hK5 _ _ ?_)
  refine wp_seq_k (fun K8 hK9 => ?_)
  refine wp_seq_k (fun K10 hK11 => ?_)
  refine c_region ?_
  refine r_move (st_listV rfl) hR7 rfl rfl rfl (by decide) (fun a12 hR13 => ?_)
  refine r_len (st_listV rfl) hR13 rfl rfl rfl rfl Tryd.underlying22 (by decide) (fun a14 hR15 => ?_)
  refine r_gtr (st_listV rfl) hR15 rfl rfl rfl rfl (by decide) (fun a16 hR17 => ?_)
  refine wpList_nil ?_
  refine x_then_n (hK11 _ _ ?_)
  rcases Decidable.em (100 < ((t.length : Nat) : Int)) with h18 | h18
  · skip
    have hR19 := hR17.setb (d := 6) (b := true) rfl (decide_eq_true h18)
    refine wp_cond_true (hR19.ev rfl) ?_
    refine wp_seq_k (fun K20 hK21 => ?_)
    refine c_region ?_
    refine r_assign (st_listV rfl) hR19 rfl rfl rfl (by decide) (fun a22 hR23 => ?_)
    refine wpList_nil ?_
    refine x_then_n (hK21 _ _ ?_)
    refine wp_ret ?_
    refine x_then_r ?_
    refine e_ret1 hR23 rfl rfl rfl ?_
    refine ⟨?_, hS3.fr⟩
    exact congrArg Ending.returned (ret_b (by first | exact (heavy_len (by omega)).symm | exact (heavy_at (k := k) (by omega) (by omega)).symm | exact (heavy_no hi (by omega) (by omega)).symm))
  · skip
    have hR24 := hR17.setb (d := 6) (b := false) rfl (decide_eq_false h18)
    refine wp_cond_false (hR24.ev rfl) ?_
    refine wp_skip ?_
    refine x_then_n (hK9 _ _ ?_)
    refine wp_seq_k (fun K25 hK26 => ?_)
    refine wp_seq_k (fun K27 hK28 => ?_)
    refine c_region ?_
    refine r_assign (st_listV rfl) hR24 rfl rfl rfl (by decide) (fun a29 hR30 => ?_)
    refine wpList_nil ?_
    refine x_then_n (hK28 _ _ ?_)
    refine wp_block ?_
    refine wp_loop_ghost (fun gn ga gw => ∃ k : Nat, (Reg ga 20 [(1000000, .bool false), (0, .slice tA t.length tc), (3, .int .i64 ((k : Nat) : Int))]) ∧ (St w0 Z none_ gw [] [dRow 4 tA t.length tc (encNs t)]) ∧ (k ≤ t.length) ∧ (lightTo t k) ∧ (t.length - k) = gn) _ ⟨0, (Reg.cons hR30 (Reg.cons hR30 (Reg.cons hR30 (hR30.nil) rfl) rfl) rfl), hS3, by omega, (fun _ h => by omega), rfl⟩ ?_
    rintro r31 a32 w33 ⟨k, hR34, hS35, hk, hi, hn36⟩
    refine wp_seq_k (fun K37 hK38 => ?_)
    refine wp_seq_k (fun K39 hK40 => ?_)
    refine c_region ?_
    refine r_move (st_listV rfl) hR34 rfl rfl rfl (by decide) (fun a41 hR42 => ?_)
    refine r_move (st_listV rfl) hR42 rfl rfl rfl (by decide) (fun a43 hR44 => ?_)
    refine r_len (st_listV rfl) hR44 rfl rfl rfl rfl Tryd.underlying22 (by decide) (fun a45 hR46 => ?_)
    refine r_lss (st_listV rfl) hR46 rfl rfl rfl rfl (by decide) (fun a47 hR48 => ?_)
    refine wpList_nil ?_
    refine x_then_n (hK40 _ _ ?_)
    rcases Decidable.em (((k : Nat) : Int) < ((t.length : Nat) : Int)) with h49 | h49
    · skip
      have hR50 := hR48.setb (d := 10) (b := true) rfl (decide_eq_true h49)
      refine wp_cond_true (hR50.ev rfl) ?_
      refine wp_skip ?_
      refine x_then_n (hK38 _ _ ?_)
      refine wp_seq_k (fun K51 hK52 => ?_)
      refine wp_block ?_
      refine wp_seq_k (fun K53 hK54 => ?_)
      refine c_region ?_
      refine r_move (st_listV rfl) hR50 rfl rfl rfl (by decide) (fun a55 hR56 => ?_)
      refine r_move (st_listV rfl) hR56 rfl rfl rfl (by decide) (fun a57 hR58 => ?_)
      refine m_index (i := k) (j := k * 4) (st_listV rfl) hR58 rfl rfl rfl rfl Tryd.underlying22 sz32 (by omega) (by omega) (nds_elem (t := t) (k := k) (hS35.row (i := 0) rfl).2 (by omega)).some_ rfl (by decide) (fun a59 hR60 => ?_)
      refine m_fieldE (j' := k * 4 + 3) (st_listV rfl) hR60 rfl rfl rfl (nds_elem (t := t) (k := k) (hS35.row (i := 0) rfl).2 (by omega)).some_ Tryd.underlying32 rfl sz9 rfl rfl (by decide) (fun a61 hR62 => ?_)
      refine m_loadE (st_listV rfl) hR62 rfl rfl rfl 3 (k * 4) (nds_elem (t := t) (k := k) (hS35.row (i := 0) rfl).2 (by omega)) rfl rfl Tryd.underlying9 rfl (by decide) (fun a63 hR64 => ?_)
      refine r_lenS (st_listV rfl) hR64 rfl rfl rfl rfl Tryd.underlying9 (by decide) (fun a65 hR66 => ?_)
      refine r_gtr (st_listV rfl) hR66 rfl rfl rfl rfl (by decide) (fun a67 hR68 => ?_)
      refine wpList_nil ?_
      refine x_then_n (hK54 _ _ ?_)
      rcases Decidable.em (100 < ((((nth t k).S).size : Nat) : Int)) with h69 | h69
      · skip
        have hR70 := hR68.setb (d := 19) (b := true) rfl (decide_eq_true h69)
        refine wp_cond_true (hR70.ev rfl) ?_
        refine wp_seq_k (fun K71 hK72 => ?_)
        refine c_region ?_
        refine r_assign (st_listV rfl) hR70 rfl rfl rfl (by decide) (fun a73 hR74 => ?_)
        refine wpList_nil ?_
        refine x_then_n (hK72 _ _ ?_)
        refine wp_ret ?_
        refine x_block_r ?_
        refine x_then_r ?_
        refine x_then_r ?_
        refine x_block_r ?_
        refine x_then_r ?_
        refine e_ret1 hR74 rfl rfl rfl ?_
        refine ⟨?_, hS35.fr⟩
        exact congrArg Ending.returned (ret_b (by first | exact (heavy_len (by omega)).symm | exact (heavy_at (k := k) (by omega) (by omega)).symm | exact (heavy_no hi (by omega) (by omega)).symm))
      · skip
        have hR75 := hR68.setb (d := 19) (b := false) rfl (decide_eq_false h69)
        refine wp_cond_false (hR75.ev rfl) ?_
        refine wp_skip ?_
        refine x_block_n ?_
        refine x_then_n (hK52 _ _ ?_)
        refine c_region ?_
        refine r_move (st_listV rfl) hR75 rfl rfl rfl (by decide) (fun a76 hR77 => ?_)
        refine r_add (z := ((k + 1 : Nat) : Int)) (st_listV rfl) hR77 rfl rfl rfl rfl (by decide) (by omega) (by omega) (by omega) (fun a78 hR79 => ?_)
        refine r_assign (st_listV rfl) hR79 rfl rfl rfl (by decide) (fun a80 hR81 => ?_)
        refine wpList_nil ?_
        exact ⟨_, by omega, k + 1, (Reg.cons hR81 (Reg.cons hR81 (Reg.cons hR81 (hR81.nil) rfl) rfl) rfl), hS35, by omega, light_step hi (by omega), rfl⟩
    · skip
      have hR82 := hR48.setb (d := 10) (b := false) rfl (decide_eq_false h49)
      refine wp_cond_false (hR82.ev rfl) ?_
      refine wp_exit ?_
      refine x_then_e ?_
      refine x_then_e ?_
      refine x_block_eq ?_
      refine x_then_n (hK26 _ _ ?_)
      refine wp_seq_k (fun K83 hK84 => ?_)
      refine c_region ?_
      refine r_assign (st_listV rfl) hR82 rfl rfl rfl (by decide) (fun a85 hR86 => ?_)
      refine wpList_nil ?_
      refine x_then_n (hK84 _ _ ?_)
      refine wp_ret ?_
      refine e_ret1 hR86 rfl rfl rfl ?_
      refine ⟨?_, hS35.fr⟩
      exact congrArg Ending.returned (ret_b (by first | exact (heavy_len (by omega)).symm | exact (heavy_at (k := k) (by omega) (by omega)).symm | exact (heavy_no hi (by omega) (by omega)).symm))
end Go.Proofs.YtobgdeffhdefeaaDoor
/- Contracts of functions, one theorem each: what the call returns, and that nothing old is changed. Printed by gen.py. -/
namespace Go.Proofs.YtobgdeffhdefeaaDoor
open Go Go.RowKit
set_option linter.unusedSimpArgs false
set_option linter.unusedVariables false

set_option maxRecDepth 100000 in
set_option maxHeartbeats 1000000 in
theorem heavy11_calls (w0 : World) (Z : Nat → Prop) (hZ : ∀ k, Z k → k < w0.heap.size) (tA : Option Addr) (tc : Nat) (t : List Nd) (ht : (dRow 4 tA t.length tc (encNs t)).φ w0 Z) :
    Calls Tryd.prog 26 [.slice tA t.length tc].toArray w0 (fun e w' => e = .returned (.bool (heavyB 200 t)) ∧ Fr none_ w0 w') := by
  have hstart : ∀ k, Z k → imm Z w0 [] w0 k ∧ w0.heap[k]? = w0.heap[k]? := fun k hk => ⟨⟨hZ k hk, fun _ => hk, fun _ h => by cases h⟩, rfl⟩
  have hS3 : St w0 Z none_ w0 [] [dRow 4 tA t.length tc (encNs t)] := St.start w0 Z none_ _ (by
    intro d hd
    simp only [List.mem_cons, List.not_mem_nil, or_false] at hd
    rcases hd with rfl
    · exact Dat.mono _ _ _ _ _ (Nat.le_refl _) ht hstart
    )
  refine c_enter Tryd.func26 rfl Tryd.ntmps26 rfl (fun a1 hR2 => ?_)
  refine wp_seq_k (fun K4 hK5 => ?_)
  refine c_region ?_
  refine r_assign (st_listV rfl) hR2 rfl rfl rfl (by decide) (fun a6 hR7 => ?_)
  refine wpList_nil ?_
  refine x_then_n (hK5 _ _ ?_)
  refine wp_seq_k (fun K8 hK9 => ?_)
  refine wp_seq_k (fun K10 hK11 => ?_)
  refine c_region ?_
  refine r_move (st_listV rfl) hR7 rfl rfl rfl (by decide) (fun a12 hR13 => ?_)
  refine r_len (st_listV rfl) hR13 rfl rfl rfl rfl Tryd.underlying22 (by decide) (fun a14 hR15 => ?_)
  refine r_gtr (st_listV rfl) hR15 rfl rfl rfl rfl (by decide) (fun a16 hR17 => ?_)
  refine wpList_nil ?_
  refine x_then_n (hK11 _ _ ?_)
  rcases Decidable.em (200 < ((t.length : Nat) : Int)) with h18 | h18
  · skip
    have hR19 := hR17.setb (d := 6) (b := true) rfl (decide_eq_true h18)
    refine wp_cond_true (hR19.ev rfl) ?_
    refine wp_seq_k (fun K20 hK21 => ?_)
    refine c_region ?_
    refine r_assign (st_listV rfl) hR19 rfl rfl rfl (by decide) (fun a22 hR23 => ?_)
    refine wpList_nil ?_
    refine x_then_n (hK21 _ _ ?_)
    refine wp_ret ?_
    refine x_then_r ?_
    refine e_ret1 hR23 rfl rfl rfl ?_
    refine ⟨?_, hS3.fr⟩
    exact congrArg Ending.returned (ret_b (by first | exact (heavy_len (by omega)).symm | exact (heavy_at (k := k) (by omega) (by omega)).symm | exact (heavy_no hi (by omega) (by omega)).symm))
  · skip
    have hR24 := hR17.setb (d := 6) (b := false) rfl (decide_eq_false h18)
    refine wp_cond_false (hR24.ev rfl) ?_
    refine wp_skip ?_
    refine x_then_n (hK9 _ _ ?_)
    refine wp_seq_k (fun K25 hK26 => ?_)
    refine wp_seq_k (fun K27 hK28 => ?_)
    refine c_region ?_
    refine r_assign (st_listV rfl) hR24 rfl rfl rfl (by decide) (fun a29 hR30 => ?_)
    refine wpList_nil ?_
    refine x_then_n (hK28 _ _ ?_)
    refine wp_block ?_
    refine wp_loop_ghost (fun gn ga gw => ∃ k : Nat, (Reg ga 20 [(1000000, .bool false), (0, .slice tA t.length tc), (3, .int .i64 ((k : Nat) : Int))]) ∧ (St w0 Z none_ gw [] [dRow 4 tA t.length tc (encNs t)]) ∧ (k ≤ t.length) ∧ (lightTo t k) ∧ (t.length - k) = gn) _ ⟨0, (Reg.cons hR30 (Reg.cons hR30 (Reg.cons hR30 (hR30.nil) rfl) rfl) rfl), hS3, by omega, (fun _ h => by omega), rfl⟩ ?_
    rintro r31 a32 w33 ⟨k, hR34, hS35, hk, hi, hn36⟩
    refine wp_seq_k (fun K37 hK38 => ?_)
    refine wp_seq_k (fun K39 hK40 => ?_)
    refine c_region ?_
    refine r_move (st_listV rfl) hR34 rfl rfl rfl (by decide) (fun a41 hR42 => ?_)
    refine r_move (st_listV rfl) hR42 rfl rfl rfl (by decide) (fun a43 hR44 => ?_)
    refine r_len (st_listV rfl) hR44 rfl rfl rfl rfl Tryd.underlying22 (by decide) (fun a45 hR46 => ?_)
    refine r_lss (st_listV rfl) hR46 rfl rfl rfl rfl (by decide) (fun a47 hR48 => ?_)
    refine wpList_nil ?_
    refine x_then_n (hK40 _ _ ?_)
    rcases Decidable.em (((k : Nat) : Int) < ((t.length : Nat) : Int)) with h49 | h49
    · skip
      have hR50 := hR48.setb (d := 10) (b := true) rfl (decide_eq_true h49)
      refine wp_cond_true (hR50.ev rfl) ?_
      refine wp_skip ?_
      refine x_then_n (hK38 _ _ ?_)
      refine wp_seq_k (fun K51 hK52 => ?_)
      refine wp_block ?_
      refine wp_seq_k (fun K53 hK54 => ?_)
      refine c_region ?_
      refine r_move (st_listV rfl) hR50 rfl rfl rfl (by decide) (fun a55 hR56 => ?_)
      refine r_move (st_listV rfl) hR56 rfl rfl rfl (by decide) (fun a57 hR58 => ?_)
      refine m_index (i := k) (j := k * 4) (st_listV rfl) hR58 rfl rfl rfl rfl Tryd.underlying22 sz32 (by omega) (by omega) (nds_elem (t := t) (k := k) (hS35.row (i := 0) rfl).2 (by omega)).some_ rfl (by decide) (fun a59 hR60 => ?_)
      refine m_fieldE (j' := k * 4 + 3) (st_listV rfl) hR60 rfl rfl rfl (nds_elem (t := t) (k := k) (hS35.row (i := 0) rfl).2 (by omega)).some_ Tryd.underlying32 rfl sz9 rfl rfl (by decide) (fun a61 hR62 => ?_)
      refine m_loadE (st_listV rfl) hR62 rfl rfl rfl 3 (k * 4) (nds_elem (t := t) (k := k) (hS35.row (i := 0) rfl).2 (by omega)) rfl rfl Tryd.underlying9 rfl (by decide) (fun a63 hR64 => ?_)
      refine r_lenS (st_listV rfl) hR64 rfl rfl rfl rfl Tryd.underlying9 (by decide) (fun a65 hR66 => ?_)
      refine r_gtr (st_listV rfl) hR66 rfl rfl rfl rfl (by decide) (fun a67 hR68 => ?_)
      refine wpList_nil ?_
      refine x_then_n (hK54 _ _ ?_)
      rcases Decidable.em (100 < ((((nth t k).S).size : Nat) : Int)) with h69 | h69
      · skip
        have hR70 := hR68.setb (d := 19) (b := true) rfl (decide_eq_true h69)
        refine wp_cond_true (hR70.ev rfl) ?_
        refine wp_seq_k (fun K71 hK72 => ?_)
        refine c_region ?_
        refine r_assign (st_listV rfl) hR70 rfl rfl rfl (by decide) (fun a73 hR74 => ?_)
        refine wpList_nil ?_
        refine x_then_n (hK72 _ _ ?_)
        refine wp_ret ?_
        refine x_block_r ?_
        refine x_then_r ?_
        refine x_then_r ?_
        refine x_block_r ?_
        refine x_then_r ?_
        refine e_ret1 hR74 rfl rfl rfl ?_
        refine ⟨?_, hS35.fr⟩
        exact congrArg Ending.returned (ret_b (by first | exact (heavy_len (by omega)).symm | exact (heavy_at (k := k) (by omega) (by omega)).symm | exact (heavy_no hi (by omega) (by omega)).symm))
      · skip
        have hR75 := hR68.setb (d := 19) (b := false) rfl (decide_eq_false h69)
        refine wp_cond_false (hR75.ev rfl) ?_
        refine wp_skip ?_
        refine x_block_n ?_
        refine x_then_n (hK52 _ _ ?_)
        refine c_region ?_
        refine r_move (st_listV rfl) hR75 rfl rfl rfl (by decide) (fun a76 hR77 => ?_)
        refine r_add (z := ((k + 1 : Nat) : Int)) (st_listV rfl) hR77 rfl rfl rfl rfl (by decide) (by omega) (by omega) (by omega) (fun a78 hR79 => ?_)
        refine r_assign (st_listV rfl) hR79 rfl rfl rfl (by decide) (fun a80 hR81 => ?_)
        refine wpList_nil ?_
        exact ⟨_, by omega, k + 1, (Reg.cons hR81 (Reg.cons hR81 (Reg.cons hR81 (hR81.nil) rfl) rfl) rfl), hS35, by omega, light_step hi (by omega), rfl⟩
    · skip
      have hR82 := hR48.setb (d := 10) (b := false) rfl (decide_eq_false h49)
      refine wp_cond_false (hR82.ev rfl) ?_
      refine wp_exit ?_
      refine x_then_e ?_
      refine x_then_e ?_
      refine x_block_eq ?_
      refine x_then_n (hK26 _ _ ?_)
      refine wp_seq_k (fun K83 hK84 => ?_)
      refine c_region ?_
      refine r_assign (st_listV rfl) hR82 rfl rfl rfl (by decide) (fun a85 hR86 => ?_)
      refine wpList_nil ?_
      refine x_then_n (hK84 _ _ ?_)
      refine wp_ret ?_
      refine e_ret1 hR86 rfl rfl rfl ?_
      refine ⟨?_, hS35.fr⟩
      exact congrArg Ending.returned (ret_b (by first | exact (heavy_len (by omega)).symm | exact (heavy_at (k := k) (by omega) (by omega)).symm | exact (heavy_no hi (by omega) (by omega)).symm))
end Go.Proofs.YtobgdeffhdefeaaDoor
/- Contracts of functions, one theorem each: what the call returns, and that nothing old is changed. Printed by gen.py. -/
namespace Go.Proofs.YtobgdeffhdefeaaDoor
open Go Go.RowKit
set_option linter.unusedSimpArgs false
set_option linter.unusedVariables false

set_option maxRecDepth 100000 in
set_option maxHeartbeats 1000000 in
theorem shown11_calls (w0 : World) (Z : Nat → Prop) (hZ : ∀ k, Z k → k < w0.heap.size)  (hShp : Shapes w0 Z) :
    Calls Tryd.prog 27 [].toArray w0 (fun e w' => e = .returned (.bool (true)) ∧ Fr none_ w0 w') := by
  have hstart : ∀ k, Z k → imm Z w0 [] w0 k ∧ w0.heap[k]? = w0.heap[k]? := fun k hk => ⟨⟨hZ k hk, fun _ => hk, fun _ h => by cases h⟩, rfl⟩
  have hS3 : St w0 Z none_ w0 [] [dShapes] := St.start w0 Z none_ _ (by
    intro d hd
    simp only [List.mem_cons, List.not_mem_nil, or_false] at hd
    rcases hd with rfl
    · exact Dat.mono _ _ _ _ _ (Nat.le_refl _) hShp hstart
    )
  refine c_enter Tryd.func27 rfl Tryd.ntmps27 rfl (fun a1 hR2 => ?_)
  refine wp_seq_k (fun K4 hK5 => ?_)
  refine c_region ?_
  refine r_assign (st_listV rfl) hR2 rfl rfl rfl (by decide) (fun a6 hR7 => ?_)
  refine wpList_nil ?_
  refine x_then_n (hK5 _ _ ?_)
  refine wp_seq_k (fun K8 hK9 => ?_)
  refine c_region ?_
  refine m_build (ps := [(0, .const (.int .i64 17))]) (v := .agg #[.int .i64 17, .int .i64 0, .int .i64 0, .string (⟨#[]⟩ : ByteArray)]) (st_listV rfl) hR7 rfl rfl rfl (fun _ => by kernel_rfl) (by decide) (fun a10 hR11 => ?_)
  refine m_build (ps := [(0, .const (.int .i64 28))]) (v := .agg #[.int .i64 28, .int .i64 0, .int .i64 0, .string (⟨#[]⟩ : ByteArray)]) (st_listV rfl) hR11 rfl rfl rfl (fun _ => by kernel_rfl) (by decide) (fun a12 hR13 => ?_)
  refine m_buildSlice (ps := [(0, .tmp 4), (1, .tmp 5)]) (cs := [.int .i64 17, .int .i64 0, .int .i64 0, .string (⟨#[]⟩ : ByteArray), .int .i64 28, .int .i64 0, .int .i64 0, .string (⟨#[]⟩ : ByteArray)]) (st_listV rfl) hR13 hS3 rfl rfl rfl Tryd.underlying22 zi32 rfl rfl (by kernel_rfl) rfl (by decide) (fun a14 w15 g16 hR17 hS18 => ?_)
  refine r_assign (st_listV rfl) hR17 rfl rfl rfl (by decide) (fun a19 hR20 => ?_)
  refine wpList_nil ?_
  refine x_then_n (hK9 _ _ ?_)
  refine wp_seq_k (fun K21 hK22 => ?_)
  refine c_region ?_
  refine r_move (st_listV rfl) hR20 rfl rfl rfl (by decide) (fun a23 hR24 => ?_)
  have hS25 : St w0 Z none_ w15 [.row (some ⟨g16, 0, none⟩) 2 2 32 4 (encNs ([(⟨17, 0, 0, (⟨#[]⟩ : ByteArray)⟩ : Nd), (⟨28, 0, 0, (⟨#[]⟩ : ByteArray)⟩ : Nd)]))] [dShapes] := hS18
  have hc29 := own_cap (hS25.res (i := 0) rfl)
  obtain ⟨hS26, hrow27⟩ := hS25.row_data (i := 0) rfl (fun _ h => h)
  have hS28 := hS26.data (dRow 4 (some ⟨g16, 0, none⟩) 2 2 (encNs ([(⟨17, 0, 0, (⟨#[]⟩ : ByteArray)⟩ : Nd), (⟨28, 0, 0, (⟨#[]⟩ : ByteArray)⟩ : Nd)]))) ⟨hc29, hrow27⟩
  refine k_call (xs := [.tmp 8]) (st_list rfl) hR24 rfl rfl rfl (by decide) ok28 (erase_calls _ (imm Z w0 [] _) (fun _ h => h.1) (some ⟨g16, 0, none⟩) 2 ([(⟨17, 0, 0, (⟨#[]⟩ : ByteArray)⟩ : Nd), (⟨28, 0, 0, (⟨#[]⟩ : ByteArray)⟩ : Nd)]) (hS28.get (i := 0) rfl) (hS28.get (i := 1) rfl) sml_sp (by simp)) ?_
  rintro e39 w31 ⟨A35, c36, rfl, hf34, hd37⟩
  have hS40 := hS28.below hf34.below
  have hS41 := hS40.data (dRow 4 A35 ((erA ([(⟨17, 0, 0, (⟨#[]⟩ : ByteArray)⟩ : Nd), (⟨28, 0, 0, (⟨#[]⟩ : ByteArray)⟩ : Nd)])).length) c36 (encNs (erA ([(⟨17, 0, 0, (⟨#[]⟩ : ByteArray)⟩ : Nd), (⟨28, 0, 0, (⟨#[]⟩ : ByteArray)⟩ : Nd)])))) ⟨hd37.1, hd37.2.mono (fun _ hk => ⟨nxt_imm hS28 hk, rfl⟩)⟩
  refine ⟨_, rfl, fun a30 hR32 => ?_⟩
  refine r_move (st_listV rfl) hR32 rfl rfl rfl (by decide) (fun a42 hR43 => ?_)
  refine r_extract (st_listV rfl) hR43 rfl rfl rfl rfl (by decide) (fun a44 hR45 => ?_)
  refine r_extract (st_listV rfl) hR45 rfl rfl rfl rfl (by decide) (fun a46 hR47 => ?_)
  refine r_assign (st_listV rfl) hR47 rfl rfl rfl (by decide) (fun a48 hR49 => ?_)
  refine r_assign (st_listV rfl) hR49 rfl rfl rfl (by decide) (fun a50 hR51 => ?_)
  refine wpList_nil ?_
  refine x_then_n (hK22 _ _ ?_)
  refine wp_seq_k (fun K52 hK53 => ?_)
  refine c_region ?_
  refine r_move (st_listV rfl) hR51 rfl rfl rfl (by decide) (fun a54 hR55 => ?_)
  refine r_eql (st_listV rfl) hR55 rfl rfl rfl rfl (by decide) (fun a56 hR57 => ?_)
  refine r_move (st_listV rfl) hR57 rfl rfl rfl (by decide) (fun a58 hR59 => ?_)
  refine l_join (fun ga gw => Reg ga 26 [(0, .bool false), (2, .slice A35 ((erA ([(⟨17, 0, 0, (⟨#[]⟩ : ByteArray)⟩ : Nd), (⟨28, 0, 0, (⟨#[]⟩ : ByteArray)⟩ : Nd)])).length) c36), (18, .bool ((decide (((chk ([(⟨17, 0, 0, (⟨#[]⟩ : ByteArray)⟩ : Nd), (⟨28, 0, 0, (⟨#[]⟩ : ByteArray)⟩ : Nd)]))) = 0)) && (decide ((((erA ([(⟨17, 0, 0, (⟨#[]⟩ : ByteArray)⟩ : Nd), (⟨28, 0, 0, (⟨#[]⟩ : ByteArray)⟩ : Nd)])).length : Nat) : Int) = 1)))), (1000000, .bool false)] ∧ St w0 Z none_ gw [] [dShapes, dRow 4 (some ⟨g16, 0, none⟩) 2 2 (encNs ([(⟨17, 0, 0, (⟨#[]⟩ : ByteArray)⟩ : Nd), (⟨28, 0, 0, (⟨#[]⟩ : ByteArray)⟩ : Nd)])), dRow 4 A35 ((erA ([(⟨17, 0, 0, (⟨#[]⟩ : ByteArray)⟩ : Nd), (⟨28, 0, 0, (⟨#[]⟩ : ByteArray)⟩ : Nd)])).length) c36 (encNs (erA ([(⟨17, 0, 0, (⟨#[]⟩ : ByteArray)⟩ : Nd), (⟨28, 0, 0, (⟨#[]⟩ : ByteArray)⟩ : Nd)])))]) 4 ?_ ?_
  · skip
    rcases Decidable.em (((chk ([(⟨17, 0, 0, (⟨#[]⟩ : ByteArray)⟩ : Nd), (⟨28, 0, 0, (⟨#[]⟩ : ByteArray)⟩ : Nd)]))) = 0) with h60 | h60
    · skip
      have hR61 := hR59.setb (d := 14) (b := true) rfl (decide_eq_true h60)
      refine r_move (st_listV_w (want_t hR61 rfl rfl rfl (by decide) rfl)) hR61 rfl rfl rfl (by decide) (fun a62 hR63 => ?_)
      refine r_len (st_listV_w (want_t hR63 rfl rfl rfl (by decide) rfl)) hR63 rfl rfl rfl rfl Tryd.underlying22 (by decide) (fun a64 hR65 => ?_)
      refine r_eql (st_listV_w (want_t hR65 rfl rfl rfl (by decide) rfl)) hR65 rfl rfl rfl rfl (by decide) (fun a66 hR67 => ?_)
      refine r_pick_t (st_listV rfl) hR67 rfl rfl rfl rfl (by decide) (fun a68 hR69 => ?_)
      refine wpList_nil ?_
      exact x_then_n ⟨(Reg.cons hR69 (Reg.cons hR69 (Reg.consb hR69 (Reg.cons hR69 (hR69.nil) rfl) rfl (by first | rfl | (simp only [decide_eq_true h60, if_pos h60, Bool.true_and, Bool.and_true, Bool.false_and, Bool.and_false, Bool.true_or, Bool.or_true, Bool.false_or, Bool.or_false, Bool.not_true, Bool.not_false, if_true, ite_true, ite_false, Bool.false_eq_true]; done) | (simp [h60]; done) | (simp [h60]; omega))) rfl) rfl), hS41⟩
    · skip
      have hR70 := hR59.setb (d := 14) (b := false) rfl (decide_eq_false h60)
      refine s_pass hR70 rfl (by decide) (want_f hR70 rfl rfl rfl (by decide) rfl rfl) (fun a71 hR72 => ?_)
      refine s_pass hR72 rfl (by decide) (want_f hR72 rfl rfl rfl (by decide) rfl rfl) (fun a73 hR74 => ?_)
      refine s_pass hR74 rfl (by decide) (want_f hR74 rfl rfl rfl (by decide) rfl rfl) (fun a75 hR76 => ?_)
      refine r_pick_f (st_listV rfl) hR76 rfl rfl rfl rfl (by decide) (fun a77 hR78 => ?_)
      refine wpList_nil ?_
      exact x_then_n ⟨(Reg.cons hR78 (Reg.cons hR78 (Reg.consb hR78 (Reg.cons hR78 (hR78.nil) rfl) rfl (by first | rfl | (simp only [decide_eq_false h60, if_neg h60, Bool.true_and, Bool.and_true, Bool.false_and, Bool.and_false, Bool.true_or, Bool.or_true, Bool.false_or, Bool.or_false, Bool.not_true, Bool.not_false, if_true, ite_true, ite_false, Bool.false_eq_true]; done) | (simp [h60]; done) | (simp [h60]; omega))) rfl) rfl), hS41⟩
  rintro a79 w80 ⟨hR81, hS82⟩
  refine r_move (st_listV rfl) hR81 rfl rfl rfl (by decide) (fun a83 hR84 => ?_)
  refine l_join (fun ga gw => Reg ga 26 [(0, .bool false), (25, .bool (((decide (((chk ([(⟨17, 0, 0, (⟨#[]⟩ : ByteArray)⟩ : Nd), (⟨28, 0, 0, (⟨#[]⟩ : ByteArray)⟩ : Nd)]))) = 0)) && (decide ((((erA ([(⟨17, 0, 0, (⟨#[]⟩ : ByteArray)⟩ : Nd), (⟨28, 0, 0, (⟨#[]⟩ : ByteArray)⟩ : Nd)])).length : Nat) : Int) = 1))) && (decide ((((nth (erA ([(⟨17, 0, 0, (⟨#[]⟩ : ByteArray)⟩ : Nd), (⟨28, 0, 0, (⟨#[]⟩ : ByteArray)⟩ : Nd)])) 0).K)) = 29)))), (1000000, .bool false)] ∧ St w0 Z none_ gw [] [dShapes, dRow 4 (some ⟨g16, 0, none⟩) 2 2 (encNs ([(⟨17, 0, 0, (⟨#[]⟩ : ByteArray)⟩ : Nd), (⟨28, 0, 0, (⟨#[]⟩ : ByteArray)⟩ : Nd)])), dRow 4 A35 ((erA ([(⟨17, 0, 0, (⟨#[]⟩ : ByteArray)⟩ : Nd), (⟨28, 0, 0, (⟨#[]⟩ : ByteArray)⟩ : Nd)])).length) c36 (encNs (erA ([(⟨17, 0, 0, (⟨#[]⟩ : ByteArray)⟩ : Nd), (⟨28, 0, 0, (⟨#[]⟩ : ByteArray)⟩ : Nd)])))]) 6 ?_ ?_
  · skip
    rcases Bool.eq_false_or_eq_true (((decide (((chk ([(⟨17, 0, 0, (⟨#[]⟩ : ByteArray)⟩ : Nd), (⟨28, 0, 0, (⟨#[]⟩ : ByteArray)⟩ : Nd)]))) = 0)) && (decide ((((erA ([(⟨17, 0, 0, (⟨#[]⟩ : ByteArray)⟩ : Nd), (⟨28, 0, 0, (⟨#[]⟩ : ByteArray)⟩ : Nd)])).length : Nat) : Int) = 1)))) with h85 | h85
    · skip
      have h86 := and_tl h85
      have h87 := of_decide_eq_true h86
      have h88 := and_tr h85
      have h89 := of_decide_eq_true h88
      have hR90 := hR84.setb (d := 19) (b := true) rfl h85
      refine r_move (st_listV_w (want_t hR90 rfl rfl rfl (by decide) rfl)) hR90 rfl rfl rfl (by decide) (fun a91 hR92 => ?_)
      refine m_index (i := 0) (j := 0 * 4) (st_listV_w (want_t hR92 rfl rfl rfl (by decide) rfl)) hR92 rfl rfl rfl rfl Tryd.underlying22 sz32 (by omega) (by omega) (nds_elem (t := erA ([(⟨17, 0, 0, (⟨#[]⟩ : ByteArray)⟩ : Nd), (⟨28, 0, 0, (⟨#[]⟩ : ByteArray)⟩ : Nd)])) (k := 0) (hS82.row (i := 2) rfl).2 (by omega)).some_ rfl (by decide) (fun a93 hR94 => ?_)
      refine m_fieldE (j' := 0 * 4) (st_listV_w (want_t hR94 rfl rfl rfl (by decide) rfl)) hR94 rfl rfl rfl (nds_elem (t := erA ([(⟨17, 0, 0, (⟨#[]⟩ : ByteArray)⟩ : Nd), (⟨28, 0, 0, (⟨#[]⟩ : ByteArray)⟩ : Nd)])) (k := 0) (hS82.row (i := 2) rfl).2 (by omega)).some_ Tryd.underlying32 rfl sz3 rfl rfl (by decide) (fun a95 hR96 => ?_)
      refine m_loadE (st_listV_w (want_t hR96 rfl rfl rfl (by decide) rfl)) hR96 rfl rfl rfl 0 (0 * 4) (nds_elem (t := erA ([(⟨17, 0, 0, (⟨#[]⟩ : ByteArray)⟩ : Nd), (⟨28, 0, 0, (⟨#[]⟩ : ByteArray)⟩ : Nd)])) (k := 0) (hS82.row (i := 2) rfl).2 (by omega)) rfl rfl Tryd.underlying3 rfl (by decide) (fun a97 hR98 => ?_)
      refine r_eql (st_listV_w (want_t hR98 rfl rfl rfl (by decide) rfl)) hR98 rfl rfl rfl rfl (by decide) (fun a99 hR100 => ?_)
      refine r_pick_t (st_listV rfl) hR100 rfl rfl rfl rfl (by decide) (fun a101 hR102 => ?_)
      refine wpList_nil ?_
      exact x_then_n ⟨(Reg.cons hR102 (Reg.consb hR102 (Reg.cons hR102 (hR102.nil) rfl) rfl (by first | rfl | (simp only [h85, Bool.true_and, Bool.and_true, Bool.false_and, Bool.and_false, Bool.true_or, Bool.or_true, Bool.false_or, Bool.or_false, Bool.not_true, Bool.not_false, if_true, ite_true, ite_false, Bool.false_eq_true]; done) | (simp [h85]; done) | (simp [h85]; omega))) rfl), hS82⟩
    · skip
      have hq103 := h85
      try simp only [Bool.or_eq_true, Bool.and_eq_true, Bool.not_eq_true', Bool.not_eq_false', decide_eq_true_eq, decide_eq_false_iff_not, Bool.or_eq_false_iff, Bool.and_eq_false_iff] at hq103
      have hR104 := hR84.setb (d := 19) (b := false) rfl h85
      refine s_pass hR104 rfl (by decide) (want_f hR104 rfl rfl rfl (by decide) rfl rfl) (fun a105 hR106 => ?_)
      refine s_pass hR106 rfl (by decide) (want_f hR106 rfl rfl rfl (by decide) rfl rfl) (fun a107 hR108 => ?_)
      refine s_pass hR108 rfl (by decide) (want_f hR108 rfl rfl rfl (by decide) rfl rfl) (fun a109 hR110 => ?_)
      refine s_pass hR110 rfl (by decide) (want_f hR110 rfl rfl rfl (by decide) rfl rfl) (fun a111 hR112 => ?_)
      refine s_pass hR112 rfl (by decide) (want_f hR112 rfl rfl rfl (by decide) rfl rfl) (fun a113 hR114 => ?_)
      refine r_pick_f (st_listV rfl) hR114 rfl rfl rfl rfl (by decide) (fun a115 hR116 => ?_)
      refine wpList_nil ?_
      exact x_then_n ⟨(Reg.cons hR116 (Reg.consb hR116 (Reg.cons hR116 (hR116.nil) rfl) rfl (by first | rfl | (simp only [h85, Bool.true_and, Bool.and_true, Bool.false_and, Bool.and_false, Bool.true_or, Bool.or_true, Bool.false_or, Bool.or_false, Bool.not_true, Bool.not_false, if_true, ite_true, ite_false, Bool.false_eq_true]; done) | (simp [h85]; done) | (simp [h85]; omega))) rfl), hS82⟩
  rintro a117 w118 ⟨hR119, hS120⟩
  refine r_assign (st_listV rfl) hR119 rfl rfl rfl (by decide) (fun a121 hR122 => ?_)
  refine wpList_nil ?_
  refine x_then_n (hK53 _ _ ?_)
  refine wp_ret ?_
  refine e_ret1 hR122 rfl rfl rfl ?_
  refine ⟨?_, hS120.fr⟩
  exact congrArg Ending.returned (ret_b (by simp [chk_sp, era_sp, show (nth [tick] 0).K = 29 from rfl]))
end Go.Proofs.YtobgdeffhdefeaaDoor
/- Contracts of functions, one theorem each: what the call returns, and that nothing old is changed. Printed by gen.py. -/
namespace Go.Proofs.YtobgdeffhdefeaaDoor
open Go Go.RowKit
set_option linter.unusedSimpArgs false
set_option linter.unusedVariables false

set_option maxRecDepth 100000 in
set_option maxHeartbeats 1000000 in
theorem rlevel_calls (w0 : World) (Z : Nat → Prop) (hZ : ∀ k, Z k → k < w0.heap.size) (n : Int)  :
    Calls Tryd.prog 116 [.int .i64 n].toArray w0 (fun e w' => e = .returned (.bool (decide (0 ≤ n) && decide (n ≤ 9))) ∧ Fr none_ w0 w') := by
  have hstart : ∀ k, Z k → imm Z w0 [] w0 k ∧ w0.heap[k]? = w0.heap[k]? := fun k hk => ⟨⟨hZ k hk, fun _ => hk, fun _ h => by cases h⟩, rfl⟩
  have hS3 : St w0 Z none_ w0 [] [] := St.start w0 Z none_ _ (by
    intro d hd
    cases hd
    )
  refine c_enter Tryd.func116 rfl Tryd.ntmps116 rfl (fun a1 hR2 => ?_)
  refine wp_seq_k (fun K4 hK5 => ?_)
  refine c_region ?_
  refine r_assign (st_listV rfl) hR2 rfl rfl rfl (by decide) (fun a6 hR7 => ?_)
  refine wpList_nil ?_
  refine x_then_n (hK5 _ _ ?_)
  refine wp_seq_k (fun K8 hK9 => ?_)
  refine c_region ?_
  refine r_move (st_listV rfl) hR7 rfl rfl rfl (by decide) (fun a10 hR11 => ?_)
  refine r_geq (st_listV rfl) hR11 rfl rfl rfl rfl (by decide) (fun a12 hR13 => ?_)
  refine r_move (st_listV rfl) hR13 rfl rfl rfl (by decide) (fun a14 hR15 => ?_)
  refine l_join (fun ga gw => Reg ga 9 [(2, .bool false), (8, .bool ((decide (0 ≤ (n))) && (decide ((n) ≤ 9)))), (1000000, .bool false)] ∧ St w0 Z none_ gw [] []) 3 ?_ ?_
  · skip
    rcases Decidable.em (0 ≤ (n)) with h16 | h16
    · skip
      have hR17 := hR15.setb (d := 5) (b := true) rfl (decide_eq_true h16)
      refine r_move (st_listV_w (want_t hR17 rfl rfl rfl (by decide) rfl)) hR17 rfl rfl rfl (by decide) (fun a18 hR19 => ?_)
      refine r_leq (st_listV_w (want_t hR19 rfl rfl rfl (by decide) rfl)) hR19 rfl rfl rfl rfl (by decide) (fun a20 hR21 => ?_)
      refine r_pick_t (st_listV rfl) hR21 rfl rfl rfl rfl (by decide) (fun a22 hR23 => ?_)
      refine wpList_nil ?_
      exact x_then_n ⟨(Reg.cons hR23 (Reg.consb hR23 (Reg.cons hR23 (hR23.nil) rfl) rfl (by first | rfl | (simp only [decide_eq_true h16, if_pos h16, Bool.true_and, Bool.and_true, Bool.false_and, Bool.and_false, Bool.true_or, Bool.or_true, Bool.false_or, Bool.or_false, Bool.not_true, Bool.not_false, if_true, ite_true, ite_false, Bool.false_eq_true]; done) | (simp [h16]; done) | (simp [h16]; omega))) rfl), hS3⟩
    · skip
      have hR24 := hR15.setb (d := 5) (b := false) rfl (decide_eq_false h16)
      refine s_pass hR24 rfl (by decide) (want_f hR24 rfl rfl rfl (by decide) rfl rfl) (fun a25 hR26 => ?_)
      refine s_pass hR26 rfl (by decide) (want_f hR26 rfl rfl rfl (by decide) rfl rfl) (fun a27 hR28 => ?_)
      refine r_pick_f (st_listV rfl) hR28 rfl rfl rfl rfl (by decide) (fun a29 hR30 => ?_)
      refine wpList_nil ?_
      exact x_then_n ⟨(Reg.cons hR30 (Reg.consb hR30 (Reg.cons hR30 (hR30.nil) rfl) rfl (by first | rfl | (simp only [decide_eq_false h16, if_neg h16, Bool.true_and, Bool.and_true, Bool.false_and, Bool.and_false, Bool.true_or, Bool.or_true, Bool.false_or, Bool.or_false, Bool.not_true, Bool.not_false, if_true, ite_true, ite_false, Bool.false_eq_true]; done) | (simp [h16]; done) | (simp [h16]; omega))) rfl), hS3⟩
  rintro a31 w32 ⟨hR33, hS34⟩
  refine r_assign (st_listV rfl) hR33 rfl rfl rfl (by decide) (fun a35 hR36 => ?_)
  refine wpList_nil ?_
  refine x_then_n (hK9 _ _ ?_)
  refine wp_ret ?_
  refine e_ret1 hR36 rfl rfl rfl ?_
  refine ⟨?_, hS34.fr⟩
  exact congrArg Ending.returned (ret_b (by first | rfl | omega | ( omega) | (simp []; done) | (simp [] at *; done) | (simp [] <;> omega) | (rw [Bool.eq_iff_iff]; simp [] <;> omega) | (rw [Bool.eq_iff_iff]; simp [] at * <;> omega)))

set_option maxRecDepth 100000 in
set_option maxHeartbeats 1000000 in
theorem rlvCheck_calls (w0 : World) (Z : Nat → Prop) (hZ : ∀ k, Z k → k < w0.heap.size) (n : Int)  :
    Calls Tryd.prog 78 [.int .i64 n].toArray w0 (fun e w' => e = .returned (.int .i64 (lvChk n)) ∧ Fr none_ w0 w') := by
  have hstart : ∀ k, Z k → imm Z w0 [] w0 k ∧ w0.heap[k]? = w0.heap[k]? := fun k hk => ⟨⟨hZ k hk, fun _ => hk, fun _ h => by cases h⟩, rfl⟩
  have hS3 : St w0 Z none_ w0 [] [] := St.start w0 Z none_ _ (by
    intro d hd
    cases hd
    )
  refine c_enter Tryd.func78 rfl Tryd.ntmps78 rfl (fun a1 hR2 => ?_)
  refine wp_seq_k (fun K4 hK5 => ?_)
  refine c_region ?_
  refine r_assign (st_listV rfl) hR2 rfl rfl rfl (by decide) (fun a6 hR7 => ?_)
  refine wpList_nil ?_
  refine x_then_n (hK5 _ _ ?_)
  refine wp_seq_k (fun K8 hK9 => ?_)
  refine wp_seq_k (fun K10 hK11 => ?_)
  refine c_region ?_
  refine r_move (st_listV rfl) hR7 rfl rfl rfl (by decide) (fun a12 hR13 => ?_)
  have hS14 : St w0 Z none_ w0 [] [] := hS3
  refine k_call (xs := [.tmp 3]) (st_list rfl) hR13 rfl rfl rfl (by decide) ok116 (rlevel_calls _ (imm Z w0 [] _) (fun _ h => h.1) (n)) ?_
  rintro e21 w16 ⟨rfl, hf19⟩
  have hS22 := hS14.below hf19.below
  refine ⟨_, rfl, fun a15 hR17 => ?_⟩
  refine r_not (st_listV rfl) hR17 rfl rfl rfl (by decide) (fun a23 hR24 => ?_)
  refine wpList_nil ?_
  refine x_then_n (hK11 _ _ ?_)
  rcases Bool.eq_false_or_eq_true (decide (0 ≤ (n)) && decide ((n) ≤ 9)) with h25 | h25
  · skip
    have h26 := and_tl h25
    have h27 := of_decide_eq_true h26
    have h28 := and_tr h25
    have h29 := of_decide_eq_true h28
    have hR30 := hR24.setb (d := 5) (b := false) rfl (by rw [h25]; rfl)
    refine wp_cond_false (hR30.ev rfl) ?_
    refine wp_skip ?_
    refine x_then_n (hK9 _ _ ?_)
    refine wp_seq_k (fun K31 hK32 => ?_)
    refine c_region ?_
    refine r_assign (st_listV rfl) hR30 rfl rfl rfl (by decide) (fun a33 hR34 => ?_)
    refine wpList_nil ?_
    refine x_then_n (hK32 _ _ ?_)
    refine wp_ret ?_
    refine e_ret1 hR34 rfl rfl rfl ?_
    refine ⟨?_, hS22.fr⟩
    exact congrArg Ending.returned (ret_i (by have q0 := h25; (try simp at q0); have q1 := h27; (try simp at q1); have q2 := h29; (try simp at q2);  unfold lvChk; (try split) <;> first | rfl | omega))
  · skip
    have hq35 := h25
    try simp only [Bool.or_eq_true, Bool.and_eq_true, Bool.not_eq_true', Bool.not_eq_false', decide_eq_true_eq, decide_eq_false_iff_not, Bool.or_eq_false_iff, Bool.and_eq_false_iff] at hq35
    have hR36 := hR24.setb (d := 5) (b := true) rfl (by rw [h25]; rfl)
    refine wp_cond_true (hR36.ev rfl) ?_
    refine wp_seq_k (fun K37 hK38 => ?_)
    refine c_region ?_
    refine r_assign (st_listV rfl) hR36 rfl rfl rfl (by decide) (fun a39 hR40 => ?_)
    refine wpList_nil ?_
    refine x_then_n (hK38 _ _ ?_)
    refine wp_ret ?_
    refine x_then_r ?_
    refine e_ret1 hR40 rfl rfl rfl ?_
    refine ⟨?_, hS22.fr⟩
    exact congrArg Ending.returned (ret_i (by have q0 := h25; (try simp at q0);  unfold lvChk; (try split) <;> first | rfl | omega))

set_option maxRecDepth 100000 in
set_option maxHeartbeats 1000000 in
theorem rletter_calls (w0 : World) (Z : Nat → Prop) (hZ : ∀ k, Z k → k < w0.heap.size) (c : Nat)  :
    Calls Tryd.prog 115 [.int .u8 ((c : Nat) : Int)].toArray w0 (fun e w' => e = .returned (.bool (letN c)) ∧ Fr none_ w0 w') := by
  have hstart : ∀ k, Z k → imm Z w0 [] w0 k ∧ w0.heap[k]? = w0.heap[k]? := fun k hk => ⟨⟨hZ k hk, fun _ => hk, fun _ h => by cases h⟩, rfl⟩
  have hS3 : St w0 Z none_ w0 [] [] := St.start w0 Z none_ _ (by
    intro d hd
    cases hd
    )
  refine c_enter Tryd.func115 rfl Tryd.ntmps115 rfl (fun a1 hR2 => ?_)
  refine wp_seq_k (fun K4 hK5 => ?_)
  refine c_region ?_
  refine r_assign (st_listV rfl) hR2 rfl rfl rfl (by decide) (fun a6 hR7 => ?_)
  refine wpList_nil ?_
  refine x_then_n (hK5 _ _ ?_)
  refine wp_seq_k (fun K8 hK9 => ?_)
  refine c_region ?_
  refine r_move (st_listV rfl) hR7 rfl rfl rfl (by decide) (fun a10 hR11 => ?_)
  refine r_geq (st_listV rfl) hR11 rfl rfl rfl rfl (by decide) (fun a12 hR13 => ?_)
  refine r_move (st_listV rfl) hR13 rfl rfl rfl (by decide) (fun a14 hR15 => ?_)
  refine l_join (fun ga gw => Reg ga 21 [(0, .int .u8 ((c : Nat) : Int)), (2, .bool false), (8, .bool ((decide (97 ≤ ((c : Nat) : Int))) && (decide (((c : Nat) : Int) ≤ 122)))), (1000000, .bool false)] ∧ St w0 Z none_ gw [] []) 3 ?_ ?_
  · skip
    rcases Decidable.em (97 ≤ ((c : Nat) : Int)) with h16 | h16
    · skip
      have hR17 := hR15.setb (d := 5) (b := true) rfl (decide_eq_true h16)
      refine r_move (st_listV_w (want_t hR17 rfl rfl rfl (by decide) rfl)) hR17 rfl rfl rfl (by decide) (fun a18 hR19 => ?_)
      refine r_leq (st_listV_w (want_t hR19 rfl rfl rfl (by decide) rfl)) hR19 rfl rfl rfl rfl (by decide) (fun a20 hR21 => ?_)
      refine r_pick_t (st_listV rfl) hR21 rfl rfl rfl rfl (by decide) (fun a22 hR23 => ?_)
      refine wpList_nil ?_
      exact x_then_n ⟨(Reg.cons hR23 (Reg.cons hR23 (Reg.consb hR23 (Reg.cons hR23 (hR23.nil) rfl) rfl (by first | rfl | (simp only [decide_eq_true h16, if_pos h16, Bool.true_and, Bool.and_true, Bool.false_and, Bool.and_false, Bool.true_or, Bool.or_true, Bool.false_or, Bool.or_false, Bool.not_true, Bool.not_false, if_true, ite_true, ite_false, Bool.false_eq_true]; done) | (simp [h16]; done) | (simp [h16]; omega))) rfl) rfl), hS3⟩
    · skip
      have hR24 := hR15.setb (d := 5) (b := false) rfl (decide_eq_false h16)
      refine s_pass hR24 rfl (by decide) (want_f hR24 rfl rfl rfl (by decide) rfl rfl) (fun a25 hR26 => ?_)
      refine s_pass hR26 rfl (by decide) (want_f hR26 rfl rfl rfl (by decide) rfl rfl) (fun a27 hR28 => ?_)
      refine r_pick_f (st_listV rfl) hR28 rfl rfl rfl rfl (by decide) (fun a29 hR30 => ?_)
      refine wpList_nil ?_
      exact x_then_n ⟨(Reg.cons hR30 (Reg.cons hR30 (Reg.consb hR30 (Reg.cons hR30 (hR30.nil) rfl) rfl (by first | rfl | (simp only [decide_eq_false h16, if_neg h16, Bool.true_and, Bool.and_true, Bool.false_and, Bool.and_false, Bool.true_or, Bool.or_true, Bool.false_or, Bool.or_false, Bool.not_true, Bool.not_false, if_true, ite_true, ite_false, Bool.false_eq_true]; done) | (simp [h16]; done) | (simp [h16]; omega))) rfl) rfl), hS3⟩
  rintro a31 w32 ⟨hR33, hS34⟩
  refine r_move (st_listV rfl) hR33 rfl rfl rfl (by decide) (fun a35 hR36 => ?_)
  refine l_join (fun ga gw => Reg ga 21 [(0, .int .u8 ((c : Nat) : Int)), (2, .bool false), (16, .bool (((decide (97 ≤ ((c : Nat) : Int))) && (decide (((c : Nat) : Int) ≤ 122))) || ((decide (65 ≤ ((c : Nat) : Int))) && (decide (((c : Nat) : Int) ≤ 90))))), (1000000, .bool false)] ∧ St w0 Z none_ gw [] []) 7 ?_ ?_
  · skip
    rcases Bool.eq_false_or_eq_true (((decide (97 ≤ ((c : Nat) : Int))) && (decide (((c : Nat) : Int) ≤ 122)))) with h37 | h37
    · skip
      have h38 := and_tl h37
      have h39 := of_decide_eq_true h38
      have h40 := and_tr h37
      have h41 := of_decide_eq_true h40
      have hR42 := hR36.setb (d := 9) (b := true) rfl h37
      refine s_pass hR42 rfl (by decide) (want_f hR42 rfl rfl rfl (by decide) rfl rfl) (fun a43 hR44 => ?_)
      refine s_pass hR44 rfl (by decide) (want_f hR44 rfl rfl rfl (by decide) rfl rfl) (fun a45 hR46 => ?_)
      refine s_pass hR46 rfl (by decide) (want_f hR46 rfl rfl rfl (by decide) rfl rfl) (fun a47 hR48 => ?_)
      refine s_pass hR48 rfl (by decide) (want_u hR48 rfl rfl rfl (by decide) rfl) (fun a49 hR50 => ?_)
      refine s_pass hR50 rfl (by decide) (want_u hR50 rfl rfl rfl (by decide) rfl) (fun a51 hR52 => ?_)
      refine s_pass hR52 rfl (by decide) (want_f hR52 rfl rfl rfl (by decide) rfl rfl) (fun a53 hR54 => ?_)
      refine r_pick_t (st_listV rfl) hR54 rfl rfl rfl rfl (by decide) (fun a55 hR56 => ?_)
      refine wpList_nil ?_
      exact x_then_n ⟨(Reg.cons hR56 (Reg.cons hR56 (Reg.consb hR56 (Reg.cons hR56 (hR56.nil) rfl) rfl (by first | rfl | (simp only [h37, Bool.true_and, Bool.and_true, Bool.false_and, Bool.and_false, Bool.true_or, Bool.or_true, Bool.false_or, Bool.or_false, Bool.not_true, Bool.not_false, if_true, ite_true, ite_false, Bool.false_eq_true]; done) | (simp [h37]; done) | (simp [h37]; omega))) rfl) rfl), hS34⟩
    · skip
      have hq57 := h37
      try simp only [Bool.or_eq_true, Bool.and_eq_true, Bool.not_eq_true', Bool.not_eq_false', decide_eq_true_eq, decide_eq_false_iff_not, Bool.or_eq_false_iff, Bool.and_eq_false_iff] at hq57
      have hR58 := hR36.setb (d := 9) (b := false) rfl h37
      refine r_move (st_listV_w (want_t hR58 rfl rfl rfl (by decide) rfl)) hR58 rfl rfl rfl (by decide) (fun a59 hR60 => ?_)
      refine r_geq (st_listV_w (want_t hR60 rfl rfl rfl (by decide) rfl)) hR60 rfl rfl rfl rfl (by decide) (fun a61 hR62 => ?_)
      refine r_move (st_listV_w (want_t hR62 rfl rfl rfl (by decide) rfl)) hR62 rfl rfl rfl (by decide) (fun a63 hR64 => ?_)
      rcases Decidable.em (65 ≤ ((c : Nat) : Int)) with h65 | h65
      · skip
        have hR66 := hR64.setb (d := 12) (b := true) rfl (decide_eq_true h65)
        refine r_move (st_listV_w (want_t hR66 rfl rfl rfl (by decide) rfl)) hR66 rfl rfl rfl (by decide) (fun a67 hR68 => ?_)
        refine r_leq (st_listV_w (want_t hR68 rfl rfl rfl (by decide) rfl)) hR68 rfl rfl rfl rfl (by decide) (fun a69 hR70 => ?_)
        refine r_pick_t (st_listV_w (want_t hR70 rfl rfl rfl (by decide) rfl)) hR70 rfl rfl rfl rfl (by decide) (fun a71 hR72 => ?_)
        refine r_pick_f (st_listV rfl) hR72 rfl rfl rfl rfl (by decide) (fun a73 hR74 => ?_)
        refine wpList_nil ?_
        exact x_then_n ⟨(Reg.cons hR74 (Reg.cons hR74 (Reg.consb hR74 (Reg.cons hR74 (hR74.nil) rfl) rfl (by first | rfl | (simp only [h37, decide_eq_true h65, if_pos h65, Bool.true_and, Bool.and_true, Bool.false_and, Bool.and_false, Bool.true_or, Bool.or_true, Bool.false_or, Bool.or_false, Bool.not_true, Bool.not_false, if_true, ite_true, ite_false, Bool.false_eq_true]; done) | (simp [h37, h65]; done) | (simp [h37, h65]; omega))) rfl) rfl), hS34⟩
      · skip
        have hR75 := hR64.setb (d := 12) (b := false) rfl (decide_eq_false h65)
        refine s_pass hR75 rfl (by decide) (want_f hR75 rfl rfl rfl (by decide) rfl rfl) (fun a76 hR77 => ?_)
        refine s_pass hR77 rfl (by decide) (want_f hR77 rfl rfl rfl (by decide) rfl rfl) (fun a78 hR79 => ?_)
        refine r_pick_f (st_listV_w (want_t hR79 rfl rfl rfl (by decide) rfl)) hR79 rfl rfl rfl rfl (by decide) (fun a80 hR81 => ?_)
        refine r_pick_f (st_listV rfl) hR81 rfl rfl rfl rfl (by decide) (fun a82 hR83 => ?_)
        refine wpList_nil ?_
        exact x_then_n ⟨(Reg.cons hR83 (Reg.cons hR83 (Reg.consb hR83 (Reg.cons hR83 (hR83.nil) rfl) rfl (by first | rfl | (simp only [h37, decide_eq_false h65, if_neg h65, Bool.true_and, Bool.and_true, Bool.false_and, Bool.and_false, Bool.true_or, Bool.or_true, Bool.false_or, Bool.or_false, Bool.not_true, Bool.not_false, if_true, ite_true, ite_false, Bool.false_eq_true]; done) | (simp [h37, h65]; done) | (simp [h37, h65]; omega))) rfl) rfl), hS34⟩
  rintro a84 w85 ⟨hR86, hS87⟩
  refine r_move (st_listV rfl) hR86 rfl rfl rfl (by decide) (fun a88 hR89 => ?_)
  refine l_join (fun ga gw => Reg ga 21 [(2, .bool false), (20, .bool ((((decide (97 ≤ ((c : Nat) : Int))) && (decide (((c : Nat) : Int) ≤ 122))) || ((decide (65 ≤ ((c : Nat) : Int))) && (decide (((c : Nat) : Int) ≤ 90)))) || (decide (((c : Nat) : Int) = 95)))), (1000000, .bool false)] ∧ St w0 Z none_ gw [] []) 3 ?_ ?_
  · skip
    rcases Bool.eq_false_or_eq_true ((((decide (97 ≤ ((c : Nat) : Int))) && (decide (((c : Nat) : Int) ≤ 122))) || ((decide (65 ≤ ((c : Nat) : Int))) && (decide (((c : Nat) : Int) ≤ 90))))) with h90 | h90
    · skip
      have hq91 := h90
      try simp only [Bool.or_eq_true, Bool.and_eq_true, Bool.not_eq_true', Bool.not_eq_false', decide_eq_true_eq, decide_eq_false_iff_not, Bool.or_eq_false_iff, Bool.and_eq_false_iff] at hq91
      have hR92 := hR89.setb (d := 17) (b := true) rfl h90
      refine s_pass hR92 rfl (by decide) (want_f hR92 rfl rfl rfl (by decide) rfl rfl) (fun a93 hR94 => ?_)
      refine s_pass hR94 rfl (by decide) (want_f hR94 rfl rfl rfl (by decide) rfl rfl) (fun a95 hR96 => ?_)
      refine r_pick_t (st_listV rfl) hR96 rfl rfl rfl rfl (by decide) (fun a97 hR98 => ?_)
      refine wpList_nil ?_
      exact x_then_n ⟨(Reg.cons hR98 (Reg.consb hR98 (Reg.cons hR98 (hR98.nil) rfl) rfl (by first | rfl | (simp only [h90, Bool.true_and, Bool.and_true, Bool.false_and, Bool.and_false, Bool.true_or, Bool.or_true, Bool.false_or, Bool.or_false, Bool.not_true, Bool.not_false, if_true, ite_true, ite_false, Bool.false_eq_true]; done) | (simp [h90]; done) | (simp [h90]; omega))) rfl), hS87⟩
    · skip
      have h99 := or_fl h90
      have hq100 := h99
      try simp only [Bool.or_eq_true, Bool.and_eq_true, Bool.not_eq_true', Bool.not_eq_false', decide_eq_true_eq, decide_eq_false_iff_not, Bool.or_eq_false_iff, Bool.and_eq_false_iff] at hq100
      have h101 := or_fr h90
      have hq102 := h101
      try simp only [Bool.or_eq_true, Bool.and_eq_true, Bool.not_eq_true', Bool.not_eq_false', decide_eq_true_eq, decide_eq_false_iff_not, Bool.or_eq_false_iff, Bool.and_eq_false_iff] at hq102
      have hR103 := hR89.setb (d := 17) (b := false) rfl h90
      refine r_move (st_listV_w (want_t hR103 rfl rfl rfl (by decide) rfl)) hR103 rfl rfl rfl (by decide) (fun a104 hR105 => ?_)
      refine r_eql (st_listV_w (want_t hR105 rfl rfl rfl (by decide) rfl)) hR105 rfl rfl rfl rfl (by decide) (fun a106 hR107 => ?_)
      refine r_pick_f (st_listV rfl) hR107 rfl rfl rfl rfl (by decide) (fun a108 hR109 => ?_)
      refine wpList_nil ?_
      exact x_then_n ⟨(Reg.cons hR109 (Reg.consb hR109 (Reg.cons hR109 (hR109.nil) rfl) rfl (by first | rfl | (simp only [h90, Bool.true_and, Bool.and_true, Bool.false_and, Bool.and_false, Bool.true_or, Bool.or_true, Bool.false_or, Bool.or_false, Bool.not_true, Bool.not_false, if_true, ite_true, ite_false, Bool.false_eq_true]; done) | (simp [h90]; done) | (simp [h90]; omega))) rfl), hS87⟩
  rintro a110 w111 ⟨hR112, hS113⟩
  refine r_assign (st_listV rfl) hR112 rfl rfl rfl (by decide) (fun a114 hR115 => ?_)
  refine wpList_nil ?_
  refine x_then_n (hK9 _ _ ?_)
  refine wp_ret ?_
  refine e_ret1 hR115 rfl rfl rfl ?_
  refine ⟨?_, hS113.fr⟩
  exact congrArg Ending.returned (ret_b (by first | rfl | ( rw [Bool.eq_iff_iff]; unfold letN; simp; omega)))

set_option maxRecDepth 100000 in
set_option maxHeartbeats 1000000 in
theorem rname_calls (w0 : World) (Z : Nat → Prop) (hZ : ∀ k, Z k → k < w0.heap.size) (s : ByteArray) (hs : s.size < 1000000) :
    Calls Tryd.prog 77 [.string s].toArray w0 (fun e w' => e = .returned (.bool (nameOk s)) ∧ Fr none_ w0 w') := by
  have hstart : ∀ k, Z k → imm Z w0 [] w0 k ∧ w0.heap[k]? = w0.heap[k]? := fun k hk => ⟨⟨hZ k hk, fun _ => hk, fun _ h => by cases h⟩, rfl⟩
  have hS3 : St w0 Z none_ w0 [] [] := St.start w0 Z none_ _ (by
    intro d hd
    cases hd
    )
  refine c_enter Tryd.func77 rfl Tryd.ntmps77 rfl (fun a1 hR2 => ?_)
  refine wp_seq_k (fun K4 hK5 => ?_)
  refine c_region ?_
  refine r_assign (st_listV rfl) hR2 rfl rfl rfl (by decide) (fun a6 hR7 => ?_)
  refine wpList_nil ?_
  refine x_then_n (hK5 _ _ ?_)
  refine wp_seq_k (fun K8 hK9 => ?_)
  refine wp_seq_k (fun K10 hK11 => ?_)
  refine c_region ?_
  refine r_move (st_listV rfl) hR7 rfl rfl rfl (by decide) (fun a12 hR13 => ?_)
  refine r_lenS (st_listV rfl) hR13 rfl rfl rfl rfl Tryd.underlying9 (by decide) (fun a14 hR15 => ?_)
  refine r_lss (st_listV rfl) hR15 rfl rfl rfl rfl (by decide) (fun a16 hR17 => ?_)
  refine r_move (st_listV rfl) hR17 rfl rfl rfl (by decide) (fun a18 hR19 => ?_)
  refine l_join (fun ga gw => Reg ga 41 [(0, .string s), (2, .bool false), (11, .bool ((decide (((s.size : Nat) : Int) < 1)) || (decide (16 < ((s.size : Nat) : Int))))), (1000000, .bool false)] ∧ St w0 Z none_ gw [] []) 4 ?_ ?_
  · skip
    rcases Decidable.em (((s.size : Nat) : Int) < 1) with h20 | h20
    · skip
      have hR21 := hR19.setb (d := 7) (b := true) rfl (decide_eq_true h20)
      refine s_pass hR21 rfl (by decide) (want_f hR21 rfl rfl rfl (by decide) rfl rfl) (fun a22 hR23 => ?_)
      refine s_pass hR23 rfl (by decide) (want_f hR23 rfl rfl rfl (by decide) rfl rfl) (fun a24 hR25 => ?_)
      refine s_pass hR25 rfl (by decide) (want_f hR25 rfl rfl rfl (by decide) rfl rfl) (fun a26 hR27 => ?_)
      refine r_pick_t (st_listV rfl) hR27 rfl rfl rfl rfl (by decide) (fun a28 hR29 => ?_)
      refine wpList_nil ?_
      exact x_then_n ⟨(Reg.cons hR29 (Reg.cons hR29 (Reg.consb hR29 (Reg.cons hR29 (hR29.nil) rfl) rfl (by first | rfl | (simp only [decide_eq_true h20, if_pos h20, Bool.true_and, Bool.and_true, Bool.false_and, Bool.and_false, Bool.true_or, Bool.or_true, Bool.false_or, Bool.or_false, Bool.not_true, Bool.not_false, if_true, ite_true, ite_false, Bool.false_eq_true]; done) | (simp [h20]; done) | (simp [h20]; omega))) rfl) rfl), hS3⟩
    · skip
      have hR30 := hR19.setb (d := 7) (b := false) rfl (decide_eq_false h20)
      refine r_move (st_listV_w (want_t hR30 rfl rfl rfl (by decide) rfl)) hR30 rfl rfl rfl (by decide) (fun a31 hR32 => ?_)
      refine r_lenS (st_listV_w (want_t hR32 rfl rfl rfl (by decide) rfl)) hR32 rfl rfl rfl rfl Tryd.underlying9 (by decide) (fun a33 hR34 => ?_)
      refine r_gtr (st_listV_w (want_t hR34 rfl rfl rfl (by decide) rfl)) hR34 rfl rfl rfl rfl (by decide) (fun a35 hR36 => ?_)
      refine r_pick_f (st_listV rfl) hR36 rfl rfl rfl rfl (by decide) (fun a37 hR38 => ?_)
      refine wpList_nil ?_
      exact x_then_n ⟨(Reg.cons hR38 (Reg.cons hR38 (Reg.consb hR38 (Reg.cons hR38 (hR38.nil) rfl) rfl (by first | rfl | (simp only [decide_eq_false h20, if_neg h20, Bool.true_and, Bool.and_true, Bool.false_and, Bool.and_false, Bool.true_or, Bool.or_true, Bool.false_or, Bool.or_false, Bool.not_true, Bool.not_false, if_true, ite_true, ite_false, Bool.false_eq_true]; done) | (simp [h20]; done) | (simp [h20]; omega))) rfl) rfl), hS3⟩
  rintro a39 w40 ⟨hR41, hS42⟩
  refine r_move (st_listV rfl) hR41 rfl rfl rfl (by decide) (fun a43 hR44 => ?_)
  refine l_join (fun ga gw => Reg ga 41 [(0, .string s), (2, .bool false), (17, .bool (((decide (((s.size : Nat) : Int) < 1)) || (decide (16 < ((s.size : Nat) : Int)))) || (!(letN (byteAt s 0))))), (1000000, .bool false)] ∧ St w0 Z none_ gw [] []) 5 ?_ ?_
  · skip
    rcases Bool.eq_false_or_eq_true (((decide (((s.size : Nat) : Int) < 1)) || (decide (16 < ((s.size : Nat) : Int))))) with h45 | h45
    · skip
      have hq46 := h45
      try simp only [Bool.or_eq_true, Bool.and_eq_true, Bool.not_eq_true', Bool.not_eq_false', decide_eq_true_eq, decide_eq_false_iff_not, Bool.or_eq_false_iff, Bool.and_eq_false_iff] at hq46
      have hR47 := hR44.setb (d := 12) (b := true) rfl h45
      refine s_pass hR47 rfl (by decide) (want_f hR47 rfl rfl rfl (by decide) rfl rfl) (fun a48 hR49 => ?_)
      refine s_pass hR49 rfl (by decide) (want_f hR49 rfl rfl rfl (by decide) rfl rfl) (fun a50 hR51 => ?_)
      refine s_pass hR51 rfl (by decide) (want_f hR51 rfl rfl rfl (by decide) rfl rfl) (fun a52 hR53 => ?_)
      refine s_pass hR53 rfl (by decide) (want_f hR53 rfl rfl rfl (by decide) rfl rfl) (fun a54 hR55 => ?_)
      refine r_pick_t (st_listV rfl) hR55 rfl rfl rfl rfl (by decide) (fun a56 hR57 => ?_)
      refine wpList_nil ?_
      exact x_then_n ⟨(Reg.cons hR57 (Reg.cons hR57 (Reg.consb hR57 (Reg.cons hR57 (hR57.nil) rfl) rfl (by first | rfl | (simp only [h45, Bool.true_and, Bool.and_true, Bool.false_and, Bool.and_false, Bool.true_or, Bool.or_true, Bool.false_or, Bool.or_false, Bool.not_true, Bool.not_false, if_true, ite_true, ite_false, Bool.false_eq_true]; done) | (simp [h45]; done) | (simp [h45]; omega))) rfl) rfl), hS42⟩
    · skip
      have h58 := or_fl h45
      have h59 := of_decide_eq_false h58
      have h60 := or_fr h45
      have h61 := of_decide_eq_false h60
      have hR62 := hR44.setb (d := 12) (b := false) rfl h45
      refine r_move (st_listV_w (want_t hR62 rfl rfl rfl (by decide) rfl)) hR62 rfl rfl rfl (by decide) (fun a63 hR64 => ?_)
      refine r_byte (i := 0) (st_listV_w (want_t hR64 rfl rfl rfl (by decide) rfl)) hR64 rfl rfl rfl rfl Tryd.underlying9 (by omega) (by omega) (by decide) (fun a65 hR66 => ?_)
      have hS67 : St w0 Z none_ w40 [] [] := hS42
      refine k_call (xs := [.tmp 14]) (st_list_w (want_t hR66 rfl rfl rfl (by decide) rfl)) hR66 rfl rfl rfl (by decide) ok115 (rletter_calls _ (imm Z w0 [] _) (fun _ h => h.1) (byteAt s 0)) ?_
      rintro e74 w69 ⟨rfl, hf72⟩
      have hS75 := hS67.below hf72.below
      refine ⟨_, rfl, fun a68 hR70 => ?_⟩
      refine r_not (st_listV_w (want_t hR70 rfl rfl rfl (by decide) rfl)) hR70 rfl rfl rfl (by decide) (fun a76 hR77 => ?_)
      refine r_pick_f (st_listV rfl) hR77 rfl rfl rfl rfl (by decide) (fun a78 hR79 => ?_)
      refine wpList_nil ?_
      exact x_then_n ⟨(Reg.cons hR79 (Reg.cons hR79 (Reg.consb hR79 (Reg.cons hR79 (hR79.nil) rfl) rfl (by first | rfl | (simp only [h45, Bool.true_and, Bool.and_true, Bool.false_and, Bool.and_false, Bool.true_or, Bool.or_true, Bool.false_or, Bool.or_false, Bool.not_true, Bool.not_false, if_true, ite_true, ite_false, Bool.false_eq_true]; done) | (simp [h45]; done) | (simp [h45]; omega))) rfl) rfl), hS75⟩
  rintro a80 w81 ⟨hR82, hS83⟩
  refine wpList_nil ?_
  refine x_then_n (hK11 _ _ ?_)
  rcases Bool.eq_false_or_eq_true ((((decide (((s.size : Nat) : Int) < 1)) || (decide (16 < ((s.size : Nat) : Int)))) || (!(letN (byteAt s 0))))) with h84 | h84
  · skip
    have hq85 := h84
    try simp only [Bool.or_eq_true, Bool.and_eq_true, Bool.not_eq_true', Bool.not_eq_false', decide_eq_true_eq, decide_eq_false_iff_not, Bool.or_eq_false_iff, Bool.and_eq_false_iff] at hq85
    have hR86 := hR82.setb (d := 17) (b := true) rfl h84
    refine wp_cond_true (hR86.ev rfl) ?_
    refine wp_seq_k (fun K87 hK88 => ?_)
    refine c_region ?_
    refine r_assign (st_listV rfl) hR86 rfl rfl rfl (by decide) (fun a89 hR90 => ?_)
    refine wpList_nil ?_
    refine x_then_n (hK88 _ _ ?_)
    refine wp_ret ?_
    refine x_then_r ?_
    refine e_ret1 hR90 rfl rfl rfl ?_
    refine ⟨?_, hS83.fr⟩
    exact congrArg Ending.returned (ret_b (by first | exact (rname_bad (k := k) (by omega) (by assumption) (by omega)).symm | exact (rname_bad0 (by rcases hq85 with h | h; exact .inl (by omega); exact .inr h)).symm))
  · skip
    have h91 := or_fl h84
    have h92 := or_fl h91
    have h93 := of_decide_eq_false h92
    have h94 := or_fr h91
    have h95 := of_decide_eq_false h94
    have h96 := or_fr h84
    have h97 := not_f h96
    have hR98 := hR82.setb (d := 17) (b := false) rfl h84
    refine wp_cond_false (hR98.ev rfl) ?_
    refine wp_skip ?_
    refine x_then_n (hK9 _ _ ?_)
    refine wp_seq_k (fun K99 hK100 => ?_)
    refine wp_seq_k (fun K101 hK102 => ?_)
    refine c_region ?_
    refine r_assign (st_listV rfl) hR98 rfl rfl rfl (by decide) (fun a103 hR104 => ?_)
    refine wpList_nil ?_
    refine x_then_n (hK102 _ _ ?_)
    refine wp_block ?_
    refine wp_loop_ghost (fun gn ga gw => ∃ k : Nat, (Reg ga 41 [(0, .string s), (1000000, .bool false), (3, .int .i64 ((k : Nat) : Int))]) ∧ (St w0 Z none_ gw [] []) ∧ (k ≤ s.size) ∧ (nameTo s k) ∧ (s.size - k) = gn) _ ⟨0, (Reg.cons hR104 (Reg.cons hR104 (Reg.cons hR104 (hR104.nil) rfl) rfl) rfl), hS83, by omega, nameTo_zero s, rfl⟩ ?_
    rintro r105 a106 w107 ⟨k, hR108, hS109, hk, hi, hn110⟩
    refine wp_seq_k (fun K111 hK112 => ?_)
    refine wp_seq_k (fun K113 hK114 => ?_)
    refine c_region ?_
    refine r_move (st_listV rfl) hR108 rfl rfl rfl (by decide) (fun a115 hR116 => ?_)
    refine r_move (st_listV rfl) hR116 rfl rfl rfl (by decide) (fun a117 hR118 => ?_)
    refine r_lenS (st_listV rfl) hR118 rfl rfl rfl rfl Tryd.underlying9 (by decide) (fun a119 hR120 => ?_)
    refine r_lss (st_listV rfl) hR120 rfl rfl rfl rfl (by decide) (fun a121 hR122 => ?_)
    refine wpList_nil ?_
    refine x_then_n (hK114 _ _ ?_)
    rcases Decidable.em (((k : Nat) : Int) < ((s.size : Nat) : Int)) with h123 | h123
    · skip
      have hR124 := hR122.setb (d := 21) (b := true) rfl (decide_eq_true h123)
      refine wp_cond_true (hR124.ev rfl) ?_
      refine wp_skip ?_
      refine x_then_n (hK112 _ _ ?_)
      refine wp_seq_k (fun K125 hK126 => ?_)
      refine wp_block ?_
      refine wp_seq_k (fun K127 hK128 => ?_)
      refine c_region ?_
      refine r_move (st_listV rfl) hR124 rfl rfl rfl (by decide) (fun a129 hR130 => ?_)
      refine r_move (st_listV rfl) hR130 rfl rfl rfl (by decide) (fun a131 hR132 => ?_)
      refine r_byte (i := k) (st_listV rfl) hR132 rfl rfl rfl rfl Tryd.underlying9 (by omega) (by omega) (by decide) (fun a133 hR134 => ?_)
      have hS135 : St w0 Z none_ w107 [] [] := hS109
      refine k_call (xs := [.tmp 26]) (st_list rfl) hR134 rfl rfl rfl (by decide) ok115 (rletter_calls _ (imm Z w0 [] _) (fun _ h => h.1) (byteAt s k)) ?_
      rintro e142 w137 ⟨rfl, hf140⟩
      have hS143 := hS135.below hf140.below
      refine ⟨_, rfl, fun a136 hR138 => ?_⟩
      refine r_not (st_listV rfl) hR138 rfl rfl rfl (by decide) (fun a144 hR145 => ?_)
      refine r_move (st_listV rfl) hR145 rfl rfl rfl (by decide) (fun a146 hR147 => ?_)
      refine l_join (fun ga gw => Reg ga 41 [(0, .string s), (3, .int .i64 ((k : Nat) : Int)), (40, .bool ((!(letN (byteAt s k))) && ((decide (((byteAt s k : Nat) : Int) < 48)) || (decide (57 < ((byteAt s k : Nat) : Int)))))), (1000000, .bool false)] ∧ St w0 Z none_ gw [] []) 11 ?_ ?_
      · skip
        rcases Bool.eq_false_or_eq_true (letN (byteAt s k)) with h148 | h148
        · skip
          have hR149 := hR147.setb (d := 29) (b := false) rfl (by rw [h148]; rfl)
          refine s_pass hR149 rfl (by decide) (want_f hR149 rfl rfl rfl (by decide) rfl rfl) (fun a150 hR151 => ?_)
          refine s_pass hR151 rfl (by decide) (want_f hR151 rfl rfl rfl (by decide) rfl rfl) (fun a152 hR153 => ?_)
          refine s_pass hR153 rfl (by decide) (want_f hR153 rfl rfl rfl (by decide) rfl rfl) (fun a154 hR155 => ?_)
          refine s_pass hR155 rfl (by decide) (want_f hR155 rfl rfl rfl (by decide) rfl rfl) (fun a156 hR157 => ?_)
          refine s_pass hR157 rfl (by decide) (want_f hR157 rfl rfl rfl (by decide) rfl rfl) (fun a158 hR159 => ?_)
          refine s_pass hR159 rfl (by decide) (want_u hR159 rfl rfl rfl (by decide) rfl) (fun a160 hR161 => ?_)
          refine s_pass hR161 rfl (by decide) (want_u hR161 rfl rfl rfl (by decide) rfl) (fun a162 hR163 => ?_)
          refine s_pass hR163 rfl (by decide) (want_u hR163 rfl rfl rfl (by decide) rfl) (fun a164 hR165 => ?_)
          refine s_pass hR165 rfl (by decide) (want_u hR165 rfl rfl rfl (by decide) rfl) (fun a166 hR167 => ?_)
          refine s_pass hR167 rfl (by decide) (want_f hR167 rfl rfl rfl (by decide) rfl rfl) (fun a168 hR169 => ?_)
          refine r_pick_f (st_listV rfl) hR169 rfl rfl rfl rfl (by decide) (fun a170 hR171 => ?_)
          refine wpList_nil ?_
          exact x_then_n ⟨(Reg.cons hR171 (Reg.cons hR171 (Reg.consb hR171 (Reg.cons hR171 (hR171.nil) rfl) rfl (by first | rfl | (simp only [h148, Bool.true_and, Bool.and_true, Bool.false_and, Bool.and_false, Bool.true_or, Bool.or_true, Bool.false_or, Bool.or_false, Bool.not_true, Bool.not_false, if_true, ite_true, ite_false, Bool.false_eq_true]; done) | (simp [h148]; done) | (simp [h148]; omega))) rfl) rfl), hS143⟩
        · skip
          have hR172 := hR147.setb (d := 29) (b := true) rfl (by rw [h148]; rfl)
          refine r_move (st_listV_w (want_t hR172 rfl rfl rfl (by decide) rfl)) hR172 rfl rfl rfl (by decide) (fun a173 hR174 => ?_)
          refine r_move (st_listV_w (want_t hR174 rfl rfl rfl (by decide) rfl)) hR174 rfl rfl rfl (by decide) (fun a175 hR176 => ?_)
          refine r_byte (i := k) (st_listV_w (want_t hR176 rfl rfl rfl (by decide) rfl)) hR176 rfl rfl rfl rfl Tryd.underlying9 (by omega) (by omega) (by decide) (fun a177 hR178 => ?_)
          refine r_lss (st_listV_w (want_t hR178 rfl rfl rfl (by decide) rfl)) hR178 rfl rfl rfl rfl (by decide) (fun a179 hR180 => ?_)
          refine r_move (st_listV_w (want_t hR180 rfl rfl rfl (by decide) rfl)) hR180 rfl rfl rfl (by decide) (fun a181 hR182 => ?_)
          rcases Decidable.em (((byteAt s k : Nat) : Int) < 48) with h183 | h183
          · skip
            have hR184 := hR182.setb (d := 34) (b := true) rfl (decide_eq_true h183)
            refine s_pass hR184 rfl (by decide) (want_f hR184 rfl rfl rfl (by decide) rfl rfl) (fun a185 hR186 => ?_)
            refine s_pass hR186 rfl (by decide) (want_f hR186 rfl rfl rfl (by decide) rfl rfl) (fun a187 hR188 => ?_)
            refine s_pass hR188 rfl (by decide) (want_f hR188 rfl rfl rfl (by decide) rfl rfl) (fun a189 hR190 => ?_)
            refine s_pass hR190 rfl (by decide) (want_f hR190 rfl rfl rfl (by decide) rfl rfl) (fun a191 hR192 => ?_)
            refine r_pick_t (st_listV_w (want_t hR192 rfl rfl rfl (by decide) rfl)) hR192 rfl rfl rfl rfl (by decide) (fun a193 hR194 => ?_)
            refine r_pick_t (st_listV rfl) hR194 rfl rfl rfl rfl (by decide) (fun a195 hR196 => ?_)
            refine wpList_nil ?_
            exact x_then_n ⟨(Reg.cons hR196 (Reg.cons hR196 (Reg.consb hR196 (Reg.cons hR196 (hR196.nil) rfl) rfl (by first | rfl | (simp only [h148, decide_eq_true h183, if_pos h183, Bool.true_and, Bool.and_true, Bool.false_and, Bool.and_false, Bool.true_or, Bool.or_true, Bool.false_or, Bool.or_false, Bool.not_true, Bool.not_false, if_true, ite_true, ite_false, Bool.false_eq_true]; done) | (simp [h148, h183]; done) | (simp [h148, h183]; omega))) rfl) rfl), hS143⟩
          · skip
            have hR197 := hR182.setb (d := 34) (b := false) rfl (decide_eq_false h183)
            refine r_move (st_listV_w (want_t hR197 rfl rfl rfl (by decide) rfl)) hR197 rfl rfl rfl (by decide) (fun a198 hR199 => ?_)
            refine r_move (st_listV_w (want_t hR199 rfl rfl rfl (by decide) rfl)) hR199 rfl rfl rfl (by decide) (fun a200 hR201 => ?_)
            refine r_byte (i := k) (st_listV_w (want_t hR201 rfl rfl rfl (by decide) rfl)) hR201 rfl rfl rfl rfl Tryd.underlying9 (by omega) (by omega) (by decide) (fun a202 hR203 => ?_)
            refine r_gtr (st_listV_w (want_t hR203 rfl rfl rfl (by decide) rfl)) hR203 rfl rfl rfl rfl (by decide) (fun a204 hR205 => ?_)
            refine r_pick_f (st_listV_w (want_t hR205 rfl rfl rfl (by decide) rfl)) hR205 rfl rfl rfl rfl (by decide) (fun a206 hR207 => ?_)
            refine r_pick_t (st_listV rfl) hR207 rfl rfl rfl rfl (by decide) (fun a208 hR209 => ?_)
            refine wpList_nil ?_
            exact x_then_n ⟨(Reg.cons hR209 (Reg.cons hR209 (Reg.consb hR209 (Reg.cons hR209 (hR209.nil) rfl) rfl (by first | rfl | (simp only [h148, decide_eq_false h183, if_neg h183, Bool.true_and, Bool.and_true, Bool.false_and, Bool.and_false, Bool.true_or, Bool.or_true, Bool.false_or, Bool.or_false, Bool.not_true, Bool.not_false, if_true, ite_true, ite_false, Bool.false_eq_true]; done) | (simp [h148, h183]; done) | (simp [h148, h183]; omega))) rfl) rfl), hS143⟩
      rintro a210 w211 ⟨hR212, hS213⟩
      refine wpList_nil ?_
      refine x_then_n (hK128 _ _ ?_)
      rcases Bool.eq_false_or_eq_true (((!(letN (byteAt s k))) && ((decide (((byteAt s k : Nat) : Int) < 48)) || (decide (57 < ((byteAt s k : Nat) : Int)))))) with h214 | h214
      · skip
        have h215 := and_tl h214
        have h216 := not_t h215
        have h217 := and_tr h214
        have hq218 := h217
        try simp only [Bool.or_eq_true, Bool.and_eq_true, Bool.not_eq_true', Bool.not_eq_false', decide_eq_true_eq, decide_eq_false_iff_not, Bool.or_eq_false_iff, Bool.and_eq_false_iff] at hq218
        have hR219 := hR212.setb (d := 40) (b := true) rfl h214
        refine wp_cond_true (hR219.ev rfl) ?_
        refine wp_seq_k (fun K220 hK221 => ?_)
        refine c_region ?_
        refine r_assign (st_listV rfl) hR219 rfl rfl rfl (by decide) (fun a222 hR223 => ?_)
        refine wpList_nil ?_
        refine x_then_n (hK221 _ _ ?_)
        refine wp_ret ?_
        refine x_block_r ?_
        refine x_then_r ?_
        refine x_then_r ?_
        refine x_block_r ?_
        refine x_then_r ?_
        refine e_ret1 hR223 rfl rfl rfl ?_
        refine ⟨?_, hS213.fr⟩
        exact congrArg Ending.returned (ret_b (by first | exact (rname_bad (k := k) (by omega) (by assumption) (by omega)).symm | exact (rname_bad0 (by rcases hq218 with h | h; exact .inl (by omega); exact .inr h)).symm))
      · skip
        have hq224 := h214
        try simp only [Bool.or_eq_true, Bool.and_eq_true, Bool.not_eq_true', Bool.not_eq_false', decide_eq_true_eq, decide_eq_false_iff_not, Bool.or_eq_false_iff, Bool.and_eq_false_iff] at hq224
        have hR225 := hR212.setb (d := 40) (b := false) rfl h214
        refine wp_cond_false (hR225.ev rfl) ?_
        refine wp_skip ?_
        refine x_block_n ?_
        refine x_then_n (hK126 _ _ ?_)
        refine c_region ?_
        refine r_move (st_listV rfl) hR225 rfl rfl rfl (by decide) (fun a226 hR227 => ?_)
        refine r_add (z := ((k + 1 : Nat) : Int)) (st_listV rfl) hR227 rfl rfl rfl rfl (by decide) (by omega) (by omega) (by omega) (fun a228 hR229 => ?_)
        refine r_assign (st_listV rfl) hR229 rfl rfl rfl (by decide) (fun a230 hR231 => ?_)
        refine wpList_nil ?_
        exact ⟨_, by omega, k + 1, (Reg.cons hR231 (Reg.cons hR231 (Reg.cons hR231 (hR231.nil) rfl) rfl) rfl), hS213, by omega, nameTo_step hi (rname_step (by assumption) (by rcases hq224 with h | h; exact .inl h; exact .inr (by omega))), rfl⟩
    · skip
      have hR232 := hR122.setb (d := 21) (b := false) rfl (decide_eq_false h123)
      refine wp_cond_false (hR232.ev rfl) ?_
      refine wp_exit ?_
      refine x_then_e ?_
      refine x_then_e ?_
      refine x_block_eq ?_
      refine x_then_n (hK100 _ _ ?_)
      refine wp_seq_k (fun K233 hK234 => ?_)
      refine c_region ?_
      refine r_assign (st_listV rfl) hR232 rfl rfl rfl (by decide) (fun a235 hR236 => ?_)
      refine wpList_nil ?_
      refine x_then_n (hK234 _ _ ?_)
      refine wp_ret ?_
      refine e_ret1 hR236 rfl rfl rfl ?_
      refine ⟨?_, hS109.fr⟩
      exact congrArg Ending.returned (ret_b (by exact (rname_end hi (by omega) (by omega) (by omega)).symm))

set_option maxRecDepth 100000 in
set_option maxHeartbeats 1000000 in
theorem rplain_calls (w0 : World) (Z : Nat → Prop) (hZ : ∀ k, Z k → k < w0.heap.size) (n : Nd)  :
    Calls Tryd.prog 79 [.agg #[.int .i64 (n.K), .int .i64 (n.N), .int .i64 (n.M), .string n.S]].toArray w0 (fun e w' => e = .returned (.bool (plainB n)) ∧ Fr none_ w0 w') := by
  have hstart : ∀ k, Z k → imm Z w0 [] w0 k ∧ w0.heap[k]? = w0.heap[k]? := fun k hk => ⟨⟨hZ k hk, fun _ => hk, fun _ h => by cases h⟩, rfl⟩
  have hS3 : St w0 Z none_ w0 [] [] := St.start w0 Z none_ _ (by
    intro d hd
    cases hd
    )
  refine c_enter Tryd.func79 rfl Tryd.ntmps79 rfl (fun a1 hR2 => ?_)
  refine wp_seq_k (fun K4 hK5 => ?_)
  refine c_region ?_
  refine m_box (cs := [.int .i64 (n.K), .int .i64 (n.N), .int .i64 (n.M), .string n.S]) (st_listV rfl) hR2 hS3 rfl rfl rfl rfl (by decide) (fun a6 w7 g8 hR9 hS10 => ?_)
  refine r_assign (st_listV rfl) hR9 rfl rfl rfl (by decide) (fun a11 hR12 => ?_)
  refine wpList_nil ?_
  refine x_then_n (hK5 _ _ ?_)
  refine wp_seq_k (fun K13 hK14 => ?_)
  refine c_region ?_
  refine m_field (j' := 1) (st_listV rfl) hR12 rfl rfl rfl Tryd.underlying32 rfl sz3 rfl rfl (by decide) (fun a15 hR16 => ?_)
  refine m_load (i := 0) (st_listV rfl) hR16 hS10 rfl rfl rfl rfl rfl Tryd.underlying3 rfl (by decide) (fun a17 hR18 => ?_)
  refine r_eql (st_listV rfl) hR18 rfl rfl rfl rfl (by decide) (fun a19 hR20 => ?_)
  refine r_move (st_listV rfl) hR20 rfl rfl rfl (by decide) (fun a21 hR22 => ?_)
  refine l_join (fun ga gw => Reg ga 16 [(1, .pointer (some ⟨g8, 0, none⟩)), (2, .bool false), (10, .bool ((decide ((n.N) = 0)) && (decide ((n.M) = 0)))), (1000000, .bool false)] ∧ St w0 Z none_ gw [.box g8 32 [.int .i64 (n.K), .int .i64 (n.N), .int .i64 (n.M), .string n.S]] []) 4 ?_ ?_
  · skip
    rcases Decidable.em ((n.N) = 0) with h23 | h23
    · skip
      have hR24 := hR22.setb (d := 6) (b := true) rfl (decide_eq_true h23)
      refine m_field (j' := 2) (st_listV_w (want_t hR24 rfl rfl rfl (by decide) rfl)) hR24 rfl rfl rfl Tryd.underlying32 rfl sz3 rfl rfl (by decide) (fun a25 hR26 => ?_)
      refine m_load (i := 0) (st_listV_w (want_t hR26 rfl rfl rfl (by decide) rfl)) hR26 hS10 rfl rfl rfl rfl rfl Tryd.underlying3 rfl (by decide) (fun a27 hR28 => ?_)
      refine r_eql (st_listV_w (want_t hR28 rfl rfl rfl (by decide) rfl)) hR28 rfl rfl rfl rfl (by decide) (fun a29 hR30 => ?_)
      refine r_pick_t (st_listV rfl) hR30 rfl rfl rfl rfl (by decide) (fun a31 hR32 => ?_)
      refine wpList_nil ?_
      exact x_then_n ⟨(Reg.cons hR32 (Reg.cons hR32 (Reg.consb hR32 (Reg.cons hR32 (hR32.nil) rfl) rfl (by first | rfl | (simp only [decide_eq_true h23, if_pos h23, Bool.true_and, Bool.and_true, Bool.false_and, Bool.and_false, Bool.true_or, Bool.or_true, Bool.false_or, Bool.or_false, Bool.not_true, Bool.not_false, if_true, ite_true, ite_false, Bool.false_eq_true]; done) | (simp [h23]; done) | (simp [h23]; omega))) rfl) rfl), hS10⟩
    · skip
      have hR33 := hR22.setb (d := 6) (b := false) rfl (decide_eq_false h23)
      refine s_pass hR33 rfl (by decide) (want_f hR33 rfl rfl rfl (by decide) rfl rfl) (fun a34 hR35 => ?_)
      refine s_pass hR35 rfl (by decide) (want_f hR35 rfl rfl rfl (by decide) rfl rfl) (fun a36 hR37 => ?_)
      refine s_pass hR37 rfl (by decide) (want_f hR37 rfl rfl rfl (by decide) rfl rfl) (fun a38 hR39 => ?_)
      refine r_pick_f (st_listV rfl) hR39 rfl rfl rfl rfl (by decide) (fun a40 hR41 => ?_)
      refine wpList_nil ?_
      exact x_then_n ⟨(Reg.cons hR41 (Reg.cons hR41 (Reg.consb hR41 (Reg.cons hR41 (hR41.nil) rfl) rfl (by first | rfl | (simp only [decide_eq_false h23, if_neg h23, Bool.true_and, Bool.and_true, Bool.false_and, Bool.and_false, Bool.true_or, Bool.or_true, Bool.false_or, Bool.or_false, Bool.not_true, Bool.not_false, if_true, ite_true, ite_false, Bool.false_eq_true]; done) | (simp [h23]; done) | (simp [h23]; omega))) rfl) rfl), hS10⟩
  rintro a42 w43 ⟨hR44, hS45⟩
  refine r_move (st_listV rfl) hR44 rfl rfl rfl (by decide) (fun a46 hR47 => ?_)
  refine l_join (fun ga gw => Reg ga 16 [(2, .bool false), (15, .bool (((decide ((n.N) = 0)) && (decide ((n.M) = 0))) && (decide (n.S = (⟨#[]⟩ : ByteArray))))), (1000000, .bool false)] ∧ St w0 Z none_ gw [.box g8 32 [.int .i64 (n.K), .int .i64 (n.N), .int .i64 (n.M), .string n.S]] []) 4 ?_ ?_
  · skip
    rcases Bool.eq_false_or_eq_true (((decide ((n.N) = 0)) && (decide ((n.M) = 0)))) with h48 | h48
    · skip
      have h49 := and_tl h48
      have h50 := of_decide_eq_true h49
      have h51 := and_tr h48
      have h52 := of_decide_eq_true h51
      have hR53 := hR47.setb (d := 11) (b := true) rfl h48
      refine m_field (j' := 3) (st_listV_w (want_t hR53 rfl rfl rfl (by decide) rfl)) hR53 rfl rfl rfl Tryd.underlying32 rfl sz9 rfl rfl (by decide) (fun a54 hR55 => ?_)
      refine m_load (i := 0) (st_listV_w (want_t hR55 rfl rfl rfl (by decide) rfl)) hR55 hS45 rfl rfl rfl rfl rfl Tryd.underlying9 rfl (by decide) (fun a56 hR57 => ?_)
      refine r_eqlS (st_listV_w (want_t hR57 rfl rfl rfl (by decide) rfl)) hR57 rfl rfl rfl rfl (by decide) (fun a58 hR59 => ?_)
      refine r_pick_t (st_listV rfl) hR59 rfl rfl rfl rfl (by decide) (fun a60 hR61 => ?_)
      refine wpList_nil ?_
      exact x_then_n ⟨(Reg.cons hR61 (Reg.consb hR61 (Reg.cons hR61 (hR61.nil) rfl) rfl (by first | rfl | (simp only [h48, Bool.true_and, Bool.and_true, Bool.false_and, Bool.and_false, Bool.true_or, Bool.or_true, Bool.false_or, Bool.or_false, Bool.not_true, Bool.not_false, if_true, ite_true, ite_false, Bool.false_eq_true]; done) | (simp [h48]; done) | (simp [h48]; omega))) rfl), hS45⟩
    · skip
      have hq62 := h48
      try simp only [Bool.or_eq_true, Bool.and_eq_true, Bool.not_eq_true', Bool.not_eq_false', decide_eq_true_eq, decide_eq_false_iff_not, Bool.or_eq_false_iff, Bool.and_eq_false_iff] at hq62
      have hR63 := hR47.setb (d := 11) (b := false) rfl h48
      refine s_pass hR63 rfl (by decide) (want_f hR63 rfl rfl rfl (by decide) rfl rfl) (fun a64 hR65 => ?_)
      refine s_pass hR65 rfl (by decide) (want_f hR65 rfl rfl rfl (by decide) rfl rfl) (fun a66 hR67 => ?_)
      refine s_pass hR67 rfl (by decide) (want_f hR67 rfl rfl rfl (by decide) rfl rfl) (fun a68 hR69 => ?_)
      refine r_pick_f (st_listV rfl) hR69 rfl rfl rfl rfl (by decide) (fun a70 hR71 => ?_)
      refine wpList_nil ?_
      exact x_then_n ⟨(Reg.cons hR71 (Reg.consb hR71 (Reg.cons hR71 (hR71.nil) rfl) rfl (by first | rfl | (simp only [h48, Bool.true_and, Bool.and_true, Bool.false_and, Bool.and_false, Bool.true_or, Bool.or_true, Bool.false_or, Bool.or_false, Bool.not_true, Bool.not_false, if_true, ite_true, ite_false, Bool.false_eq_true]; done) | (simp [h48]; done) | (simp [h48]; omega))) rfl), hS45⟩
  rintro a72 w73 ⟨hR74, hS75⟩
  refine r_assign (st_listV rfl) hR74 rfl rfl rfl (by decide) (fun a76 hR77 => ?_)
  refine wpList_nil ?_
  refine x_then_n (hK14 _ _ ?_)
  refine wp_ret ?_
  refine e_ret1 hR77 rfl rfl rfl ?_
  refine ⟨?_, hS75.fr⟩
  exact congrArg Ending.returned (ret_b (by first | rfl | (unfold plainB; rw [Bool.and_assoc]; done) | ( rw [Bool.eq_iff_iff]; unfold plainB; simp [])))
end Go.Proofs.YtobgdeffhdefeaaDoor
