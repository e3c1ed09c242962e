import Derived.Test.YtobgdeffhdefeaaDoorTn
import Derived.Test.YtobgdeffhdefeaaDoorRef
/- Contracts of functions, one theorem each: what the call returns, and that nothing old is changed. Printed by gen.py. -/
namespace Go.Proofs.YtobgdeffhdefeaaDoor
open Go Go.RowKit
set_option linter.unusedSimpArgs false
set_option linter.unusedVariables false

set_option maxRecDepth 100000 in
set_option maxHeartbeats 1000000 in
theorem done_calls (w0 : World) (Z : Nat → Prop) (hZ : ∀ k, Z k → k < w0.heap.size) (mg : Nat) (mt : TypeId) (me : Int) (mr : List Value) (tA : Option Addr) (tc : Nat) (t : List Nd) (hShp : Shapes w0 Z) (hm : (Res.box mg mt (.int .i64 me :: mr)).holds w0) (hmz : ¬ Z mg) (ht : (dRow 4 tA t.length tc (encNs t)).φ w0 Z) (hsm : sml t) (hl : t.length ≤ 1000000) :
    Calls Tryd.prog 60 [.pointer (some ⟨mg, 0, none⟩), .slice tA t.length tc].toArray w0 (fun e w' => ∃ (rA0 : Option Addr) (rc0 : Nat), e = .returned (.tuple #[.slice rA0 ((if (if me = 0 then chk t else me) = 0 then t else [])).length rc0, .int .i64 ((if me = 0 then chk t else me))]) ∧ Fr (· = mg) w0 w' ∧ (Res.box mg mt (.int .i64 (if me = 0 then chk t else me) :: mr)).holds w' ∧ (dRow 4 rA0 (((if (if me = 0 then chk t else me) = 0 then t else [])).length) rc0 (encNs (if (if me = 0 then chk t else me) = 0 then t else []))).φ w' (nxt Z w0 w')) := by
  have hstart : ∀ k, Z k → imm Z w0 [.box mg mt (.int .i64 (me) :: mr)] w0 k ∧ w0.heap[k]? = w0.heap[k]? := fun k hk => imm_startM hZ hmz hk
  have hS3 : St w0 Z (· = mg) w0 [.box mg mt (.int .i64 (me) :: mr)] [dShapes, dRow 4 tA t.length tc (encNs t)] := St.startM w0 Z _ mg mt _ hm (by
    intro d hd
    simp only [List.mem_cons, List.not_mem_nil, or_false] at hd
    rcases hd with rfl | rfl
    · exact Dat.mono _ _ _ _ _ hShp hstart
    · exact Dat.mono _ _ _ _ _ ht hstart
    )
  refine c_enter Tryd.func60 rfl Tryd.ntmps60 rfl (fun a1 hR2 => ?_)
  refine wp_seq_k (fun K4 hK5 => ?_)
  refine c_region ?_
  refine r_assign (st_listV rfl) hR2 rfl rfl rfl (by decide) (fun a6 hR7 => ?_)
  refine r_assign (st_listV rfl) hR7 rfl rfl rfl (by decide) (fun a8 hR9 => ?_)
  refine wpList_nil ?_
  refine x_then_n (hK5 _ _ ?_)
  refine c_join (fun ga gw => Reg ga 26 [(0, .pointer (some ⟨mg, 0, none⟩)), (1, .slice tA t.length tc), (4, .slice none 0 0), (5, .int .i64 0)] ∧ St w0 Z (· = mg) gw [.box mg mt (.int .i64 ((if ((me) = 0) then ((chk t)) else (me))) :: mr)] [dShapes, dRow 4 tA t.length tc (encNs t)]) ?_ ?_
  · skip
    refine wp_seq_k (fun K10 hK11 => ?_)
    refine c_region ?_
    refine r_move (st_listV rfl) hR9 rfl rfl rfl (by decide) (fun a12 hR13 => ?_)
    refine r_nilCheck (st_listV rfl) hR13 rfl rfl rfl (by decide) (fun a14 hR15 => ?_)
    refine m_field (j' := 0) (st_listV rfl) hR15 rfl rfl rfl Tryd.underlying72 rfl sz26 rfl rfl (by decide) (fun a16 hR17 => ?_)
    refine m_load (i := 0) (st_listV rfl) hR17 hS3 rfl rfl rfl rfl rfl Tryd.underlying26 rfl (by decide) (fun a18 hR19 => ?_)
    refine r_eql (st_listV rfl) hR19 rfl rfl rfl rfl (by decide) (fun a20 hR21 => ?_)
    refine wpList_nil ?_
    refine x_then_n (hK11 _ _ ?_)
    rcases Decidable.em ((me) = 0) with h22 | h22
    · skip
      have hR23 := hR21.setb (d := 10) (b := true) rfl (decide_eq_true h22)
      refine wp_cond_true (hR23.ev rfl) ?_
      refine c_region ?_
      refine r_move (st_listV rfl) hR23 rfl rfl rfl (by decide) (fun a24 hR25 => ?_)
      refine r_move (st_listV rfl) hR25 rfl rfl rfl (by decide) (fun a26 hR27 => ?_)
      have hS28 : St w0 Z (· = mg) w0 [.box mg mt (.int .i64 (me) :: mr)] [dShapes, dRow 4 tA t.length tc (encNs t)] := hS3
      refine k_call (xs := [.tmp 12]) (st_list rfl) hR27 rfl rfl rfl (by decide) ok44 (check_calls _ (imm Z w0 [.box mg mt (.int .i64 (me) :: mr)] _) (fun _ h => h.1) tA tc t (hS28.get (i := 0) rfl) (hS28.get (i := 1) rfl) (by first | assumption | omega | (simp; done) | (simp; omega)) (by first | assumption | omega | (simp; done) | (simp; omega))) ?_
      rintro e35 w30 ⟨rfl, hf33⟩
      have hS36 := hS28.below hf33.below
      refine ⟨_, rfl, fun a29 hR31 => ?_⟩
      refine r_nilCheck (st_listV rfl) hR31 rfl rfl rfl (by decide) (fun a37 hR38 => ?_)
      refine m_field (j' := 0) (st_listV rfl) hR38 rfl rfl rfl Tryd.underlying72 rfl sz26 rfl rfl (by decide) (fun a39 hR40 => ?_)
      refine m_store (i := 0) (cs' := (.int .i64 ((chk t)) :: mr)) (st_list rfl) hR40 hS36 rfl rfl rfl rfl rfl sz26 rfl rfl rfl (fun a41 w42 hR43 hS44 => ?_)
      refine wpList_nil ?_
      have hSj := hS44
      exact x_then_n ⟨(Reg.cons hR43 (Reg.cons hR43 (Reg.cons hR43 (Reg.cons hR43 (hR43.nil) rfl) rfl) rfl) rfl), by rw [(show (((if ((me) = 0) then ((chk t)) else (me))) : Int) = ((chk t)) by first | rfl | (simp only [decide_eq_true h22, if_pos h22, Bool.true_and, Bool.and_true, Bool.false_and, Bool.and_false, Bool.true_or, Bool.or_true, Bool.false_or, Bool.or_false, Bool.not_true, Bool.not_false, if_true, ite_true, ite_false, Bool.false_eq_true]; done) | (simp [h22]; done) | (simp [h22]; omega))]; exact hSj⟩
    · skip
      have hR45 := hR21.setb (d := 10) (b := false) rfl (decide_eq_false h22)
      refine wp_cond_false (hR45.ev rfl) ?_
      refine wp_skip ?_
      have hSj := hS3
      exact x_then_n ⟨(Reg.cons hR45 (Reg.cons hR45 (Reg.cons hR45 (Reg.cons hR45 (hR45.nil) rfl) rfl) rfl) rfl), by rw [(show (((if ((me) = 0) then ((chk t)) else (me))) : Int) = (me) by first | rfl | (simp only [decide_eq_false h22, if_neg h22, Bool.true_and, Bool.and_true, Bool.false_and, Bool.and_false, Bool.true_or, Bool.or_true, Bool.false_or, Bool.or_false, Bool.not_true, Bool.not_false, if_true, ite_true, ite_false, Bool.false_eq_true]; done) | (simp [h22]; done) | (simp [h22]; omega))]; exact hSj⟩
  rintro a46 w47 ⟨hR48, hS49⟩
  refine wp_seq_k (fun K50 hK51 => ?_)
  refine wp_seq_k (fun K52 hK53 => ?_)
  refine c_region ?_
  refine r_move (st_listV rfl) hR48 rfl rfl rfl (by decide) (fun a54 hR55 => ?_)
  refine r_nilCheck (st_listV rfl) hR55 rfl rfl rfl (by decide) (fun a56 hR57 => ?_)
  refine m_field (j' := 0) (st_listV rfl) hR57 rfl rfl rfl Tryd.underlying72 rfl sz26 rfl rfl (by decide) (fun a58 hR59 => ?_)
  refine m_load (i := 0) (st_listV rfl) hR59 hS49 rfl rfl rfl rfl rfl Tryd.underlying26 rfl (by decide) (fun a60 hR61 => ?_)
  refine r_neq (st_listV rfl) hR61 rfl rfl rfl rfl (by decide) (fun a62 hR63 => ?_)
  refine wpList_nil ?_
  refine x_then_n (hK53 _ _ ?_)
  rcases Decidable.em (((if ((me) = 0) then ((chk t)) else (me))) = 0) with h64 | h64
  · skip
    have hR65 := hR63.setb (d := 20) (b := false) rfl (by rw [(decide_eq_true h64)]; rfl)
    refine wp_cond_false (hR65.ev rfl) ?_
    refine wp_skip ?_
    refine x_then_n (hK51 _ _ ?_)
    refine wp_seq_k (fun K66 hK67 => ?_)
    refine c_region ?_
    refine r_move (st_listV rfl) hR65 rfl rfl rfl (by decide) (fun a68 hR69 => ?_)
    refine r_assign (st_listV rfl) hR69 rfl rfl rfl (by decide) (fun a70 hR71 => ?_)
    refine r_assign (st_listV rfl) hR71 rfl rfl rfl (by decide) (fun a72 hR73 => ?_)
    refine wpList_nil ?_
    refine x_then_n (hK67 _ _ ?_)
    refine wp_ret ?_
    refine e_ret2 hR73 rfl rfl rfl ?_
    have he74 : (if (if me = 0 then chk t else me) = 0 then t else []) = t := by simp [h64]
    rw [he74]
    refine ⟨tA, tc, ?_, hS49.fr, (by rw [show (if me = 0 then chk t else me : Int) = ((if ((me) = 0) then ((chk t)) else (me))) by first | (simp [h64]; done) | (have q0 := h64; (try simp at q0);  simp_all; done) | omega]; exact hS49.res (i := 0) rfl), ⟨by have := (hS49.row (i := 1) rfl).1; exact this, ((hS49.row (i := 1) rfl).2.mono (fun _ hk => ⟨imm_nxt hk, rfl⟩))⟩⟩
    exact ret_t2 rfl (ret_i (by first | (simp [h64]; done) | (have q0 := h64; (try simp at q0);  simp_all; done) | omega))
  · skip
    have hR75 := hR63.setb (d := 20) (b := true) rfl (by rw [(decide_eq_false h64)]; rfl)
    refine wp_cond_true (hR75.ev rfl) ?_
    refine wp_seq_k (fun K76 hK77 => ?_)
    obtain ⟨J78, hJ79, hS80⟩ := hS49.agree
    refine d_region2 (S := (fun x => (∀ k, J78 k → x.heap[k]? = w47.heap[k]?) ∧ (x.cell? ⟨mg, 0, none⟩ = some (.int .i64 ((if ((me) = 0) then ((chk t)) else (me))))) ∧ (True))) (n := 6) mixed rfl hS80 (pan_then (pan_then pan_body)) (fun Q83 hP84 hN85 w81 hS82 => ?_)
    have hSw86 : (∀ k, J78 k → w81.heap[k]? = w47.heap[k]?) ∧ (w81.cell? ⟨mg, 0, none⟩ = some (.int .i64 ((if ((me) = 0) then ((chk t)) else (me))))) ∧ (True) := ⟨fun k hk => (hS82.get (i := 2) rfl k hk).2, (box_cell (hS82.res (i := 0) rfl) rfl), trivial⟩
    refine d_take (i := 0) rfl (by kernel_rfl) (by kernel_rfl) (by kernel_rfl) (fun c a w h => hP84 c _ _ _ _ h) rfl (by decide) hR75 (want_n rfl) (fun x hx => r_move (st_yield hR75 rfl (by decide)) hR75 rfl rfl rfl (by decide) (fun _ h => ⟨h.get _ _ rfl, rfl⟩)) hSw86 (fun a87 hR88 => ?_)
    refine d_take (i := 1) rfl (by kernel_rfl) (by kernel_rfl) (by kernel_rfl) (fun c a w h => hP84 c _ _ _ _ h) rfl (by decide) hR88 (want_n rfl) (fun x hx => r_nilCheck (st_yield hR88 rfl (by decide)) hR88 rfl rfl rfl (by decide) (fun _ h => ⟨h.get _ _ rfl, rfl⟩)) hSw86 (fun a89 hR90 => ?_)
    refine d_take (i := 2) rfl (by kernel_rfl) (by kernel_rfl) (by kernel_rfl) (fun c a w h => hP84 c _ _ _ _ h) rfl (by decide) hR90 (want_n rfl) (fun x hx => m_field (j' := 0) (st_yield hR90 rfl (by decide)) hR90 rfl rfl rfl Tryd.underlying72 rfl sz26 rfl rfl (by decide) (fun _ h => ⟨h.get _ _ rfl, rfl⟩)) hSw86 (fun a91 hR92 => ?_)
    refine d_take (i := 3) rfl (by kernel_rfl) (by kernel_rfl) (by kernel_rfl) (fun c a w h => hP84 c _ _ _ _ h) rfl (by decide) hR92 (want_n rfl) (fun x hx => m_loadC (st_yield hR92 rfl (by decide)) hR92 rfl rfl rfl hx.2.1 Tryd.underlying26 rfl (by decide) (fun _ h => ⟨h.get _ _ rfl, rfl⟩)) hSw86 (fun a93 hR94 => ?_)
    refine d_take (i := 4) rfl (by kernel_rfl) (by kernel_rfl) (by kernel_rfl) (fun c a w h => hP84 c _ _ _ _ h) rfl (by decide) hR94 (want_n rfl) (fun x hx => r_assign (st_yield hR94 rfl (by decide)) hR94 rfl rfl rfl (by decide) (fun _ h => ⟨h.get _ _ rfl, rfl⟩)) hSw86 (fun a95 hR96 => ?_)
    refine d_take (i := 5) rfl (by kernel_rfl) (by kernel_rfl) (by kernel_rfl) (fun c a w h => hP84 c _ _ _ _ h) rfl (by decide) hR96 (want_n rfl) (fun x hx => r_assign (st_yield hR96 rfl (by decide)) hR96 rfl rfl rfl (by decide) (fun _ h => ⟨h.get _ _ rfl, rfl⟩)) hSw86 (fun a97 hR98 => ?_)
    refine wpAnyH_done (by kernel_rfl) (hN85 _ _ ?_) _
    refine x_then_n (hK77 _ _ ?_)
    refine wp_ret ?_
    refine x_then_r ?_
    refine e_ret2 hR98 rfl rfl rfl ?_
    have he99 : (if (if me = 0 then chk t else me) = 0 then t else []) = [] := by simp [h64]
    rw [he99]
    refine ⟨none, 0, ?_, hS82.fr, (by rw [show (if me = 0 then chk t else me : Int) = ((if ((me) = 0) then ((chk t)) else (me))) by first | (simp [h64]; done) | (have q0 := h64; (try simp at q0);  simp_all; done) | omega]; exact hS82.res (i := 0) rfl), ⟨Nat.le_refl _, RowI.nil _ _ _ _⟩⟩
    exact ret_t2 rfl (ret_i (by first | (simp [h64]; done) | (have q0 := h64; (try simp at q0);  simp_all; done) | omega))

set_option maxRecDepth 100000 in
set_option maxHeartbeats 1000000 in
theorem node_calls (w0 : World) (Z : Nat → Prop) (hZ : ∀ k, Z k → k < w0.heap.size) (mg : Nat) (mt : TypeId) (me : Int) (mr : List Value) (n : Nd) (pA : Option Addr) (pc : Nat) (p : List Sl) (hm : (Res.box mg mt (.int .i64 me :: mr)).holds w0) (hmz : ¬ Z mg) (hp : (dRow 1 pA p.length pc (encSs p)).φ w0 Z) (hps : (dAll p).φ w0 Z) (hl : p.length ≤ 1000) (hb : ∀ s ∈ p, s.2.2.length ≤ 5000) :
    Calls Tryd.prog 93 [.pointer (some ⟨mg, 0, none⟩), .agg #[.int .i64 (n.K), .int .i64 (n.N), .int .i64 (n.M), .string n.S], .slice pA p.length pc].toArray w0 (fun e w' => ∃ (rA0 : Option Addr) (rc0 : Nat), e = .returned (.slice rA0 ((if me = 0 then (lsts p).flatten ++ [n] else [])).length rc0) ∧ Fr (· = mg) w0 w' ∧ (Res.box mg mt (.int .i64 (me) :: mr)).holds w' ∧ (dRow 4 rA0 (((if me = 0 then (lsts p).flatten ++ [n] else [])).length) rc0 (encNs (if me = 0 then (lsts p).flatten ++ [n] else []))).φ w' (nxt Z w0 w')) := by
  have hstart : ∀ k, Z k → imm Z w0 [.box mg mt (.int .i64 (me) :: mr)] w0 k ∧ w0.heap[k]? = w0.heap[k]? := fun k hk => imm_startM hZ hmz hk
  have hS3 : St w0 Z (· = mg) w0 [.box mg mt (.int .i64 (me) :: mr)] [dRow 1 pA p.length pc (encSs p), dAll p] := St.startM w0 Z _ mg mt _ hm (by
    intro d hd
    simp only [List.mem_cons, List.not_mem_nil, or_false] at hd
    rcases hd with rfl | rfl
    · exact Dat.mono _ _ _ _ _ hp hstart
    · exact Dat.mono _ _ _ _ _ hps hstart
    )
  refine c_enter Tryd.func93 rfl Tryd.ntmps93 rfl (fun a1 hR2 => ?_)
  refine wp_seq_k (fun K4 hK5 => ?_)
  refine c_region ?_
  refine m_box (cs := [.int .i64 (n.K), .int .i64 (n.N), .int .i64 (n.M), .string n.S]) (st_listV rfl) hR2 hS3 rfl rfl rfl rfl (by decide) (fun a6 w7 g8 hR9 hS10 => ?_)
  refine r_assign (st_listV rfl) hR9 rfl rfl rfl (by decide) (fun a11 hR12 => ?_)
  refine wpList_nil ?_
  refine x_then_n (hK5 _ _ ?_)
  refine wp_seq_k (fun K13 hK14 => ?_)
  refine wp_seq_k (fun K15 hK16 => ?_)
  refine c_region ?_
  refine r_move (st_listV rfl) hR12 rfl rfl rfl (by decide) (fun a17 hR18 => ?_)
  refine r_nilCheck (st_listV rfl) hR18 rfl rfl rfl (by decide) (fun a19 hR20 => ?_)
  refine m_field (j' := 0) (st_listV rfl) hR20 rfl rfl rfl Tryd.underlying72 rfl sz26 rfl rfl (by decide) (fun a21 hR22 => ?_)
  refine m_load (i := 0) (st_listV rfl) hR22 hS10 rfl rfl rfl rfl rfl Tryd.underlying26 rfl (by decide) (fun a23 hR24 => ?_)
  refine r_neq (st_listV rfl) hR24 rfl rfl rfl rfl (by decide) (fun a25 hR26 => ?_)
  refine wpList_nil ?_
  refine x_then_n (hK16 _ _ ?_)
  rcases Decidable.em ((me) = 0) with h27 | h27
  · skip
    have hR28 := hR26.setb (d := 14) (b := false) rfl (by rw [(decide_eq_true h27)]; rfl)
    refine wp_cond_false (hR28.ev rfl) ?_
    refine wp_skip ?_
    refine x_then_n (hK14 _ _ ?_)
    refine wp_seq_k (fun K29 hK30 => ?_)
    refine c_region ?_
    refine r_assign (st_listV rfl) hR28 rfl rfl rfl (by decide) (fun a31 hR32 => ?_)
    refine wpList_nil ?_
    refine x_then_n (hK30 _ _ ?_)
    refine wp_seq_k (fun K33 hK34 => ?_)
    refine wp_seq_k (fun K35 hK36 => ?_)
    refine c_region ?_
    refine r_move (st_listV rfl) hR32 rfl rfl rfl (by decide) (fun a37 hR38 => ?_)
    refine r_len (st_listV rfl) hR38 rfl rfl rfl rfl Tryd.underlying39 (by decide) (fun a39 hR40 => ?_)
    refine r_move (st_listV rfl) hR40 rfl rfl rfl (by decide) (fun a41 hR42 => ?_)
    refine wpList_nil ?_
    refine x_then_n (hK36 _ _ ?_)
    refine wp_block ?_
    have hS43 := hS10.nilrow 32 4
    refine wp_loop_ghost (fun gn ga gw => ∃ k : Nat, ∃ Ao : Option Addr, ∃ co : Nat, (Reg ga 29 [(4, .pointer (some ⟨g8, 0, none⟩)), (6, .slice none 0 0), (15, .slice pA p.length pc), (16, .int .i64 ((p.length : Nat) : Int)), (17, .int .i64 ((k : Nat) : Int)), (7, .slice Ao (((lsts (p.take k)).flatten).length) co)]) ∧ (St w0 Z (· = mg) gw [.box mg mt (.int .i64 (me) :: mr), .box g8 32 [.int .i64 (n.K), .int .i64 (n.N), .int .i64 (n.M), .string n.S], .row Ao (((lsts (p.take k)).flatten).length) co 32 4 (encNs ((lsts (p.take k)).flatten))] [dRow 1 pA p.length pc (encSs p), dAll p]) ∧ (k ≤ p.length) ∧ (p.length - k) = gn) _ ⟨0, none, 0, (Reg.cons hR42 (Reg.cons hR42 (Reg.cons hR42 (Reg.cons hR42 (Reg.cons hR42 (Reg.cons hR42 (hR42.nil) rfl) rfl) rfl) rfl) rfl) rfl), hS43, by omega, rfl⟩ ?_
    rintro r44 a45 w46 ⟨k, Ao, co, hR47, hS48, hk, hn49⟩
    have hfl := flat_le hb hk
    refine wp_seq_k (fun K50 hK51 => ?_)
    refine c_region ?_
    refine r_lss (st_listV rfl) hR47 rfl rfl rfl rfl (by decide) (fun a52 hR53 => ?_)
    refine wpList_nil ?_
    refine x_then_n (hK51 _ _ ?_)
    refine wp_seq_k (fun K54 hK55 => ?_)
    rcases Decidable.em (((k : Nat) : Int) < ((p.length : Nat) : Int)) with h56 | h56
    · skip
      have hR57 := hR53.setb (d := 18) (b := true) rfl (decide_eq_true h56)
      refine wp_cond_true (hR57.ev rfl) ?_
      refine wp_skip ?_
      refine x_then_n (hK55 _ _ ?_)
      refine wp_seq_k (fun K58 hK59 => ?_)
      refine wp_block ?_
      refine wp_seq_k (fun K60 hK61 => ?_)
      refine c_region ?_
      refine m_index (i := k) (j := k * 1) (st_listV rfl) hR57 rfl rfl rfl rfl Tryd.underlying39 sz22 (by omega) (by omega) (ss_elem (t := p) (k := k) (hS48.row (i := 0) rfl).2 (by omega)).some_ rfl (by decide) (fun a62 hR63 => ?_)
      refine m_loadE (st_listV rfl) hR63 rfl rfl rfl 0 (k * 1) (ss_elem (t := p) (k := k) (hS48.row (i := 0) rfl).2 (by omega)) rfl rfl Tryd.underlying22 rfl (by decide) (fun a64 hR65 => ?_)
      have hS66 := hS48.data (dRow 4 ((nthS p k).1) ((nthS p k).2.2.length) ((nthS p k).2.1) (encNs ((nthS p k).2.2))) (all_at (t := p) (k := k) (hS48.get (i := 1) rfl) (by omega))
      refine r_assign (st_listV rfl) hR65 rfl rfl rfl (by decide) (fun a67 hR68 => ?_)
      refine wpList_nil ?_
      refine x_then_n (hK61 _ _ ?_)
      refine c_region ?_
      refine r_move (st_listV rfl) hR68 rfl rfl rfl (by decide) (fun a69 hR70 => ?_)
      refine r_move (st_listV rfl) hR70 rfl rfl rfl (by decide) (fun a71 hR72 => ?_)
      refine m_appendF (f := encN) (i := 2) ((lsts (p.take k)).flatten) ((nthS p k).2.2) (st_listV rfl) hR72 hS66 rfl rfl rfl rfl rfl encN_len (encN_one _) Tryd.underlying22 zi32 rfl rfl (hS66.row (i := 2) rfl).2.news rfl (by first | omega | (simp only [List.length_cons, List.length_nil]; omega)) (by decide) (fun a73 w74 A75 c76 hc77 hR78 hS79 => ?_)
      have hl81 : (((lsts (p.take k)).flatten) ++ ((nthS p k).2.2)).length = ((lsts (p.take k)).flatten).length + (nthS p k).2.2.length := by first | (simp only [List.length_append, List.length_take, List.length_cons, List.length_nil]; done) | (simp only [List.length_append, List.length_take, List.length_cons, List.length_nil]; omega)
      refine r_assign (st_listV rfl) hR78 rfl rfl rfl (by decide) (fun a82 hR83 => ?_)
      refine wpList_nil ?_
      refine x_block_n ?_
      refine x_then_n (hK59 _ _ ?_)
      refine c_region ?_
      refine r_add (z := ((k + 1 : Nat) : Int)) (st_listV rfl) hR83 rfl rfl rfl rfl (by decide) (by omega) (by omega) (by omega) (fun a84 hR85 => ?_)
      refine r_move (st_listV rfl) hR85 rfl rfl rfl (by decide) (fun a86 hR87 => ?_)
      refine wpList_nil ?_
      have he88 : ((lsts (p.take k)).flatten) ++ ((nthS p k).2.2) = (lsts (p.take (k + 1))).flatten := (flat_step (by omega)).symm
      have hR89 := hR87
      have hS90 := hS79
      rw [he88] at hR89 hS90
      have hS91 := hS90.forget 2
      exact ⟨_, by omega, k + 1, A75, c76, (Reg.cons hR89 (Reg.cons hR89 (Reg.cons hR89 (Reg.cons hR89 (Reg.cons hR89 (Reg.cons hR89 (hR89.nil) rfl) rfl) rfl) rfl) rfl) rfl), hS91, by omega, rfl⟩
    · skip
      have hR92 := hR53.setb (d := 18) (b := false) rfl (decide_eq_false h56)
      refine wp_cond_false (hR92.ev rfl) ?_
      refine wp_exit ?_
      refine x_then_e ?_
      refine x_then_e ?_
      refine x_block_eq ?_
      refine x_then_n (hK34 _ _ ?_)
      refine wp_seq_k (fun K93 hK94 => ?_)
      refine c_region ?_
      refine r_move (st_listV rfl) hR92 rfl rfl rfl (by decide) (fun a95 hR96 => ?_)
      refine m_loadN (i := 1) (vs := [.int .i64 (n.K), .int .i64 (n.N), .int .i64 (n.M), .string n.S]) (st_listV rfl) hR96 hS48 rfl rfl rfl rfl rfl Tryd.underlying32 rfl sz32 (by decide) (fun a97 hR98 => ?_)
      refine m_buildSlice (ps := [(0, .tmp 26)]) (cs := [.int .i64 (n.K), .int .i64 (n.N), .int .i64 (n.M), .string n.S]) (st_listV rfl) hR98 hS48 rfl rfl rfl Tryd.underlying22 zi32 rfl rfl (by kernel_rfl) rfl (by decide) (fun a99 w100 g101 hR102 hS103 => ?_)
      refine m_appendF (f := encN) (i := 2) ((lsts (p.take k)).flatten) ([n]) (st_listV rfl) hR102 hS103 rfl rfl rfl rfl rfl encN_len (encN_one _) Tryd.underlying22 zi32 rfl rfl (own_lnews (f := encN) (hS103.res (i := 3) rfl)) rfl (by first | omega | (simp only [List.length_cons, List.length_nil]; omega)) (by decide) (fun a104 w105 A106 c107 hc108 hR109 hS110 => ?_)
      have hl112 : (((lsts (p.take k)).flatten) ++ ([n]) : List Nd).length = ((lsts (p.take k)).flatten).length + 1 := by first | (simp only [List.length_append, List.length_take, List.length_cons, List.length_nil]; done) | (simp only [List.length_append, List.length_take, List.length_cons, List.length_nil]; omega)
      have hS113 := hS110.erase 3
      refine r_assign (st_listV rfl) hR109 rfl rfl rfl (by decide) (fun a114 hR115 => ?_)
      refine wpList_nil ?_
      refine x_then_n (hK94 _ _ ?_)
      refine wp_ret ?_
      refine e_ret1 hR115 rfl rfl ?_
      have he116 : (if me = 0 then (lsts p).flatten ++ [n] else []) = ((lsts (p.take k)).flatten) ++ ([n]) := by rw [if_pos (by assumption), List.take_of_length_le (by omega)]
      rw [he116]
      have hc120 := own_cap (hS113.res (i := 2) rfl)
      obtain ⟨hS117, hrow118⟩ := hS113.row_dataM (i := 2) rfl (j := 0) rfl (by decide)
      have hS119 := hS117.data (dRow 4 A106 ((((lsts (p.take k)).flatten) ++ ([n]) : List Nd).length) c107 (encNs (((lsts (p.take k)).flatten) ++ ([n])))) ⟨hc120, hrow118⟩
      refine ⟨A106, c107, ?_, hS119.fr, hS119.res (i := 0) rfl, ⟨by have := (hS119.row (i := 2) rfl).1; exact this, ((hS119.row (i := 2) rfl).2.mono (fun _ hk => ⟨imm_nxt hk, rfl⟩))⟩⟩
      exact congrArg Ending.returned rfl
  · skip
    have hR121 := hR26.setb (d := 14) (b := true) rfl (by rw [(decide_eq_false h27)]; rfl)
    refine wp_cond_true (hR121.ev rfl) ?_
    refine wp_seq_k (fun K122 hK123 => ?_)
    refine c_region ?_
    refine r_assign (st_listV rfl) hR121 rfl rfl rfl (by decide) (fun a124 hR125 => ?_)
    refine wpList_nil ?_
    refine x_then_n (hK123 _ _ ?_)
    refine wp_ret ?_
    refine x_then_r ?_
    refine e_ret1 hR125 rfl rfl ?_
    have he126 : (if me = 0 then (lsts p).flatten ++ [n] else []) = [] := by simp [h27]
    rw [he126]
    refine ⟨none, 0, ?_, hS10.fr, hS10.res (i := 0) rfl, ⟨Nat.le_refl _, RowI.nil _ _ _ _⟩⟩
    exact congrArg Ending.returned rfl

set_option maxRecDepth 100000 in
set_option maxHeartbeats 1000000 in
theorem tick_calls (w0 : World) (Z : Nat → Prop) (hZ : ∀ k, Z k → k < w0.heap.size) (mg : Nat) (mt : TypeId) (me : Int) (mr : List Value) (hm : (Res.box mg mt (.int .i64 me :: mr)).holds w0) (hmz : ¬ Z mg) :
    Calls Tryd.prog 82 [.pointer (some ⟨mg, 0, none⟩)].toArray w0 (fun e w' => ∃ (rA0 : Option Addr) (rc0 : Nat), e = .returned (.slice rA0 ((if me = 0 then [(⟨29, 0, 0, ⟨#[]⟩⟩ : Nd)] else [])).length rc0) ∧ Fr (· = mg) w0 w' ∧ (Res.box mg mt (.int .i64 (me) :: mr)).holds w' ∧ (dRow 4 rA0 (((if me = 0 then [(⟨29, 0, 0, ⟨#[]⟩⟩ : Nd)] else [])).length) rc0 (encNs (if me = 0 then [(⟨29, 0, 0, ⟨#[]⟩⟩ : Nd)] else []))).φ w' (nxt Z w0 w')) := by
  have hstart : ∀ k, Z k → imm Z w0 [.box mg mt (.int .i64 (me) :: mr)] w0 k ∧ w0.heap[k]? = w0.heap[k]? := fun k hk => imm_startM hZ hmz hk
  have hS3 : St w0 Z (· = mg) w0 [.box mg mt (.int .i64 (me) :: mr)] [] := St.startM w0 Z _ mg mt _ hm (by
    intro d hd
    cases hd
    )
  refine c_enter Tryd.func82 rfl Tryd.ntmps82 rfl (fun a1 hR2 => ?_)
  refine wp_seq_k (fun K4 hK5 => ?_)
  refine c_region ?_
  refine r_assign (st_listV rfl) hR2 rfl rfl rfl (by decide) (fun a6 hR7 => ?_)
  refine wpList_nil ?_
  refine x_then_n (hK5 _ _ ?_)
  refine wp_seq_k (fun K8 hK9 => ?_)
  refine c_region ?_
  refine r_move (st_listV rfl) hR7 rfl rfl rfl (by decide) (fun a10 hR11 => ?_)
  refine m_build (ps := [(0, .const (.int .i64 29))]) (v := .agg #[.int .i64 29, .int .i64 0, .int .i64 0, .string (⟨#[]⟩ : ByteArray)]) (st_listV rfl) hR11 rfl rfl rfl (fun _ => by kernel_rfl) (by decide) (fun a12 hR13 => ?_)
  have hS14 : St w0 Z (· = mg) w0 [.box mg mt (.int .i64 (me) :: mr)] [] := hS3
  refine k_call (xs := [.tmp 3, .tmp 4, .const (.slice none 0 0)]) (st_list rfl) hR13 rfl rfl rfl (by decide) ok93 (node_calls _ (imm Z w0 [.box mg mt (.int .i64 (me) :: mr)] _) (fun _ h => h.1) mg mt (me) (mr) (⟨29, 0, 0, (⟨#[]⟩ : ByteArray)⟩ : Nd) none 0 [] (hS14.res (i := 0) rfl) (imm_box (i := 0) rfl) ⟨Nat.le_refl _, RowI.nil _ _ _ _⟩ all_nil (by first | assumption | omega | (simp; done) | (simp; omega)) (by first | assumption | omega | (simp; done) | (simp; omega))) ?_
  rintro e24 w16 ⟨A20, c21, rfl, hf19, hb23, hd22⟩
  have hS25 := hS14.callM (i := 0) rfl hf19 hb23
  have hS26 := hS25.data (dRow 4 A20 ((if (me) = 0 then (lsts []).flatten ++ [(⟨29, 0, 0, (⟨#[]⟩ : ByteArray)⟩ : Nd)] else []).length) c21 (encNs (if (me) = 0 then (lsts []).flatten ++ [(⟨29, 0, 0, (⟨#[]⟩ : ByteArray)⟩ : Nd)] else []))) ⟨hd22.1, hd22.2.mono (fun _ hk => ⟨imm_set (i := 0) rfl (nxt_imm hS14 hk), rfl⟩)⟩
  refine ⟨_, rfl, fun a15 hR17 => ?_⟩
  refine r_assign (st_listV rfl) hR17 rfl rfl rfl (by decide) (fun a27 hR28 => ?_)
  refine wpList_nil ?_
  refine x_then_n (hK9 _ _ ?_)
  refine wp_ret ?_
  refine e_ret1 hR28 rfl rfl ?_
  have he29 : (if me = 0 then [(⟨29, 0, 0, ⟨#[]⟩⟩ : Nd)] else []) = (if (me) = 0 then (lsts []).flatten ++ [(⟨29, 0, 0, (⟨#[]⟩ : ByteArray)⟩ : Nd)] else []) := rfl
  rw [he29]
  refine ⟨A20, c21, ?_, hS26.fr, hS26.res (i := 0) rfl, ⟨by have := (hS26.row (i := 0) rfl).1; exact this, ((hS26.row (i := 0) rfl).2.mono (fun _ hk => ⟨imm_nxt hk, rfl⟩))⟩⟩
  exact congrArg Ending.returned rfl
end Go.Proofs.YtobgdeffhdefeaaDoor
