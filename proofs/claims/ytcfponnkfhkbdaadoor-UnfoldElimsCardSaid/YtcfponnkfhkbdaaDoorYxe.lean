import Derived.Test.YtcfponnkfhkbdaaDoorYxd
/- Contracts of functions, one theorem each: what the call returns, and that nothing old is changed. Printed by gen.py. -/
namespace Go.Proofs.YtcfponnkfhkbdaaDoor
open Go Go.RowKit
set_option linter.unusedSimpArgs false
set_option linter.unusedVariables false
set_option maxRecDepth 100000 in
set_option maxHeartbeats 1000000 in
theorem fail_calls (w0 : World) (Z : Nat → Prop) (hZ : ∀ k, Z k → k < w0.heap.size) (mg : Nat) (mt : TypeId) (me : Int) (mr : List Value) (ee : Int) (hm : (Res.box mg mt (.int .i64 me :: mr)).holds w0) (hmz : ¬ Z mg) :
    Calls Tryd.prog 88 [.pointer (some ⟨mg, 0, none⟩), .int .i64 ee].toArray w0 (fun e w' => ∃ (rA0 : Option Addr) (rc0 : Nat), e = .returned (.slice rA0 (([] : List Nd)).length rc0) ∧ Fr (· = mg) w0 w' ∧ (Res.box mg mt (.int .i64 (if me = 0 then ee else me) :: mr)).holds w' ∧ (dRow 4 rA0 ((([] : List Nd)).length) rc0 (encNs ([] : List Nd))).φ w' (nxt Z w0 w')) := by
 have b0 := sM hm hmz hZ zn
 refine c_enter Tryd.func88 rfl Tryd.ntmps88 rfl (fun c0 d0 => ?_)
 refine wsc (fun c0 f0 => ?_)
 refine asg d0 (fun c0 h0 => ?_)
 refine wpList_nil (x_then_n (f0 _ _ ?_))
 refine wp_seq_k (fun f0 c0 => ?_)
 refine wsc (fun f0 d0 => ?_)
 refine mv h0 (fun f0 i0 => ?_)
 refine r_nilCheck sv i0 rfl rfl rfl (by decide) (fun f0 h0 => ?_)
 refine m_field (j' := 0) sv h0 rfl rfl rfl Tryd.underlying59 rfl sz27 rfl rfl (by decide) (fun f0 i0 => ?_)
 refine m_load (i := 0) sv i0 b0 rfl rfl rfl rfl rfl Tryd.underlying27 rfl (by decide) (fun f0 h0 => ?_)
 refine r_eql sv h0 rfl rfl rfl rfl (by decide) (fun f0 i0 => ?_)
 refine wpList_nil (x_then_n (d0 _ _ ?_))
 rcases Decidable.em ((me) = 0) with d0 | d0
 ·
  have f0 := i0.setb (d := 9) (b := true) rfl (decide_eq_true d0)
  refine wp_cond_true (f0.ev rfl) ?_
  refine c_region ?_
  refine mv f0 (fun h0 j0 => ?_)
  refine mv j0 (fun h0 f0 => ?_)
  refine r_nilCheck sv f0 rfl rfl rfl (by decide) (fun h0 j0 => ?_)
  refine m_field (j' := 0) sv j0 rfl rfl rfl Tryd.underlying59 rfl sz27 rfl rfl (by decide) (fun h0 f0 => ?_)
  refine m_store (i := 0) (cs' := (.int .i64 (ee) :: mr)) se f0 b0 rfl rfl rfl rfl rfl sz27 rfl rfl rfl (fun h0 j0 k0 m0 => ?_)
  refine wpList_nil (x_then_n (c0 _ _ ?_))
  refine wsc (fun j0 h0 => ?_)
  refine asg k0 (fun j0 f0 => ?_)
  refine wpList_nil (x_then_n (h0 _ _ ?_))
  refine wp_ret ?_
  refine e_ret1 f0 rfl rfl rfl ?_
  have f0 : ([] : List Nd) = [] := rfl
  rw [f0]
  refine ⟨none, 0, ?_, m0.fr, (by rw [show (if me = 0 then ee else me : Int) = (ee) by omega]; exact m0.res (i := 0) rfl), ⟨Nat.le_refl _, RowI.nil _ _ _ _⟩⟩
  exact congrArg Ending.returned rfl
 ·
  have m0 := i0.setb (d := 9) (b := false) rfl (decide_eq_false d0)
  refine wp_cond_false (m0.ev rfl) ?_
  refine wp_skip ?_
  refine x_then_n (c0 _ _ ?_)
  refine wsc (fun c0 d0 => ?_)
  refine asg m0 (fun c0 i0 => ?_)
  refine wpList_nil (x_then_n (d0 _ _ ?_))
  refine wp_ret ?_
  refine e_ret1 i0 rfl rfl rfl ?_
  have i0 : ([] : List Nd) = [] := rfl
  rw [i0]
  refine ⟨none, 0, ?_, b0.fr, (by rw [show (if me = 0 then ee else me : Int) = (me) by omega]; exact b0.res (i := 0) rfl), ⟨Nat.le_refl _, RowI.nil _ _ _ _⟩⟩
  exact congrArg Ending.returned rfl
set_option maxRecDepth 100000 in
set_option maxHeartbeats 1000000 in
theorem minst_calls (w0 : World) (Z : Nat → Prop) (hZ : ∀ k, Z k → k < w0.heap.size) (mg : Nat) (mt : TypeId) (me : Int) (mr : List Value) (tA : Option Addr) (tc : Nat) (t : List Nd) (psA : Option Addr) (psc : Nat) (ps : List Sl) (hShp : Shapes w0 Z) (hm : (Res.box mg mt (.int .i64 me :: mr)).holds w0) (hmz : ¬ Z mg) (ht : (dRow 4 tA t.length tc (encNs t)).φ w0 Z) (hps : (dRow 1 psA ps.length psc (encSs ps)).φ w0 Z) (hpss : (dAll ps).φ w0 Z) (hsm : sml t := by first | assumption | omega | (simp; done) | (simp; omega)) (hl : t.length ≤ 1000000 := by first | assumption | omega | (simp; done) | (simp; omega)) (hls : ∀ x ∈ lsts ps, sml x := by first | assumption | omega | (simp; done) | (simp; omega)) (hlb : ∀ x ∈ lsts ps, x.length ≤ 1000000 := by first | assumption | omega | (simp; done) | (simp; omega)) (hl0 : ps.length ≤ 1000 := by first | assumption | omega | (simp; done) | (simp; omega)) :
    Calls Tryd.prog 61 [.pointer (some ⟨mg, 0, none⟩), .slice tA t.length tc, .slice psA ps.length psc].toArray w0 (fun e w' => ∃ (rA0 : Option Addr) (rc0 : Nat) (rL0 : List Nd), e = .returned (.slice rA0 rL0.length rc0) ∧ Fr (· = mg) w0 w' ∧ (Res.box mg mt (.int .i64 (inQ me t (lsts ps)) :: mr)).holds w' ∧ (dRow 4 rA0 rL0.length rc0 (encNs rL0)).φ w' (nxt Z w0 w') ∧ rL0 = inL me t (lsts ps)) := by
 have b0 := sM hm hmz hZ (zc (d := dShapes) hShp (zc ht (zc hps (zc hpss zn))))
 refine c_enter Tryd.func61 rfl Tryd.ntmps61 rfl (fun c0 d0 => ?_)
 refine wsc (fun c0 f0 => ?_)
 refine asg d0 (fun c0 h0 => ?_)
 refine wpList_nil (x_then_n (f0 _ _ ?_))
 refine wp_seq_k (fun f0 c0 => ?_)
 refine wsc (fun f0 d0 => ?_)
 refine mv h0 (fun f0 i0 => ?_)
 refine r_nilCheck sv i0 rfl rfl rfl (by decide) (fun f0 h0 => ?_)
 refine m_field (j' := 0) sv h0 rfl rfl rfl Tryd.underlying59 rfl sz27 rfl rfl (by decide) (fun f0 i0 => ?_)
 refine m_load (i := 0) sv i0 b0 rfl rfl rfl rfl rfl Tryd.underlying27 rfl (by decide) (fun f0 h0 => ?_)
 refine r_neq sv h0 rfl rfl rfl rfl (by decide) (fun f0 i0 => ?_)
 refine wpList_nil (x_then_n (d0 _ _ ?_))
 rcases Decidable.em ((me) = 0) with d0 | d0
 ·
  have f0 := i0.setb (d := 13) (b := false) rfl (by rw [(decide_eq_true d0)]; rfl)
  refine wp_cond_false (f0.ev rfl) ?_
  refine wp_skip ?_
  refine x_then_n (c0 _ _ ?_)
  refine wsc (fun c0 h0 => ?_)
  refine mv f0 (fun c0 j0 => ?_)
  refine mv j0 (fun c0 f0 => ?_)
  have c0 := b0.nf
  refine k_call (xs := [.tmp 15, .tmp 16]) se f0 rfl rfl rfl (by decide) ok87 (inst_calls _ _ c0.il _ _ _ _ _ _ (c0.g 0) (c0.g 1) (c0.g 2) (c0.g 3)) ?_
  rintro f0 j0 ⟨k0, m0, rfl, n0, o0⟩
  have j0 := c0.below n0.below
  have n0 := c0.dN j0 o0
  refine ⟨_, rfl, fun j0 o0 => ?_⟩
  refine mv o0 (fun j0 c0 => ?_)
  refine r_extract sv c0 rfl rfl rfl rfl (by decide) (fun j0 o0 => ?_)
  refine r_extract sv o0 rfl rfl rfl rfl (by decide) (fun j0 c0 => ?_)
  refine asg c0 (fun j0 o0 => ?_)
  refine asg o0 (fun j0 c0 => ?_)
  refine wpList_nil (x_then_n (h0 _ _ ?_))
  refine wp_seq_k (fun h0 j0 => ?_)
  refine wsc (fun h0 o0 => ?_)
  refine mv c0 (fun h0 f0 => ?_)
  refine r_neq sv f0 rfl rfl rfl rfl (by decide) (fun h0 c0 => ?_)
  refine wpList_nil (x_then_n (o0 _ _ ?_))
  rcases Decidable.em (((inE t (lsts ps))) = 0) with o0 | o0
  ·
   have h0 := c0.setb (d := 21) (b := false) rfl (by rw [(decide_eq_true o0)]; rfl)
   refine wp_cond_false (h0.ev rfl) ?_
   refine wp_skip ?_
   refine x_then_n (j0 _ _ ?_)
   refine wsc (fun j0 f0 => ?_)
   refine mv h0 (fun j0 p0 => ?_)
   refine asg p0 (fun j0 h0 => ?_)
   refine wpList_nil (x_then_n (f0 _ _ ?_))
   refine wp_ret ?_
   refine e_ret1 h0 rfl rfl rfl ?_
   refine ⟨k0, m0, (inA t (lsts ps)), ?_, n0.fr, (by rw [show (inQ me t (lsts ps) : Int) = (me) by (simp [upE, inQ, d0, o0]; done)]; exact n0.res (i := 0) rfl), n0.rx 4, (by unfold inL; rw [if_pos (by assumption)])⟩
   exact congrArg Ending.returned (ret_s (by rfl))
  ·
   have m0 := c0.setb (d := 21) (b := true) rfl (by rw [(decide_eq_false o0)]; rfl)
   refine wp_cond_true (m0.ev rfl) ?_
   refine wsc (fun c0 k0 => ?_)
   refine mv m0 (fun c0 h0 => ?_)
   refine mv h0 (fun c0 m0 => ?_)
   have c0 := n0.nf
   refine k_call (xs := [.tmp 22, .tmp 23]) se m0 rfl rfl rfl (by decide) ok88 (fail_calls _ _ c0.il _ _ _ _ ((inE t (lsts ps))) (c0.z 0) (imm_box (i := 0) rfl)) ?_
   rintro m0 n0 ⟨h0, f0, rfl, j0, p0, q0⟩
   have n0 := c0.callM (i := 0) rfl j0 p0
   have p0 := c0.dM 0 n0 q0
   refine ⟨_, rfl, fun n0 q0 => ?_⟩
   refine asg q0 (fun n0 c0 => ?_)
   refine wpList_nil (x_then_n (k0 _ _ ?_))
   refine wp_ret ?_
   refine x_then_r ?_
   refine e_ret1 c0 rfl rfl rfl ?_
   refine ⟨h0, f0, ([] : List Nd), ?_, p0.fr, (by rw [show (inQ me t (lsts ps) : Int) = ((if (me) = 0 then ((inE t (lsts ps))) else (me))) by (simp [upE, inQ, d0, o0]; done)]; exact p0.res (i := 0) rfl), p0.rx 5, (by unfold inL; first | (rw [if_neg (by assumption)]; done) | (rw [if_pos (by assumption), in_bad (by assumption)]; done))⟩
   exact congrArg Ending.returned (ret_s (by rfl))
 ·
  have p0 := i0.setb (d := 13) (b := true) rfl (by rw [(decide_eq_false d0)]; rfl)
  refine wp_cond_true (p0.ev rfl) ?_
  refine wsc (fun i0 f0 => ?_)
  refine asg p0 (fun i0 h0 => ?_)
  refine wpList_nil (x_then_n (f0 _ _ ?_))
  refine wp_ret ?_
  refine x_then_r ?_
  refine e_ret1 h0 rfl rfl rfl ?_
  refine ⟨none, 0, [], ?_, b0.fr, (by rw [show (inQ me t (lsts ps) : Int) = (me) by (simp [upE, inQ, d0]; done)]; exact b0.res (i := 0) rfl), ⟨Nat.le_refl _, RowI.nil _ _ _ _⟩, (by unfold inL; first | (rw [if_neg (by assumption)]; done) | (rw [if_pos (by assumption), in_bad (by assumption)]; done))⟩
  exact congrArg Ending.returned (ret_s (by rfl))
end Go.Proofs.YtcfponnkfhkbdaaDoor
/- Contracts of functions, one theorem each: what the call returns, and that nothing old is changed. Printed by gen.py. -/
namespace Go.Proofs.YtcfponnkfhkbdaaDoor
open Go Go.RowKit
set_option linter.unusedSimpArgs false
set_option linter.unusedVariables false
set_option maxRecDepth 100000 in
set_option maxHeartbeats 1000000 in
theorem stuck_calls (w0 : World) (Z : Nat → Prop) (hZ : ∀ k, Z k → k < w0.heap.size) (mg : Nat) (mt : TypeId) (me : Int) (mr : List Value) (hm : (Res.box mg mt (.int .i64 me :: mr)).holds w0) (hmz : ¬ Z mg) :
    Calls Tryd.prog 64 [.pointer (some ⟨mg, 0, none⟩)].toArray w0 (fun e w' => ∃ (rA0 : Option Addr) (rc0 : Nat), e = .returned (.slice rA0 (([] : List Nd)).length rc0) ∧ Fr (· = mg) w0 w' ∧ (Res.box mg mt (.int .i64 (if me = 0 then 120 else me) :: mr)).holds w' ∧ (dRow 4 rA0 ((([] : List Nd)).length) rc0 (encNs ([] : List Nd))).φ w' (nxt Z w0 w')) := by
 have b0 := sM hm hmz hZ zn
 refine c_enter Tryd.func64 rfl Tryd.ntmps64 rfl (fun c0 d0 => ?_)
 refine wsc (fun c0 f0 => ?_)
 refine asg d0 (fun c0 h0 => ?_)
 refine wpList_nil (x_then_n (f0 _ _ ?_))
 refine wsc (fun f0 c0 => ?_)
 refine mv h0 (fun f0 d0 => ?_)
 have f0 := b0.nf
 refine k_call (xs := [.tmp 3, .const (.int .i64 120)]) se d0 rfl rfl rfl (by decide) ok88 (fail_calls _ _ f0.il _ _ _ _ 120 (f0.z 0) (imm_box (i := 0) rfl)) ?_
 rintro d0 b0 ⟨h0, i0, rfl, j0, k0, m0⟩
 have b0 := f0.callM (i := 0) rfl j0 k0
 have k0 := f0.dM 0 b0 m0
 refine ⟨_, rfl, fun b0 m0 => ?_⟩
 refine asg m0 (fun b0 f0 => ?_)
 refine wpList_nil (x_then_n (c0 _ _ ?_))
 refine wp_ret ?_
 refine e_ret1 f0 rfl rfl rfl ?_
 refine ⟨h0, i0, ?_, k0.fr, (by rw [show (if me = 0 then 120 else me : Int) = ((if (me) = 0 then 120 else (me))) by first | rfl | omega | assumption | exact decide_eq_true (by assumption) | ( omega) | (simp []; done) | (simp [] at *; done) | (simp [] <;> omega) | (rw [Bool.eq_iff_iff]; simp [] <;> omega) | (rw [Bool.eq_iff_iff]; simp [] at * <;> omega)]; exact k0.res (i := 0) rfl), k0.rx 0⟩
 exact congrArg Ending.returned rfl
set_option maxRecDepth 100000 in
set_option maxHeartbeats 1000000 in
theorem cloneS_calls (w0 : World) (Z : Nat → Prop) (hZ : ∀ k, Z k → k < w0.heap.size) (tA : Option Addr) (tc : Nat) (t : List Sl) (ht : (dRow 1 tA t.length tc (encSs t)).φ w0 Z) (hts : (dAll t).φ w0 Z) (hl : t.length ≤ 1000000 := by first | assumption | omega | (simp; done) | (simp; omega)) :
    Calls Tryd.prog 89 [.slice tA t.length tc].toArray w0 (fun e w' => ∃ (rA0 : Option Addr) (rc0 : Nat), e = .returned (.slice rA0 (t).length rc0) ∧ Fr none_ w0 w' ∧ (Res.row rA0 (t).length rc0 22 1 (encSs t)).holds w' ∧ (∀ k, (Res.row rA0 (t).length rc0 22 1 (encSs t)).blk = some k → w0.heap.size ≤ k)) := by
 have b0 := s0 (M := none_) hZ (zc ht (zc hts zn))
 refine c_enter Tryd.func89 rfl Tryd.ntmps89 rfl (fun c0 d0 => ?_)
 refine wsc (fun c0 f0 => ?_)
 refine asg d0 (fun c0 h0 => ?_)
 refine wpList_nil (x_then_n (f0 _ _ ?_))
 refine wp_seq_k (fun f0 c0 => ?_)
 refine wsc (fun f0 d0 => ?_)
 refine mv h0 (fun f0 i0 => ?_)
 refine r_eqlNil sv i0 rfl rfl rfl rfl Tryd.underlying42 (by decide) (fun f0 h0 => ?_)
 refine wpList_nil (x_then_n (d0 _ _ ?_))
 rcases Bool.eq_false_or_eq_true (Option.isNone tA) with d0 | d0
 ·
  have f0 := h0.setb (d := 4) (b := true) rfl d0
  refine wp_cond_true (f0.ev rfl) ?_
  refine wsc (fun i0 j0 => ?_)
  refine asg f0 (fun i0 k0 => ?_)
  refine wpList_nil (x_then_n (j0 _ _ ?_))
  refine wp_ret ?_
  refine x_then_r ?_
  refine e_ret1 k0 rfl rfl rfl ?_
  have k0 : t = [] := List.eq_nil_of_length_eq_zero (nil_len ht (by assumption))
  rw [k0]
  refine ⟨none, 0, ?_, b0.fr, nil_row1, nil_row2⟩
  exact congrArg Ending.returned rfl
 ·
  have k0 := h0.setb (d := 4) (b := false) rfl d0
  refine wp_cond_false (k0.ev rfl) ?_
  refine wp_skip ?_
  refine x_then_n (c0 _ _ ?_)
  refine wsc (fun c0 d0 => ?_)
  have c0 := b0.data (dAll []) all_nil
  refine mbs [] [] sv k0 c0 Tryd.underlying42 zi22 (fun b0 h0 j0 i0 f0 => ?_)
  refine mv i0 (fun j0 h0 => ?_)
  refine m_appendF (f := encS) (i := 0) ([]) (t) sv h0 f0 rfl rfl rfl rfl rfl encS_len (encS_one _) Tryd.underlying42 zi22 rfl rfl (f0.row (i := 0) rfl).2.news rfl (by first | omega | (simp only [List.length_cons, List.length_nil]; omega)) (by decide) (fun j0 i0 b0 c0 k0 m0 n0 => ?_)
  have k0 : (([]) ++ t : List Sl).length = t.length := by first | (simp only [List.length_append, List.length_take, List.length_cons, List.length_nil]; done) | (simp only [List.length_append, List.length_take, List.length_cons, List.length_nil]; omega)
  have k0 := n0.data (dAll (([]) ++ t)) (all_append (n0.get (i := 2) rfl) (n0.get (i := 1) rfl))
  refine asg m0 (fun n0 i0 => ?_)
  refine wpList_nil (x_then_n (d0 _ _ ?_))
  refine wp_ret ?_
  refine e_ret1 i0 rfl rfl rfl ?_
  have i0 : t = ([]) ++ t := by simp
  rw [i0]
  refine ⟨b0, c0, ?_, k0.fr, (k0.res (i := 0) rfl), (k0.fresh (i := 0) rfl)⟩
  exact congrArg Ending.returned rfl
set_option maxRecDepth 100000 in
set_option maxHeartbeats 6000000 in
theorem uagain_calls (w0 : World) (Z : Nat → Prop) (hZ : ∀ k, Z k → k < w0.heap.size) (rg : Nat) (re : Int) (rn : Nd) (rx : Nd) (rpA : Option Addr) (rpc : Nat) (rp : List Sl) (rqA : Option Addr) (rqc : Nat) (rq : List Sl) (tA : Option Addr) (tc : Nat) (t : List Nd) (hr : (Res.box rg 61 [.int .i64 (re), .int .i64 (rn.K), .int .i64 (rn.N), .int .i64 (rn.M), .string rn.S, .int .i64 (rx.K), .int .i64 (rx.N), .int .i64 (rx.M), .string rx.S, .slice rpA rp.length rpc, .slice rqA rq.length rqc, .slice none 0 0]).holds w0) (hrz : ¬ Z rg) (hrp : (dRow 1 rpA rp.length rpc (encSs rp)).φ w0 Z) (hrps : (dAll rp).φ w0 Z) (hrq : (dRow 1 rqA rq.length rqc (encSs rq)).φ w0 Z) (hrqs : (dAll rq).φ w0 Z) (ht : (dRow 4 tA t.length tc (encNs t)).φ w0 Z) (hp4 : rp.length ≤ 9 := by first | assumption | omega | (simp; done) | (simp; omega)) (hq4 : rq.length ≤ 9 := by first | assumption | omega | (simp; done) | (simp; omega)) (hps : ∀ x ∈ lsts rp, sml x ∧ x.length ≤ 4000 := by first | assumption | omega | (simp; done) | (simp; omega)) (hqs : ∀ x ∈ lsts rq, sml x ∧ x.length ≤ 4000 := by first | assumption | omega | (simp; done) | (simp; omega)) (h0p : 0 < rp.length := by first | assumption | omega | (simp; done) | (simp; omega)) (hsn : rn.S.size < 1000000 := by first | assumption | omega | (simp; done) | (simp; omega)) (hst : sml t := by first | assumption | omega | (simp; done) | (simp; omega)) (hlt : t.length ≤ 4000 := by first | assumption | omega | (simp; done) | (simp; omega)) :
    Calls Tryd.prog 62 [.pointer (some ⟨rg, 0, none⟩), .slice tA t.length tc].toArray w0 (fun e w' => ∃ (rA0 : Option Addr) (rc0 : Nat) (rL0 : List Nd), e = .returned (.slice rA0 rL0.length rc0) ∧ Fr (· = rg) w0 w' ∧ (Res.box rg 61 [.int .i64 (re), .int .i64 (rn.K), .int .i64 (rn.N), .int .i64 (rn.M), .string rn.S, .int .i64 (rx.K), .int .i64 (rx.N), .int .i64 (rx.M), .string rx.S, .slice rpA rp.length rpc, .slice rqA rq.length rqc, .slice none 0 0]).holds w' ∧ (dRow 4 rA0 rL0.length rc0 (encNs rL0)).φ w' (nxt Z w0 w') ∧ rL0 = noL re rn ((lsts rp).set ((lsts rp).length - 1) t)) := by
 have b0 := sM hr hrz hZ (zc hrp (zc hrps (zc hrq (zc hrqs (zc ht zn)))))
 refine c_enter Tryd.func62 rfl Tryd.ntmps62 rfl (fun c0 d0 => ?_)
 refine wsc (fun c0 f0 => ?_)
 refine asg d0 (fun c0 h0 => ?_)
 refine wpList_nil (x_then_n (f0 _ _ ?_))
 refine wsc (fun f0 c0 => ?_)
 refine mv h0 (fun f0 d0 => ?_)
 refine r_nilCheck sv d0 rfl rfl rfl (by decide) (fun f0 h0 => ?_)
 refine m_field (j' := 9) sv h0 rfl rfl rfl Tryd.underlying61 rfl sz42 rfl rfl (by decide) (fun f0 d0 => ?_)
 refine m_load (i := 0) sv d0 b0 rfl rfl rfl rfl rfl Tryd.underlying42 rfl (by decide) (fun f0 h0 => ?_)
 have f0 := b0.nf
 refine k_call (xs := [.tmp 9]) se h0 rfl rfl rfl (by decide) ok89 (cloneS_calls _ _ f0.il _ _ _ (f0.g 0) (f0.g 1)) ?_
 rintro h0 b0 ⟨d0, i0, rfl, j0, k0, m0⟩
 have b0 := f0.callO j0 k0 m0
 refine ⟨_, rfl, fun m0 k0 => ?_⟩
 refine asg k0 (fun m0 j0 => ?_)
 refine wpList_nil (x_then_n (c0 _ _ ?_))
 refine wsc (fun c0 m0 => ?_)
 refine mv j0 (fun c0 k0 => ?_)
 refine mv k0 (fun c0 j0 => ?_)
 refine r_len sv j0 rfl rfl rfl rfl Tryd.underlying42 (by decide) (fun c0 k0 => ?_)
 refine r_sub (z := (((rp.length : Nat) : Int) - 1)) sv k0 rfl rfl rfl rfl (by decide) (by omega) (by omega) (by omega) (fun c0 j0 => ?_)
 refine mv j0 (fun c0 k0 => ?_)
 refine m_index (i := (rp.length) - (1)) (j := ((rp.length) - (1)) * 1) sv k0 rfl rfl rfl rfl Tryd.underlying42 sz22 (by omega) (by omega) (own_ss (t := rp) (k := (rp.length) - (1)) (b0.res (i := 1) rfl) (by omega)).some_ rfl (by decide) (fun c0 j0 => ?_)
 refine m_storeE (f := encS) (i := 1) (k := (rp.length) - (1)) (L := rp) (z := ((tA, tc, t) : Sl)) se j0 b0 rfl rfl rfl rfl rfl rfl (by omega) encS_len (one1 (f := encS) encS_one) rfl sz22 (fun c0 k0 f0 h0 => ?_)
 have k0 : (rp.set ((rp.length) - (1)) ((tA, tc, t) : Sl)).length = rp.length := by simp
 have c0 := h0.data (dAll (rp.set ((rp.length) - (1)) ((tA, tc, t) : Sl))) (all_set (k := (rp.length) - (1)) (z := ((tA, tc, t) : Sl)) (h0.get (i := 1) rfl) (h0.get (i := 4) rfl))
 refine wpList_nil (x_then_n (m0 _ _ ?_))
 refine wp_seq_k (fun m0 h0 => ?_)
 obtain ⟨m0, j0, b0⟩ := c0.agree
 refine d_reg3 (n := 10) b0 6 (pB 0 0 pn) (pan_then pan_body) (fun j0 m0 c0 n0 o0 p0 => ?_)
 refine dtM 0 m0 f0 p0 (fun n0 j0 => ?_)
 refine dtN 1 m0 j0 p0 (fun n0 f0 => ?_)
 refine dtF 2 0 m0 f0 p0 Tryd.underlying61 sz59 (fun n0 j0 => ?_)
 refine dtM 3 m0 j0 p0 (fun n0 f0 => ?_)
 refine dtN 4 m0 f0 p0 (fun n0 j0 => ?_)
 refine dtF 5 1 m0 j0 p0 Tryd.underlying61 sz39 (fun n0 f0 => ?_)
 refine dt 6 rfl m0 f0 (want_n rfl) (fun x hx => m_loadCN (sy f0) f0 rfl rfl rfl (CellsAt.cons_ (hx.c 1) (CellsAt.cons_ (hx.c 2) (CellsAt.cons_ (hx.c 3) (CellsAt.cons_ (hx.c 4) (CellsAt.nil _ _))))) Tryd.underlying39 rfl sz39 (by decide) gt) p0 (fun n0 j0 => ?_)
 refine dtM 7 m0 j0 p0 (fun n0 f0 => ?_)
 refine d1 8 ?_
 have n0 := o0.nf
 have o0 := own_cap (n0.res (i := 1) rfl)
 obtain ⟨j0, p0⟩ := n0.row_dataM (i := 1) rfl (j := 0) rfl (by decide)
 have n0 := f0.conss f0 (i := 10) rfl k0
 have f0 := n0.conss n0 (i := 5) rfl k0
 have n0 := f0.conss f0 (i := 11) rfl k0
 have f0 := n0.conss n0 (i := 12) rfl k0
 have n0 := f0.conss f0 (i := 24) rfl k0
 have f0 := j0.data (dRow 1 d0 ((rp.set ((rp.length) - (1)) ((tA, tc, t) : Sl)).length) i0 (encSs (rp.set ((rp.length) - (1)) ((tA, tc, t) : Sl)))) ⟨o0, p0⟩
 refine k_call (xs := [.tmp 19, .tmp 23, .tmp 24]) (st_op rfl (want_n rfl)) n0 rfl rfl rfl (by decide) ok72 (node_calls _ _ f0.il _ _ _ _ rn _ _ (rp.set ((rp.length) - (1)) ((tA, tc, t) : Sl)) (f0.z 0) (imm_box (i := 0) rfl) (f0.g 7) (f0.g 5) (hl := (by rw [List.length_set]; omega)) (hb := (set_bd hps hlt))) ?_
 rintro n0 p0 ⟨j0, o0, i0, rfl, d0, k0, b0, q0⟩
 have p0 := f0.callM (i := 0) rfl d0 k0
 have k0 := f0.dM 0 p0 b0
 refine ⟨_, rfl, fun p0 b0 => ?_⟩
 have p0 := sWI k0 6 (pB 0 0 pn)
 refine ⟨p0, ?_⟩
 refine dtA 9 m0 b0 p0 (fun f0 d0 => ?_)
 refine wpAnyH_done (by kernel_rfl) (c0 _ _ ?_) _
 refine x_then_n (h0 _ _ ?_)
 refine wp_ret ?_
 refine e_ret1 d0 rfl rfl rfl ?_
 refine ⟨j0, o0, i0, ?_, k0.fr, k0.res (i := 0) rfl, k0.rx 8, (by rw [q0, lsts_set, lsts_len])⟩
 exact congrArg Ending.returned (ret_s (by first | rfl | (simp; done)))
set_option maxRecDepth 100000 in
set_option maxHeartbeats 1000000 in
theorem ureduct_calls (w0 : World) (Z : Nat → Prop) (hZ : ∀ k, Z k → k < w0.heap.size) (rg : Nat) (re : Int) (rn : Nd) (rx : Nd) (rpA : Option Addr) (rpc : Nat) (rp : List Sl) (rqA : Option Addr) (rqc : Nat) (rq : List Sl) (hShp : Shapes w0 Z) (hr : (Res.box rg 61 [.int .i64 (re), .int .i64 (rn.K), .int .i64 (rn.N), .int .i64 (rn.M), .string rn.S, .int .i64 (rx.K), .int .i64 (rx.N), .int .i64 (rx.M), .string rx.S, .slice rpA rp.length rpc, .slice rqA rq.length rqc, .slice none 0 0]).holds w0) (hrz : ¬ Z rg) (hrp : (dRow 1 rpA rp.length rpc (encSs rp)).φ w0 Z) (hrps : (dAll rp).φ w0 Z) (hrq : (dRow 1 rqA rq.length rqc (encSs rq)).φ w0 Z) (hrqs : (dAll rq).φ w0 Z) (hp4 : rp.length ≤ 9 := by first | assumption | omega | (simp; done) | (simp; omega)) (hq4 : rq.length ≤ 9 := by first | assumption | omega | (simp; done) | (simp; omega)) (hps : ∀ x ∈ lsts rp, sml x ∧ x.length ≤ 4000 := by first | assumption | omega | (simp; done) | (simp; omega)) (hqs : ∀ x ∈ lsts rq, sml x ∧ x.length ≤ 4000 := by first | assumption | omega | (simp; done) | (simp; omega)) (hlp : rp.length = many rn := by first | assumption | omega | (simp; done) | (simp; omega)) (hlq : rq.length = many rx := by first | assumption | omega | (simp; done) | (simp; omega)) (hsn : rn.S.size < 1000000 := by first | assumption | omega | (simp; done) | (simp; omega)) (he : re = 0 := by first | assumption | omega | (simp; done) | (simp; omega)) (h27 : ¬ rn.K = 27 := by first | assumption | omega | (simp; done) | (simp; omega)) :
    Calls Tryd.prog 37 [.pointer (some ⟨rg, 0, none⟩)].toArray w0 (fun e w' => ∃ (rA0 : Option Addr) (rc0 : Nat) (rL0 : List Nd), e = .returned (.slice rA0 rL0.length rc0) ∧ Fr (· = rg) w0 w' ∧ (Res.box rg 61 [.int .i64 (((urR rn rx (lsts rp) (lsts rq)).2)), .int .i64 (rn.K), .int .i64 (rn.N), .int .i64 (rn.M), .string rn.S, .int .i64 (rx.K), .int .i64 (rx.N), .int .i64 (rx.M), .string rx.S, .slice rpA rp.length rpc, .slice rqA rq.length rqc, .slice none 0 0]).holds w' ∧ (dRow 4 rA0 rL0.length rc0 (encNs rL0)).φ w' (nxt Z w0 w') ∧ rL0 = (urR rn rx (lsts rp) (lsts rq)).1) := by
 have b0 := sM hr hrz hZ (zc (d := dShapes) hShp (zc hrp (zc hrps (zc hrq (zc hrqs zn)))))
 have hpm : ∀ k, k < rp.length → sml (nthS rp k).2.2 ∧ (nthS rp k).2.2.length ≤ 4000 := fun k hk => hps _ (nthS_in hk)
 have hqm : ∀ k, k < rq.length → sml (nthS rq k).2.2 ∧ (nthS rq k).2.2.length ≤ 4000 := fun k hk => hqs _ (nthS_in hk)
 refine c_enter Tryd.func37 rfl Tryd.ntmps37 rfl (fun c0 d0 => ?_)
 refine wsc (fun c0 f0 => ?_)
 refine asg d0 (fun c0 h0 => ?_)
 refine wpList_nil (x_then_n (f0 _ _ ?_))
 refine wp_seq_k (fun f0 c0 => ?_)
 obtain ⟨f0, d0, i0⟩ := b0.agree
 refine d_reg3 (n := 13) i0 5 (pB 0 1 pn) (pan_then pan_body) (fun d0 f0 b0 j0 k0 m0 => ?_)
 refine dtM 0 f0 h0 m0 (fun j0 d0 => ?_)
 refine dtN 1 f0 d0 m0 (fun j0 h0 => ?_)
 refine dtF 2 1 f0 h0 m0 Tryd.underlying61 sz39 (fun j0 d0 => ?_)
 refine dtF 3 1 f0 d0 m0 Tryd.underlying39 sz3 (fun j0 h0 => ?_)
 refine dtC 4 0 f0 h0 m0 Tryd.underlying3 (fun j0 d0 => ?_)
 refine dtM 5 f0 d0 m0 (fun j0 h0 => ?_)
 refine dtN 6 f0 h0 m0 (fun j0 d0 => ?_)
 refine dtF 7 5 f0 d0 m0 Tryd.underlying61 sz39 (fun j0 h0 => ?_)
 refine dtF 8 5 f0 h0 m0 Tryd.underlying39 sz3 (fun j0 d0 => ?_)
 refine dtC 9 4 f0 d0 m0 Tryd.underlying3 (fun j0 h0 => ?_)
 refine dt 10 rfl f0 h0 (want_n rfl) (fun x hx => m_build (ps := [(0, .tmp 8), (1, .tmp 13)]) (v := .agg #[.int .i64 (rn.K), .int .i64 (rx.K)]) (sy h0) h0 rfl rfl rfl (fun _ => by kernel_rfl) (by decide) gt) m0 (fun j0 d0 => ?_)
 refine d1 11 ?_
 refine m_alloc (cs := [.int .i64 0, .int .i64 0]) (st_opV rfl (want_n rfl)) d0 k0 rfl rfl ze93 rfl (by decide) (fun j0 h0 m0 f0 i0 => ?_)
 have m0 := sWI i0 5 (pB 0 1 pn)
 refine ⟨m0, ?_⟩
 refine d1 12 ?_
 refine m_store (i := 1) (cs' := [.int .i64 (rn.K), .int .i64 (rx.K)]) (st_op rfl (want_n rfl)) f0 i0 rfl rfl rfl rfl rfl sz93 rfl rfl rfl (fun m0 h0 j0 d0 => ?_)
 have h0 := sWI d0 5 (pB 0 1 pn)
 refine ⟨h0, ?_⟩
 refine wpAnyH_done (by kernel_rfl) (b0 _ _ ?_) _
 refine x_then_n (c0 _ _ ?_)
 refine wp_seq_k (fun c0 b0 => ?_)
 refine wp_block ?_
 refine wsc (fun c0 h0 => ?_)
 refine m_loadN (i := 1) (vs := [.int .i64 (rn.K), .int .i64 (rx.K)]) sv j0 d0 rfl rfl rfl rfl rfl Tryd.underlying93 rfl sz93 (by decide) (fun c0 m0 => ?_)
 refine m_build (ps := [(0, .const (.int .i64 5)), (1, .const (.int .i64 4))]) (v := .agg #[.int .i64 5, .int .i64 4]) sv m0 rfl rfl rfl (fun _ => by kernel_rfl) (by decide) (fun c0 j0 => ?_)
 refine r_eqlP sv j0 rfl rfl rfl rfl (by decide) (fun c0 m0 => ?_)
 refine asg m0 (fun c0 j0 => ?_)
 refine wpList_nil (x_then_n (h0 _ _ ?_))
 rcases Bool.eq_false_or_eq_true (decide ((rn.K) = 5) && decide ((rx.K) = 4)) with h0 | h0
 ·
  have c0 := and_tl h0
  have m0 := of_decide_eq_true c0
  have hmkrn5 := many_5 m0
  have c0 := and_tr h0
  have i0 := of_decide_eq_true c0
  have hmkrx4 := many_4 i0
  have c0 := j0.setb (d := 15) (b := true) rfl h0
  refine wp_cond_true (c0.ev rfl) ?_
  refine wp_seq_k (fun f0 k0 => ?_)
  obtain ⟨f0, n0, o0⟩ := d0.agree
  refine d_reg3 (n := 18) o0 6 (pB 0 1 pn) (pan_then (pan_block (pan_then pan_body))) (fun f0 p0 q0 s0 t0 u0 => ?_)
  refine dtM 0 p0 c0 u0 (fun s0 f0 => ?_)
  refine dtN 1 p0 f0 u0 (fun s0 c0 => ?_)
  refine dtF 2 0 p0 c0 u0 Tryd.underlying61 sz59 (fun s0 f0 => ?_)
  refine dtM 3 p0 f0 u0 (fun s0 c0 => ?_)
  refine dtN 4 p0 c0 u0 (fun s0 f0 => ?_)
  refine dtF 5 10 p0 f0 u0 Tryd.underlying61 sz42 (fun s0 c0 => ?_)
  refine dtC 6 9 p0 c0 u0 Tryd.underlying42 (fun s0 f0 => ?_)
  refine dt 7 rfl p0 f0 (want_n rfl) (fun x hx => m_index (i := 1) (j := 1 * 1) (sy f0) f0 rfl rfl rfl rfl Tryd.underlying42 sz22 (by omega) (by omega) (ss_elem (t := rq) (k := 1) (sdat (n0 3 _ rfl) hx.ag).2 (by omega)).some_ rfl (by decide) gt) u0 (fun s0 c0 => ?_)
  refine dt 8 rfl p0 c0 (want_n rfl) (fun x hx => m_loadE (sy c0) c0 rfl rfl rfl 0 (1 * 1) (ss_elem (t := rq) (k := 1) (sdat (n0 3 _ rfl) hx.ag).2 (by omega)) rfl rfl Tryd.underlying22 rfl (by decide) gt) u0 (fun s0 f0 => ?_)
  have s0 := t0.data (dRow 4 ((nthS rq 1).1) ((nthS rq 1).2.2.length) ((nthS rq 1).2.1) (encNs ((nthS rq 1).2.2))) (all_at (t := rq) (k := 1) (t0.get (i := 4) rfl) (by omega))
  refine dtM 9 p0 f0 u0 (fun t0 c0 => ?_)
  refine dtN 10 p0 c0 u0 (fun t0 f0 => ?_)
  refine dtF 11 9 p0 f0 u0 Tryd.underlying61 sz42 (fun t0 c0 => ?_)
  refine dtC 12 8 p0 c0 u0 Tryd.underlying42 (fun t0 f0 => ?_)
  refine dt 13 rfl p0 f0 (want_n rfl) (fun x hx => m_index (i := 1) (j := 1 * 1) (sy f0) f0 rfl rfl rfl rfl Tryd.underlying42 sz22 (by omega) (by omega) (ss_elem (t := rp) (k := 1) (sdat (n0 1 _ rfl) hx.ag).2 (by omega)).some_ rfl (by decide) gt) u0 (fun t0 c0 => ?_)
  refine dt 14 rfl p0 c0 (want_n rfl) (fun x hx => m_loadE (sy c0) c0 rfl rfl rfl 0 (1 * 1) (ss_elem (t := rp) (k := 1) (sdat (n0 1 _ rfl) hx.ag).2 (by omega)) rfl rfl Tryd.underlying22 rfl (by decide) gt) u0 (fun t0 f0 => ?_)
  have t0 := s0.data (dRow 4 ((nthS rp 1).1) ((nthS rp 1).2.2.length) ((nthS rp 1).2.1) (encNs ((nthS rp 1).2.2))) (all_at (t := rp) (k := 1) (s0.get (i := 2) rfl) (by omega))
  refine d1 15 ?_
  have s0 := t0.data (dAll [(((nthS rp 1).1, (nthS rp 1).2.1, (nthS rp 1).2.2) : Sl)]) (all_cons (t0.get (i := 8) rfl) all_nil)
  refine mbs [(0, .tmp 33)] [.slice ((nthS rp 1).1) ((nthS rp 1).2.2.length) ((nthS rp 1).2.1)] (st_opV rfl (want_n rfl)) f0 s0 Tryd.underlying42 zi22 (fun t0 c0 u0 n0 o0 => ?_)
  have c0 := sWI o0 6 (pB 0 1 pn)
  refine ⟨c0, ?_⟩
  refine d1 16 ?_
  have c0 := o0.nf
  have o0 := own_cap (c0.res (i := 2) rfl)
  obtain ⟨t0, s0⟩ := c0.row_dataM (i := 2) rfl (j := 0) rfl (by decide)
  have c0 := t0.data (dRow 1 (some ⟨u0, 0, none⟩) 1 1 (encSs ([(((nthS rp 1).1, (nthS rp 1).2.1, (nthS rp 1).2.2) : Sl)]))) ⟨o0, s0⟩
  refine k_call (xs := [.tmp 21, .tmp 27, .tmp 34]) (st_op rfl (want_n rfl)) n0 rfl rfl rfl (by decide) ok61 (minst_calls _ _ c0.il _ _ _ _ _ _ ((nthS rq 1).2.2) _ _ ([(((nthS rp 1).1, (nthS rp 1).2.1, (nthS rp 1).2.2) : Sl)]) (c0.g 0) (c0.z 0) (imm_box (i := 0) rfl) (c0.g 7) (c0.g 10) (c0.g 9) (hsm := (by first | exact (hqm 1 (by omega)).1 | exact (hpm 2 (by omega)).1 | exact (hpm 1 (by omega)).1)) (hl := (by first | exact Nat.le_trans (hqm 1 (by omega)).2 (by decide) | exact Nat.le_trans (hpm 2 (by omega)).2 (by decide) | exact Nat.le_trans (hpm 1 (by omega)).2 (by decide))) (hls := (by intro x hx; simp only [lsts, List.map_cons, List.map_nil, List.mem_cons, List.not_mem_nil, or_false] at hx; first | (rw [hx]; first | exact (hpm 1 (by omega)).1 | exact (hqm 1 (by omega)).1) | (rcases hx with hx | hx <;> rw [hx] <;> first | assumption | exact (hqm 0 (by omega)).1))) (hlb := (by intro x hx; simp only [lsts, List.map_cons, List.map_nil, List.mem_cons, List.not_mem_nil, or_false] at hx; first | (rw [hx]; first | exact Nat.le_trans (hpm 1 (by omega)).2 (by decide) | exact Nat.le_trans (hqm 1 (by omega)).2 (by decide)) | (rcases hx with hx | hx <;> rw [hx] <;> first | omega | exact Nat.le_trans (hqm 0 (by omega)).2 (by decide)))) (hl0 := (by simp))) ?_
  rintro n0 s0 ⟨t0, o0, u0, rfl, f0, v0, x0, y0⟩
  have s0 := c0.callM (i := 0) rfl f0 v0
  have v0 := c0.dM 0 s0 x0
  refine ⟨_, rfl, fun s0 x0 => ?_⟩
  have s0 := sWI v0 6 (pB 0 1 pn)
  refine ⟨s0, ?_⟩
  refine dtA 17 p0 x0 s0 (fun c0 f0 => ?_)
  refine wpAnyH_done (by kernel_rfl) (q0 _ _ ?_) _
  refine x_then_n (k0 _ _ ?_)
  refine wp_ret ?_
  refine x_block_r ?_
  refine x_then_r ?_
  refine e_ret1 f0 rfl rfl rfl ?_
  refine ⟨t0, o0, u0, ?_, v0.fr, (by rw [show ((urR rn rx (lsts rp) (lsts rq)).2 : Int) = ((inQ (re) ((nthS rq 1).2.2) (lsts ([(((nthS rp 1).1, (nthS rp 1).2.1, (nthS rp 1).2.2) : Sl)])))) by (unfold urR urX; simp [he, m0, i0, lsts_nth, lsts_len, lsts_cons1, lsts_nil1, y0])]; exact v0.res (i := 0) rfl), v0.rx 11, (by unfold urR urX; simp [he, m0, i0, lsts_nth, lsts_len, lsts_cons1, lsts_nil1, y0])⟩
  exact congrArg Ending.returned (ret_s (by first | rfl | (simp; done)))
 ·
  have v0 := h0
  try simp only [Bool.or_eq_true, Bool.and_eq_true, Bool.not_eq_true', Bool.not_eq_false', decide_eq_true_eq, decide_eq_false_iff_not, Bool.or_eq_false_iff, Bool.and_eq_false_iff] at v0
  have v0 := j0.setb (d := 15) (b := false) rfl h0
  refine wp_cond_false (v0.ev rfl) ?_
  refine wsc (fun j0 y0 => ?_)
  refine m_loadN (i := 1) (vs := [.int .i64 (rn.K), .int .i64 (rx.K)]) sv v0 d0 rfl rfl rfl rfl rfl Tryd.underlying93 rfl sz93 (by decide) (fun j0 u0 => ?_)
  refine m_build (ps := [(0, .const (.int .i64 8)), (1, .const (.int .i64 7))]) (v := .agg #[.int .i64 8, .int .i64 7]) sv u0 rfl rfl rfl (fun _ => by kernel_rfl) (by decide) (fun j0 v0 => ?_)
  refine r_eqlP sv v0 rfl rfl rfl rfl (by decide) (fun j0 u0 => ?_)
  refine asg u0 (fun j0 v0 => ?_)
  refine wpList_nil (x_then_n (y0 _ _ ?_))
  rcases Bool.eq_false_or_eq_true (decide ((rn.K) = 8) && decide ((rx.K) = 7)) with y0 | y0
  ·
   have j0 := and_tl y0
   have u0 := of_decide_eq_true j0
   have hmkrn8 := many_8 u0
   have j0 := and_tr y0
   have o0 := of_decide_eq_true j0
   have hmkrx7 := many_7 o0
   have j0 := v0.setb (d := 36) (b := true) rfl y0
   refine wp_cond_true (j0.ev rfl) ?_
   refine wsc (fun t0 i0 => ?_)
   refine mv j0 (fun t0 m0 => ?_)
   refine r_nilCheck sv m0 rfl rfl rfl (by decide) (fun t0 j0 => ?_)
   refine m_field (j' := 10) sv j0 rfl rfl rfl Tryd.underlying61 rfl sz42 rfl rfl (by decide) (fun t0 m0 => ?_)
   refine m_load (i := 0) sv m0 d0 rfl rfl rfl rfl rfl Tryd.underlying42 rfl (by decide) (fun t0 j0 => ?_)
   refine m_index (i := 1) (j := 1 * 1) sv j0 rfl rfl rfl rfl Tryd.underlying42 sz22 (by omega) (by omega) (ss_elem (t := rq) (k := 1) (d0.row (i := 3) rfl).2 (by omega)).some_ rfl (by decide) (fun t0 m0 => ?_)
   refine m_loadE sv m0 rfl rfl rfl 0 (1 * 1) (ss_elem (t := rq) (k := 1) (d0.row (i := 3) rfl).2 (by omega)) rfl rfl Tryd.underlying22 rfl (by decide) (fun t0 j0 => ?_)
   have t0 := d0.data (dRow 4 ((nthS rq 1).1) ((nthS rq 1).2.2.length) ((nthS rq 1).2.1) (encNs ((nthS rq 1).2.2))) (all_at (t := rq) (k := 1) (d0.get (i := 4) rfl) (by omega))
   refine asg j0 (fun m0 f0 => ?_)
   refine wpList_nil (x_then_n (i0 _ _ ?_))
   refine wp_ret ?_
   refine x_block_r ?_
   refine x_then_r ?_
   refine e_ret1 f0 rfl rfl rfl ?_
   refine ⟨((nthS rq 1).1), ((nthS rq 1).2.1), ((nthS rq 1).2.2), ?_, t0.fr, (by rw [show ((urR rn rx (lsts rp) (lsts rq)).2 : Int) = (re) by (unfold urR urX; simp [he, u0, o0, nand_of h0, lsts_nth, lsts_len, lsts_cons1, lsts_nil1])]; exact t0.res (i := 0) rfl), t0.rx 6, (by unfold urR urX; simp [he, u0, o0, nand_of h0, lsts_nth, lsts_len, lsts_cons1, lsts_nil1])⟩
   exact congrArg Ending.returned (ret_s (by first | rfl | (simp; done)))
  ·
   have t0 := y0
   try simp only [Bool.or_eq_true, Bool.and_eq_true, Bool.not_eq_true', Bool.not_eq_false', decide_eq_true_eq, decide_eq_false_iff_not, Bool.or_eq_false_iff, Bool.and_eq_false_iff] at t0
   have t0 := v0.setb (d := 36) (b := false) rfl y0
   refine wp_cond_false (t0.ev rfl) ?_
   refine wsc (fun v0 o0 => ?_)
   refine m_loadN (i := 1) (vs := [.int .i64 (rn.K), .int .i64 (rx.K)]) sv t0 d0 rfl rfl rfl rfl rfl Tryd.underlying93 rfl sz93 (by decide) (fun v0 u0 => ?_)
   refine m_build (ps := [(0, .const (.int .i64 9)), (1, .const (.int .i64 7))]) (v := .agg #[.int .i64 9, .int .i64 7]) sv u0 rfl rfl rfl (fun _ => by kernel_rfl) (by decide) (fun v0 t0 => ?_)
   refine r_eqlP sv t0 rfl rfl rfl rfl (by decide) (fun v0 u0 => ?_)
   refine asg u0 (fun v0 t0 => ?_)
   refine wpList_nil (x_then_n (o0 _ _ ?_))
   rcases Bool.eq_false_or_eq_true (decide ((rn.K) = 9) && decide ((rx.K) = 7)) with o0 | o0
   ·
    have v0 := and_tl o0
    have u0 := of_decide_eq_true v0
    have hmkrn9 := many_9 u0
    have v0 := and_tr o0
    have f0 := of_decide_eq_true v0
    have hmkrx7 := many_7 f0
    have v0 := t0.setb (d := 46) (b := true) rfl o0
    refine wp_cond_true (v0.ev rfl) ?_
    refine wsc (fun i0 m0 => ?_)
    refine mv v0 (fun i0 j0 => ?_)
    refine r_nilCheck sv j0 rfl rfl rfl (by decide) (fun i0 v0 => ?_)
    refine m_field (j' := 10) sv v0 rfl rfl rfl Tryd.underlying61 rfl sz42 rfl rfl (by decide) (fun i0 j0 => ?_)
    refine m_load (i := 0) sv j0 d0 rfl rfl rfl rfl rfl Tryd.underlying42 rfl (by decide) (fun i0 v0 => ?_)
    refine m_index (i := 2) (j := 2 * 1) sv v0 rfl rfl rfl rfl Tryd.underlying42 sz22 (by omega) (by omega) (ss_elem (t := rq) (k := 2) (d0.row (i := 3) rfl).2 (by omega)).some_ rfl (by decide) (fun i0 j0 => ?_)
    refine m_loadE sv j0 rfl rfl rfl 0 (2 * 1) (ss_elem (t := rq) (k := 2) (d0.row (i := 3) rfl).2 (by omega)) rfl rfl Tryd.underlying22 rfl (by decide) (fun i0 v0 => ?_)
    have i0 := d0.data (dRow 4 ((nthS rq 2).1) ((nthS rq 2).2.2.length) ((nthS rq 2).2.1) (encNs ((nthS rq 2).2.2))) (all_at (t := rq) (k := 2) (d0.get (i := 4) rfl) (by omega))
    refine asg v0 (fun j0 k0 => ?_)
    refine wpList_nil (x_then_n (m0 _ _ ?_))
    refine wp_ret ?_
    refine x_block_r ?_
    refine x_then_r ?_
    refine e_ret1 k0 rfl rfl rfl ?_
    refine ⟨((nthS rq 2).1), ((nthS rq 2).2.1), ((nthS rq 2).2.2), ?_, i0.fr, (by rw [show ((urR rn rx (lsts rp) (lsts rq)).2 : Int) = (re) by (unfold urR urX; simp [he, u0, f0, nand_of h0, nand_of y0, lsts_nth, lsts_len, lsts_cons1, lsts_nil1])]; exact i0.res (i := 0) rfl), i0.rx 6, (by unfold urR urX; simp [he, u0, f0, nand_of h0, nand_of y0, lsts_nth, lsts_len, lsts_cons1, lsts_nil1])⟩
    exact congrArg Ending.returned (ret_s (by first | rfl | (simp; done)))
   ·
    have i0 := o0
    try simp only [Bool.or_eq_true, Bool.and_eq_true, Bool.not_eq_true', Bool.not_eq_false', decide_eq_true_eq, decide_eq_false_iff_not, Bool.or_eq_false_iff, Bool.and_eq_false_iff] at i0
    have i0 := t0.setb (d := 46) (b := false) rfl o0
    refine wp_cond_false (i0.ev rfl) ?_
    refine wsc (fun t0 f0 => ?_)
    refine m_loadN (i := 1) (vs := [.int .i64 (rn.K), .int .i64 (rx.K)]) sv i0 d0 rfl rfl rfl rfl rfl Tryd.underlying93 rfl sz93 (by decide) (fun t0 u0 => ?_)
    refine m_build (ps := [(0, .const (.int .i64 13)), (1, .const (.int .i64 11))]) (v := .agg #[.int .i64 13, .int .i64 11]) sv u0 rfl rfl rfl (fun _ => by kernel_rfl) (by decide) (fun t0 i0 => ?_)
    refine r_eqlP sv i0 rfl rfl rfl rfl (by decide) (fun t0 u0 => ?_)
    refine asg u0 (fun t0 i0 => ?_)
    refine wpList_nil (x_then_n (f0 _ _ ?_))
    rcases Bool.eq_false_or_eq_true (decide ((rn.K) = 13) && decide ((rx.K) = 11)) with f0 | f0
    ·
     have t0 := and_tl f0
     have u0 := of_decide_eq_true t0
     have hmkrn13 := many_13 u0
     have t0 := and_tr f0
     have k0 := of_decide_eq_true t0
     have t0 := i0.setb (d := 56) (b := true) rfl f0
     refine wp_cond_true (t0.ev rfl) ?_
     refine wsc (fun m0 j0 => ?_)
     refine mv t0 (fun m0 v0 => ?_)
     refine r_nilCheck sv v0 rfl rfl rfl (by decide) (fun m0 t0 => ?_)
     refine m_field (j' := 9) sv t0 rfl rfl rfl Tryd.underlying61 rfl sz42 rfl rfl (by decide) (fun m0 v0 => ?_)
     refine m_load (i := 0) sv v0 d0 rfl rfl rfl rfl rfl Tryd.underlying42 rfl (by decide) (fun m0 t0 => ?_)
     refine m_index (i := 1) (j := 1 * 1) sv t0 rfl rfl rfl rfl Tryd.underlying42 sz22 (by omega) (by omega) (ss_elem (t := rp) (k := 1) (d0.row (i := 1) rfl).2 (by omega)).some_ rfl (by decide) (fun m0 v0 => ?_)
     refine m_loadE sv v0 rfl rfl rfl 0 (1 * 1) (ss_elem (t := rp) (k := 1) (d0.row (i := 1) rfl).2 (by omega)) rfl rfl Tryd.underlying22 rfl (by decide) (fun m0 t0 => ?_)
     have m0 := d0.data (dRow 4 ((nthS rp 1).1) ((nthS rp 1).2.2.length) ((nthS rp 1).2.1) (encNs ((nthS rp 1).2.2))) (all_at (t := rp) (k := 1) (d0.get (i := 2) rfl) (by omega))
     refine asg t0 (fun v0 q0 => ?_)
     refine wpList_nil (x_then_n (j0 _ _ ?_))
     refine wp_ret ?_
     refine x_block_r ?_
     refine x_then_r ?_
     refine e_ret1 q0 rfl rfl rfl ?_
     refine ⟨((nthS rp 1).1), ((nthS rp 1).2.1), ((nthS rp 1).2.2), ?_, m0.fr, (by rw [show ((urR rn rx (lsts rp) (lsts rq)).2 : Int) = (re) by (unfold urR urX; simp [he, u0, k0, nand_of h0, nand_of y0, nand_of o0, lsts_nth, lsts_len, lsts_cons1, lsts_nil1])]; exact m0.res (i := 0) rfl), m0.rx 6, (by unfold urR urX; simp [he, u0, k0, nand_of h0, nand_of y0, nand_of o0, lsts_nth, lsts_len, lsts_cons1, lsts_nil1])⟩
     exact congrArg Ending.returned (ret_s (by first | rfl | (simp; done)))
    ·
     have m0 := f0
     try simp only [Bool.or_eq_true, Bool.and_eq_true, Bool.not_eq_true', Bool.not_eq_false', decide_eq_true_eq, decide_eq_false_iff_not, Bool.or_eq_false_iff, Bool.and_eq_false_iff] at m0
     have m0 := i0.setb (d := 56) (b := false) rfl f0
     refine wp_cond_false (m0.ev rfl) ?_
     refine wsc (fun i0 k0 => ?_)
     refine m_loadN (i := 1) (vs := [.int .i64 (rn.K), .int .i64 (rx.K)]) sv m0 d0 rfl rfl rfl rfl rfl Tryd.underlying93 rfl sz93 (by decide) (fun i0 u0 => ?_)
     refine m_build (ps := [(0, .const (.int .i64 13)), (1, .const (.int .i64 12))]) (v := .agg #[.int .i64 13, .int .i64 12]) sv u0 rfl rfl rfl (fun _ => by kernel_rfl) (by decide) (fun i0 m0 => ?_)
     refine r_eqlP sv m0 rfl rfl rfl rfl (by decide) (fun i0 u0 => ?_)
     refine asg u0 (fun i0 m0 => ?_)
     refine wpList_nil (x_then_n (k0 _ _ ?_))
     rcases Bool.eq_false_or_eq_true (decide ((rn.K) = 13) && decide ((rx.K) = 12)) with k0 | k0
     ·
      have i0 := and_tl k0
      have u0 := of_decide_eq_true i0
      have hmkrn13 := many_13 u0
      have i0 := and_tr k0
      have q0 := of_decide_eq_true i0
      have hmkrx12 := many_12 q0
      have i0 := m0.setb (d := 66) (b := true) rfl k0
      refine wp_cond_true (i0.ev rfl) ?_
      refine wp_seq_k (fun j0 v0 => ?_)
      obtain ⟨j0, t0, c0⟩ := d0.agree
      refine d_reg3 (n := 26) c0 6 (pB 0 1 pn) (pan_then (pan_block (pan_then pan_body))) (fun j0 s0 x0 p0 n0 z0 => ?_)
      refine dtM 0 s0 i0 z0 (fun p0 j0 => ?_)
      refine dtN 1 s0 j0 z0 (fun p0 i0 => ?_)
      refine dtF 2 0 s0 i0 z0 Tryd.underlying61 sz59 (fun p0 j0 => ?_)
      refine dtM 3 s0 j0 z0 (fun p0 i0 => ?_)
      refine dtN 4 s0 i0 z0 (fun p0 j0 => ?_)
      refine dtF 5 9 s0 j0 z0 Tryd.underlying61 sz42 (fun p0 i0 => ?_)
      refine dtC 6 8 s0 i0 z0 Tryd.underlying42 (fun p0 j0 => ?_)
      refine dt 7 rfl s0 j0 (want_n rfl) (fun x hx => m_index (i := 2) (j := 2 * 1) (sy j0) j0 rfl rfl rfl rfl Tryd.underlying42 sz22 (by omega) (by omega) (ss_elem (t := rp) (k := 2) (sdat (t0 1 _ rfl) hx.ag).2 (by omega)).some_ rfl (by decide) gt) z0 (fun p0 i0 => ?_)
      refine dt 8 rfl s0 i0 (want_n rfl) (fun x hx => m_loadE (sy i0) i0 rfl rfl rfl 0 (2 * 1) (ss_elem (t := rp) (k := 2) (sdat (t0 1 _ rfl) hx.ag).2 (by omega)) rfl rfl Tryd.underlying22 rfl (by decide) gt) z0 (fun p0 j0 => ?_)
      have p0 := n0.data (dRow 4 ((nthS rp 2).1) ((nthS rp 2).2.2.length) ((nthS rp 2).2.1) (encNs ((nthS rp 2).2.2))) (all_at (t := rp) (k := 2) (n0.get (i := 2) rfl) (by omega))
      refine dtM 9 s0 j0 z0 (fun n0 i0 => ?_)
      refine dtM 10 s0 i0 z0 (fun n0 j0 => ?_)
      refine dtN 11 s0 j0 z0 (fun n0 i0 => ?_)
      refine dtF 12 10 s0 i0 z0 Tryd.underlying61 sz42 (fun n0 j0 => ?_)
      refine dtC 13 9 s0 j0 z0 Tryd.underlying42 (fun n0 i0 => ?_)
      refine dt 14 rfl s0 i0 (want_n rfl) (fun x hx => m_index (i := 0) (j := 0 * 1) (sy i0) i0 rfl rfl rfl rfl Tryd.underlying42 sz22 (by omega) (by omega) (ss_elem (t := rq) (k := 0) (sdat (t0 3 _ rfl) hx.ag).2 (by omega)).some_ rfl (by decide) gt) z0 (fun n0 j0 => ?_)
      refine dt 15 rfl s0 j0 (want_n rfl) (fun x hx => m_loadE (sy j0) j0 rfl rfl rfl 0 (0 * 1) (ss_elem (t := rq) (k := 0) (sdat (t0 3 _ rfl) hx.ag).2 (by omega)) rfl rfl Tryd.underlying22 rfl (by decide) gt) z0 (fun n0 i0 => ?_)
      have n0 := p0.data (dRow 4 ((nthS rq 0).1) ((nthS rq 0).2.2.length) ((nthS rq 0).2.1) (encNs ((nthS rq 0).2.2))) (all_at (t := rq) (k := 0) (p0.get (i := 4) rfl) (by omega))
      refine dtM 17 s0 i0 z0 (fun p0 j0 => ?_)
      refine dtN 18 s0 j0 z0 (fun p0 i0 => ?_)
      refine dtF 19 10 s0 i0 z0 Tryd.underlying61 sz42 (fun p0 j0 => ?_)
      refine dtC 20 9 s0 j0 z0 Tryd.underlying42 (fun p0 i0 => ?_)
      refine dt 21 rfl s0 i0 (want_n rfl) (fun x hx => m_index (i := 0) (j := 0 * 1) (sy i0) i0 rfl rfl rfl rfl Tryd.underlying42 sz22 (by omega) (by omega) (ss_elem (t := rq) (k := 0) (sdat (t0 3 _ rfl) hx.ag).2 (by omega)).some_ rfl (by decide) gt) z0 (fun p0 j0 => ?_)
      refine dt 22 rfl s0 j0 (want_n rfl) (fun x hx => m_loadE (sy j0) j0 rfl rfl rfl 0 (0 * 1) (ss_elem (t := rq) (k := 0) (sdat (t0 3 _ rfl) hx.ag).2 (by omega)) rfl rfl Tryd.underlying22 rfl (by decide) gt) z0 (fun p0 i0 => ?_)
      have p0 := n0.data (dRow 4 ((nthS rq 0).1) ((nthS rq 0).2.2.length) ((nthS rq 0).2.1) (encNs ((nthS rq 0).2.2))) (all_at (t := rq) (k := 0) (n0.get (i := 4) rfl) (by omega))
      refine d1 16 ?_
      have n0 := p0.nf
      refine k_call (xs := [.tmp 79, .tmp 85]) (st_op rfl (want_n rfl)) i0 rfl rfl rfl (by decide) ok62 (uagain_calls _ _ n0.il _ _ rn rx _ _ _ _ _ _ _ _ ((nthS rq 0).2.2) (n0.z 0) (imm_box (i := 0) rfl) (n0.g 1) (n0.g 2) (n0.g 3) (n0.g 4) (n0.g 8) (hp4 := hp4) (hq4 := hq4) (hps := hps) (hqs := hqs) (h0p := (by omega)) (hsn := hsn) (hst := (hqm 0 (by omega)).1) (hlt := (hqm 0 (by omega)).2)) ?_
      rintro i0 p0 ⟨j0, z0, t0, rfl, c0, b1, c1, f1⟩
      have p0 := n0.callM (i := 0) rfl c0 b1
      have b1 := n0.dM 0 p0 c1
      refine ⟨_, rfl, fun p0 c1 => ?_⟩
      obtain ⟨hgl, hgs⟩ := again_sz (t := (nthS rq 0).2.2) f1 hps (by assumption) (hqm 0 (by omega)).1 (hqm 0 (by omega)).2 hp4
      have p0 := sWI b1 6 (pB 0 1 pn)
      refine ⟨p0, ?_⟩
      refine d1 23 ?_
      have p0 := b1.data (dAll [((j0, z0, t0) : Sl), (((nthS rq 0).1, (nthS rq 0).2.1, (nthS rq 0).2.2) : Sl)]) (all_cons (b1.get (i := 10) rfl) (all_cons (b1.get (i := 9) rfl) all_nil))
      refine mbs [(0, .tmp 86), (1, .tmp 92)] [.slice j0 t0.length z0, .slice ((nthS rq 0).1) ((nthS rq 0).2.2.length) ((nthS rq 0).2.1)] (st_opV rfl (want_n rfl)) c1 p0 Tryd.underlying42 zi22 (fun b1 n0 c0 i0 h1 => ?_)
      have n0 := sWI h1 6 (pB 0 1 pn)
      refine ⟨n0, ?_⟩
      refine d1 24 ?_
      have n0 := h1.nf
      have h1 := own_cap (n0.res (i := 2) rfl)
      obtain ⟨b1, p0⟩ := n0.row_dataM (i := 2) rfl (j := 0) rfl (by decide)
      have n0 := b1.data (dRow 1 (some ⟨c0, 0, none⟩) 2 2 (encSs ([((j0, z0, t0) : Sl), (((nthS rq 0).1, (nthS rq 0).2.1, (nthS rq 0).2.2) : Sl)]))) ⟨h1, p0⟩
      refine k_call (xs := [.tmp 72, .tmp 78, .tmp 93]) (st_op rfl (want_n rfl)) i0 rfl rfl rfl (by decide) ok61 (minst_calls _ _ n0.il _ _ _ _ _ _ ((nthS rp 2).2.2) _ _ ([((j0, z0, t0) : Sl), (((nthS rq 0).1, (nthS rq 0).2.1, (nthS rq 0).2.2) : Sl)]) (n0.g 0) (n0.z 0) (imm_box (i := 0) rfl) (n0.g 7) (n0.g 12) (n0.g 11) (hsm := (by first | exact (hqm 1 (by omega)).1 | exact (hpm 2 (by omega)).1 | exact (hpm 1 (by omega)).1)) (hl := (by first | exact Nat.le_trans (hqm 1 (by omega)).2 (by decide) | exact Nat.le_trans (hpm 2 (by omega)).2 (by decide) | exact Nat.le_trans (hpm 1 (by omega)).2 (by decide))) (hls := (by intro x hx; simp only [lsts, List.map_cons, List.map_nil, List.mem_cons, List.not_mem_nil, or_false] at hx; first | (rw [hx]; first | exact (hpm 1 (by omega)).1 | exact (hqm 1 (by omega)).1) | (rcases hx with hx | hx <;> rw [hx] <;> first | assumption | exact (hqm 0 (by omega)).1))) (hlb := (by intro x hx; simp only [lsts, List.map_cons, List.map_nil, List.mem_cons, List.not_mem_nil, or_false] at hx; first | (rw [hx]; first | exact Nat.le_trans (hpm 1 (by omega)).2 (by decide) | exact Nat.le_trans (hqm 1 (by omega)).2 (by decide)) | (rcases hx with hx | hx <;> rw [hx] <;> first | omega | exact Nat.le_trans (hqm 0 (by omega)).2 (by decide)))) (hl0 := (by simp))) ?_
      rintro i0 p0 ⟨b1, h1, c0, rfl, c1, i1, j1, k1⟩
      have p0 := n0.callM (i := 0) rfl c1 i1
      have i1 := n0.dM 0 p0 j1
      refine ⟨_, rfl, fun p0 j1 => ?_⟩
      have p0 := sWI i1 6 (pB 0 1 pn)
      refine ⟨p0, ?_⟩
      refine dtA 25 s0 j1 p0 (fun n0 c1 => ?_)
      refine wpAnyH_done (by kernel_rfl) (x0 _ _ ?_) _
      refine x_then_n (v0 _ _ ?_)
      refine wp_ret ?_
      refine x_block_r ?_
      refine x_then_r ?_
      refine e_ret1 c1 rfl rfl rfl ?_
      refine ⟨b1, h1, c0, ?_, i1.fr, (by rw [show ((urR rn rx (lsts rp) (lsts rq)).2 : Int) = ((inQ ((re)) ((nthS rp 2).2.2) (lsts ([((j0, z0, t0) : Sl), (((nthS rq 0).1, (nthS rq 0).2.1, (nthS rq 0).2.2) : Sl)])))) by (unfold urR urX; simp [he, u0, q0, nand_of h0, nand_of y0, nand_of o0, nand_of f0, lsts_nth, lsts_len, lsts_cons1, lsts_nil1, f1, k1])]; exact i1.res (i := 0) rfl), i1.rx 13, (by unfold urR urX; simp [he, u0, q0, nand_of h0, nand_of y0, nand_of o0, nand_of f0, lsts_nth, lsts_len, lsts_cons1, lsts_nil1, f1, k1])⟩
      exact congrArg Ending.returned (ret_s (by first | rfl | (simp; done)))
     ·
      have i1 := k0
      try simp only [Bool.or_eq_true, Bool.and_eq_true, Bool.not_eq_true', Bool.not_eq_false', decide_eq_true_eq, decide_eq_false_iff_not, Bool.or_eq_false_iff, Bool.and_eq_false_iff] at i1
      have i1 := m0.setb (d := 66) (b := false) rfl k0
      refine wp_cond_false (i1.ev rfl) ?_
      refine wsc (fun m0 k1 => ?_)
      refine m_loadN (i := 1) (vs := [.int .i64 (rn.K), .int .i64 (rx.K)]) sv i1 d0 rfl rfl rfl rfl rfl Tryd.underlying93 rfl sz93 (by decide) (fun m0 c0 => ?_)
      refine m_build (ps := [(0, .const (.int .i64 24)), (1, .const (.int .i64 23))]) (v := .agg #[.int .i64 24, .int .i64 23]) sv c0 rfl rfl rfl (fun _ => by kernel_rfl) (by decide) (fun m0 i1 => ?_)
      refine r_eqlP sv i1 rfl rfl rfl rfl (by decide) (fun m0 c0 => ?_)
      refine asg c0 (fun m0 i1 => ?_)
      refine wpList_nil (x_then_n (k1 _ _ ?_))
      rcases Bool.eq_false_or_eq_true (decide ((rn.K) = 24) && decide ((rx.K) = 23)) with k1 | k1
      ·
       have m0 := and_tl k1
       have c0 := of_decide_eq_true m0
       have hmkrn24 := many_24 c0
       have m0 := and_tr k1
       have h1 := of_decide_eq_true m0
       have hmkrx23 := many_23 h1
       have m0 := i1.setb (d := 95) (b := true) rfl k1
       refine wp_cond_true (m0.ev rfl) ?_
       refine wp_seq_k (fun b1 f1 => ?_)
       obtain ⟨b1, t0, z0⟩ := d0.agree
       refine d_reg3 (n := 18) z0 6 (pB 0 1 pn) (pan_then (pan_block (pan_then pan_body))) (fun b1 j0 q0 u0 c1 v0 => ?_)
       refine dtM 0 j0 m0 v0 (fun u0 b1 => ?_)
       refine dtN 1 j0 b1 v0 (fun u0 m0 => ?_)
       refine dtF 2 0 j0 m0 v0 Tryd.underlying61 sz59 (fun u0 b1 => ?_)
       refine dtM 3 j0 b1 v0 (fun u0 m0 => ?_)
       refine dtN 4 j0 m0 v0 (fun u0 b1 => ?_)
       refine dtF 5 9 j0 b1 v0 Tryd.underlying61 sz42 (fun u0 m0 => ?_)
       refine dtC 6 8 j0 m0 v0 Tryd.underlying42 (fun u0 b1 => ?_)
       refine dt 7 rfl j0 b1 (want_n rfl) (fun x hx => m_index (i := 1) (j := 1 * 1) (sy b1) b1 rfl rfl rfl rfl Tryd.underlying42 sz22 (by omega) (by omega) (ss_elem (t := rp) (k := 1) (sdat (t0 1 _ rfl) hx.ag).2 (by omega)).some_ rfl (by decide) gt) v0 (fun u0 m0 => ?_)
       refine dt 8 rfl j0 m0 (want_n rfl) (fun x hx => m_loadE (sy m0) m0 rfl rfl rfl 0 (1 * 1) (ss_elem (t := rp) (k := 1) (sdat (t0 1 _ rfl) hx.ag).2 (by omega)) rfl rfl Tryd.underlying22 rfl (by decide) gt) v0 (fun u0 b1 => ?_)
       have u0 := c1.data (dRow 4 ((nthS rp 1).1) ((nthS rp 1).2.2.length) ((nthS rp 1).2.1) (encNs ((nthS rp 1).2.2))) (all_at (t := rp) (k := 1) (c1.get (i := 2) rfl) (by omega))
       refine dtM 9 j0 b1 v0 (fun c1 m0 => ?_)
       refine dtN 10 j0 m0 v0 (fun c1 b1 => ?_)
       refine dtF 11 10 j0 b1 v0 Tryd.underlying61 sz42 (fun c1 m0 => ?_)
       refine dtC 12 9 j0 m0 v0 Tryd.underlying42 (fun c1 b1 => ?_)
       refine dt 13 rfl j0 b1 (want_n rfl) (fun x hx => m_index (i := 1) (j := 1 * 1) (sy b1) b1 rfl rfl rfl rfl Tryd.underlying42 sz22 (by omega) (by omega) (ss_elem (t := rq) (k := 1) (sdat (t0 3 _ rfl) hx.ag).2 (by omega)).some_ rfl (by decide) gt) v0 (fun c1 m0 => ?_)
       refine dt 14 rfl j0 m0 (want_n rfl) (fun x hx => m_loadE (sy m0) m0 rfl rfl rfl 0 (1 * 1) (ss_elem (t := rq) (k := 1) (sdat (t0 3 _ rfl) hx.ag).2 (by omega)) rfl rfl Tryd.underlying22 rfl (by decide) gt) v0 (fun c1 b1 => ?_)
       have c1 := u0.data (dRow 4 ((nthS rq 1).1) ((nthS rq 1).2.2.length) ((nthS rq 1).2.1) (encNs ((nthS rq 1).2.2))) (all_at (t := rq) (k := 1) (u0.get (i := 4) rfl) (by omega))
       refine d1 15 ?_
       have u0 := c1.data (dAll [(((nthS rq 1).1, (nthS rq 1).2.1, (nthS rq 1).2.2) : Sl)]) (all_cons (c1.get (i := 8) rfl) all_nil)
       refine mbs [(0, .tmp 113)] [.slice ((nthS rq 1).1) ((nthS rq 1).2.2.length) ((nthS rq 1).2.1)] (st_opV rfl (want_n rfl)) b1 u0 Tryd.underlying42 zi22 (fun c1 m0 v0 t0 z0 => ?_)
       have m0 := sWI z0 6 (pB 0 1 pn)
       refine ⟨m0, ?_⟩
       refine d1 16 ?_
       have m0 := z0.nf
       have z0 := own_cap (m0.res (i := 2) rfl)
       obtain ⟨c1, u0⟩ := m0.row_dataM (i := 2) rfl (j := 0) rfl (by decide)
       have m0 := c1.data (dRow 1 (some ⟨v0, 0, none⟩) 1 1 (encSs ([(((nthS rq 1).1, (nthS rq 1).2.1, (nthS rq 1).2.2) : Sl)]))) ⟨z0, u0⟩
       refine k_call (xs := [.tmp 101, .tmp 107, .tmp 114]) (st_op rfl (want_n rfl)) t0 rfl rfl rfl (by decide) ok61 (minst_calls _ _ m0.il _ _ _ _ _ _ ((nthS rp 1).2.2) _ _ ([(((nthS rq 1).1, (nthS rq 1).2.1, (nthS rq 1).2.2) : Sl)]) (m0.g 0) (m0.z 0) (imm_box (i := 0) rfl) (m0.g 7) (m0.g 10) (m0.g 9) (hsm := (by first | exact (hqm 1 (by omega)).1 | exact (hpm 2 (by omega)).1 | exact (hpm 1 (by omega)).1)) (hl := (by first | exact Nat.le_trans (hqm 1 (by omega)).2 (by decide) | exact Nat.le_trans (hpm 2 (by omega)).2 (by decide) | exact Nat.le_trans (hpm 1 (by omega)).2 (by decide))) (hls := (by intro x hx; simp only [lsts, List.map_cons, List.map_nil, List.mem_cons, List.not_mem_nil, or_false] at hx; first | (rw [hx]; first | exact (hpm 1 (by omega)).1 | exact (hqm 1 (by omega)).1) | (rcases hx with hx | hx <;> rw [hx] <;> first | assumption | exact (hqm 0 (by omega)).1))) (hlb := (by intro x hx; simp only [lsts, List.map_cons, List.map_nil, List.mem_cons, List.not_mem_nil, or_false] at hx; first | (rw [hx]; first | exact Nat.le_trans (hpm 1 (by omega)).2 (by decide) | exact Nat.le_trans (hqm 1 (by omega)).2 (by decide)) | (rcases hx with hx | hx <;> rw [hx] <;> first | omega | exact Nat.le_trans (hqm 0 (by omega)).2 (by decide)))) (hl0 := (by simp))) ?_
       rintro t0 u0 ⟨c1, z0, v0, rfl, b1, x0, n0, p0⟩
       have u0 := m0.callM (i := 0) rfl b1 x0
       have x0 := m0.dM 0 u0 n0
       refine ⟨_, rfl, fun u0 n0 => ?_⟩
       have u0 := sWI x0 6 (pB 0 1 pn)
       refine ⟨u0, ?_⟩
       refine dtA 17 j0 n0 u0 (fun m0 b1 => ?_)
       refine wpAnyH_done (by kernel_rfl) (q0 _ _ ?_) _
       refine x_then_n (f1 _ _ ?_)
       refine wp_ret ?_
       refine x_block_r ?_
       refine x_then_r ?_
       refine e_ret1 b1 rfl rfl rfl ?_
       refine ⟨c1, z0, v0, ?_, x0.fr, (by rw [show ((urR rn rx (lsts rp) (lsts rq)).2 : Int) = ((inQ (re) ((nthS rp 1).2.2) (lsts ([(((nthS rq 1).1, (nthS rq 1).2.1, (nthS rq 1).2.2) : Sl)])))) by (unfold urR urX; simp [he, c0, h1, nand_of h0, nand_of y0, nand_of o0, nand_of f0, nand_of k0, lsts_nth, lsts_len, lsts_cons1, lsts_nil1, p0])]; exact x0.res (i := 0) rfl), x0.rx 11, (by unfold urR urX; simp [he, c0, h1, nand_of h0, nand_of y0, nand_of o0, nand_of f0, nand_of k0, lsts_nth, lsts_len, lsts_cons1, lsts_nil1, p0])⟩
       exact congrArg Ending.returned (ret_s (by first | rfl | (simp; done)))
      ·
       have x0 := k1
       try simp only [Bool.or_eq_true, Bool.and_eq_true, Bool.not_eq_true', Bool.not_eq_false', decide_eq_true_eq, decide_eq_false_iff_not, Bool.or_eq_false_iff, Bool.and_eq_false_iff] at x0
       have x0 := i1.setb (d := 95) (b := false) rfl k1
       refine wp_cond_false (x0.ev rfl) ?_
       refine wsc (fun i1 p0 => ?_)
       refine m_loadN (i := 1) (vs := [.int .i64 (rn.K), .int .i64 (rx.K)]) sv x0 d0 rfl rfl rfl rfl rfl Tryd.underlying93 rfl sz93 (by decide) (fun i1 v0 => ?_)
       refine m_build (ps := [(0, .const (.int .i64 27)), (1, .const (.int .i64 26))]) (v := .agg #[.int .i64 27, .int .i64 26]) sv v0 rfl rfl rfl (fun _ => by kernel_rfl) (by decide) (fun i1 x0 => ?_)
       refine r_eqlP sv x0 rfl rfl rfl rfl (by decide) (fun i1 v0 => ?_)
       refine asg v0 (fun i1 x0 => ?_)
       refine wpList_nil (x_then_n (p0 _ _ ?_))
       have p0 : (decide ((rn.K) = 27) && decide ((rx.K) = 26)) = false := by simp [h27]
       have i1 := p0
       try simp only [Bool.or_eq_true, Bool.and_eq_true, Bool.not_eq_true', Bool.not_eq_false', decide_eq_true_eq, decide_eq_false_iff_not, Bool.or_eq_false_iff, Bool.and_eq_false_iff] at i1
       have i1 := x0.setb (d := 116) (b := false) rfl p0
       refine wp_cond_false (i1.ev rfl) ?_
       refine wp_skip ?_
       refine x_block_n ?_
       refine x_then_n (b0 _ _ ?_)
       refine wsc (fun b0 x0 => ?_)
       refine mv i1 (fun b0 v0 => ?_)
       refine r_nilCheck sv v0 rfl rfl rfl (by decide) (fun b0 i1 => ?_)
       refine m_field (j' := 0) sv i1 rfl rfl rfl Tryd.underlying61 rfl sz59 rfl rfl (by decide) (fun b0 v0 => ?_)
       have b0 := d0.nf
       refine k_call (xs := [.tmp 124]) se v0 rfl rfl rfl (by decide) ok64 (stuck_calls _ _ b0.il _ _ _ _ (b0.z 0) (imm_box (i := 0) rfl)) ?_
       rintro v0 d0 ⟨i1, z0, rfl, c1, h1, c0⟩
       have d0 := b0.callM (i := 0) rfl c1 h1
       have h1 := b0.dM 0 d0 c0
       refine ⟨_, rfl, fun d0 c0 => ?_⟩
       refine asg c0 (fun d0 b0 => ?_)
       refine wpList_nil (x_then_n (x0 _ _ ?_))
       refine wp_ret ?_
       refine e_ret1 b0 rfl rfl rfl ?_
       refine ⟨i1, z0, ([] : List Nd), ?_, h1.fr, (by rw [show ((urR rn rx (lsts rp) (lsts rq)).2 : Int) = ((if (re) = 0 then 120 else (re))) by (unfold urR urX; simp [he, nand_of h0, nand_of y0, nand_of o0, nand_of f0, nand_of k0, nand_of k1, nand_of p0, lsts_nth, lsts_len, lsts_cons1, lsts_nil1])]; exact h1.res (i := 0) rfl), h1.rx 6, (by unfold urR urX; simp [he, nand_of h0, nand_of y0, nand_of o0, nand_of f0, nand_of k0, nand_of k1, nand_of p0, lsts_nth, lsts_len, lsts_cons1, lsts_nil1])⟩
       exact congrArg Ending.returned (ret_s (by first | rfl | (simp; done)))
end Go.Proofs.YtcfponnkfhkbdaaDoor
/- Redexes of pairs, of functions, of numbers. -/
namespace Go.Proofs.YtcfponnkfhkbdaaDoor
set_option linter.unusedSimpArgs false
set_option linter.unusedVariables false
def ofL (k : Nat) (p : List (List Nd)) : List Nd := p.flatten ++ [⟨(k : Int), 0, 0, ⟨#[]⟩⟩]
theorem ofL_ok {k : Nat} {p : List (List Nd)} {b : Nat} (hk : k < 30 ∧ k ≠ 1 ∧ k ≠ 25 ∧ k ≠ 26 ∧ k ≠ 27) (hm : (shp k).b.length = p.length) (hp : ∀ x ∈ p, chk x = 0 ∧ dpL x ≤ b) (hb : b < 60) (hl : p.flatten.length < 4000) :
  chk (ofL k p) = 0 ∧ dpL (ofL k p) ≤ b + 1 ∧ ptL (ofL k p) = p ∧ nth (ofL k p) ((ofL k p).length - 1) = ⟨(k : Int), 0, 0, ⟨#[]⟩⟩ ∧ (ofL k p).length = p.flatten.length + 1 := by
 obtain ⟨hr, hn⟩ := right_lit hk
 have hp' : ∀ x ∈ p, measB x = true := fun x hx => meas_chk (hp x hx).1
 obtain ⟨h1, _, h3, h4⟩ := built hr (hn.trans hm) hp'
 have h5 : dpL (ofL k p) ≤ b + 1 := built_deep hr (hn.trans hm) hp' (fun x hx => (hp x hx).2)
 have hl' : (ofL k p).length = p.flatten.length + 1 := by simp [ofL]
 exact ⟨chk_of (t := ofL k p) h1 (by omega) (by omega), h5, h3, h4, hl'⟩
def PU (x : List Nd) : Prop := chk x = 0 ∧ dpL x ≤ 50
section
variable {s a b : List Nd} (hs : PU s) (ha : PU a) (hb : PU b) (hls : s.length ≤ 120) (hla : a.length ≤ 120) (hlb : b.length ≤ 120)
include hs ha hb hls hla hlb
end
theorem small_ok : chk [⟨10, 0, 0, ⟨#[]⟩⟩] = 0 ∧ chk [⟨11, 0, 0, ⟨#[]⟩⟩] = 0 ∧ chk [⟨0, 0, 0, ⟨#[]⟩⟩, ⟨12, 0, 0, ⟨#[]⟩⟩] = 0 := by decide
end Go.Proofs.YtcfponnkfhkbdaaDoor
/- Slices of slices of slices of nodes; calls walked in place; loops over functions that hand over nothing. -/
namespace Go.Proofs.YtcfponnkfhkbdaaDoor
set_option linter.unusedSimpArgs false
set_option linter.unusedVariables false
open Go Go.RowKit
abbrev Tl := Option Addr × Nat × List Sl
def tlz : Tl := (none, 0, [])
def encT (s : Tl) : List Value := [.slice s.1 s.2.2.length s.2.1]
def encTs (l : List Tl) : List Value := l.flatMap encT
def nthT (t : List Tl) (k : Nat) : Tl := t.getD k tlz
theorem encT_len (s : Tl) : (encT s).length = 1 := rfl
theorem ts_elem {w : World} {I : Nat → Prop} {A : Option Addr} {k : Nat} {t : List Tl} (h : RowI w I 1 A t.length (encTs t)) (hk : k < t.length) : ElemAt w A (k * 1) (encT (nthT t k)) := by
 have := h.elem hk
 rwa [show (encTs t) = t.flatMap encT from rfl, enc_at encT_len t k hk tlz] at this
def dAllT (t : List Tl) : Dat := ⟨fun w I => ∀ s ∈ t, (dRow 1 s.1 s.2.2.length s.2.1 (encSs s.2.2)).φ w I ∧ (dAll s.2.2).φ w I, fun _ _ _ _ hs h hk s hm => ⟨(dRow _ _ _ _ _).mono _ _ _ _ hs (h s hm).1 hk, (dAll _).mono _ _ _ _ hs (h s hm).2 hk⟩⟩
theorem nthT_mem {t : List Tl} {k : Nat} (h : k < t.length) : nthT t k ∈ t := by
 have : nthT t k = t[k] := by simp [nthT, h]
 rw [this]
 exact List.getElem_mem h
theorem allT_at {w : World} {I : Nat → Prop} {t : List Tl} {k : Nat} (h : (dAllT t).φ w I) (hk : k < t.length) : (dRow 1 (nthT t k).1 (nthT t k).2.2.length (nthT t k).2.1 (encSs (nthT t k).2.2)).φ w I ∧ (dAll (nthT t k).2.2).φ w I := h _ (nthT_mem hk)
theorem allT_nil {w : World} {I : Nat → Prop} : (dAllT []).φ w I := fun _ h => by cases h
theorem allT_cons {w : World} {I : Nat → Prop} {A : Option Addr} {c : Nat} {L : List Sl} {t : List Tl} (h : (dRow 1 A L.length c (encSs L)).φ w I) (h2 : (dAll L).φ w I) (ht : (dAllT t).φ w I) : (dAllT ((A, c, L) :: t)).φ w I := fun s hs => by
 rcases List.mem_cons.1 hs with rfl | hs
 · exact ⟨h, h2⟩
 · exact ht s hs
def lstsT (t : List Tl) : List (List (List Nd)) := t.map fun s => lsts s.2.2
def nthLL (c : List (List (List Nd))) (k : Nat) : List (List Nd) := c.getD k []
theorem lstsT_len (t : List Tl) : (lstsT t).length = t.length := by simp [lstsT]
theorem lstsT_nth (t : List Tl) (k : Nat) : lsts (nthT t k).2.2 = nthLL (lstsT t) k := by
 unfold nthT nthLL lstsT
 by_cases h : k < t.length
 · simp [h]
 · simp [List.getD_eq_getElem?_getD, List.getElem?_eq_none (by omega : t.length ≤ k), tlz, lsts]
section
variable {P : Program} {X : Prop} {Next : Act → World → Prop} {o : Oper} {a : Act} {w : World} {N : Nat} {l : List (Nat × Value)} {d : Nat}
theorem k_inl {f : FuncId} {xs : List Operand} {ts : Array TypeId} {vs : List Value} (hs : Ste P X Next o a w) (hR : Reg a N l) (hd : o.dst = some d)
  (ho : o.op = .call { callee := .value (.func f), args := xs.toArray, argTypes := ts }) (hx : evs l xs = some vs) (hdN : d < N) (hf : FOK P f)
  (hc : Calls P f vs.toArray w (fun e w' => ∃ v, e = .returned v ∧ ∀ a', Reg a' N ((d, v) :: l) → Next a' w')) : X := k_call hs hR hd ho hx hdN hf hc (fun _ _ h => h)
theorem k_inlV {g : Operand} {f : FuncId} {cs xv : List Value} {xs : List Operand} {ts : Array TypeId} {vs : List Value} (hs : Ste P X Next o a w) (hR : Reg a N l) (hd : o.dst = some d)
  (ho : o.op = .call { callee := .value g, args := xs.toArray, argTypes := ts }) (hg : ev l g = some (.func (.func f) #[] cs.toArray)) (hx : evs l xs = some vs) (hdN : d < N) (hf : FOK P f) (hv : vs ++ cs = xv)
  (hc : Calls P f xv.toArray w (fun e w' => ∃ v, e = .returned v ∧ ∀ a', Reg a' N ((d, v) :: l) → Next a' w')) : X :=
 k_callV (cs := cs.toArray) hs hR hd ho hg hx hdN hf (by subst hv; rw [List.append_toArray]; exact hc) (fun _ _ h => h)
end
section
variable {w0 w W : World} {Z M : Nat → Prop} {m : List Res} {ds : List Dat}
theorem old_d {d : Dat} (hb : Below w.heap.size w W) (h : d.φ w (imm Z w0 m w)) : d.φ W (fun k => k < W.heap.size) :=
 d.mono _ _ _ _ hb.size h fun k hk => ⟨Nat.lt_of_lt_of_le hk.1 hb.size, hb.block k hk.1⟩
theorem old_b {g : Nat} {t : TypeId} {cs : List Value} (hb : Below w.heap.size w W) (h : (Res.box g t cs).holds w) : (dBox g cs).φ W (fun k => k < W.heap.size) := by
 have hg : g < w.heap.size := (Array.getElem?_eq_some_iff.1 h).1
 have h' : (Res.box g t cs).holds W := (hb.block g hg).trans h
 exact ⟨Nat.lt_of_lt_of_le hg hb.size, box_cells h'⟩
theorem w_range0 {P : Program} {g : Operand} {ps : Array Tmp} {assign body : Code} {Q : Exit → Act → World → Prop} {a : Act} {gf : Nat} {lb : Array Value}
  (hg : a.eval g = .func (.func gf) #[] lb) (hok : FOK P gf) (hS : St w0 Z M w m ds)
  (hcall : ∀ (l : Nat) (W : World), Below w.heap.size w W → Calls P gf (#[.func (.yield l) #[] #[]] ++ lb) W fun e W' => (∃ v, e = .returned v) ∧ Fr none_ W W')
  (hdone : ∀ (D : Nat) (W : World), St w0 Z M W m (ds ++ [dMark w0.heap.size D]) → Q .normal { a with defers := mark D :: a.defers } W) :
  (Code.rangeFunc g ps assign body).wp P Q a w := by
 refine (wpIn_wide (n := 0)).1 (wpIn_rangeFunc ?_)
 intro fn _
 obtain ⟨rec, hrec⟩ : ∃ rec : LoopState → Option Code → Loop, rec = fun st pe => { state := st, pending := pe, fn, tmps := a.tmps, params := ps, assign, body, defers := w.heap.size } := ⟨_, rfl⟩
 obtain ⟨W1, hW1⟩ : ∃ W1, (w.alloc (.deferred (some []))).alloc (.loop (rec .ready none)) = W1 := ⟨_, rfl⟩
 have hsz1 : W1.heap.size = w.heap.size + 2 := by rw [← hW1]; simp
 have hL1 : W1.heap[w.heap.size + 1]? = some (.loop (rec .ready none)) := by
  rw [← hW1]; have := World.alloc_heap_new (w.alloc (.deferred (some []))) (.loop (rec .ready none)); rwa [World.size_alloc] at this
 have hK1 : W1.heap[w.heap.size]? = some (.deferred (some [])) := by
  rw [← hW1]; exact (Below.heap_alloc _ _ _ (by simp)).trans (World.alloc_heap_new w _)
 have hb1 : Below w.heap.size w W1 := by
  rw [← hW1]; exact (((Below.refl _ w).alloc (Nat.le_refl _) _).alloc (by simp) _)
 refine ⟨w.heap.size + 1, [mark w.heap.size], W1, { target := .fn (.func gf) lb, args := #[.func (.yield (w.heap.size + 1)) #[] #[]] }, W1, gf,
  #[.func (.yield (w.heap.size + 1)) #[] #[]] ++ lb, W1, ?_, ?_, (fun _ _ => trivial), ?_, (fun h => by cases h), ?_⟩
 · rw [← hW1, hrec]; exact run_enterLoop_outer _ _ _ _ _
 ·
  simp only [resolve, hg]
  simp [go_sem]
 · simp [invoke, go_sem, hok _ _]
 ·
  refine (callsIn_wide.2 (hcall (w.heap.size + 1) W1 hb1)).mono ?_
  rintro e W' ⟨⟨v, rfl⟩, hf⟩
  have hl : W'.heap[w.heap.size + 1]? = some (.loop (rec .ready none)) := (hf.old _ (by omega) (fun h => h)).trans hL1
  have hk : W'.heap[w.heap.size]? = some (.deferred (some [])) := (hf.old _ (by omega) (fun h => h)).trans hK1
  have he := run_endLoop (P := P) hl (by rw [hrec]; simp)
  rw [hrec] at he
  refine ⟨none, _, he, hdone w.heap.size _ ?_⟩
  have hput : ∀ k, k ≠ w.heap.size + 1 → (W'.putObj (w.heap.size + 1) (.loop { rec .ready none with state := .exhausted })).heap[k]? = W'.heap[k]? := fun k h => World.putObj_heap_other h
  have hold : ∀ k, k < w.heap.size → (W'.putObj (w.heap.size + 1) (.loop { rec .ready none with state := .exhausted })).heap[k]? = w.heap[k]? := fun k hk =>
   (hput k (by omega)).trans ((hf.old k (by omega) (fun h => h)).trans (hb1.block k hk))
  have hS' : St w0 Z M (W'.putObj (w.heap.size + 1) (.loop { rec .ready none with state := .exhausted })) m ds := by
   have := hf.size
   exact hS.step (hf.os.trans hb1.os) (hf.tape.trans hb1.tape) (hf.output.trans hb1.output) (by rw [World.putObj_size]; omega) (fun k hk _ => hold k hk)
    (fun r hr => Res.holds_keep (hS.hold r hr) (fun k e => hold k (hS.own r hr k e).1)) (fun r hr k e => ⟨by rw [World.putObj_size]; have := (hS.own r hr k e).1; omega, .inl ⟨r, hr, e⟩⟩) hS.apart
  have h2 := hS'.data (dMark w0.heap.size w.heap.size) ⟨hS.size, ⟨by rw [World.putObj_size]; exact (Array.getElem?_eq_some_iff.1 hk).1, fun hlt => by have := hS.size; omega, fun r hr e => by have := (hS.own r hr _ e).1; omega⟩, (hput _ (by omega)).trans hk⟩
  rw [hrec] at h2
  exact h2
end
end Go.Proofs.YtcfponnkfhkbdaaDoor
/- Eliminators of constructors: what their rule says where no argument has a hypothesis. -/
namespace Go.Proofs.YtcfponnkfhkbdaaDoor
set_option linter.unusedSimpArgs false
set_option linter.unusedVariables false
open Go Go.RowKit
def apK (o : List Nd) (q : List (List Nd)) (k : Nat) : List Nd := (q.take k).foldl (fun o x => noL 0 ⟨5, 0, 0, ⟨#[]⟩⟩ [o, x]) o
theorem apK_zero {o : List Nd} {q : List (List Nd)} : apK o q 0 = o := rfl
theorem apK_succ {o : List Nd} {q : List (List Nd)} {k : Nat} (h : k < q.length) : apK o q (k + 1) = noL 0 ⟨5, 0, 0, ⟨#[]⟩⟩ [apK o q k, nthL q k] := by
 unfold apK
 rw [List.take_add_one, List.foldl_append]
 have : nthL q k = q[k] := by simp [nthL, h]
 rw [this, List.getElem?_eq_getElem h]
 rfl
theorem apK_len {o : List Nd} {q : List (List Nd)} (ho : o.length ≤ 4000) (hq : ∀ x ∈ q, x.length ≤ 4000) : ∀ k, k ≤ q.length → (apK o q k).length ≤ 4000 + k * 4001
 | 0, _ => by rw [apK_zero]; omega
 | k + 1, h => by
  have h1 := apK_len ho hq k (by omega)
  have h2 := hq _ (nthL_mem (l := q) (k := k) (by omega))
  have h3 := noL_len (e := 0) (n := ⟨5, 0, 0, ⟨#[]⟩⟩) (p := [apK o q k, nthL q k])
  rw [apK_succ (by omega)]
  simp only [List.flatten_cons, List.flatten_nil, List.length_append, List.length_nil] at h3
  omega
theorem apK_sml {o : List Nd} {q : List (List Nd)} (ho : sml o) (hq : ∀ x ∈ q, sml x) : ∀ k, k ≤ q.length → sml (apK o q k)
 | 0, _ => ho
 | k + 1, h => by
  rw [apK_succ (by omega)]
  refine noL_sml (show (⟨#[]⟩ : ByteArray).size < 1000000 by decide) ?_
  intro x hx
  simp only [List.mem_cons, List.not_mem_nil, or_false] at hx
  rcases hx with rfl | rfl
  · exact apK_sml ho hq k (by omega)
  · exact hq _ (nthL_mem (by omega))
def elR (n x : Nd) (p q : List (List Nd)) (c : List (List (List Nd))) : List Nd × Int :=
 if x.S = n.S ∧ n.M = (c.length : Int) ∧ x.N < (c.length : Int) ∧ ((nthLL c x.N.toNat).length : Int) = x.M then (apK (nthL p (x.N + 1).toNat) q q.length, 0) else ([], 120)
def urT (n x : Nd) (p q : List (List Nd)) (c : List (List (List Nd))) : List Nd × Int := if n.K = 27 ∧ x.K = 26 then elR n x p q c else urR n x p q
def utR (t : List Nd) (c : List (List (List Nd))) : List Nd × Int := urT (nth t (t.length - 1)) (nth (tgL t) ((tgL t).length - 1)) (agA t) (agA (tgL t)) c
def utE (t : List Nd) (c : List (List (List Nd))) : Int := if ¬ chk t = 0 then chk t else if tgK (nth t (t.length - 1)) < 0 then 120 else if (utR t c).2 = 0 then chk (utR t c).1 else (utR t c).2
def utA (t : List Nd) (c : List (List (List Nd))) : List Nd := if ¬ chk t = 0 then [] else if tgK (nth t (t.length - 1)) < 0 then [] else if (if (utR t c).2 = 0 then chk (utR t c).1 else (utR t c).2) = 0 then (utR t c).1 else []
theorem ut_err {t : List Nd} {c : List (List (List Nd))} (h : ¬ chk t = 0) : utE t c = chk t ∧ utA t c = [] := ⟨if_pos h, if_pos h⟩
theorem ut_neg {t : List Nd} {c : List (List (List Nd))} (h : chk t = 0) (h1 : tgK (nth t (t.length - 1)) < 0) : utE t c = 120 ∧ utA t c = [] := by
 unfold utE utA
 exact ⟨(if_neg (by omega)).trans (if_pos h1), (if_neg (by omega)).trans (if_pos h1)⟩
theorem ut_of {t : List Nd} {c : List (List (List Nd))} (h : chk t = 0) (h1 : ¬ tgK (nth t (t.length - 1)) < 0) {R : List Nd × Int} (hR : R = urT (nth t (t.length - 1)) (nth (tgL t) ((tgL t).length - 1)) (agA t) (agA (tgL t)) c) :
  utE t c = (if R.2 = 0 then chk R.1 else R.2) ∧ utA t c = if (if R.2 = 0 then chk R.1 else R.2) = 0 then R.1 else [] := by
 subst hR
 unfold utE utA
 exact ⟨(if_neg (by omega)).trans (if_neg h1), (if_neg (by omega)).trans (if_neg h1)⟩
theorem many_26 {n : Nd} (h : n.K = 26) : many n = n.M.toNat := by simp [many, binds, h]
theorem many_27 {n : Nd} (h : n.K = 27) : many n = n.M.toNat + 2 := by simp [many, binds, h]
theorem elR_sz {n x : Nd} {p q : List (List Nd)} {c : List (List (List Nd))} (hp : ∀ x ∈ p, sml x ∧ x.length ≤ 4000) (hq : ∀ x ∈ q, sml x ∧ x.length ≤ 4000) (hl : q.length ≤ 9) : sml (elR n x p q c).1 ∧ (elR n x p q c).1.length ≤ 100000 := by
 have hp' : ∀ k, sml (nthL p k) ∧ (nthL p k).length ≤ 4000 := nthL_any (Q := fun x => sml x ∧ x.length ≤ 4000) hp ⟨sml_nil, by simp⟩
 unfold elR
 split
 ·
  have h1 := apK_len (o := nthL p (x.N + 1).toNat) (q := q) (hp' _).2 (fun y hy => (hq y hy).2) q.length (Nat.le_refl _)
  refine ⟨apK_sml (hp' _).1 (fun y hy => (hq y hy).1) _ (Nat.le_refl _), ?_⟩
  show (apK _ _ _).length ≤ _
  omega
 · exact ⟨sml_nil, by simp⟩
theorem urT_sz {n x : Nd} {p q : List (List Nd)} {c : List (List (List Nd))} (hn : n.S.size < 1000000) (hp : ∀ x ∈ p, sml x ∧ x.length ≤ 4000) (hq : ∀ x ∈ q, sml x ∧ x.length ≤ 4000) (hl : q.length ≤ 9) : sml (urT n x p q c).1 ∧ (urT n x p q c).1.length ≤ 100000 := by
 unfold urT
 split
 · exact elR_sz hp hq hl
 · exact urR_sz hn hp hq
theorem plain_at {rc : List Tl} {s : ByteArray} {i k : Nat} (h : ∀ l ∈ lstsT rc, ∀ y ∈ l, kdA s y = 0 ∧ sml y ∧ y.length ≤ 4000) (hi : i < rc.length) (hk : k < (nthT rc i).2.2.length) :
  kdA s (nthS (nthT rc i).2.2 k).2.2 = 0 ∧ sml (nthS (nthT rc i).2.2 k).2.2 ∧ (nthS (nthT rc i).2.2 k).2.2.length ≤ 4000 :=
 h _ (List.mem_map_of_mem (nthT_mem hi)) _ (nthS_in hk)
theorem con_nn {n : Nd} (hr : right n = true) (hk : n.K = 26) : 0 ≤ n.N ∧ 0 ≤ n.M := by
 rw [right_con2 hk, decide_eq_true_eq] at hr
 exact ⟨hr.2.1, hr.2.2.2.1⟩
def ofN (n : Nd) (p : List (List Nd)) : List Nd := p.flatten ++ [n]
def PE (x : List Nd) : Prop := chk x = 0 ∧ dpL x ≤ 30
theorem ofN_ok {n : Nd} {p : List (List Nd)} {b : Nat} (hr : right n = true) (hm : many n = p.length) (hp : ∀ x ∈ p, chk x = 0 ∧ dpL x ≤ b) (hb : b < 60) (hl : p.flatten.length < 4000) :
  chk (ofN n p) = 0 ∧ dpL (ofN n p) ≤ b + 1 ∧ ptL (ofN n p) = p ∧ nth (ofN n p) ((ofN n p).length - 1) = n ∧ (ofN n p).length = p.flatten.length + 1 := by
 have hp' : ∀ x ∈ p, measB x = true := fun x hx => meas_chk (hp x hx).1
 obtain ⟨h1, _, h3, h4⟩ := built hr hm hp'
 have h5 : dpL (ofN n p) ≤ b + 1 := built_deep hr hm hp' (fun x hx => (hp x hx).2)
 have hl' : (ofN n p).length = p.flatten.length + 1 := by simp [ofN]
 exact ⟨chk_of (t := ofN n p) h1 (by omega) (by omega), h5, h3, h4, hl'⟩
theorem apK_ok {c : List Nd} {q : List (List Nd)} (hc : PE c) (hlc : c.length ≤ 120) (hq : ∀ x ∈ q, PE x ∧ x.length ≤ 120) (h6 : q.length ≤ 6) : ∀ k, k ≤ q.length → chk (apK c q k) = 0 ∧ dpL (apK c q k) ≤ 30 + k ∧ (apK c q k).length ≤ 120 + k * 121
 | 0, _ => ⟨hc.1, hc.2, by rw [apK_zero]; omega⟩
 | k + 1, h => by
  obtain ⟨a, b, d⟩ := apK_ok hc hlc hq h6 k (by omega)
  obtain ⟨p1, p2⟩ := hq _ (nthL_mem (l := q) (k := k) (by omega))
  have hfl : [apK c q k, nthL q k].flatten.length ≤ 120 + k * 121 + 120 := by simp; omega
  obtain ⟨h1, h2, _, _, h5⟩ := ofL_ok (k := 5) (p := [apK c q k, nthL q k]) (b := 30 + k) (by decide) rfl (by
   intro x hx
   simp only [List.mem_cons, List.not_mem_nil, or_false] at hx
   rcases hx with rfl | rfl
   · exact ⟨a, b⟩
   · exact ⟨p1.1, by have := p1.2; omega⟩) (by omega) (by omega)
  have e : apK c q (k + 1) = ofL 5 [apK c q k, nthL q k] := by rw [apK_succ (by omega)]; rfl
  rw [e]
  exact ⟨h1, by omega, by omega⟩
theorem flat_bd {q : List (List Nd)} {b : Nat} (hq : ∀ x ∈ q, x.length ≤ b) : q.flatten.length ≤ q.length * b := by
 induction q with
 | nil => simp
 | cons x l ih =>
  have h1 := hq x (by simp)
  have h2 := ih (fun y hy => hq y (by simp [hy]))
  simp only [List.flatten_cons, List.length_append, List.length_cons, Nat.add_mul]
  omega
theorem kd_nat (s : ByteArray) : kdA s [⟨10, 0, 0, ⟨#[]⟩⟩] = 0 := by
 unfold kdA ownL
 rw [if_neg (fun h => h small_ok.1), if_neg (by simp), if_neg (by rintro ⟨h, _⟩; exact absurd (show (10 : Int) = 3 from h) (by decide))]
section
variable {m c : List Nd} {q : List (List Nd)} {s : ByteArray} (hm : PE m) (hlm : m.length ≤ 120) (hc : PE c) (hlc : c.length ≤ 120) (hq : ∀ x ∈ q, PE x ∧ x.length ≤ 120) (h6 : q.length ≤ 6) (hs : nameOk s = true)
def elT (m c : List Nd) (q : List (List Nd)) (s : ByteArray) : List Nd := ofN ⟨27, 0, 1, s⟩ [m, c, ofN ⟨26, 0, (q.length : Int), s⟩ q]
include hm hlm hc hlc hq h6 hs
theorem elT_ok : chk (elT m c q s) = 0 ∧ (elT m c q s).length ≤ 1000 ∧ nth (elT m c q s) ((elT m c q s).length - 1) = ⟨27, 0, 1, s⟩ ∧
  utE (elT m c q s) [List.replicate q.length [⟨10, 0, 0, ⟨#[]⟩⟩]] = 0 ∧ utA (elT m c q s) [List.replicate q.length [⟨10, 0, 0, ⟨#[]⟩⟩]] = apK c q q.length ∧ utE (elT m c q s) [] = 120 := by
 have hr : right ⟨26, 0, (q.length : Int), s⟩ = true := by
  rw [right_con2 rfl]
  exact decide_eq_true ⟨hs, Int.le_refl 0, (by decide : (0 : Int) < 6), by show (0 : Int) ≤ (q.length : Int); omega, by show (q.length : Int) ≤ 6; omega⟩
 have hfl : q.flatten.length ≤ 6 * 120 := Nat.le_trans (flat_bd (fun x hx => (hq x hx).2)) (Nat.mul_le_mul_right _ h6)
 obtain ⟨a1, a2, a3, a4, a5⟩ := ofN_ok (n := ⟨26, 0, (q.length : Int), s⟩) (p := q) (b := 30) hr (by rw [many_26 rfl]; rfl) (fun x hx => (hq x hx).1) (by decide) (by omega)
 have hr2 : right ⟨27, 0, 1, s⟩ = true := by
  rw [right_elim2 rfl]
  exact decide_eq_true ⟨hs, rfl, (by decide : (0 : Int) ≤ 1), (by decide : (1 : Int) ≤ 6)⟩
 have hfl2 : [m, c, ofN ⟨26, 0, (q.length : Int), s⟩ q].flatten.length ≤ 120 + 120 + 721 := by simp; omega
 obtain ⟨b1, b2, b3, b4, b5⟩ := ofN_ok (n := ⟨27, 0, 1, s⟩) (p := [m, c, ofN ⟨26, 0, (q.length : Int), s⟩ q]) (b := 31) hr2 (by rw [many_27 rfl]; rfl) (by
  intro x hx
  simp only [List.mem_cons, List.not_mem_nil, or_false] at hx
  rcases hx with rfl | rfl | rfl
  · exact ⟨hm.1, by have := hm.2; omega⟩
  · exact ⟨hc.1, by have := hc.2; omega⟩
  · exact ⟨a1, a2⟩) (by decide) (by omega)
 have hag : agA (elT m c q s) = [m, c, ofN ⟨26, 0, (q.length : Int), s⟩ q] := (agA_ok b1).trans b3
 have htg : tgL (elT m c q s) = ofN ⟨26, 0, (q.length : Int), s⟩ q := by
  unfold tgL
  rw [hag, show nth (elT m c q s) ((elT m c q s).length - 1) = _ from b4]
  rfl
 have hag2 : agA (tgL (elT m c q s)) = q := by rw [htg, agA_ok a1, a3]
 have hneg : ¬ tgK (nth (elT m c q s) ((elT m c q s).length - 1)) < 0 := by
  rw [show nth (elT m c q s) ((elT m c q s).length - 1) = _ from b4]
  exact (by decide : ¬ (2 : Int) < 0)
 have hR : ∀ cs, urT (nth (elT m c q s) ((elT m c q s).length - 1)) (nth (tgL (elT m c q s)) ((tgL (elT m c q s)).length - 1)) (agA (elT m c q s)) (agA (tgL (elT m c q s))) cs = elR ⟨27, 0, 1, s⟩ ⟨26, 0, (q.length : Int), s⟩ [m, c, ofN ⟨26, 0, (q.length : Int), s⟩ q] q cs := fun cs => by
  rw [hag2, htg, hag, a4, show nth (elT m c q s) ((elT m c q s).length - 1) = _ from b4]
  exact if_pos ⟨rfl, rfl⟩
 obtain ⟨o1, _, _⟩ := apK_ok hc hlc hq h6 q.length (Nat.le_refl _)
 have e1 : elR ⟨27, 0, 1, s⟩ ⟨26, 0, (q.length : Int), s⟩ [m, c, ofN ⟨26, 0, (q.length : Int), s⟩ q] q [List.replicate q.length [⟨10, 0, 0, ⟨#[]⟩⟩]] = (apK c q q.length, 0) := by
  unfold elR
  rw [if_pos ⟨rfl, rfl, (by decide : (0 : Int) < 1), by show ((List.replicate q.length _).length : Int) = _; rw [List.length_replicate]⟩]
  rfl
 have e2 : elR ⟨27, 0, 1, s⟩ ⟨26, 0, (q.length : Int), s⟩ [m, c, ofN ⟨26, 0, (q.length : Int), s⟩ q] q [] = ([], 120) := by
  unfold elR
  rw [if_neg (by rintro ⟨_, h, _⟩; exact absurd (show (1 : Int) = 0 from h) (by decide))]
 obtain ⟨u1, u2⟩ := ut_of (c := [List.replicate q.length [⟨10, 0, 0, ⟨#[]⟩⟩]]) b1 hneg (hR _).symm
 obtain ⟨v1, _⟩ := ut_of (c := []) b1 hneg (hR _).symm
 rw [e1] at u1 u2
 rw [e2] at v1
 refine ⟨b1, ?_, b4, u1.trans ((if_pos rfl).trans o1), u2.trans (if_pos ((if_pos rfl).trans o1)), v1.trans (if_neg (by decide))⟩
 show (ofN _ _).length ≤ _
 omega
end
theorem elT_sml {m c : List Nd} {q : List (List Nd)} {s : ByteArray} (hm : sml m) (hc : sml c) (hq : ∀ x ∈ q, sml x) (hs : s.size < 1000000) : sml (elT m c q s) := by
 refine noL_sml (e := 0) (n := ⟨27, 0, 1, s⟩) (p := [m, c, ofN ⟨26, 0, (q.length : Int), s⟩ q]) hs ?_
 intro x hx
 simp only [List.mem_cons, List.not_mem_nil, or_false] at hx
 rcases hx with rfl | rfl | rfl
 · exact hm
 · exact hc
 · exact noL_sml (e := 0) (n := ⟨26, 0, (q.length : Int), s⟩) (p := q) hs hq
def elTn (m c : List Nd) (q : List (List Nd)) (n : Int) (s : ByteArray) : List Nd := ofN ⟨27, 0, 1, s⟩ [m, c, ofN ⟨26, 0, n, s⟩ q]
def natQ : List Nd := [⟨10, 0, 0, ⟨#[]⟩⟩]
theorem lsts_all {args : List Sl} {Q : List Nd → Prop} (h : ∀ i, i < args.length → Q (nthS args i).2.2) : ∀ x ∈ lsts args, Q x := fun x hx => by
 obtain ⟨i, hi, rfl⟩ := List.getElem_of_mem hx
 have h1 := h i (by rwa [lsts_len] at hi)
 rw [lsts_nth] at h1
 rwa [show nthL (lsts args) i = (lsts args)[i] by simp [nthL, hi]] at h1
theorem el_step {args : List Sl} {k : Nat} {Q : List Nd → Prop} (h : ∀ i, i < k → Q (nthS args i).2.2) (hk : Q (nthS args k).2.2) : ∀ i, i < k + 1 → Q (nthS args i).2.2 := fun i hi => by
 by_cases e : i = k
 · subst e; exact hk
 · exact h i (by omega)
theorem apK_take {c : List Nd} {q : List (List Nd)} {k : Nat} : apK c q k = apK c (q.take k) (q.take k).length := by
 unfold apK
 rw [List.take_length]
theorem apK_bd {c : List Nd} {args : List Sl} {k : Nat} (h6 : args.length ≤ 6) (hlc : c.length ≤ 120) (hq : ∀ i, i < k → (PE (nthS args i).2.2 ∧ (nthS args i).2.2.length ≤ 120) ∧ sml (nthS args i).2.2) (hk : k ≤ args.length) : (apK c (lsts args) k).length ≤ 30000 := by
 have h1 : ∀ x ∈ lsts (args.take k), x.length ≤ 120 := lsts_all (Q := fun x => x.length ≤ 120) (fun i hi => by
  rw [List.length_take] at hi
  have := (hq i (by omega)).1.2
  rwa [show nthS (args.take k) i = nthS args i by unfold nthS; rw [List.getD_eq_getElem?_getD, List.getD_eq_getElem?_getD, List.getElem?_take_of_lt (by omega)]])
 have e : (lsts args).take k = lsts (args.take k) := by simp [lsts]
 rw [apK_take, e]
 have h2 := apK_len (o := c) (q := lsts (args.take k)) (by omega) (fun x hx => Nat.le_trans (h1 x hx) (by decide)) (lsts (args.take k)).length (Nat.le_refl _)
 have h3 : (lsts (args.take k)).length ≤ 6 := by rw [lsts_len, List.length_take]; omega
 omega
theorem el_plain1 {A : Option Addr} {a n : Nat} {Ys : List Sl} {s : ByteArray} (hY : lsts Ys = List.replicate n natQ) : ∀ l ∈ lstsT [((A, a, Ys) : Tl)], ∀ y ∈ l, kdA s y = 0 ∧ sml y ∧ y.length ≤ 4000 := fun l hl y hy => by
 rw [show lstsT [((A, a, Ys) : Tl)] = [lsts Ys] from rfl, List.mem_singleton] at hl
 rw [hl, hY] at hy
 rw [List.eq_of_mem_replicate hy]
 refine ⟨kd_nat s, ?_, by decide⟩
 rw [sml_mem]
 decide
theorem el_plain0 {s : ByteArray} : ∀ l ∈ lstsT [], ∀ y ∈ l, kdA s y = 0 ∧ sml y ∧ y.length ≤ 4000 := fun l hl => by cases hl
theorem el_facts {m c : List Nd} {args Ys : List Sl} {data : ByteArray} {yA : Option Addr} {yc k : Nat} (hcm : chk m = 0) (hdm : dpL m ≤ 30) (hlm : m.length ≤ 120) (hsm : sml m) (hcc : chk c = 0) (hdc : dpL c ≤ 30) (hlc : c.length ≤ 120) (hsc : sml c)
  (hq : ∀ i, i < k → (PE (nthS args i).2.2 ∧ (nthS args i).2.2.length ≤ 120) ∧ sml (nthS args i).2.2) (hk : k = args.length) (h6 : args.length ≤ 6) (hs : nameOk data = true) (hY : lsts Ys = List.replicate k natQ) :
  sml (elTn m c (lsts args) ((args.length : Nat) : Int) data) ∧ (elTn m c (lsts args) ((args.length : Nat) : Int) data).length ≤ 1000 ∧ utE (elTn m c (lsts args) ((args.length : Nat) : Int) data) (lstsT [((yA, yc, Ys) : Tl)]) = 0 ∧
  utA (elTn m c (lsts args) ((args.length : Nat) : Int) data) (lstsT [((yA, yc, Ys) : Tl)]) = apK c (lsts args) k ∧ utE (elTn m c (lsts args) ((args.length : Nat) : Int) data) (lstsT []) = 120 ∧
  (nth (elTn m c (lsts args) ((args.length : Nat) : Int) data) ((elTn m c (lsts args) ((args.length : Nat) : Int) data).length - 1)).K = 27 ∧ (lsts args).flatten.length ≤ 720 ∧ (apK c (lsts args) k).length ≤ 1000000 := by
 subst hk
 have e : elTn m c (lsts args) ((args.length : Nat) : Int) data = elT m c (lsts args) data := by unfold elTn elT; rw [lsts_len]
 have hall := lsts_all (Q := fun x => (PE x ∧ x.length ≤ 120) ∧ sml x) hq
 have h6' : (lsts args).length ≤ 6 := by rw [lsts_len]; exact h6
 obtain ⟨a1, a2, a3, a4, a5, a6⟩ := elT_ok ⟨hcm, hdm⟩ hlm ⟨hcc, hdc⟩ hlc (fun x hx => (hall x hx).1) h6' hs
 have hC : lstsT [((yA, yc, Ys) : Tl)] = [List.replicate (lsts args).length [⟨10, 0, 0, ⟨#[]⟩⟩]] := by
  rw [show lstsT [((yA, yc, Ys) : Tl)] = [lsts Ys] from rfl, hY, lsts_len]
  rfl
 rw [e, hC]
 refine ⟨elT_sml hsm hsc (fun x hx => (hall x hx).2) (name_size hs), a2, a4, ?_, a6, by rw [a3], ?_, Nat.le_trans (apK_bd h6 hlc hq (Nat.le_refl _)) (by decide)⟩
 · rw [a5, lsts_len]
 · exact Nat.le_trans (flat_bd (fun x hx => (hall x hx).1.2)) (Nat.mul_le_mul_right 120 h6')
end Go.Proofs.YtcfponnkfhkbdaaDoor
/- Contracts of functions, one theorem each: what the call returns, and that nothing old is changed. Printed by gen.py. -/
namespace Go.Proofs.YtcfponnkfhkbdaaDoor
open Go Go.RowKit
set_option linter.unusedSimpArgs false
set_option linter.unusedVariables false
set_option maxRecDepth 100000 in
set_option maxHeartbeats 1000000 in
theorem hyp0_calls (w0 : World) (Z : Nat → Prop) (hZ : ∀ k, Z k → k < w0.heap.size) (yv : Value) (bg : Nat) (rg : Nat) (re : Int) (rn : Nd) (rx : Nd) (rpA : Option Addr) (rpc : Nat) (rp : List Sl) (rqA : Option Addr) (rqc : Nat) (rq : List Sl) (rkA : Option Addr) (rkc : Nat) (rk : List Tl) (hShp : Shapes w0 Z) (hrp : (dRow 1 rpA rp.length rpc (encSs rp)).φ w0 Z) (hrps : (dAll rp).φ w0 Z) (hrq : (dRow 1 rqA rq.length rqc (encSs rq)).φ w0 Z) (hrqs : (dAll rq).φ w0 Z) (hrk : (dRow 1 rkA rk.length rkc (encTs rk)).φ w0 Z) (hrks : (dAllT rk).φ w0 Z) (hr : (dBox rg [.int .i64 (re), .int .i64 (rn.K), .int .i64 (rn.N), .int .i64 (rn.M), .string rn.S, .int .i64 (rx.K), .int .i64 (rx.N), .int .i64 (rx.M), .string rx.S, .slice rpA rp.length rpc, .slice rqA rq.length rqc, .slice rkA rk.length rkc]).φ w0 Z) (hb : (dBox bg [.pointer (some ⟨rg, 0, none⟩)]).φ w0 Z) (hq4 : rq.length ≤ 9 := by first | assumption | omega | (simp; done) | (simp; omega)) (hcs : ∀ l ∈ lstsT rk, ∀ y ∈ l, kdA rn.S y = 0 ∧ sml y ∧ y.length ≤ 4000 := by first | assumption | omega | (simp; done) | (simp; omega)) (hc4 : rk.length ≤ 1000 := by first | assumption | omega | (simp; done) | (simp; omega)) (hN0 : 0 ≤ rx.N := by first | assumption | omega | (simp; done) | (simp; omega)) (hN1 : rx.N < ((rk.length : Nat) : Int) := by first | assumption | omega | (simp; done) | (simp; omega)) (hNq : (nthT rk rx.N.toNat).2.2.length = rq.length := by first | assumption | omega | (simp; done) | (simp; omega)) :
    Calls Tryd.prog 115 [yv, .pointer (some ⟨bg, 0, none⟩)].toArray w0 (fun e w' => e = .returned (.tuple #[]) ∧ Fr none_ w0 w') := by
 have b0 := s0 (M := none_) hZ (zc (d := dShapes) hShp (zc hrp (zc hrps (zc hrq (zc hrqs (zc hrk (zc hrks (zc hr (zc hb zn)))))))))
 have hcy : ∀ k, k < rq.length → kdA rn.S (nthS (nthT rk rx.N.toNat).2.2 k).2.2 = 0 ∧ sml (nthS (nthT rk rx.N.toNat).2.2 k).2.2 ∧ (nthS (nthT rk rx.N.toNat).2.2 k).2.2.length ≤ 4000 := fun k hk => plain_at hcs (by omega) (by omega)
 refine c_enter Tryd.func115 rfl Tryd.ntmps115 rfl (fun c0 d0 => ?_)
 refine wsc (fun c0 f0 => ?_)
 refine m_loadC sv d0 rfl rfl rfl (dbox_cell (b0.get (i := 8) rfl) rfl) Tryd.underlying57 rfl (by decide) (fun c0 h0 => ?_)
 refine r_nilCheck sv h0 rfl rfl rfl (by decide) (fun c0 d0 => ?_)
 refine m_field (j' := 10) sv d0 rfl rfl rfl Tryd.underlying61 rfl sz42 rfl rfl (by decide) (fun c0 h0 => ?_)
 refine m_loadC sv h0 rfl rfl rfl (dbox_cell (b0.get (i := 7) rfl) rfl) Tryd.underlying42 rfl (by decide) (fun c0 d0 => ?_)
 refine r_len sv d0 rfl rfl rfl rfl Tryd.underlying42 (by decide) (fun c0 h0 => ?_)
 refine mv h0 (fun c0 d0 => ?_)
 refine wpList_nil (x_then_n (f0 _ _ ?_))
 refine wp_block ?_
 refine wp_loop_ghost (fun gn ga gw => ∃ k : Nat, (Reg ga 56 [(1000000, .bool false), (0, yv), (1, .pointer (some ⟨bg, 0, none⟩)), (10, .slice rqA rq.length rqc), (11, .int .i64 ((rq.length : Nat) : Int)), (12, .int .i64 ((k : Nat) : Int))]) ∧ (St w0 Z none_ gw [] [dShapes, dRow 1 rpA rp.length rpc (encSs rp), dAll rp, dRow 1 rqA rq.length rqc (encSs rq), dAll rq, dRow 1 rkA rk.length rkc (encTs rk), dAllT rk, dBox rg [.int .i64 (re), .int .i64 (rn.K), .int .i64 (rn.N), .int .i64 (rn.M), .string rn.S, .int .i64 (rx.K), .int .i64 (rx.N), .int .i64 (rx.M), .string rx.S, .slice rpA rp.length rpc, .slice rqA rq.length rqc, .slice rkA rk.length rkc], dBox bg [.pointer (some ⟨rg, 0, none⟩)]]) ∧ (k ≤ rq.length) ∧ (rq.length - k) = gn) _ ⟨0, (d0.sub (rc rfl (rc rfl (rc rfl (rc rfl (rc rfl (rc rfl rnl))))))), b0, by omega, rfl⟩ ?_
 rintro d0 b0 f0 ⟨k, c0, h0, hk, i0⟩
 refine wsc (fun i0 f0 => ?_)
 refine r_lss sv c0 rfl rfl rfl rfl (by decide) (fun i0 b0 => ?_)
 refine wpList_nil (x_then_n (f0 _ _ ?_))
 refine wp_seq_k (fun f0 i0 => ?_)
 rcases Decidable.em (((k : Nat) : Int) < ((rq.length : Nat) : Int)) with f0 | f0
 ·
  have c0 := b0.setb (d := 13) (b := true) rfl (decide_eq_true f0)
  refine wp_cond_true (c0.ev rfl) ?_
  refine wp_skip ?_
  refine x_then_n (i0 _ _ ?_)
  refine wp_seq_k (fun i0 d0 => ?_)
  refine wp_block ?_
  refine wsc (fun i0 j0 => ?_)
  refine mv c0 (fun i0 k0 => ?_)
  refine m_index (i := k) (j := k * 1) sv k0 rfl rfl rfl rfl Tryd.underlying42 sz22 (by omega) (by omega) (ss_elem (t := rq) (k := k) (h0.row (i := 3) rfl).2 (by omega)).some_ rfl (by decide) (fun i0 c0 => ?_)
  refine m_loadE sv c0 rfl rfl rfl 0 (k * 1) (ss_elem (t := rq) (k := k) (h0.row (i := 3) rfl).2 (by omega)) rfl rfl Tryd.underlying22 rfl (by decide) (fun i0 k0 => ?_)
  have i0 := h0.data (dRow 4 ((nthS rq k).1) ((nthS rq k).2.2.length) ((nthS rq k).2.1) (encNs ((nthS rq k).2.2))) (all_at (t := rq) (k := k) (h0.get (i := 4) rfl) (by omega))
  refine asg k0 (fun c0 m0 => ?_)
  refine asg m0 (fun c0 k0 => ?_)
  refine wpList_nil (x_then_n (j0 _ _ ?_))
  refine wp_seq_k (fun j0 c0 => ?_)
  obtain ⟨j0, m0, n0⟩ := i0.agree
  refine d_reg3 (n := 15) n0 10 pn (pan_then (pan_block (pan_then (pan_then (pan_block pan_body))))) (fun j0 i0 o0 p0 q0 t0 => ?_)
  refine dt 0 rfl i0 k0 (want_n rfl) (fun x hx => m_loadC (sy k0) k0 rfl rfl rfl (dbox_cell (sdat (m0 8 _ rfl) hx.ag) rfl) Tryd.underlying57 rfl (by decide) gt) t0 (fun p0 j0 => ?_)
  refine dtN 1 i0 j0 t0 (fun p0 k0 => ?_)
  refine dtF 2 11 i0 k0 t0 Tryd.underlying61 sz23 (fun p0 j0 => ?_)
  refine dt 3 rfl i0 j0 (want_n rfl) (fun x hx => m_loadC (sy j0) j0 rfl rfl rfl (dbox_cell (sdat (m0 7 _ rfl) hx.ag) rfl) Tryd.underlying23 rfl (by decide) gt) t0 (fun p0 k0 => ?_)
  refine dt 4 rfl i0 k0 (want_n rfl) (fun x hx => m_loadC (sy k0) k0 rfl rfl rfl (dbox_cell (sdat (m0 8 _ rfl) hx.ag) rfl) Tryd.underlying57 rfl (by decide) gt) t0 (fun p0 j0 => ?_)
  refine dtN 5 i0 j0 t0 (fun p0 k0 => ?_)
  refine dtF 6 5 i0 k0 t0 Tryd.underlying61 sz39 (fun p0 j0 => ?_)
  refine dtF 7 6 i0 j0 t0 Tryd.underlying39 sz3 (fun p0 k0 => ?_)
  refine dt 8 rfl i0 k0 (want_n rfl) (fun x hx => m_loadC (sy k0) k0 rfl rfl rfl (dbox_cell (sdat (m0 7 _ rfl) hx.ag) rfl) Tryd.underlying3 rfl (by decide) gt) t0 (fun p0 j0 => ?_)
  refine dt 9 rfl i0 j0 (want_n rfl) (fun x hx => m_index (i := ((rx.N)).toNat) (j := (((rx.N)).toNat) * 1) (sy j0) j0 rfl rfl rfl rfl Tryd.underlying23 sz42 (by omega) (by omega) (ts_elem (t := rk) (k := ((rx.N)).toNat) (sdat (m0 5 _ rfl) hx.ag).2 (by omega)).some_ rfl (by decide) gt) t0 (fun p0 k0 => ?_)
  refine dt 10 rfl i0 k0 (want_n rfl) (fun x hx => m_loadE (sy k0) k0 rfl rfl rfl 0 ((((rx.N)).toNat) * 1) (ts_elem (t := rk) (k := ((rx.N)).toNat) (sdat (m0 5 _ rfl) hx.ag).2 (by omega)) rfl rfl Tryd.underlying42 rfl (by decide) gt) t0 (fun p0 j0 => ?_)
  have p0 := q0.data (dRow 1 ((nthT rk (((rx.N)).toNat)).1) ((nthT rk (((rx.N)).toNat)).2.2.length) ((nthT rk (((rx.N)).toNat)).2.1) (encSs ((nthT rk (((rx.N)).toNat)).2.2))) (allT_at (t := rk) (k := ((rx.N)).toNat) (q0.get (i := 6) rfl) (by omega)).1
  have q0 := p0.data (dAll ((nthT rk (((rx.N)).toNat)).2.2)) (allT_at (t := rk) (k := ((rx.N)).toNat) (p0.get (i := 6) rfl) (by omega)).2
  refine dtM 11 i0 j0 t0 (fun p0 k0 => ?_)
  obtain ⟨p0, j0, t0⟩ := q0.agree
  refine d_more (j0 10 _ rfl) ?_
  have p0 := sWI t0 13 pn
  refine dt 12 rfl i0 k0 (want_n rfl) (fun x hx => m_index (i := k) (j := k * 1) (sy k0) k0 rfl rfl rfl rfl Tryd.underlying42 sz22 (by omega) (by omega) (ss_elem (t := (nthT rk (((rx.N)).toNat)).2.2) (k := k) (sdat (j0 11 _ rfl) hx.ag).2 (by omega)).some_ rfl (by decide) gt) p0 (fun q0 m0 => ?_)
  refine dt 13 rfl i0 m0 (want_n rfl) (fun x hx => m_loadE (sy m0) m0 rfl rfl rfl 0 (k * 1) (ss_elem (t := (nthT rk (((rx.N)).toNat)).2.2) (k := k) (sdat (j0 11 _ rfl) hx.ag).2 (by omega)) rfl rfl Tryd.underlying22 rfl (by decide) gt) p0 (fun q0 k0 => ?_)
  have q0 := t0.data (dRow 4 ((nthS ((nthT rk (((rx.N)).toNat)).2.2) k).1) ((nthS ((nthT rk (((rx.N)).toNat)).2.2) k).2.2.length) ((nthS ((nthT rk (((rx.N)).toNat)).2.2) k).2.1) (encNs ((nthS ((nthT rk (((rx.N)).toNat)).2.2) k).2.2))) (all_at (t := (nthT rk (((rx.N)).toNat)).2.2) (k := k) (t0.get (i := 12) rfl) (by omega))
  refine dtA 14 i0 k0 p0 (fun t0 m0 => ?_)
  refine wpAnyH_done (by kernel_rfl) (o0 _ _ ?_) _
  refine x_then_n (c0 _ _ ?_)
  refine wsc (fun c0 o0 => ?_)
  refine asg m0 (fun c0 t0 => ?_)
  refine wpList_nil (x_then_n (o0 _ _ ?_))
  refine wp_seq_k (fun o0 c0 => ?_)
  refine wsc (fun c0 o0 => ?_)
  refine m_loadC sv t0 rfl rfl rfl (dbox_cell (q0.get (i := 8) rfl) rfl) Tryd.underlying57 rfl (by decide) (fun c0 m0 => ?_)
  refine r_nilCheck sv m0 rfl rfl rfl (by decide) (fun c0 t0 => ?_)
  refine m_field (j' := 1) sv t0 rfl rfl rfl Tryd.underlying61 rfl sz39 rfl rfl (by decide) (fun c0 m0 => ?_)
  refine m_field (j' := 4) sv m0 rfl rfl rfl Tryd.underlying39 rfl sz9 rfl rfl (by decide) (fun c0 t0 => ?_)
  refine m_loadC sv t0 rfl rfl rfl (dbox_cell (q0.get (i := 7) rfl) rfl) Tryd.underlying9 rfl (by decide) (fun c0 m0 => ?_)
  refine mv m0 (fun c0 t0 => ?_)
  have c0 := q0.nf
  refine k_call (xs := [.tmp 35, .tmp 36]) se t0 rfl rfl rfl (by decide) ok19 (ukind_calls _ _ c0.il rn.S _ _ ((nthS ((nthT rk (((rx.N)).toNat)).2.2) k).2.2) (c0.g 0) (c0.g 14) (hsm := (hcy k (by omega)).2.1) (hl := (by have := (hcy k (by omega)).2.2; omega))) ?_
  rintro t0 q0 ⟨rfl, m0⟩
  have q0 := c0.below m0.below
  refine ⟨_, rfl, fun m0 c0 => ?_⟩
  refine wpList_nil (x_then_n (o0 _ _ ?_))
  refine wp_block ?_
  refine wsc (fun o0 m0 => ?_)
  refine r_eql sv c0 rfl rfl rfl rfl (by decide) (fun o0 t0 => ?_)
  refine asg t0 (fun o0 c0 => ?_)
  refine wpList_nil (x_then_n (m0 _ _ ?_))
  have m0 : ((kdA rn.S ((nthS ((nthT rk (((rx.N)).toNat)).2.2) k).2.2))) = 0 := (hcy k (by omega)).1
  have o0 := c0.setb (d := 38) (b := true) rfl (decide_eq_true m0)
  refine wp_cond_true (o0.ev rfl) ?_
  refine wp_exit ?_
  refine x_block_e rfl ?_
  refine x_then_e ?_
  refine x_block_eq ?_
  refine x_then_n (d0 _ _ ?_)
  refine c_region ?_
  refine r_add (z := ((k + 1 : Nat) : Int)) sv o0 rfl rfl rfl rfl (by decide) (by omega) (by omega) (by omega) (fun d0 m0 => ?_)
  refine mv m0 (fun d0 o0 => ?_)
  refine wpList_nil ?_
  have d0 := q0.forget 14
  have q0 := d0.forget 13
  have d0 := q0.forget 12
  have q0 := d0.forget 11
  have d0 := q0.forget 10
  have q0 := d0.forget 9
  exact ⟨_, by omega, k + 1, (o0.sub (rc rfl (rc rfl (rc rfl (rc rfl (rc rfl (rc rfl rnl))))))), q0, by omega, rfl⟩
 ·
  have q0 := b0.setb (d := 13) (b := false) rfl (decide_eq_false f0)
  refine wp_cond_false (q0.ev rfl) ?_
  refine wp_exit ?_
  refine x_then_e ?_
  refine x_then_e ?_
  refine x_block_eq ?_
  refine e_end0 q0 rfl rfl ?_
  refine ⟨?_, h0.fr⟩
  rfl
end Go.Proofs.YtcfponnkfhkbdaaDoor
/- Contracts of functions, one theorem each: what the call returns, and that nothing old is changed. Printed by gen.py. -/
namespace Go.Proofs.YtcfponnkfhkbdaaDoor
open Go Go.RowKit
set_option linter.unusedSimpArgs false
set_option linter.unusedVariables false
set_option maxRecDepth 100000 in
set_option maxHeartbeats 1000000 in
theorem uelim_calls (w0 : World) (Z : Nat → Prop) (hZ : ∀ k, Z k → k < w0.heap.size) (rg : Nat) (re : Int) (rn : Nd) (rx : Nd) (rpA : Option Addr) (rpc : Nat) (rp : List Sl) (rqA : Option Addr) (rqc : Nat) (rq : List Sl) (rkA : Option Addr) (rkc : Nat) (rk : List Tl) (hShp : Shapes w0 Z) (hr : (Res.box rg 61 [.int .i64 (re), .int .i64 (rn.K), .int .i64 (rn.N), .int .i64 (rn.M), .string rn.S, .int .i64 (rx.K), .int .i64 (rx.N), .int .i64 (rx.M), .string rx.S, .slice rpA rp.length rpc, .slice rqA rq.length rqc, .slice rkA rk.length rkc]).holds w0) (hrz : ¬ Z rg) (hrp : (dRow 1 rpA rp.length rpc (encSs rp)).φ w0 Z) (hrps : (dAll rp).φ w0 Z) (hrq : (dRow 1 rqA rq.length rqc (encSs rq)).φ w0 Z) (hrqs : (dAll rq).φ w0 Z) (hrk : (dRow 1 rkA rk.length rkc (encTs rk)).φ w0 Z) (hrks : (dAllT rk).φ w0 Z) (hp4 : rp.length ≤ 9 := by first | assumption | omega | (simp; done) | (simp; omega)) (hq4 : rq.length ≤ 9 := by first | assumption | omega | (simp; done) | (simp; omega)) (hps : ∀ x ∈ lsts rp, sml x ∧ x.length ≤ 4000 := by first | assumption | omega | (simp; done) | (simp; omega)) (hqs : ∀ x ∈ lsts rq, sml x ∧ x.length ≤ 4000 := by first | assumption | omega | (simp; done) | (simp; omega)) (hcs : ∀ l ∈ lstsT rk, ∀ y ∈ l, kdA rn.S y = 0 ∧ sml y ∧ y.length ≤ 4000 := by first | assumption | omega | (simp; done) | (simp; omega)) (hc4 : rk.length ≤ 1000 := by first | assumption | omega | (simp; done) | (simp; omega)) (hN0 : 0 ≤ rx.N := by first | assumption | omega | (simp; done) | (simp; omega)) (hlp : rp.length = many rn := by first | assumption | omega | (simp; done) | (simp; omega)) (hlq : rq.length = many rx := by first | assumption | omega | (simp; done) | (simp; omega)) (hsn : rn.S.size < 1000000 := by first | assumption | omega | (simp; done) | (simp; omega)) (he : re = 0 := by first | assumption | omega | (simp; done) | (simp; omega)) (h27 : rn.K = 27 := by first | assumption | omega | (simp; done) | (simp; omega)) (h26 : rx.K = 26 := by first | assumption | omega | (simp; done) | (simp; omega)) (hM0 : 0 ≤ rx.M := by first | assumption | omega | (simp; done) | (simp; omega)) :
    Calls Tryd.prog 63 [.pointer (some ⟨rg, 0, none⟩)].toArray w0 (fun e w' => ∃ (rA0 : Option Addr) (rc0 : Nat) (rL0 : List Nd), e = .returned (.slice rA0 rL0.length rc0) ∧ Fr (· = rg) w0 w' ∧ (Res.box rg 61 [.int .i64 (((elR rn rx (lsts rp) (lsts rq) (lstsT rk)).2)), .int .i64 (rn.K), .int .i64 (rn.N), .int .i64 (rn.M), .string rn.S, .int .i64 (rx.K), .int .i64 (rx.N), .int .i64 (rx.M), .string rx.S, .slice rpA rp.length rpc, .slice rqA rq.length rqc, .slice rkA rk.length rkc]).holds w' ∧ (dRow 4 rA0 rL0.length rc0 (encNs rL0)).φ w' (nxt Z w0 w') ∧ rL0 = (elR rn rx (lsts rp) (lsts rq) (lstsT rk)).1) := by
 have b0 := sM hr hrz hZ (zc (d := dShapes) hShp (zc hrp (zc hrps (zc hrq (zc hrqs (zc hrk (zc hrks zn)))))))
 have hpm : ∀ k, k < rp.length → sml (nthS rp k).2.2 ∧ (nthS rp k).2.2.length ≤ 4000 := fun k hk => hps _ (nthS_in hk)
 have hqm : ∀ k, k < rq.length → sml (nthS rq k).2.2 ∧ (nthS rq k).2.2.length ≤ 4000 := fun k hk => hqs _ (nthS_in hk)
 have hcl : (nthLL (lstsT rk) rx.N.toNat).length = (nthT rk rx.N.toNat).2.2.length := by rw [← lstsT_nth, lsts_len]
 have hm27 := many_27 h27
 have hm26 := many_26 h26
 have hctl := lstsT_len rk
 refine c_enterM Tryd.func63 rfl Tryd.ntmps63 rfl (fun c0 d0 => ?_)
 refine wsc (fun c0 f0 => ?_)
 refine m_box (cs := [.pointer (some ⟨rg, 0, none⟩)]) sv d0 b0 rfl rfl rfl rfl (by decide) (fun c0 h0 i0 j0 k0 => ?_)
 refine asg j0 (fun c0 d0 => ?_)
 refine wpList_nil (x_then_n (f0 _ _ ?_))
 refine wp_seq_k (fun f0 c0 => ?_)
 refine wp_seq_k (fun f0 j0 => ?_)
 obtain ⟨f0, b0, m0⟩ := k0.agree
 refine d_reg3 (n := 57) m0 7 (pB 0 1 (pc 1 0 pn)) (pan_then (pan_then pan_bodyM)) (fun k0 n0 o0 p0 q0 s0 => ?_)
 refine dtC 0 11 n0 d0 s0 Tryd.underlying57 (fun k0 m0 => ?_)
 refine dtN 1 n0 m0 s0 (fun k0 d0 => ?_)
 refine dtF 2 5 n0 d0 s0 Tryd.underlying61 sz39 (fun k0 m0 => ?_)
 refine dtF 3 8 n0 m0 s0 Tryd.underlying39 sz9 (fun k0 d0 => ?_)
 refine dtC 4 7 n0 d0 s0 Tryd.underlying9 (fun k0 m0 => ?_)
 refine dtC 5 11 n0 m0 s0 Tryd.underlying57 (fun k0 d0 => ?_)
 refine dtN 6 n0 d0 s0 (fun k0 m0 => ?_)
 refine dtF 7 1 n0 m0 s0 Tryd.underlying61 sz39 (fun k0 d0 => ?_)
 refine dtF 8 4 n0 d0 s0 Tryd.underlying39 sz9 (fun k0 m0 => ?_)
 refine dtC 9 3 n0 m0 s0 Tryd.underlying9 (fun k0 d0 => ?_)
 refine dt 10 rfl n0 d0 (want_n rfl) (fun x hx => r_neqS (sy d0) d0 rfl rfl rfl rfl (by decide) gt) s0 (fun k0 m0 => ?_)
 refine dtM 11 n0 m0 s0 (fun k0 d0 => ?_)
 rcases Decidable.em (rx.S = rn.S) with k0 | k0
 ·
  have m0 := d0.setb (d := 19) (b := false) rfl (by rw [(decide_eq_true k0)]; rfl)
  refine dtC 12 11 n0 m0 s0 Tryd.underlying57 (fun t0 u0 => ?_) (hw := wt m0)
  refine dtN 13 n0 u0 s0 (fun t0 m0 => ?_) (hw := wt u0)
  refine dtF 14 1 n0 m0 s0 Tryd.underlying61 sz39 (fun t0 u0 => ?_) (hw := wt m0)
  refine dtF 15 3 n0 u0 s0 Tryd.underlying39 sz3 (fun t0 m0 => ?_) (hw := wt u0)
  refine dtC 16 2 n0 m0 s0 Tryd.underlying3 (fun t0 u0 => ?_) (hw := wt m0)
  refine dtC 17 11 n0 u0 s0 Tryd.underlying57 (fun t0 m0 => ?_) (hw := wt u0)
  refine dtN 18 n0 m0 s0 (fun t0 u0 => ?_) (hw := wt m0)
  refine dtF 19 11 n0 u0 s0 Tryd.underlying61 sz23 (fun t0 m0 => ?_) (hw := wt u0)
  refine dtC 20 10 n0 m0 s0 Tryd.underlying23 (fun t0 u0 => ?_) (hw := wt m0)
  refine dt 21 rfl n0 u0 (wt u0) (fun x hx => r_len (sy u0) u0 rfl rfl rfl rfl Tryd.underlying23 (by decide) gt) s0 (fun t0 m0 => ?_)
  refine dt 22 rfl n0 m0 (wt m0) (fun x hx => r_neq (sy m0) m0 rfl rfl rfl rfl (by decide) gt) s0 (fun t0 u0 => ?_)
  refine dtQ 23 n0 u0 s0 (fun t0 m0 => ?_)
  refine dtM 24 n0 m0 s0 (fun t0 u0 => ?_)
  rcases Decidable.em ((rn.M) = ((rk.length : Nat) : Int)) with t0 | t0
  ·
   have m0 := u0.setb (d := 32) (b := false) rfl (by rw [(decide_eq_true t0)]; rfl)
   refine dtC 25 11 n0 m0 s0 Tryd.underlying57 (fun v0 x0 => ?_) (hw := wt m0)
   refine dtN 26 n0 x0 s0 (fun v0 m0 => ?_) (hw := wt x0)
   refine dtF 27 5 n0 m0 s0 Tryd.underlying61 sz39 (fun v0 x0 => ?_) (hw := wt m0)
   refine dtF 28 6 n0 x0 s0 Tryd.underlying39 sz3 (fun v0 m0 => ?_) (hw := wt x0)
   refine dtC 29 5 n0 m0 s0 Tryd.underlying3 (fun v0 x0 => ?_) (hw := wt m0)
   refine dtC 30 11 n0 x0 s0 Tryd.underlying57 (fun v0 m0 => ?_) (hw := wt x0)
   refine dtN 31 n0 m0 s0 (fun v0 x0 => ?_) (hw := wt m0)
   refine dtF 32 11 n0 x0 s0 Tryd.underlying61 sz23 (fun v0 m0 => ?_) (hw := wt x0)
   refine dtC 33 10 n0 m0 s0 Tryd.underlying23 (fun v0 x0 => ?_) (hw := wt m0)
   refine dt 34 rfl n0 x0 (wt x0) (fun x hx => r_len (sy x0) x0 rfl rfl rfl rfl Tryd.underlying23 (by decide) gt) s0 (fun v0 m0 => ?_)
   refine dt 35 rfl n0 m0 (wt m0) (fun x hx => r_geq (sy m0) m0 rfl rfl rfl rfl (by decide) gt) s0 (fun v0 x0 => ?_)
   refine dtQ 36 n0 x0 s0 (fun v0 m0 => ?_)
   refine dtM 37 n0 m0 s0 (fun v0 x0 => ?_)
   rcases Decidable.em (((rk.length : Nat) : Int) ≤ (rx.N)) with v0 | v0
   ·
    have m0 := x0.setb (d := 45) (b := true) rfl (decide_eq_true v0)
    refine dp 38 rfl n0 m0 (wff m0) s0 (fun y0 z0 => ?_)
    refine dp 39 rfl n0 z0 (wff z0) s0 (fun y0 m0 => ?_)
    refine dp 40 rfl n0 m0 (wff m0) s0 (fun y0 z0 => ?_)
    refine dp 41 rfl n0 z0 (wff z0) s0 (fun y0 m0 => ?_)
    refine dp 42 rfl n0 m0 (wff m0) s0 (fun y0 z0 => ?_)
    refine dp 43 rfl n0 z0 (wff z0) s0 (fun y0 m0 => ?_)
    refine dp 44 rfl n0 m0 (wff m0) s0 (fun y0 z0 => ?_)
    refine dp 45 rfl n0 z0 (wff z0) s0 (fun y0 m0 => ?_)
    refine dp 46 rfl n0 m0 (wff m0) s0 (fun y0 z0 => ?_)
    refine dp 47 rfl n0 z0 (wff z0) s0 (fun y0 m0 => ?_)
    refine dp 48 rfl n0 m0 (wff m0) s0 (fun y0 z0 => ?_)
    refine dp 49 rfl n0 z0 (wff z0) s0 (fun y0 m0 => ?_)
    refine dp 50 rfl n0 m0 (wff m0) s0 (fun y0 z0 => ?_)
    refine dp 51 rfl n0 z0 (wff z0) s0 (fun y0 m0 => ?_)
    refine dp 52 rfl n0 m0 (wff m0) s0 (fun y0 z0 => ?_)
    refine dp 53 rfl n0 z0 (wff z0) s0 (fun y0 m0 => ?_)
    refine dp 54 rfl n0 m0 (wff m0) s0 (fun y0 z0 => ?_)
    refine dp 55 rfl n0 z0 (wff z0) s0 (fun y0 m0 => ?_)
    refine dt 56 rfl n0 m0 (want_n rfl) (fun x hx => r_pick_t (sy m0) m0 rfl rfl rfl rfl (by decide) gt) s0 (fun y0 z0 => ?_)
    refine wpAnyH_done (by kernel_rfl) (o0 _ _ ?_) _
    refine x_then_n (j0 _ _ ?_)
    refine wp_cond_true (z0.ev rfl) ?_
    refine wsc (fun y0 m0 => ?_)
    refine m_load (i := 1) sv z0 q0 rfl rfl rfl rfl rfl Tryd.underlying57 rfl (by decide) (fun y0 b1 => ?_)
    refine r_nilCheck sv b1 rfl rfl rfl (by decide) (fun y0 z0 => ?_)
    refine m_field (j' := 0) sv z0 rfl rfl rfl Tryd.underlying61 rfl sz59 rfl rfl (by decide) (fun y0 b1 => ?_)
    have y0 := q0.nf
    refine k_call (xs := [.tmp 67]) se b1 rfl rfl rfl (by decide) ok64 (stuck_calls _ _ y0.il _ _ _ _ (y0.z 0) (imm_box (i := 0) rfl)) ?_
    rintro b1 z0 ⟨c1, f1, rfl, h1, i1, j1⟩
    have z0 := y0.callM (i := 0) rfl h1 i1
    have i1 := y0.dM 0 z0 j1
    refine ⟨_, rfl, fun z0 j1 => ?_⟩
    refine asg j1 (fun z0 y0 => ?_)
    refine wpList_nil (x_then_n (m0 _ _ ?_))
    refine wp_ret ?_
    refine x_then_r ?_
    refine m_none (.inl rfl) y0 rfl (res1 y0 rfl rfl _) ?_
    refine ⟨c1, f1, ([] : List Nd), ?_, i1.fr, (by rw [show ((elR rn rx (lsts rp) (lsts rq) (lstsT rk)).2 : Int) = ((if (re) = 0 then 120 else (re))) by (unfold elR; rw [if_neg (by rintro ⟨y0, m0, z0, j1⟩; first | contradiction | omega)]; simp [he])]; exact i1.res (i := 0) rfl), i1.rx 8, (by unfold elR; rw [if_neg (by rintro ⟨y0, m0, z0, j1⟩; first | contradiction | omega)])⟩
    exact congrArg Ending.returned (ret_s (by first | rfl | (simp; done)))
   ·
    have i1 : rx.N < ((rk.length : Nat) : Int) := by omega
    have hpn : (rx.N + 1).toNat < rp.length := by omega
    have f1 := x0.setb (d := 45) (b := false) rfl (decide_eq_false v0)
    refine dtC 38 11 n0 f1 s0 Tryd.underlying57 (fun v0 x0 => ?_) (hw := wt f1)
    refine dtN 39 n0 x0 s0 (fun v0 f1 => ?_) (hw := wt x0)
    refine dtF 40 11 n0 f1 s0 Tryd.underlying61 sz23 (fun v0 x0 => ?_) (hw := wt f1)
    refine dtC 41 10 n0 x0 s0 Tryd.underlying23 (fun v0 f1 => ?_) (hw := wt x0)
    refine dtC 42 11 n0 f1 s0 Tryd.underlying57 (fun v0 x0 => ?_) (hw := wt f1)
    refine dtN 43 n0 x0 s0 (fun v0 f1 => ?_) (hw := wt x0)
    refine dtF 44 5 n0 f1 s0 Tryd.underlying61 sz39 (fun v0 x0 => ?_) (hw := wt f1)
    refine dtF 45 6 n0 x0 s0 Tryd.underlying39 sz3 (fun v0 f1 => ?_) (hw := wt x0)
    refine dtC 46 5 n0 f1 s0 Tryd.underlying3 (fun v0 x0 => ?_) (hw := wt f1)
    refine dt 47 rfl n0 x0 (wt x0) (fun x hx => m_index (i := ((rx.N)).toNat) (j := (((rx.N)).toNat) * 1) (sy x0) x0 rfl rfl rfl rfl Tryd.underlying23 sz42 (by omega) (by omega) (ts_elem (t := rk) (k := ((rx.N)).toNat) (sdat (b0 5 _ rfl) hx.ag).2 (by omega)).some_ rfl (by decide) gt) s0 (fun v0 f1 => ?_)
    refine dt 48 rfl n0 f1 (wt f1) (fun x hx => m_loadE (sy f1) f1 rfl rfl rfl 0 ((((rx.N)).toNat) * 1) (ts_elem (t := rk) (k := ((rx.N)).toNat) (sdat (b0 5 _ rfl) hx.ag).2 (by omega)) rfl rfl Tryd.underlying42 rfl (by decide) gt) s0 (fun v0 x0 => ?_)
    have v0 := q0.data (dRow 1 ((nthT rk (((rx.N)).toNat)).1) ((nthT rk (((rx.N)).toNat)).2.2.length) ((nthT rk (((rx.N)).toNat)).2.1) (encSs ((nthT rk (((rx.N)).toNat)).2.2))) (allT_at (t := rk) (k := ((rx.N)).toNat) (q0.get (i := 6) rfl) (by omega)).1
    have f1 := v0.data (dAll ((nthT rk (((rx.N)).toNat)).2.2)) (allT_at (t := rk) (k := ((rx.N)).toNat) (v0.get (i := 6) rfl) (by omega)).2
    refine dt 49 rfl n0 x0 (wt x0) (fun x hx => r_len (sy x0) x0 rfl rfl rfl rfl Tryd.underlying42 (by decide) gt) s0 (fun v0 b0 => ?_)
    refine dtC 50 11 n0 b0 s0 Tryd.underlying57 (fun v0 x0 => ?_) (hw := wt b0)
    refine dtN 51 n0 x0 s0 (fun v0 b0 => ?_) (hw := wt x0)
    refine dtF 52 5 n0 b0 s0 Tryd.underlying61 sz39 (fun v0 x0 => ?_) (hw := wt b0)
    refine dtF 53 7 n0 x0 s0 Tryd.underlying39 sz3 (fun v0 b0 => ?_) (hw := wt x0)
    refine dtC 54 6 n0 b0 s0 Tryd.underlying3 (fun v0 x0 => ?_) (hw := wt b0)
    refine dt 55 rfl n0 x0 (wt x0) (fun x hx => r_neq (sy x0) x0 rfl rfl rfl rfl (by decide) gt) s0 (fun v0 b0 => ?_)
    refine dtQ 56 n0 b0 s0 (fun v0 x0 => ?_)
    refine wpAnyH_done (by kernel_rfl) (o0 _ _ ?_) _
    refine x_then_n (j0 _ _ ?_)
    rcases Decidable.em ((((nthT rk (((rx.N)).toNat)).2.2.length : Nat) : Int) = (rx.M)) with v0 | v0
    ·
     have b0 := x0.setb (d := 64) (b := false) rfl (by rw [(decide_eq_true v0)]; rfl)
     refine wp_cond_false (b0.ev rfl) ?_
     refine wp_skip ?_
     refine x_then_n (c0 _ _ ?_)
     refine wp_seq_k (fun c0 c1 => ?_)
     obtain ⟨c0, h1, b1⟩ := f1.agree
     refine d_reg3 (n := 14) b1 10 (pB 0 1 (pc 1 0 pn)) (pan_then pan_bodyM) (fun k1 m1 n1 o1 p1 s1 => ?_)
     refine dtC 0 11 m1 b0 s1 Tryd.underlying57 (fun o1 k1 => ?_)
     refine dtN 1 m1 k1 s1 (fun o1 b0 => ?_)
     refine dtF 2 9 m1 b0 s1 Tryd.underlying61 sz42 (fun o1 k1 => ?_)
     refine dtC 3 8 m1 k1 s1 Tryd.underlying42 (fun o1 b0 => ?_)
     refine dtC 4 11 m1 b0 s1 Tryd.underlying57 (fun o1 k1 => ?_)
     refine dtN 5 m1 k1 s1 (fun o1 b0 => ?_)
     refine dtF 6 5 m1 b0 s1 Tryd.underlying61 sz39 (fun o1 k1 => ?_)
     refine dtF 7 6 m1 k1 s1 Tryd.underlying39 sz3 (fun o1 b0 => ?_)
     refine dtC 8 5 m1 b0 s1 Tryd.underlying3 (fun o1 k1 => ?_)
     refine dt 9 rfl m1 k1 (want_n rfl) (fun x hx => r_add (z := (rx.N + 1)) (sy k1) k1 rfl rfl rfl rfl (by decide) (by omega) (by omega) (by omega) gt) s1 (fun o1 b0 => ?_)
     refine dt 10 rfl m1 b0 (want_n rfl) (fun x hx => m_index (i := ((rx.N + 1)).toNat) (j := (((rx.N + 1)).toNat) * 1) (sy b0) b0 rfl rfl rfl rfl Tryd.underlying42 sz22 (by omega) (by omega) (ss_elem (t := rp) (k := ((rx.N + 1)).toNat) (sdat (h1 1 _ rfl) hx.ag).2 (by omega)).some_ rfl (by decide) gt) s1 (fun o1 k1 => ?_)
     refine dt 11 rfl m1 k1 (want_n rfl) (fun x hx => m_loadE (sy k1) k1 rfl rfl rfl 0 ((((rx.N + 1)).toNat) * 1) (ss_elem (t := rp) (k := ((rx.N + 1)).toNat) (sdat (h1 1 _ rfl) hx.ag).2 (by omega)) rfl rfl Tryd.underlying22 rfl (by decide) gt) s1 (fun o1 b0 => ?_)
     have o1 := p1.data (dRow 4 ((nthS rp (((rx.N + 1)).toNat)).1) ((nthS rp (((rx.N + 1)).toNat)).2.2.length) ((nthS rp (((rx.N + 1)).toNat)).2.1) (encNs ((nthS rp (((rx.N + 1)).toNat)).2.2))) (all_at (t := rp) (k := ((rx.N + 1)).toNat) (p1.get (i := 2) rfl) (by omega))
     refine d1 12 ?_
     refine m_alloc (cs := [.slice none 0 0]) (st_opV rfl (want_n rfl)) b0 o1 rfl rfl ze22 rfl (by decide) (fun p1 k1 s1 m1 h1 => ?_)
     have k1 := sWI h1 10 (pB 0 1 (pc 1 0 pn))
     refine ⟨k1, ?_⟩
     refine d1 13 ?_
     refine m_store (i := 2) (cs' := [.slice ((nthS rp (((rx.N + 1)).toNat)).1) ((nthS rp (((rx.N + 1)).toNat)).2.2.length) ((nthS rp (((rx.N + 1)).toNat)).2.1)]) (st_op rfl (want_n rfl)) m1 h1 rfl rfl rfl rfl rfl sz22 rfl rfl rfl (fun k1 p1 o1 b0 => ?_)
     have p1 := sWI b0 10 (pB 0 1 (pc 1 0 pn))
     refine ⟨p1, ?_⟩
     refine wpAnyH_done (by kernel_rfl) (n1 _ _ ?_) _
     refine x_then_n (c1 _ _ ?_)
     refine wsc (fun c1 n1 => ?_)
     refine r_makeFunc sv o1 rfl rfl rfl (by decide) (fun c1 p1 => ?_)
     refine m_alloc (cs := [.nilFunc]) sv p1 b0 rfl rfl ze119 rfl (by decide) (fun c1 o1 k1 h1 m1 => ?_)
     refine m_store (i := 3) (cs' := [.func (.func 90) #[] #[.pointer (some ⟨i0, 0, none⟩), .pointer (some ⟨s1, 0, none⟩)]]) se h1 m1 rfl rfl rfl rfl rfl sz119 rfl rfl rfl (fun o1 c1 p1 b0 => ?_)
     refine wpList_nil (x_then_n (n1 _ _ ?_))
     refine wp_seq_k (fun n1 c1 => ?_)
     refine wsc (fun n1 o1 => ?_)
     refine m_load (i := 1) sv p1 b0 rfl rfl rfl rfl rfl Tryd.underlying57 rfl (by decide) (fun n1 m1 => ?_)
     refine r_nilCheck sv m1 rfl rfl rfl (by decide) (fun n1 p1 => ?_)
     refine m_field (j' := 10) sv p1 rfl rfl rfl Tryd.underlying61 rfl sz42 rfl rfl (by decide) (fun n1 m1 => ?_)
     refine m_load (i := 0) sv m1 b0 rfl rfl rfl rfl rfl Tryd.underlying42 rfl (by decide) (fun n1 p1 => ?_)
     refine r_len sv p1 rfl rfl rfl rfl Tryd.underlying42 (by decide) (fun n1 m1 => ?_)
     refine mv m1 (fun n1 p1 => ?_)
     refine wpList_nil (x_then_n (o1 _ _ ?_))
     refine wp_block ?_
     have o1 : (nthS rp (((rx.N + 1)).toNat)).2.2 = apK (nthS rp (rx.N + 1).toNat).2.2 (lsts rq) 0 := rfl
     have n1 := p1
     have p1 := b0
     (try rw [o1] at n1); rw [o1] at p1
     refine wp_loop_ghost (fun gn ga gw => ∃ k : Nat, ∃ oA : Option Addr, ∃ oc : Nat, (Reg ga 102 [(1000000, .bool false), (1, .pointer (some ⟨i0, 0, none⟩)), (2, .slice none 0 0), (3, .pointer (some ⟨s1, 0, none⟩)), (4, .pointer (some ⟨k1, 0, none⟩)), (85, .slice rqA rq.length rqc), (86, .int .i64 ((rq.length : Nat) : Int)), (87, .int .i64 ((k : Nat) : Int))]) ∧ (St w0 Z (· = rg) gw [.box rg 61 [.int .i64 (re), .int .i64 (rn.K), .int .i64 (rn.N), .int .i64 (rn.M), .string rn.S, .int .i64 (rx.K), .int .i64 (rx.N), .int .i64 (rx.M), .string rx.S, .slice rpA rp.length rpc, .slice rqA rq.length rqc, .slice rkA rk.length rkc], .box i0 57 [.pointer (some ⟨rg, 0, none⟩)], .box s1 22 [.slice oA ((apK (nthS rp (rx.N + 1).toNat).2.2 (lsts rq) k).length) oc], .box k1 119 [.func (.func 90) #[] #[.pointer (some ⟨i0, 0, none⟩), .pointer (some ⟨s1, 0, none⟩)]]] [dShapes, dRow 1 rpA rp.length rpc (encSs rp), dAll rp, dRow 1 rqA rq.length rqc (encSs rq), dAll rq, dRow 1 rkA rk.length rkc (encTs rk), dAllT rk, dAg h0 f0, dRow 1 ((nthT rk (((rx.N)).toNat)).1) ((nthT rk (((rx.N)).toNat)).2.2.length) ((nthT rk (((rx.N)).toNat)).2.1) (encSs ((nthT rk (((rx.N)).toNat)).2.2)), dAll ((nthT rk (((rx.N)).toNat)).2.2), dAg p0 c0, dRow 4 oA ((apK (nthS rp (rx.N + 1).toNat).2.2 (lsts rq) k).length) oc (encNs (apK (nthS rp (rx.N + 1).toNat).2.2 (lsts rq) k))]) ∧ (k ≤ rq.length) ∧ (rq.length - k) = gn) _ ⟨0, (nthS rp (((rx.N + 1)).toNat)).1, (nthS rp (((rx.N + 1)).toNat)).2.1, (n1.sub (rc rfl (rc rfl (rc rfl (rc rfl (rc rfl (rc rfl (rc rfl (rc rfl rnl))))))))), p1, by omega, rfl⟩ ?_
     rintro p1 n1 k1 ⟨k, oA, oc, c0, p0, hk, f0⟩
     have hol := apK_len (o := (nthS rp (rx.N + 1).toNat).2.2) (q := lsts rq) (hpm _ (by omega)).2 (fun y hy => (hqs y hy).2) k (by rw [lsts_len]; omega)
     refine wsc (fun f0 n1 => ?_)
     refine r_lss sv c0 rfl rfl rfl rfl (by decide) (fun f0 p1 => ?_)
     refine wpList_nil (x_then_n (n1 _ _ ?_))
     refine wp_seq_k (fun n1 f0 => ?_)
     rcases Decidable.em (((k : Nat) : Int) < ((rq.length : Nat) : Int)) with n1 | n1
     ·
      have c0 := p1.setb (d := 88) (b := true) rfl (decide_eq_true n1)
      refine wp_cond_true (c0.ev rfl) ?_
      refine wp_skip ?_
      refine x_then_n (f0 _ _ ?_)
      refine wp_seq_k (fun f0 h0 => ?_)
      refine wp_block ?_
      refine wsc (fun f0 o1 => ?_)
      refine m_index (i := k) (j := k * 1) sv c0 rfl rfl rfl rfl Tryd.underlying42 sz22 (by omega) (by omega) (ss_elem (t := rq) (k := k) (p0.row (i := 3) rfl).2 (by omega)).some_ rfl (by decide) (fun f0 b0 => ?_)
      refine m_loadE sv b0 rfl rfl rfl 0 (k * 1) (ss_elem (t := rq) (k := k) (p0.row (i := 3) rfl).2 (by omega)) rfl rfl Tryd.underlying22 rfl (by decide) (fun f0 c0 => ?_)
      have f0 := p0.data (dRow 4 ((nthS rq k).1) ((nthS rq k).2.2.length) ((nthS rq k).2.1) (encNs ((nthS rq k).2.2))) (all_at (t := rq) (k := k) (p0.get (i := 4) rfl) (by omega))
      refine asg c0 (fun b0 m1 => ?_)
      refine wpList_nil (x_then_n (o1 _ _ (c_region ?_)))
      refine m_load (i := 3) sv m1 f0 rfl rfl rfl rfl rfl Tryd.underlying119 rfl (by decide) (fun o1 b0 => ?_)
      refine mv b0 (fun o1 m1 => ?_)
      refine k_inlV (cs := [.pointer (some ⟨i0, 0, none⟩), .pointer (some ⟨s1, 0, none⟩)]) (xs := [.tmp 92]) (xv := [.slice ((nthS rq k).1) ((nthS rq k).2.2.length) ((nthS rq k).2.1), .pointer (some ⟨i0, 0, none⟩), .pointer (some ⟨s1, 0, none⟩)]) se m1 rfl rfl rfl rfl (by decide) ok90 rfl ?_
      refine c_enter (vs := [.slice ((nthS rq k).1) ((nthS rq k).2.2.length) ((nthS rq k).2.1), .pointer (some ⟨i0, 0, none⟩), .pointer (some ⟨s1, 0, none⟩)]) Tryd.func90 rfl Tryd.ntmps90 rfl (fun m1 o1 => ?_)
      obtain ⟨m1, b0, c0⟩ := f0.agree
      refine dl_region2 (S := (sW k1 m1 [cel rg 1 (.int .i64 (rn.K)), cel rg 2 (.int .i64 (rn.N)), cel rg 3 (.int .i64 (rn.M)), cel rg 4 (.string rn.S), cel rg 5 (.int .i64 (rx.K)), cel rg 6 (.int .i64 (rx.N)), cel rg 7 (.int .i64 (rx.M)), cel rg 8 (.string rx.S), cel rg 9 (.slice rpA rp.length rpc), cel rg 10 (.slice rqA rq.length rqc), cel rg 11 (.slice rkA rk.length rkc), cel i0 0 (.pointer (some ⟨rg, 0, none⟩)), cel s1 0 (.slice oA ((apK (nthS rp (rx.N + 1).toNat).2.2 (lsts rq) k).length) oc)])) (n := 9) [8] mixed rfl c0 pan_body (fun b0 f0 h1 b1 t1 => ?_)
      have b1 := sWI t1 13 (pc 0 1 (pc 0 2 (pc 0 3 (pc 0 4 (pc 0 5 (pc 0 6 (pc 0 7 (pc 0 8 (pc 0 9 (pc 0 10 (pc 0 11 (pc 1 0 (pc 2 0 pn)))))))))))))
      refine dl_take (i := 0) rfl (by kernel_rfl) (by kernel_rfl) (by kernel_rfl) (by kernel_rfl) (fun c a w h => f0 c _ _ _ _ h) rfl (by decide) o1 (want_n rfl) (fun x hx => m_loadC (sy o1) o1 rfl rfl rfl (hx.c 11) Tryd.underlying57 rfl (by decide) gt) b1 (fun b0 c0 => ?_)
      refine dl_takeA (i := 1) rfl (by kernel_rfl) (by kernel_rfl) (by kernel_rfl) (fun c a w h => f0 c _ _ _ _ h) rfl (by decide) c0 (want_n rfl) (fun x => r_nilCheck (sy c0) c0 rfl rfl rfl (by decide) gt) (fun b0 o1 => ?_)
      refine dl_takeA (i := 2) rfl (by kernel_rfl) (by kernel_rfl) (by kernel_rfl) (fun c a w h => f0 c _ _ _ _ h) rfl (by decide) o1 (want_n rfl) (fun x => m_field (j' := 0) (sy o1) o1 rfl rfl rfl Tryd.underlying61 rfl sz59 rfl rfl (by decide) gt) (fun b0 c0 => ?_)
      refine dl_takeA (i := 3) rfl (by kernel_rfl) (by kernel_rfl) (by kernel_rfl) (fun c a w h => f0 c _ _ _ _ h) rfl (by decide) c0 (want_n rfl) (fun x => m_build (ps := [(0, .const (.int .i64 5))]) (v := .agg #[.int .i64 5, .int .i64 0, .int .i64 0, .string (⟨#[]⟩ : ByteArray)]) (sy c0) c0 rfl rfl rfl (fun _ => by kernel_rfl) (by decide) gt) (fun b0 o1 => ?_)
      refine dl_take (i := 4) rfl (by kernel_rfl) (by kernel_rfl) (by kernel_rfl) (by kernel_rfl) (fun c a w h => f0 c _ _ _ _ h) rfl (by decide) o1 (want_n rfl) (fun x hx => m_loadC (sy o1) o1 rfl rfl rfl (hx.c 12) Tryd.underlying22 rfl (by decide) gt) b1 (fun b0 c0 => ?_)
      refine dl_takeA (i := 5) rfl (by kernel_rfl) (by kernel_rfl) (by kernel_rfl) (fun c a w h => f0 c _ _ _ _ h) rfl (by decide) c0 (want_n rfl) (fun x => r_move (sy c0) c0 rfl rfl rfl (by decide) gt) (fun b0 o1 => ?_)
      refine dl_one (i := 6) (by kernel_rfl) ?_
      have b0 := t1.data (dAll [((oA, oc, apK (nthS rp (rx.N + 1).toNat).2.2 (lsts rq) k) : Sl), (((nthS rq k).1, (nthS rq k).2.1, (nthS rq k).2.2) : Sl)]) (all_cons (t1.get (i := 11) rfl) (all_cons (t1.get (i := 12) rfl) all_nil))
      refine mbs [(0, .tmp 8), (1, .tmp 9)] [.slice oA ((apK (nthS rp (rx.N + 1).toNat).2.2 (lsts rq) k).length) oc, .slice ((nthS rq k).1) ((nthS rq k).2.2.length) ((nthS rq k).2.1)] (st_opV rfl (want_n rfl)) o1 b0 Tryd.underlying42 zi22 (fun t1 c0 f0 b1 m1 => ?_)
      have c0 := sWI m1 13 (pc 0 1 (pc 0 2 (pc 0 3 (pc 0 4 (pc 0 5 (pc 0 6 (pc 0 7 (pc 0 8 (pc 0 9 (pc 0 10 (pc 0 11 (pc 1 0 (pc 2 0 pn)))))))))))))
      refine ⟨fun _ _ => c0, ?_⟩
      refine dl_one (i := 7) (by kernel_rfl) ?_
      have c0 := m1.nf
      have m1 := own_cap (c0.res (i := 4) rfl)
      obtain ⟨t1, b0⟩ := c0.row_dataM (i := 4) rfl (j := 0) rfl (by decide)
      have c0 := t1.data (dRow 1 (some ⟨f0, 0, none⟩) 2 2 (encSs ([((oA, oc, apK (nthS rp (rx.N + 1).toNat).2.2 (lsts rq) k) : Sl), (((nthS rq k).1, (nthS rq k).2.1, (nthS rq k).2.2) : Sl)]))) ⟨m1, b0⟩
      refine k_call (xs := [.tmp 6, .tmp 7, .tmp 10]) (st_op rfl (want_n rfl)) b1 rfl rfl rfl (by decide) ok72 (node_calls _ _ c0.il _ _ _ _ (⟨5, 0, 0, (⟨#[]⟩ : ByteArray)⟩ : Nd) _ _ ([((oA, oc, apK (nthS rp (rx.N + 1).toNat).2.2 (lsts rq) k) : Sl), (((nthS rq k).1, (nthS rq k).2.1, (nthS rq k).2.2) : Sl)]) (c0.z 0) (imm_box (i := 0) rfl) (c0.g 15) (c0.g 14) (hl := (by simp)) (hb := (by intro x hx; simp only [List.mem_cons, List.not_mem_nil, or_false] at hx; rcases hx with rfl | rfl; first | omega | (simp only []; omega); exact Nat.le_trans (hqm k (by omega)).2 (by decide)))) ?_
      rintro b1 b0 ⟨t1, m1, f0, rfl, o1, k1, i0, u1⟩
      have b0 := c0.callM (i := 0) rfl o1 k1
      have k1 := c0.dM 0 b0 i0
      refine ⟨_, rfl, fun b0 i0 => ?_⟩
      have b0 := sWI k1 13 (pc 0 1 (pc 0 2 (pc 0 3 (pc 0 4 (pc 0 5 (pc 0 6 (pc 0 7 (pc 0 8 (pc 0 9 (pc 0 10 (pc 0 11 (pc 1 0 (pc 2 0 pn)))))))))))))
      refine ⟨fun _ _ => b0, ?_⟩
      refine dl_one (i := 8) (by kernel_rfl) ?_
      refine m_store (i := 2) (cs' := [.slice t1 f0.length m1]) (st_op rfl (want_n rfl)) i0 k1 rfl rfl rfl rfl rfl sz22 rfl rfl rfl (fun b0 c0 o1 b1 => ?_)
      refine ⟨fun h => absurd h (by decide), ?_⟩
      refine dl_done (by kernel_rfl) (h1 _ _ ?_) _
      refine e_end0 o1 rfl rfl ?_
      refine ⟨_, rfl, fun o1 h1 => ?_⟩
      refine wpList_nil ?_
      refine x_block_n ?_
      refine x_then_n (h0 _ _ ?_)
      refine c_region ?_
      refine r_add (z := ((k + 1 : Nat) : Int)) sv h1 rfl rfl rfl rfl (by decide) (by omega) (by omega) (by omega) (fun h0 o1 => ?_)
      refine mv o1 (fun h0 h1 => ?_)
      refine wpList_nil ?_
      have h0 : f0 = apK (nthS rp (rx.N + 1).toNat).2.2 (lsts rq) (k + 1) := by rw [u1, apK_succ (by rw [lsts_len]; omega), he]; simp only [lsts_cons1, lsts_nil1, lsts_nth]
      have u1 := h1
      have h1 := b1
      (try rw [h0] at u1); rw [h0] at h1
      have h0 := h1.forget 15
      have h1 := h0.forget 14
      have h0 := h1.forget 13
      have h1 := h0.forget 12
      have h0 := h1.forget 11
      exact ⟨_, by omega, k + 1, t1, m1, (u1.sub (rc rfl (rc rfl (rc rfl (rc rfl (rc rfl (rc rfl (rc rfl (rc rfl rnl))))))))), h0, by omega, rfl⟩
     ·
      have h0 := p1.setb (d := 88) (b := false) rfl (decide_eq_false n1)
      refine wp_cond_false (h0.ev rfl) ?_
      refine wp_exit ?_
      refine x_then_e ?_
      refine x_then_e ?_
      refine x_block_eq ?_
      refine x_then_n (c1 _ _ ?_)
      refine wp_seq_k (fun c1 n1 => ?_)
      refine wsc (fun c1 p1 => ?_)
      refine m_load (i := 1) sv h0 p0 rfl rfl rfl rfl rfl Tryd.underlying57 rfl (by decide) (fun c1 u1 => ?_)
      refine k_inl (xs := [.tmp 95]) se u1 rfl rfl rfl (by decide) ok91 ?_
      refine c_enter (vs := [.pointer (some ⟨rg, 0, none⟩)]) Tryd.func91 rfl Tryd.ntmps91 rfl (fun u1 c1 => ?_)
      refine wsc (fun u1 h0 => ?_)
      refine m_box (cs := [.pointer (some ⟨rg, 0, none⟩)]) sv c1 p0 rfl rfl rfl rfl (by decide) (fun u1 m1 t1 h1 b1 => ?_)
      refine asg h1 (fun m1 u1 => ?_)
      refine wpList_nil (x_then_n (h0 _ _ ?_))
      refine wsc (fun h0 m1 => ?_)
      refine r_makeFunc sv u1 rfl rfl rfl (by decide) (fun h0 h1 => ?_)
      refine asg h1 (fun h0 u1 => ?_)
      refine wpList_nil (x_then_n (m1 _ _ ?_))
      refine wp_ret ?_
      refine e_ret1 u1 rfl rfl rfl ?_
      refine ⟨_, rfl, fun u1 m1 => ?_⟩
      refine wpList_nil (x_then_n (p1 _ _ ?_))
      refine wp_block ?_
      have p1 := b1.nf
      have b1 : Reg u1 102 [(1000000, .bool false), (2, .slice none 0 0), (3, .pointer (some ⟨s1, 0, none⟩))] := (m1.sub (rc rfl (rc rfl (rc rfl rnl))))
      refine w_range0 (m1.ev rfl) ok115 p1 (fun u1 s1 h0 => (hyp0_calls s1 (fun k => k < s1.heap.size) (fun _ h => h) (.func (.yield u1) #[] #[]) t1 rg _ rn rx _ _ rp _ _ rq _ _ rk (old_d h0 (p1.get (i := 0) rfl)) (old_d h0 (p1.get (i := 1) rfl)) (old_d h0 (p1.get (i := 2) rfl)) (old_d h0 (p1.get (i := 3) rfl)) (old_d h0 (p1.get (i := 4) rfl)) (old_d h0 (p1.get (i := 5) rfl)) (old_d h0 (p1.get (i := 6) rfl)) (old_b h0 (p1.res (i := 0) rfl)) (old_b h0 (p1.res (i := 4) rfl)) hq4 hcs hc4 hN0 i1 (by omega)).mono (fun _ _ h => ⟨⟨_, h.1⟩, h.2⟩)) (fun h1 c1 p0 => ?_)
      have c1 := Reg.marked b1 h1
      refine x_block_n ?_
      refine x_then_n (n1 _ _ ?_)
      refine wsc (fun n1 h1 => ?_)
      refine m_load (i := 2) sv c1 p0 rfl rfl rfl rfl rfl Tryd.underlying22 rfl (by decide) (fun n1 b1 => ?_)
      refine asg b1 (fun n1 c1 => ?_)
      refine wpList_nil (x_then_n (h1 _ _ ?_))
      refine wp_ret ?_
      have h1 := p0.nf
      obtain ⟨p0, n1⟩ := h1.shut (i := 12) rfl [dRow 4 oA ((apK (nthS rp (rx.N + 1).toNat).2.2 (lsts rq) k).length) oc (encNs (apK (nthS rp (rx.N + 1).toNat).2.2 (lsts rq) k))] (by intro d hd; simp only [List.mem_cons, List.not_mem_nil, or_false] at hd; rcases hd with rfl; exact ⟨List.mem_of_getElem? (i := 11) rfl, datC_row (by decide) _ _ _ _⟩)
      refine m_mark (.inl rfl) c1 rfl p0 (res1 c1 rfl rfl _) ?_
      refine ⟨oA, oc, (apK (nthS rp (rx.N + 1).toNat).2.2 (lsts rq) k), ?_, n1.fr, (by rw [show ((elR rn rx (lsts rp) (lsts rq) (lstsT rk)).2 : Int) = (re) by (unfold elR; rw [if_pos (by refine ⟨?_, ?_, ?_, ?_⟩ <;> first | assumption | omega)]; exact he.symm)]; exact n1.res (i := 0) rfl), n1.rx 0, (by unfold elR; rw [if_pos (by refine ⟨?_, ?_, ?_, ?_⟩ <;> first | assumption | omega)]; rw [← lsts_nth, lsts_len, show rq.length = k by omega])⟩
      exact congrArg Ending.returned (ret_s (by first | rfl | (simp; done)))
    ·
     have n1 := x0.setb (d := 64) (b := true) rfl (by rw [(decide_eq_false v0)]; rfl)
     refine wp_cond_true (n1.ev rfl) ?_
     refine wsc (fun v0 x0 => ?_)
     refine m_load (i := 1) sv n1 f1 rfl rfl rfl rfl rfl Tryd.underlying57 rfl (by decide) (fun v0 p0 => ?_)
     refine r_nilCheck sv p0 rfl rfl rfl (by decide) (fun v0 n1 => ?_)
     refine m_field (j' := 0) sv n1 rfl rfl rfl Tryd.underlying61 rfl sz59 rfl rfl (by decide) (fun v0 p0 => ?_)
     have v0 := f1.nf
     refine k_call (xs := [.tmp 67]) se p0 rfl rfl rfl (by decide) ok64 (stuck_calls _ _ v0.il _ _ _ _ (v0.z 0) (imm_box (i := 0) rfl)) ?_
     rintro p0 f1 ⟨n1, c1, rfl, h1, b1, h0⟩
     have f1 := v0.callM (i := 0) rfl h1 b1
     have b1 := v0.dM 0 f1 h0
     refine ⟨_, rfl, fun f1 h0 => ?_⟩
     refine asg h0 (fun f1 v0 => ?_)
     refine wpList_nil (x_then_n (x0 _ _ ?_))
     refine wp_ret ?_
     refine x_then_r ?_
     refine m_none (.inl rfl) v0 rfl (res1 v0 rfl rfl _) ?_
     refine ⟨n1, c1, ([] : List Nd), ?_, b1.fr, (by rw [show ((elR rn rx (lsts rp) (lsts rq) (lstsT rk)).2 : Int) = ((if (re) = 0 then 120 else (re))) by (unfold elR; rw [if_neg (by rintro ⟨y0, m0, z0, j1⟩; first | contradiction | omega)]; simp [he])]; exact b1.res (i := 0) rfl), b1.rx 10, (by unfold elR; rw [if_neg (by rintro ⟨y0, m0, z0, j1⟩; first | contradiction | omega)])⟩
     exact congrArg Ending.returned (ret_s (by first | rfl | (simp; done)))
  ·
   have b1 := u0.setb (d := 32) (b := true) rfl (by rw [(decide_eq_false t0)]; rfl)
   refine dp 25 rfl n0 b1 (wff b1) s0 (fun t0 u0 => ?_)
   refine dp 26 rfl n0 u0 (wff u0) s0 (fun t0 b1 => ?_)
   refine dp 27 rfl n0 b1 (wff b1) s0 (fun t0 u0 => ?_)
   refine dp 28 rfl n0 u0 (wff u0) s0 (fun t0 b1 => ?_)
   refine dp 29 rfl n0 b1 (wff b1) s0 (fun t0 u0 => ?_)
   refine dp 30 rfl n0 u0 (wff u0) s0 (fun t0 b1 => ?_)
   refine dp 31 rfl n0 b1 (wff b1) s0 (fun t0 u0 => ?_)
   refine dp 32 rfl n0 u0 (wff u0) s0 (fun t0 b1 => ?_)
   refine dp 33 rfl n0 b1 (wff b1) s0 (fun t0 u0 => ?_)
   refine dp 34 rfl n0 u0 (wff u0) s0 (fun t0 b1 => ?_)
   refine dp 35 rfl n0 b1 (wff b1) s0 (fun t0 u0 => ?_)
   refine dt 36 rfl n0 u0 (want_n rfl) (fun x hx => r_pick_t (sy u0) u0 rfl rfl rfl rfl (by decide) gt) s0 (fun t0 b1 => ?_)
   refine dtM 37 n0 b1 s0 (fun t0 u0 => ?_)
   refine dp 38 rfl n0 u0 (wff u0) s0 (fun t0 b1 => ?_)
   refine dp 39 rfl n0 b1 (wff b1) s0 (fun t0 u0 => ?_)
   refine dp 40 rfl n0 u0 (wff u0) s0 (fun t0 b1 => ?_)
   refine dp 41 rfl n0 b1 (wff b1) s0 (fun t0 u0 => ?_)
   refine dp 42 rfl n0 u0 (wff u0) s0 (fun t0 b1 => ?_)
   refine dp 43 rfl n0 b1 (wff b1) s0 (fun t0 u0 => ?_)
   refine dp 44 rfl n0 u0 (wff u0) s0 (fun t0 b1 => ?_)
   refine dp 45 rfl n0 b1 (wff b1) s0 (fun t0 u0 => ?_)
   refine dp 46 rfl n0 u0 (wff u0) s0 (fun t0 b1 => ?_)
   refine dp 47 rfl n0 b1 (wff b1) s0 (fun t0 u0 => ?_)
   refine dp 48 rfl n0 u0 (wff u0) s0 (fun t0 b1 => ?_)
   refine dp 49 rfl n0 b1 (wff b1) s0 (fun t0 u0 => ?_)
   refine dp 50 rfl n0 u0 (wff u0) s0 (fun t0 b1 => ?_)
   refine dp 51 rfl n0 b1 (wff b1) s0 (fun t0 u0 => ?_)
   refine dp 52 rfl n0 u0 (wff u0) s0 (fun t0 b1 => ?_)
   refine dp 53 rfl n0 b1 (wff b1) s0 (fun t0 u0 => ?_)
   refine dp 54 rfl n0 u0 (wff u0) s0 (fun t0 b1 => ?_)
   refine dp 55 rfl n0 b1 (wff b1) s0 (fun t0 u0 => ?_)
   refine dt 56 rfl n0 u0 (want_n rfl) (fun x hx => r_pick_t (sy u0) u0 rfl rfl rfl rfl (by decide) gt) s0 (fun t0 b1 => ?_)
   refine wpAnyH_done (by kernel_rfl) (o0 _ _ ?_) _
   refine x_then_n (j0 _ _ ?_)
   refine wp_cond_true (b1.ev rfl) ?_
   refine wsc (fun t0 u0 => ?_)
   refine m_load (i := 1) sv b1 q0 rfl rfl rfl rfl rfl Tryd.underlying57 rfl (by decide) (fun t0 c1 => ?_)
   refine r_nilCheck sv c1 rfl rfl rfl (by decide) (fun t0 b1 => ?_)
   refine m_field (j' := 0) sv b1 rfl rfl rfl Tryd.underlying61 rfl sz59 rfl rfl (by decide) (fun t0 c1 => ?_)
   have t0 := q0.nf
   refine k_call (xs := [.tmp 67]) se c1 rfl rfl rfl (by decide) ok64 (stuck_calls _ _ t0.il _ _ _ _ (t0.z 0) (imm_box (i := 0) rfl)) ?_
   rintro c1 b1 ⟨n1, v0, rfl, x0, f1, h0⟩
   have b1 := t0.callM (i := 0) rfl x0 f1
   have f1 := t0.dM 0 b1 h0
   refine ⟨_, rfl, fun b1 h0 => ?_⟩
   refine asg h0 (fun b1 t0 => ?_)
   refine wpList_nil (x_then_n (u0 _ _ ?_))
   refine wp_ret ?_
   refine x_then_r ?_
   refine m_none (.inl rfl) t0 rfl (res1 t0 rfl rfl _) ?_
   refine ⟨n1, v0, ([] : List Nd), ?_, f1.fr, (by rw [show ((elR rn rx (lsts rp) (lsts rq) (lstsT rk)).2 : Int) = ((if (re) = 0 then 120 else (re))) by (unfold elR; rw [if_neg (by rintro ⟨y0, m0, z0, j1⟩; first | contradiction | omega)]; simp [he])]; exact f1.res (i := 0) rfl), f1.rx 8, (by unfold elR; rw [if_neg (by rintro ⟨y0, m0, z0, j1⟩; first | contradiction | omega)])⟩
   exact congrArg Ending.returned (ret_s (by first | rfl | (simp; done)))
 ·
  have f1 := d0.setb (d := 19) (b := true) rfl (by rw [(decide_eq_false k0)]; rfl)
  refine dp 12 rfl n0 f1 (wff f1) s0 (fun k0 d0 => ?_)
  refine dp 13 rfl n0 d0 (wff d0) s0 (fun k0 f1 => ?_)
  refine dp 14 rfl n0 f1 (wff f1) s0 (fun k0 d0 => ?_)
  refine dp 15 rfl n0 d0 (wff d0) s0 (fun k0 f1 => ?_)
  refine dp 16 rfl n0 f1 (wff f1) s0 (fun k0 d0 => ?_)
  refine dp 17 rfl n0 d0 (wff d0) s0 (fun k0 f1 => ?_)
  refine dp 18 rfl n0 f1 (wff f1) s0 (fun k0 d0 => ?_)
  refine dp 19 rfl n0 d0 (wff d0) s0 (fun k0 f1 => ?_)
  refine dp 20 rfl n0 f1 (wff f1) s0 (fun k0 d0 => ?_)
  refine dp 21 rfl n0 d0 (wff d0) s0 (fun k0 f1 => ?_)
  refine dp 22 rfl n0 f1 (wff f1) s0 (fun k0 d0 => ?_)
  refine dt 23 rfl n0 d0 (want_n rfl) (fun x hx => r_pick_t (sy d0) d0 rfl rfl rfl rfl (by decide) gt) s0 (fun k0 f1 => ?_)
  refine dtM 24 n0 f1 s0 (fun k0 d0 => ?_)
  refine dp 25 rfl n0 d0 (wff d0) s0 (fun k0 f1 => ?_)
  refine dp 26 rfl n0 f1 (wff f1) s0 (fun k0 d0 => ?_)
  refine dp 27 rfl n0 d0 (wff d0) s0 (fun k0 f1 => ?_)
  refine dp 28 rfl n0 f1 (wff f1) s0 (fun k0 d0 => ?_)
  refine dp 29 rfl n0 d0 (wff d0) s0 (fun k0 f1 => ?_)
  refine dp 30 rfl n0 f1 (wff f1) s0 (fun k0 d0 => ?_)
  refine dp 31 rfl n0 d0 (wff d0) s0 (fun k0 f1 => ?_)
  refine dp 32 rfl n0 f1 (wff f1) s0 (fun k0 d0 => ?_)
  refine dp 33 rfl n0 d0 (wff d0) s0 (fun k0 f1 => ?_)
  refine dp 34 rfl n0 f1 (wff f1) s0 (fun k0 d0 => ?_)
  refine dp 35 rfl n0 d0 (wff d0) s0 (fun k0 f1 => ?_)
  refine dt 36 rfl n0 f1 (want_n rfl) (fun x hx => r_pick_t (sy f1) f1 rfl rfl rfl rfl (by decide) gt) s0 (fun k0 d0 => ?_)
  refine dtM 37 n0 d0 s0 (fun k0 f1 => ?_)
  refine dp 38 rfl n0 f1 (wff f1) s0 (fun k0 d0 => ?_)
  refine dp 39 rfl n0 d0 (wff d0) s0 (fun k0 f1 => ?_)
  refine dp 40 rfl n0 f1 (wff f1) s0 (fun k0 d0 => ?_)
  refine dp 41 rfl n0 d0 (wff d0) s0 (fun k0 f1 => ?_)
  refine dp 42 rfl n0 f1 (wff f1) s0 (fun k0 d0 => ?_)
  refine dp 43 rfl n0 d0 (wff d0) s0 (fun k0 f1 => ?_)
  refine dp 44 rfl n0 f1 (wff f1) s0 (fun k0 d0 => ?_)
  refine dp 45 rfl n0 d0 (wff d0) s0 (fun k0 f1 => ?_)
  refine dp 46 rfl n0 f1 (wff f1) s0 (fun k0 d0 => ?_)
  refine dp 47 rfl n0 d0 (wff d0) s0 (fun k0 f1 => ?_)
  refine dp 48 rfl n0 f1 (wff f1) s0 (fun k0 d0 => ?_)
  refine dp 49 rfl n0 d0 (wff d0) s0 (fun k0 f1 => ?_)
  refine dp 50 rfl n0 f1 (wff f1) s0 (fun k0 d0 => ?_)
  refine dp 51 rfl n0 d0 (wff d0) s0 (fun k0 f1 => ?_)
  refine dp 52 rfl n0 f1 (wff f1) s0 (fun k0 d0 => ?_)
  refine dp 53 rfl n0 d0 (wff d0) s0 (fun k0 f1 => ?_)
  refine dp 54 rfl n0 f1 (wff f1) s0 (fun k0 d0 => ?_)
  refine dp 55 rfl n0 d0 (wff d0) s0 (fun k0 f1 => ?_)
  refine dt 56 rfl n0 f1 (want_n rfl) (fun x hx => r_pick_t (sy f1) f1 rfl rfl rfl rfl (by decide) gt) s0 (fun k0 d0 => ?_)
  refine wpAnyH_done (by kernel_rfl) (o0 _ _ ?_) _
  refine x_then_n (j0 _ _ ?_)
  refine wp_cond_true (d0.ev rfl) ?_
  refine wsc (fun j0 o0 => ?_)
  refine m_load (i := 1) sv d0 q0 rfl rfl rfl rfl rfl Tryd.underlying57 rfl (by decide) (fun j0 k0 => ?_)
  refine r_nilCheck sv k0 rfl rfl rfl (by decide) (fun j0 d0 => ?_)
  refine m_field (j' := 0) sv d0 rfl rfl rfl Tryd.underlying61 rfl sz59 rfl rfl (by decide) (fun j0 k0 => ?_)
  have j0 := q0.nf
  refine k_call (xs := [.tmp 67]) se k0 rfl rfl rfl (by decide) ok64 (stuck_calls _ _ j0.il _ _ _ _ (j0.z 0) (imm_box (i := 0) rfl)) ?_
  rintro k0 q0 ⟨d0, f1, rfl, s0, n0, v0⟩
  have q0 := j0.callM (i := 0) rfl s0 n0
  have n0 := j0.dM 0 q0 v0
  refine ⟨_, rfl, fun q0 v0 => ?_⟩
  refine asg v0 (fun q0 j0 => ?_)
  refine wpList_nil (x_then_n (o0 _ _ ?_))
  refine wp_ret ?_
  refine x_then_r ?_
  refine m_none (.inl rfl) j0 rfl (res1 j0 rfl rfl _) ?_
  refine ⟨d0, f1, ([] : List Nd), ?_, n0.fr, (by rw [show ((elR rn rx (lsts rp) (lsts rq) (lstsT rk)).2 : Int) = ((if (re) = 0 then 120 else (re))) by (unfold elR; rw [if_neg (by rintro ⟨y0, m0, z0, j1⟩; first | contradiction | omega)]; simp [he])]; exact n0.res (i := 0) rfl), n0.rx 8, (by unfold elR; rw [if_neg (by rintro ⟨y0, m0, z0, j1⟩; first | contradiction | omega)])⟩
  exact congrArg Ending.returned (ret_s (by first | rfl | (simp; done)))
end Go.Proofs.YtcfponnkfhkbdaaDoor
/- Contracts of functions, one theorem each: what the call returns, and that nothing old is changed. Printed by gen.py. -/
namespace Go.Proofs.YtcfponnkfhkbdaaDoor
open Go Go.RowKit
set_option linter.unusedSimpArgs false
set_option linter.unusedVariables false
set_option maxRecDepth 100000 in
set_option maxHeartbeats 6000000 in
theorem uagainT_calls (w0 : World) (Z : Nat → Prop) (hZ : ∀ k, Z k → k < w0.heap.size) (rg : Nat) (re : Int) (rn : Nd) (rx : Nd) (rpA : Option Addr) (rpc : Nat) (rp : List Sl) (rqA : Option Addr) (rqc : Nat) (rq : List Sl) (rkA : Option Addr) (rkc : Nat) (rk : List Tl) (tA : Option Addr) (tc : Nat) (t : List Nd) (hr : (Res.box rg 61 [.int .i64 (re), .int .i64 (rn.K), .int .i64 (rn.N), .int .i64 (rn.M), .string rn.S, .int .i64 (rx.K), .int .i64 (rx.N), .int .i64 (rx.M), .string rx.S, .slice rpA rp.length rpc, .slice rqA rq.length rqc, .slice rkA rk.length rkc]).holds w0) (hrz : ¬ Z rg) (hrp : (dRow 1 rpA rp.length rpc (encSs rp)).φ w0 Z) (hrps : (dAll rp).φ w0 Z) (hrq : (dRow 1 rqA rq.length rqc (encSs rq)).φ w0 Z) (hrqs : (dAll rq).φ w0 Z) (hrk : (dRow 1 rkA rk.length rkc (encTs rk)).φ w0 Z) (hrks : (dAllT rk).φ w0 Z) (ht : (dRow 4 tA t.length tc (encNs t)).φ w0 Z) (hp4 : rp.length ≤ 9 := by first | assumption | omega | (simp; done) | (simp; omega)) (hq4 : rq.length ≤ 9 := by first | assumption | omega | (simp; done) | (simp; omega)) (hps : ∀ x ∈ lsts rp, sml x ∧ x.length ≤ 4000 := by first | assumption | omega | (simp; done) | (simp; omega)) (hqs : ∀ x ∈ lsts rq, sml x ∧ x.length ≤ 4000 := by first | assumption | omega | (simp; done) | (simp; omega)) (h0p : 0 < rp.length := by first | assumption | omega | (simp; done) | (simp; omega)) (hsn : rn.S.size < 1000000 := by first | assumption | omega | (simp; done) | (simp; omega)) (hst : sml t := by first | assumption | omega | (simp; done) | (simp; omega)) (hlt : t.length ≤ 4000 := by first | assumption | omega | (simp; done) | (simp; omega)) :
    Calls Tryd.prog 62 [.pointer (some ⟨rg, 0, none⟩), .slice tA t.length tc].toArray w0 (fun e w' => ∃ (rA0 : Option Addr) (rc0 : Nat) (rL0 : List Nd), e = .returned (.slice rA0 rL0.length rc0) ∧ Fr (· = rg) w0 w' ∧ (Res.box rg 61 [.int .i64 (re), .int .i64 (rn.K), .int .i64 (rn.N), .int .i64 (rn.M), .string rn.S, .int .i64 (rx.K), .int .i64 (rx.N), .int .i64 (rx.M), .string rx.S, .slice rpA rp.length rpc, .slice rqA rq.length rqc, .slice rkA rk.length rkc]).holds w' ∧ (dRow 4 rA0 rL0.length rc0 (encNs rL0)).φ w' (nxt Z w0 w') ∧ rL0 = noL re rn ((lsts rp).set ((lsts rp).length - 1) t)) := by
 have b0 := sM hr hrz hZ (zc hrp (zc hrps (zc hrq (zc hrqs (zc hrk (zc hrks (zc ht zn)))))))
 refine c_enter Tryd.func62 rfl Tryd.ntmps62 rfl (fun c0 d0 => ?_)
 refine wsc (fun c0 f0 => ?_)
 refine asg d0 (fun c0 h0 => ?_)
 refine wpList_nil (x_then_n (f0 _ _ ?_))
 refine wsc (fun f0 c0 => ?_)
 refine mv h0 (fun f0 d0 => ?_)
 refine r_nilCheck sv d0 rfl rfl rfl (by decide) (fun f0 h0 => ?_)
 refine m_field (j' := 9) sv h0 rfl rfl rfl Tryd.underlying61 rfl sz42 rfl rfl (by decide) (fun f0 d0 => ?_)
 refine m_load (i := 0) sv d0 b0 rfl rfl rfl rfl rfl Tryd.underlying42 rfl (by decide) (fun f0 h0 => ?_)
 have f0 := b0.nf
 refine k_call (xs := [.tmp 9]) se h0 rfl rfl rfl (by decide) ok89 (cloneS_calls _ _ f0.il _ _ _ (f0.g 0) (f0.g 1)) ?_
 rintro h0 b0 ⟨d0, i0, rfl, j0, k0, m0⟩
 have b0 := f0.callO j0 k0 m0
 refine ⟨_, rfl, fun m0 k0 => ?_⟩
 refine asg k0 (fun m0 j0 => ?_)
 refine wpList_nil (x_then_n (c0 _ _ ?_))
 refine wsc (fun c0 m0 => ?_)
 refine mv j0 (fun c0 k0 => ?_)
 refine mv k0 (fun c0 j0 => ?_)
 refine r_len sv j0 rfl rfl rfl rfl Tryd.underlying42 (by decide) (fun c0 k0 => ?_)
 refine r_sub (z := (((rp.length : Nat) : Int) - 1)) sv k0 rfl rfl rfl rfl (by decide) (by omega) (by omega) (by omega) (fun c0 j0 => ?_)
 refine mv j0 (fun c0 k0 => ?_)
 refine m_index (i := (rp.length) - (1)) (j := ((rp.length) - (1)) * 1) sv k0 rfl rfl rfl rfl Tryd.underlying42 sz22 (by omega) (by omega) (own_ss (t := rp) (k := (rp.length) - (1)) (b0.res (i := 1) rfl) (by omega)).some_ rfl (by decide) (fun c0 j0 => ?_)
 refine m_storeE (f := encS) (i := 1) (k := (rp.length) - (1)) (L := rp) (z := ((tA, tc, t) : Sl)) se j0 b0 rfl rfl rfl rfl rfl rfl (by omega) encS_len (one1 (f := encS) encS_one) rfl sz22 (fun c0 k0 f0 h0 => ?_)
 have k0 : (rp.set ((rp.length) - (1)) ((tA, tc, t) : Sl)).length = rp.length := by simp
 have c0 := h0.data (dAll (rp.set ((rp.length) - (1)) ((tA, tc, t) : Sl))) (all_set (k := (rp.length) - (1)) (z := ((tA, tc, t) : Sl)) (h0.get (i := 1) rfl) (h0.get (i := 6) rfl))
 refine wpList_nil (x_then_n (m0 _ _ ?_))
 refine wp_seq_k (fun m0 h0 => ?_)
 obtain ⟨m0, j0, b0⟩ := c0.agree
 refine d_reg3 (n := 10) b0 8 (pB 0 0 pn) (pan_then pan_body) (fun j0 m0 c0 n0 o0 p0 => ?_)
 refine dtM 0 m0 f0 p0 (fun n0 j0 => ?_)
 refine dtN 1 m0 j0 p0 (fun n0 f0 => ?_)
 refine dtF 2 0 m0 f0 p0 Tryd.underlying61 sz59 (fun n0 j0 => ?_)
 refine dtM 3 m0 j0 p0 (fun n0 f0 => ?_)
 refine dtN 4 m0 f0 p0 (fun n0 j0 => ?_)
 refine dtF 5 1 m0 j0 p0 Tryd.underlying61 sz39 (fun n0 f0 => ?_)
 refine dt 6 rfl m0 f0 (want_n rfl) (fun x hx => m_loadCN (sy f0) f0 rfl rfl rfl (CellsAt.cons_ (hx.c 1) (CellsAt.cons_ (hx.c 2) (CellsAt.cons_ (hx.c 3) (CellsAt.cons_ (hx.c 4) (CellsAt.nil _ _))))) Tryd.underlying39 rfl sz39 (by decide) gt) p0 (fun n0 j0 => ?_)
 refine dtM 7 m0 j0 p0 (fun n0 f0 => ?_)
 refine d1 8 ?_
 have n0 := o0.nf
 have o0 := own_cap (n0.res (i := 1) rfl)
 obtain ⟨j0, p0⟩ := n0.row_dataM (i := 1) rfl (j := 0) rfl (by decide)
 have n0 := f0.conss f0 (i := 10) rfl k0
 have f0 := n0.conss n0 (i := 5) rfl k0
 have n0 := f0.conss f0 (i := 11) rfl k0
 have f0 := n0.conss n0 (i := 12) rfl k0
 have n0 := f0.conss f0 (i := 24) rfl k0
 have f0 := j0.data (dRow 1 d0 ((rp.set ((rp.length) - (1)) ((tA, tc, t) : Sl)).length) i0 (encSs (rp.set ((rp.length) - (1)) ((tA, tc, t) : Sl)))) ⟨o0, p0⟩
 refine k_call (xs := [.tmp 19, .tmp 23, .tmp 24]) (st_op rfl (want_n rfl)) n0 rfl rfl rfl (by decide) ok72 (node_calls _ _ f0.il _ _ _ _ rn _ _ (rp.set ((rp.length) - (1)) ((tA, tc, t) : Sl)) (f0.z 0) (imm_box (i := 0) rfl) (f0.g 9) (f0.g 7) (hl := (by rw [List.length_set]; omega)) (hb := (set_bd hps hlt))) ?_
 rintro n0 p0 ⟨j0, o0, i0, rfl, d0, k0, b0, q0⟩
 have p0 := f0.callM (i := 0) rfl d0 k0
 have k0 := f0.dM 0 p0 b0
 refine ⟨_, rfl, fun p0 b0 => ?_⟩
 have p0 := sWI k0 8 (pB 0 0 pn)
 refine ⟨p0, ?_⟩
 refine dtA 9 m0 b0 p0 (fun f0 d0 => ?_)
 refine wpAnyH_done (by kernel_rfl) (c0 _ _ ?_) _
 refine x_then_n (h0 _ _ ?_)
 refine wp_ret ?_
 refine e_ret1 d0 rfl rfl rfl ?_
 refine ⟨j0, o0, i0, ?_, k0.fr, k0.res (i := 0) rfl, k0.rx 10, (by rw [q0, lsts_set, lsts_len])⟩
 exact congrArg Ending.returned (ret_s (by first | rfl | (simp; done)))
set_option maxRecDepth 100000 in
set_option maxHeartbeats 1000000 in
theorem ureductT_calls (w0 : World) (Z : Nat → Prop) (hZ : ∀ k, Z k → k < w0.heap.size) (rg : Nat) (re : Int) (rn : Nd) (rx : Nd) (rpA : Option Addr) (rpc : Nat) (rp : List Sl) (rqA : Option Addr) (rqc : Nat) (rq : List Sl) (rkA : Option Addr) (rkc : Nat) (rk : List Tl) (hShp : Shapes w0 Z) (hr : (Res.box rg 61 [.int .i64 (re), .int .i64 (rn.K), .int .i64 (rn.N), .int .i64 (rn.M), .string rn.S, .int .i64 (rx.K), .int .i64 (rx.N), .int .i64 (rx.M), .string rx.S, .slice rpA rp.length rpc, .slice rqA rq.length rqc, .slice rkA rk.length rkc]).holds w0) (hrz : ¬ Z rg) (hrp : (dRow 1 rpA rp.length rpc (encSs rp)).φ w0 Z) (hrps : (dAll rp).φ w0 Z) (hrq : (dRow 1 rqA rq.length rqc (encSs rq)).φ w0 Z) (hrqs : (dAll rq).φ w0 Z) (hrk : (dRow 1 rkA rk.length rkc (encTs rk)).φ w0 Z) (hrks : (dAllT rk).φ w0 Z) (hp4 : rp.length ≤ 9 := by first | assumption | omega | (simp; done) | (simp; omega)) (hq4 : rq.length ≤ 9 := by first | assumption | omega | (simp; done) | (simp; omega)) (hps : ∀ x ∈ lsts rp, sml x ∧ x.length ≤ 4000 := by first | assumption | omega | (simp; done) | (simp; omega)) (hqs : ∀ x ∈ lsts rq, sml x ∧ x.length ≤ 4000 := by first | assumption | omega | (simp; done) | (simp; omega)) (hlp : rp.length = many rn := by first | assumption | omega | (simp; done) | (simp; omega)) (hlq : rq.length = many rx := by first | assumption | omega | (simp; done) | (simp; omega)) (hsn : rn.S.size < 1000000 := by first | assumption | omega | (simp; done) | (simp; omega)) (he : re = 0 := by first | assumption | omega | (simp; done) | (simp; omega)) (hx0 : rx.K = 26 → 0 ≤ rx.N ∧ 0 ≤ rx.M := by first | assumption | omega | (simp; done) | (simp; omega)) (hcs : ∀ l ∈ lstsT rk, ∀ y ∈ l, kdA rn.S y = 0 ∧ sml y ∧ y.length ≤ 4000 := by first | assumption | omega | (simp; done) | (simp; omega)) (hc4 : rk.length ≤ 1000 := by first | assumption | omega | (simp; done) | (simp; omega)) :
    Calls Tryd.prog 37 [.pointer (some ⟨rg, 0, none⟩)].toArray w0 (fun e w' => ∃ (rA0 : Option Addr) (rc0 : Nat) (rL0 : List Nd), e = .returned (.slice rA0 rL0.length rc0) ∧ Fr (· = rg) w0 w' ∧ (Res.box rg 61 [.int .i64 (((urT rn rx (lsts rp) (lsts rq) (lstsT rk)).2)), .int .i64 (rn.K), .int .i64 (rn.N), .int .i64 (rn.M), .string rn.S, .int .i64 (rx.K), .int .i64 (rx.N), .int .i64 (rx.M), .string rx.S, .slice rpA rp.length rpc, .slice rqA rq.length rqc, .slice rkA rk.length rkc]).holds w' ∧ (dRow 4 rA0 rL0.length rc0 (encNs rL0)).φ w' (nxt Z w0 w') ∧ rL0 = (urT rn rx (lsts rp) (lsts rq) (lstsT rk)).1) := by
 have b0 := sM hr hrz hZ (zc (d := dShapes) hShp (zc hrp (zc hrps (zc hrq (zc hrqs (zc hrk (zc hrks zn)))))))
 have hpm : ∀ k, k < rp.length → sml (nthS rp k).2.2 ∧ (nthS rp k).2.2.length ≤ 4000 := fun k hk => hps _ (nthS_in hk)
 have hqm : ∀ k, k < rq.length → sml (nthS rq k).2.2 ∧ (nthS rq k).2.2.length ≤ 4000 := fun k hk => hqs _ (nthS_in hk)
 refine c_enter Tryd.func37 rfl Tryd.ntmps37 rfl (fun c0 d0 => ?_)
 refine wsc (fun c0 f0 => ?_)
 refine asg d0 (fun c0 h0 => ?_)
 refine wpList_nil (x_then_n (f0 _ _ ?_))
 refine wp_seq_k (fun f0 c0 => ?_)
 obtain ⟨f0, d0, i0⟩ := b0.agree
 refine d_reg3 (n := 13) i0 7 (pB 0 1 pn) (pan_then pan_body) (fun d0 f0 b0 j0 k0 m0 => ?_)
 refine dtM 0 f0 h0 m0 (fun j0 d0 => ?_)
 refine dtN 1 f0 d0 m0 (fun j0 h0 => ?_)
 refine dtF 2 1 f0 h0 m0 Tryd.underlying61 sz39 (fun j0 d0 => ?_)
 refine dtF 3 1 f0 d0 m0 Tryd.underlying39 sz3 (fun j0 h0 => ?_)
 refine dtC 4 0 f0 h0 m0 Tryd.underlying3 (fun j0 d0 => ?_)
 refine dtM 5 f0 d0 m0 (fun j0 h0 => ?_)
 refine dtN 6 f0 h0 m0 (fun j0 d0 => ?_)
 refine dtF 7 5 f0 d0 m0 Tryd.underlying61 sz39 (fun j0 h0 => ?_)
 refine dtF 8 5 f0 h0 m0 Tryd.underlying39 sz3 (fun j0 d0 => ?_)
 refine dtC 9 4 f0 d0 m0 Tryd.underlying3 (fun j0 h0 => ?_)
 refine dt 10 rfl f0 h0 (want_n rfl) (fun x hx => m_build (ps := [(0, .tmp 8), (1, .tmp 13)]) (v := .agg #[.int .i64 (rn.K), .int .i64 (rx.K)]) (sy h0) h0 rfl rfl rfl (fun _ => by kernel_rfl) (by decide) gt) m0 (fun j0 d0 => ?_)
 refine d1 11 ?_
 refine m_alloc (cs := [.int .i64 0, .int .i64 0]) (st_opV rfl (want_n rfl)) d0 k0 rfl rfl ze93 rfl (by decide) (fun j0 h0 m0 f0 i0 => ?_)
 have m0 := sWI i0 7 (pB 0 1 pn)
 refine ⟨m0, ?_⟩
 refine d1 12 ?_
 refine m_store (i := 1) (cs' := [.int .i64 (rn.K), .int .i64 (rx.K)]) (st_op rfl (want_n rfl)) f0 i0 rfl rfl rfl rfl rfl sz93 rfl rfl rfl (fun m0 h0 j0 d0 => ?_)
 have h0 := sWI d0 7 (pB 0 1 pn)
 refine ⟨h0, ?_⟩
 refine wpAnyH_done (by kernel_rfl) (b0 _ _ ?_) _
 refine x_then_n (c0 _ _ ?_)
 refine wp_seq_k (fun c0 b0 => ?_)
 refine wp_block ?_
 refine wsc (fun c0 h0 => ?_)
 refine m_loadN (i := 1) (vs := [.int .i64 (rn.K), .int .i64 (rx.K)]) sv j0 d0 rfl rfl rfl rfl rfl Tryd.underlying93 rfl sz93 (by decide) (fun c0 m0 => ?_)
 refine m_build (ps := [(0, .const (.int .i64 5)), (1, .const (.int .i64 4))]) (v := .agg #[.int .i64 5, .int .i64 4]) sv m0 rfl rfl rfl (fun _ => by kernel_rfl) (by decide) (fun c0 j0 => ?_)
 refine r_eqlP sv j0 rfl rfl rfl rfl (by decide) (fun c0 m0 => ?_)
 refine asg m0 (fun c0 j0 => ?_)
 refine wpList_nil (x_then_n (h0 _ _ ?_))
 rcases Bool.eq_false_or_eq_true (decide ((rn.K) = 5) && decide ((rx.K) = 4)) with h0 | h0
 ·
  have c0 := and_tl h0
  have m0 := of_decide_eq_true c0
  have hmkrn5 := many_5 m0
  have c0 := and_tr h0
  have i0 := of_decide_eq_true c0
  have hmkrx4 := many_4 i0
  have c0 := j0.setb (d := 15) (b := true) rfl h0
  refine wp_cond_true (c0.ev rfl) ?_
  refine wp_seq_k (fun f0 k0 => ?_)
  obtain ⟨f0, n0, o0⟩ := d0.agree
  refine d_reg3 (n := 18) o0 8 (pB 0 1 pn) (pan_then (pan_block (pan_then pan_body))) (fun f0 p0 q0 s0 t0 u0 => ?_)
  refine dtM 0 p0 c0 u0 (fun s0 f0 => ?_)
  refine dtN 1 p0 f0 u0 (fun s0 c0 => ?_)
  refine dtF 2 0 p0 c0 u0 Tryd.underlying61 sz59 (fun s0 f0 => ?_)
  refine dtM 3 p0 f0 u0 (fun s0 c0 => ?_)
  refine dtN 4 p0 c0 u0 (fun s0 f0 => ?_)
  refine dtF 5 10 p0 f0 u0 Tryd.underlying61 sz42 (fun s0 c0 => ?_)
  refine dtC 6 9 p0 c0 u0 Tryd.underlying42 (fun s0 f0 => ?_)
  refine dt 7 rfl p0 f0 (want_n rfl) (fun x hx => m_index (i := 1) (j := 1 * 1) (sy f0) f0 rfl rfl rfl rfl Tryd.underlying42 sz22 (by omega) (by omega) (ss_elem (t := rq) (k := 1) (sdat (n0 3 _ rfl) hx.ag).2 (by omega)).some_ rfl (by decide) gt) u0 (fun s0 c0 => ?_)
  refine dt 8 rfl p0 c0 (want_n rfl) (fun x hx => m_loadE (sy c0) c0 rfl rfl rfl 0 (1 * 1) (ss_elem (t := rq) (k := 1) (sdat (n0 3 _ rfl) hx.ag).2 (by omega)) rfl rfl Tryd.underlying22 rfl (by decide) gt) u0 (fun s0 f0 => ?_)
  have s0 := t0.data (dRow 4 ((nthS rq 1).1) ((nthS rq 1).2.2.length) ((nthS rq 1).2.1) (encNs ((nthS rq 1).2.2))) (all_at (t := rq) (k := 1) (t0.get (i := 4) rfl) (by omega))
  refine dtM 9 p0 f0 u0 (fun t0 c0 => ?_)
  refine dtN 10 p0 c0 u0 (fun t0 f0 => ?_)
  refine dtF 11 9 p0 f0 u0 Tryd.underlying61 sz42 (fun t0 c0 => ?_)
  refine dtC 12 8 p0 c0 u0 Tryd.underlying42 (fun t0 f0 => ?_)
  refine dt 13 rfl p0 f0 (want_n rfl) (fun x hx => m_index (i := 1) (j := 1 * 1) (sy f0) f0 rfl rfl rfl rfl Tryd.underlying42 sz22 (by omega) (by omega) (ss_elem (t := rp) (k := 1) (sdat (n0 1 _ rfl) hx.ag).2 (by omega)).some_ rfl (by decide) gt) u0 (fun t0 c0 => ?_)
  refine dt 14 rfl p0 c0 (want_n rfl) (fun x hx => m_loadE (sy c0) c0 rfl rfl rfl 0 (1 * 1) (ss_elem (t := rp) (k := 1) (sdat (n0 1 _ rfl) hx.ag).2 (by omega)) rfl rfl Tryd.underlying22 rfl (by decide) gt) u0 (fun t0 f0 => ?_)
  have t0 := s0.data (dRow 4 ((nthS rp 1).1) ((nthS rp 1).2.2.length) ((nthS rp 1).2.1) (encNs ((nthS rp 1).2.2))) (all_at (t := rp) (k := 1) (s0.get (i := 2) rfl) (by omega))
  refine d1 15 ?_
  have s0 := t0.data (dAll [(((nthS rp 1).1, (nthS rp 1).2.1, (nthS rp 1).2.2) : Sl)]) (all_cons (t0.get (i := 10) rfl) all_nil)
  refine mbs [(0, .tmp 33)] [.slice ((nthS rp 1).1) ((nthS rp 1).2.2.length) ((nthS rp 1).2.1)] (st_opV rfl (want_n rfl)) f0 s0 Tryd.underlying42 zi22 (fun t0 c0 u0 n0 o0 => ?_)
  have c0 := sWI o0 8 (pB 0 1 pn)
  refine ⟨c0, ?_⟩
  refine d1 16 ?_
  have c0 := o0.nf
  have o0 := own_cap (c0.res (i := 2) rfl)
  obtain ⟨t0, s0⟩ := c0.row_dataM (i := 2) rfl (j := 0) rfl (by decide)
  have c0 := t0.data (dRow 1 (some ⟨u0, 0, none⟩) 1 1 (encSs ([(((nthS rp 1).1, (nthS rp 1).2.1, (nthS rp 1).2.2) : Sl)]))) ⟨o0, s0⟩
  refine k_call (xs := [.tmp 21, .tmp 27, .tmp 34]) (st_op rfl (want_n rfl)) n0 rfl rfl rfl (by decide) ok61 (minst_calls _ _ c0.il _ _ _ _ _ _ ((nthS rq 1).2.2) _ _ ([(((nthS rp 1).1, (nthS rp 1).2.1, (nthS rp 1).2.2) : Sl)]) (c0.g 0) (c0.z 0) (imm_box (i := 0) rfl) (c0.g 9) (c0.g 12) (c0.g 11) (hsm := (by first | exact (hqm 1 (by omega)).1 | exact (hpm 2 (by omega)).1 | exact (hpm 1 (by omega)).1)) (hl := (by first | exact Nat.le_trans (hqm 1 (by omega)).2 (by decide) | exact Nat.le_trans (hpm 2 (by omega)).2 (by decide) | exact Nat.le_trans (hpm 1 (by omega)).2 (by decide))) (hls := (by intro x hx; simp only [lsts, List.map_cons, List.map_nil, List.mem_cons, List.not_mem_nil, or_false] at hx; first | (rw [hx]; first | exact (hpm 1 (by omega)).1 | exact (hqm 1 (by omega)).1) | (rcases hx with hx | hx <;> rw [hx] <;> first | assumption | exact (hqm 0 (by omega)).1))) (hlb := (by intro x hx; simp only [lsts, List.map_cons, List.map_nil, List.mem_cons, List.not_mem_nil, or_false] at hx; first | (rw [hx]; first | exact Nat.le_trans (hpm 1 (by omega)).2 (by decide) | exact Nat.le_trans (hqm 1 (by omega)).2 (by decide)) | (rcases hx with hx | hx <;> rw [hx] <;> first | omega | exact Nat.le_trans (hqm 0 (by omega)).2 (by decide)))) (hl0 := (by simp))) ?_
  rintro n0 s0 ⟨t0, o0, u0, rfl, f0, v0, x0, y0⟩
  have s0 := c0.callM (i := 0) rfl f0 v0
  have v0 := c0.dM 0 s0 x0
  refine ⟨_, rfl, fun s0 x0 => ?_⟩
  have s0 := sWI v0 8 (pB 0 1 pn)
  refine ⟨s0, ?_⟩
  refine dtA 17 p0 x0 s0 (fun c0 f0 => ?_)
  refine wpAnyH_done (by kernel_rfl) (q0 _ _ ?_) _
  refine x_then_n (k0 _ _ ?_)
  refine wp_ret ?_
  refine x_block_r ?_
  refine x_then_r ?_
  refine e_ret1 f0 rfl rfl rfl ?_
  refine ⟨t0, o0, u0, ?_, v0.fr, (by rw [show ((urT rn rx (lsts rp) (lsts rq) (lstsT rk)).2 : Int) = ((inQ (re) ((nthS rq 1).2.2) (lsts ([(((nthS rp 1).1, (nthS rp 1).2.1, (nthS rp 1).2.2) : Sl)])))) by (unfold urT; rw [if_neg (by omega)]; unfold urR urX; simp [he, m0, i0, lsts_nth, lsts_len, lsts_cons1, lsts_nil1, y0])]; exact v0.res (i := 0) rfl), v0.rx 13, (by unfold urT; rw [if_neg (by omega)]; unfold urR urX; simp [he, m0, i0, lsts_nth, lsts_len, lsts_cons1, lsts_nil1, y0])⟩
  exact congrArg Ending.returned (ret_s (by first | rfl | (simp; done)))
 ·
  have v0 := h0
  try simp only [Bool.or_eq_true, Bool.and_eq_true, Bool.not_eq_true', Bool.not_eq_false', decide_eq_true_eq, decide_eq_false_iff_not, Bool.or_eq_false_iff, Bool.and_eq_false_iff] at v0
  have v0 := j0.setb (d := 15) (b := false) rfl h0
  refine wp_cond_false (v0.ev rfl) ?_
  refine wsc (fun j0 y0 => ?_)
  refine m_loadN (i := 1) (vs := [.int .i64 (rn.K), .int .i64 (rx.K)]) sv v0 d0 rfl rfl rfl rfl rfl Tryd.underlying93 rfl sz93 (by decide) (fun j0 u0 => ?_)
  refine m_build (ps := [(0, .const (.int .i64 8)), (1, .const (.int .i64 7))]) (v := .agg #[.int .i64 8, .int .i64 7]) sv u0 rfl rfl rfl (fun _ => by kernel_rfl) (by decide) (fun j0 v0 => ?_)
  refine r_eqlP sv v0 rfl rfl rfl rfl (by decide) (fun j0 u0 => ?_)
  refine asg u0 (fun j0 v0 => ?_)
  refine wpList_nil (x_then_n (y0 _ _ ?_))
  rcases Bool.eq_false_or_eq_true (decide ((rn.K) = 8) && decide ((rx.K) = 7)) with y0 | y0
  ·
   have j0 := and_tl y0
   have u0 := of_decide_eq_true j0
   have hmkrn8 := many_8 u0
   have j0 := and_tr y0
   have o0 := of_decide_eq_true j0
   have hmkrx7 := many_7 o0
   have j0 := v0.setb (d := 36) (b := true) rfl y0
   refine wp_cond_true (j0.ev rfl) ?_
   refine wsc (fun t0 i0 => ?_)
   refine mv j0 (fun t0 m0 => ?_)
   refine r_nilCheck sv m0 rfl rfl rfl (by decide) (fun t0 j0 => ?_)
   refine m_field (j' := 10) sv j0 rfl rfl rfl Tryd.underlying61 rfl sz42 rfl rfl (by decide) (fun t0 m0 => ?_)
   refine m_load (i := 0) sv m0 d0 rfl rfl rfl rfl rfl Tryd.underlying42 rfl (by decide) (fun t0 j0 => ?_)
   refine m_index (i := 1) (j := 1 * 1) sv j0 rfl rfl rfl rfl Tryd.underlying42 sz22 (by omega) (by omega) (ss_elem (t := rq) (k := 1) (d0.row (i := 3) rfl).2 (by omega)).some_ rfl (by decide) (fun t0 m0 => ?_)
   refine m_loadE sv m0 rfl rfl rfl 0 (1 * 1) (ss_elem (t := rq) (k := 1) (d0.row (i := 3) rfl).2 (by omega)) rfl rfl Tryd.underlying22 rfl (by decide) (fun t0 j0 => ?_)
   have t0 := d0.data (dRow 4 ((nthS rq 1).1) ((nthS rq 1).2.2.length) ((nthS rq 1).2.1) (encNs ((nthS rq 1).2.2))) (all_at (t := rq) (k := 1) (d0.get (i := 4) rfl) (by omega))
   refine asg j0 (fun m0 f0 => ?_)
   refine wpList_nil (x_then_n (i0 _ _ ?_))
   refine wp_ret ?_
   refine x_block_r ?_
   refine x_then_r ?_
   refine e_ret1 f0 rfl rfl rfl ?_
   refine ⟨((nthS rq 1).1), ((nthS rq 1).2.1), ((nthS rq 1).2.2), ?_, t0.fr, (by rw [show ((urT rn rx (lsts rp) (lsts rq) (lstsT rk)).2 : Int) = (re) by (unfold urT; rw [if_neg (by omega)]; unfold urR urX; simp [he, u0, o0, nand_of h0, lsts_nth, lsts_len, lsts_cons1, lsts_nil1])]; exact t0.res (i := 0) rfl), t0.rx 8, (by unfold urT; rw [if_neg (by omega)]; unfold urR urX; simp [he, u0, o0, nand_of h0, lsts_nth, lsts_len, lsts_cons1, lsts_nil1])⟩
   exact congrArg Ending.returned (ret_s (by first | rfl | (simp; done)))
  ·
   have t0 := y0
   try simp only [Bool.or_eq_true, Bool.and_eq_true, Bool.not_eq_true', Bool.not_eq_false', decide_eq_true_eq, decide_eq_false_iff_not, Bool.or_eq_false_iff, Bool.and_eq_false_iff] at t0
   have t0 := v0.setb (d := 36) (b := false) rfl y0
   refine wp_cond_false (t0.ev rfl) ?_
   refine wsc (fun v0 o0 => ?_)
   refine m_loadN (i := 1) (vs := [.int .i64 (rn.K), .int .i64 (rx.K)]) sv t0 d0 rfl rfl rfl rfl rfl Tryd.underlying93 rfl sz93 (by decide) (fun v0 u0 => ?_)
   refine m_build (ps := [(0, .const (.int .i64 9)), (1, .const (.int .i64 7))]) (v := .agg #[.int .i64 9, .int .i64 7]) sv u0 rfl rfl rfl (fun _ => by kernel_rfl) (by decide) (fun v0 t0 => ?_)
   refine r_eqlP sv t0 rfl rfl rfl rfl (by decide) (fun v0 u0 => ?_)
   refine asg u0 (fun v0 t0 => ?_)
   refine wpList_nil (x_then_n (o0 _ _ ?_))
   rcases Bool.eq_false_or_eq_true (decide ((rn.K) = 9) && decide ((rx.K) = 7)) with o0 | o0
   ·
    have v0 := and_tl o0
    have u0 := of_decide_eq_true v0
    have hmkrn9 := many_9 u0
    have v0 := and_tr o0
    have f0 := of_decide_eq_true v0
    have hmkrx7 := many_7 f0
    have v0 := t0.setb (d := 46) (b := true) rfl o0
    refine wp_cond_true (v0.ev rfl) ?_
    refine wsc (fun i0 m0 => ?_)
    refine mv v0 (fun i0 j0 => ?_)
    refine r_nilCheck sv j0 rfl rfl rfl (by decide) (fun i0 v0 => ?_)
    refine m_field (j' := 10) sv v0 rfl rfl rfl Tryd.underlying61 rfl sz42 rfl rfl (by decide) (fun i0 j0 => ?_)
    refine m_load (i := 0) sv j0 d0 rfl rfl rfl rfl rfl Tryd.underlying42 rfl (by decide) (fun i0 v0 => ?_)
    refine m_index (i := 2) (j := 2 * 1) sv v0 rfl rfl rfl rfl Tryd.underlying42 sz22 (by omega) (by omega) (ss_elem (t := rq) (k := 2) (d0.row (i := 3) rfl).2 (by omega)).some_ rfl (by decide) (fun i0 j0 => ?_)
    refine m_loadE sv j0 rfl rfl rfl 0 (2 * 1) (ss_elem (t := rq) (k := 2) (d0.row (i := 3) rfl).2 (by omega)) rfl rfl Tryd.underlying22 rfl (by decide) (fun i0 v0 => ?_)
    have i0 := d0.data (dRow 4 ((nthS rq 2).1) ((nthS rq 2).2.2.length) ((nthS rq 2).2.1) (encNs ((nthS rq 2).2.2))) (all_at (t := rq) (k := 2) (d0.get (i := 4) rfl) (by omega))
    refine asg v0 (fun j0 k0 => ?_)
    refine wpList_nil (x_then_n (m0 _ _ ?_))
    refine wp_ret ?_
    refine x_block_r ?_
    refine x_then_r ?_
    refine e_ret1 k0 rfl rfl rfl ?_
    refine ⟨((nthS rq 2).1), ((nthS rq 2).2.1), ((nthS rq 2).2.2), ?_, i0.fr, (by rw [show ((urT rn rx (lsts rp) (lsts rq) (lstsT rk)).2 : Int) = (re) by (unfold urT; rw [if_neg (by omega)]; unfold urR urX; simp [he, u0, f0, nand_of h0, nand_of y0, lsts_nth, lsts_len, lsts_cons1, lsts_nil1])]; exact i0.res (i := 0) rfl), i0.rx 8, (by unfold urT; rw [if_neg (by omega)]; unfold urR urX; simp [he, u0, f0, nand_of h0, nand_of y0, lsts_nth, lsts_len, lsts_cons1, lsts_nil1])⟩
    exact congrArg Ending.returned (ret_s (by first | rfl | (simp; done)))
   ·
    have i0 := o0
    try simp only [Bool.or_eq_true, Bool.and_eq_true, Bool.not_eq_true', Bool.not_eq_false', decide_eq_true_eq, decide_eq_false_iff_not, Bool.or_eq_false_iff, Bool.and_eq_false_iff] at i0
    have i0 := t0.setb (d := 46) (b := false) rfl o0
    refine wp_cond_false (i0.ev rfl) ?_
    refine wsc (fun t0 f0 => ?_)
    refine m_loadN (i := 1) (vs := [.int .i64 (rn.K), .int .i64 (rx.K)]) sv i0 d0 rfl rfl rfl rfl rfl Tryd.underlying93 rfl sz93 (by decide) (fun t0 u0 => ?_)
    refine m_build (ps := [(0, .const (.int .i64 13)), (1, .const (.int .i64 11))]) (v := .agg #[.int .i64 13, .int .i64 11]) sv u0 rfl rfl rfl (fun _ => by kernel_rfl) (by decide) (fun t0 i0 => ?_)
    refine r_eqlP sv i0 rfl rfl rfl rfl (by decide) (fun t0 u0 => ?_)
    refine asg u0 (fun t0 i0 => ?_)
    refine wpList_nil (x_then_n (f0 _ _ ?_))
    rcases Bool.eq_false_or_eq_true (decide ((rn.K) = 13) && decide ((rx.K) = 11)) with f0 | f0
    ·
     have t0 := and_tl f0
     have u0 := of_decide_eq_true t0
     have hmkrn13 := many_13 u0
     have t0 := and_tr f0
     have k0 := of_decide_eq_true t0
     have t0 := i0.setb (d := 56) (b := true) rfl f0
     refine wp_cond_true (t0.ev rfl) ?_
     refine wsc (fun m0 j0 => ?_)
     refine mv t0 (fun m0 v0 => ?_)
     refine r_nilCheck sv v0 rfl rfl rfl (by decide) (fun m0 t0 => ?_)
     refine m_field (j' := 9) sv t0 rfl rfl rfl Tryd.underlying61 rfl sz42 rfl rfl (by decide) (fun m0 v0 => ?_)
     refine m_load (i := 0) sv v0 d0 rfl rfl rfl rfl rfl Tryd.underlying42 rfl (by decide) (fun m0 t0 => ?_)
     refine m_index (i := 1) (j := 1 * 1) sv t0 rfl rfl rfl rfl Tryd.underlying42 sz22 (by omega) (by omega) (ss_elem (t := rp) (k := 1) (d0.row (i := 1) rfl).2 (by omega)).some_ rfl (by decide) (fun m0 v0 => ?_)
     refine m_loadE sv v0 rfl rfl rfl 0 (1 * 1) (ss_elem (t := rp) (k := 1) (d0.row (i := 1) rfl).2 (by omega)) rfl rfl Tryd.underlying22 rfl (by decide) (fun m0 t0 => ?_)
     have m0 := d0.data (dRow 4 ((nthS rp 1).1) ((nthS rp 1).2.2.length) ((nthS rp 1).2.1) (encNs ((nthS rp 1).2.2))) (all_at (t := rp) (k := 1) (d0.get (i := 2) rfl) (by omega))
     refine asg t0 (fun v0 q0 => ?_)
     refine wpList_nil (x_then_n (j0 _ _ ?_))
     refine wp_ret ?_
     refine x_block_r ?_
     refine x_then_r ?_
     refine e_ret1 q0 rfl rfl rfl ?_
     refine ⟨((nthS rp 1).1), ((nthS rp 1).2.1), ((nthS rp 1).2.2), ?_, m0.fr, (by rw [show ((urT rn rx (lsts rp) (lsts rq) (lstsT rk)).2 : Int) = (re) by (unfold urT; rw [if_neg (by omega)]; unfold urR urX; simp [he, u0, k0, nand_of h0, nand_of y0, nand_of o0, lsts_nth, lsts_len, lsts_cons1, lsts_nil1])]; exact m0.res (i := 0) rfl), m0.rx 8, (by unfold urT; rw [if_neg (by omega)]; unfold urR urX; simp [he, u0, k0, nand_of h0, nand_of y0, nand_of o0, lsts_nth, lsts_len, lsts_cons1, lsts_nil1])⟩
     exact congrArg Ending.returned (ret_s (by first | rfl | (simp; done)))
    ·
     have m0 := f0
     try simp only [Bool.or_eq_true, Bool.and_eq_true, Bool.not_eq_true', Bool.not_eq_false', decide_eq_true_eq, decide_eq_false_iff_not, Bool.or_eq_false_iff, Bool.and_eq_false_iff] at m0
     have m0 := i0.setb (d := 56) (b := false) rfl f0
     refine wp_cond_false (m0.ev rfl) ?_
     refine wsc (fun i0 k0 => ?_)
     refine m_loadN (i := 1) (vs := [.int .i64 (rn.K), .int .i64 (rx.K)]) sv m0 d0 rfl rfl rfl rfl rfl Tryd.underlying93 rfl sz93 (by decide) (fun i0 u0 => ?_)
     refine m_build (ps := [(0, .const (.int .i64 13)), (1, .const (.int .i64 12))]) (v := .agg #[.int .i64 13, .int .i64 12]) sv u0 rfl rfl rfl (fun _ => by kernel_rfl) (by decide) (fun i0 m0 => ?_)
     refine r_eqlP sv m0 rfl rfl rfl rfl (by decide) (fun i0 u0 => ?_)
     refine asg u0 (fun i0 m0 => ?_)
     refine wpList_nil (x_then_n (k0 _ _ ?_))
     rcases Bool.eq_false_or_eq_true (decide ((rn.K) = 13) && decide ((rx.K) = 12)) with k0 | k0
     ·
      have i0 := and_tl k0
      have u0 := of_decide_eq_true i0
      have hmkrn13 := many_13 u0
      have i0 := and_tr k0
      have q0 := of_decide_eq_true i0
      have hmkrx12 := many_12 q0
      have i0 := m0.setb (d := 66) (b := true) rfl k0
      refine wp_cond_true (i0.ev rfl) ?_
      refine wp_seq_k (fun j0 v0 => ?_)
      obtain ⟨j0, t0, c0⟩ := d0.agree
      refine d_reg3 (n := 26) c0 8 (pB 0 1 pn) (pan_then (pan_block (pan_then pan_body))) (fun j0 s0 x0 p0 n0 z0 => ?_)
      refine dtM 0 s0 i0 z0 (fun p0 j0 => ?_)
      refine dtN 1 s0 j0 z0 (fun p0 i0 => ?_)
      refine dtF 2 0 s0 i0 z0 Tryd.underlying61 sz59 (fun p0 j0 => ?_)
      refine dtM 3 s0 j0 z0 (fun p0 i0 => ?_)
      refine dtN 4 s0 i0 z0 (fun p0 j0 => ?_)
      refine dtF 5 9 s0 j0 z0 Tryd.underlying61 sz42 (fun p0 i0 => ?_)
      refine dtC 6 8 s0 i0 z0 Tryd.underlying42 (fun p0 j0 => ?_)
      refine dt 7 rfl s0 j0 (want_n rfl) (fun x hx => m_index (i := 2) (j := 2 * 1) (sy j0) j0 rfl rfl rfl rfl Tryd.underlying42 sz22 (by omega) (by omega) (ss_elem (t := rp) (k := 2) (sdat (t0 1 _ rfl) hx.ag).2 (by omega)).some_ rfl (by decide) gt) z0 (fun p0 i0 => ?_)
      refine dt 8 rfl s0 i0 (want_n rfl) (fun x hx => m_loadE (sy i0) i0 rfl rfl rfl 0 (2 * 1) (ss_elem (t := rp) (k := 2) (sdat (t0 1 _ rfl) hx.ag).2 (by omega)) rfl rfl Tryd.underlying22 rfl (by decide) gt) z0 (fun p0 j0 => ?_)
      have p0 := n0.data (dRow 4 ((nthS rp 2).1) ((nthS rp 2).2.2.length) ((nthS rp 2).2.1) (encNs ((nthS rp 2).2.2))) (all_at (t := rp) (k := 2) (n0.get (i := 2) rfl) (by omega))
      refine dtM 9 s0 j0 z0 (fun n0 i0 => ?_)
      refine dtM 10 s0 i0 z0 (fun n0 j0 => ?_)
      refine dtN 11 s0 j0 z0 (fun n0 i0 => ?_)
      refine dtF 12 10 s0 i0 z0 Tryd.underlying61 sz42 (fun n0 j0 => ?_)
      refine dtC 13 9 s0 j0 z0 Tryd.underlying42 (fun n0 i0 => ?_)
      refine dt 14 rfl s0 i0 (want_n rfl) (fun x hx => m_index (i := 0) (j := 0 * 1) (sy i0) i0 rfl rfl rfl rfl Tryd.underlying42 sz22 (by omega) (by omega) (ss_elem (t := rq) (k := 0) (sdat (t0 3 _ rfl) hx.ag).2 (by omega)).some_ rfl (by decide) gt) z0 (fun n0 j0 => ?_)
      refine dt 15 rfl s0 j0 (want_n rfl) (fun x hx => m_loadE (sy j0) j0 rfl rfl rfl 0 (0 * 1) (ss_elem (t := rq) (k := 0) (sdat (t0 3 _ rfl) hx.ag).2 (by omega)) rfl rfl Tryd.underlying22 rfl (by decide) gt) z0 (fun n0 i0 => ?_)
      have n0 := p0.data (dRow 4 ((nthS rq 0).1) ((nthS rq 0).2.2.length) ((nthS rq 0).2.1) (encNs ((nthS rq 0).2.2))) (all_at (t := rq) (k := 0) (p0.get (i := 4) rfl) (by omega))
      refine dtM 17 s0 i0 z0 (fun p0 j0 => ?_)
      refine dtN 18 s0 j0 z0 (fun p0 i0 => ?_)
      refine dtF 19 10 s0 i0 z0 Tryd.underlying61 sz42 (fun p0 j0 => ?_)
      refine dtC 20 9 s0 j0 z0 Tryd.underlying42 (fun p0 i0 => ?_)
      refine dt 21 rfl s0 i0 (want_n rfl) (fun x hx => m_index (i := 0) (j := 0 * 1) (sy i0) i0 rfl rfl rfl rfl Tryd.underlying42 sz22 (by omega) (by omega) (ss_elem (t := rq) (k := 0) (sdat (t0 3 _ rfl) hx.ag).2 (by omega)).some_ rfl (by decide) gt) z0 (fun p0 j0 => ?_)
      refine dt 22 rfl s0 j0 (want_n rfl) (fun x hx => m_loadE (sy j0) j0 rfl rfl rfl 0 (0 * 1) (ss_elem (t := rq) (k := 0) (sdat (t0 3 _ rfl) hx.ag).2 (by omega)) rfl rfl Tryd.underlying22 rfl (by decide) gt) z0 (fun p0 i0 => ?_)
      have p0 := n0.data (dRow 4 ((nthS rq 0).1) ((nthS rq 0).2.2.length) ((nthS rq 0).2.1) (encNs ((nthS rq 0).2.2))) (all_at (t := rq) (k := 0) (n0.get (i := 4) rfl) (by omega))
      refine d1 16 ?_
      have n0 := p0.nf
      refine k_call (xs := [.tmp 79, .tmp 85]) (st_op rfl (want_n rfl)) i0 rfl rfl rfl (by decide) ok62 (uagainT_calls _ _ n0.il _ _ rn rx _ _ _ _ _ _ _ _ _ _ _ ((nthS rq 0).2.2) (n0.z 0) (imm_box (i := 0) rfl) (n0.g 1) (n0.g 2) (n0.g 3) (n0.g 4) (n0.g 5) (n0.g 6) (n0.g 10) (hp4 := hp4) (hq4 := hq4) (hps := hps) (hqs := hqs) (h0p := (by omega)) (hsn := hsn) (hst := (hqm 0 (by omega)).1) (hlt := (hqm 0 (by omega)).2)) ?_
      rintro i0 p0 ⟨j0, z0, t0, rfl, c0, b1, c1, f1⟩
      have p0 := n0.callM (i := 0) rfl c0 b1
      have b1 := n0.dM 0 p0 c1
      refine ⟨_, rfl, fun p0 c1 => ?_⟩
      obtain ⟨hgl, hgs⟩ := again_sz (t := (nthS rq 0).2.2) f1 hps (by assumption) (hqm 0 (by omega)).1 (hqm 0 (by omega)).2 hp4
      have p0 := sWI b1 8 (pB 0 1 pn)
      refine ⟨p0, ?_⟩
      refine d1 23 ?_
      have p0 := b1.data (dAll [((j0, z0, t0) : Sl), (((nthS rq 0).1, (nthS rq 0).2.1, (nthS rq 0).2.2) : Sl)]) (all_cons (b1.get (i := 12) rfl) (all_cons (b1.get (i := 11) rfl) all_nil))
      refine mbs [(0, .tmp 86), (1, .tmp 92)] [.slice j0 t0.length z0, .slice ((nthS rq 0).1) ((nthS rq 0).2.2.length) ((nthS rq 0).2.1)] (st_opV rfl (want_n rfl)) c1 p0 Tryd.underlying42 zi22 (fun b1 n0 c0 i0 h1 => ?_)
      have n0 := sWI h1 8 (pB 0 1 pn)
      refine ⟨n0, ?_⟩
      refine d1 24 ?_
      have n0 := h1.nf
      have h1 := own_cap (n0.res (i := 2) rfl)
      obtain ⟨b1, p0⟩ := n0.row_dataM (i := 2) rfl (j := 0) rfl (by decide)
      have n0 := b1.data (dRow 1 (some ⟨c0, 0, none⟩) 2 2 (encSs ([((j0, z0, t0) : Sl), (((nthS rq 0).1, (nthS rq 0).2.1, (nthS rq 0).2.2) : Sl)]))) ⟨h1, p0⟩
      refine k_call (xs := [.tmp 72, .tmp 78, .tmp 93]) (st_op rfl (want_n rfl)) i0 rfl rfl rfl (by decide) ok61 (minst_calls _ _ n0.il _ _ _ _ _ _ ((nthS rp 2).2.2) _ _ ([((j0, z0, t0) : Sl), (((nthS rq 0).1, (nthS rq 0).2.1, (nthS rq 0).2.2) : Sl)]) (n0.g 0) (n0.z 0) (imm_box (i := 0) rfl) (n0.g 9) (n0.g 14) (n0.g 13) (hsm := (by first | exact (hqm 1 (by omega)).1 | exact (hpm 2 (by omega)).1 | exact (hpm 1 (by omega)).1)) (hl := (by first | exact Nat.le_trans (hqm 1 (by omega)).2 (by decide) | exact Nat.le_trans (hpm 2 (by omega)).2 (by decide) | exact Nat.le_trans (hpm 1 (by omega)).2 (by decide))) (hls := (by intro x hx; simp only [lsts, List.map_cons, List.map_nil, List.mem_cons, List.not_mem_nil, or_false] at hx; first | (rw [hx]; first | exact (hpm 1 (by omega)).1 | exact (hqm 1 (by omega)).1) | (rcases hx with hx | hx <;> rw [hx] <;> first | assumption | exact (hqm 0 (by omega)).1))) (hlb := (by intro x hx; simp only [lsts, List.map_cons, List.map_nil, List.mem_cons, List.not_mem_nil, or_false] at hx; first | (rw [hx]; first | exact Nat.le_trans (hpm 1 (by omega)).2 (by decide) | exact Nat.le_trans (hqm 1 (by omega)).2 (by decide)) | (rcases hx with hx | hx <;> rw [hx] <;> first | omega | exact Nat.le_trans (hqm 0 (by omega)).2 (by decide)))) (hl0 := (by simp))) ?_
      rintro i0 p0 ⟨b1, h1, c0, rfl, c1, i1, j1, k1⟩
      have p0 := n0.callM (i := 0) rfl c1 i1
      have i1 := n0.dM 0 p0 j1
      refine ⟨_, rfl, fun p0 j1 => ?_⟩
      have p0 := sWI i1 8 (pB 0 1 pn)
      refine ⟨p0, ?_⟩
      refine dtA 25 s0 j1 p0 (fun n0 c1 => ?_)
      refine wpAnyH_done (by kernel_rfl) (x0 _ _ ?_) _
      refine x_then_n (v0 _ _ ?_)
      refine wp_ret ?_
      refine x_block_r ?_
      refine x_then_r ?_
      refine e_ret1 c1 rfl rfl rfl ?_
      refine ⟨b1, h1, c0, ?_, i1.fr, (by rw [show ((urT rn rx (lsts rp) (lsts rq) (lstsT rk)).2 : Int) = ((inQ ((re)) ((nthS rp 2).2.2) (lsts ([((j0, z0, t0) : Sl), (((nthS rq 0).1, (nthS rq 0).2.1, (nthS rq 0).2.2) : Sl)])))) by (unfold urT; rw [if_neg (by omega)]; unfold urR urX; simp [he, u0, q0, nand_of h0, nand_of y0, nand_of o0, nand_of f0, lsts_nth, lsts_len, lsts_cons1, lsts_nil1, f1, k1])]; exact i1.res (i := 0) rfl), i1.rx 15, (by unfold urT; rw [if_neg (by omega)]; unfold urR urX; simp [he, u0, q0, nand_of h0, nand_of y0, nand_of o0, nand_of f0, lsts_nth, lsts_len, lsts_cons1, lsts_nil1, f1, k1])⟩
      exact congrArg Ending.returned (ret_s (by first | rfl | (simp; done)))
     ·
      have i1 := k0
      try simp only [Bool.or_eq_true, Bool.and_eq_true, Bool.not_eq_true', Bool.not_eq_false', decide_eq_true_eq, decide_eq_false_iff_not, Bool.or_eq_false_iff, Bool.and_eq_false_iff] at i1
      have i1 := m0.setb (d := 66) (b := false) rfl k0
      refine wp_cond_false (i1.ev rfl) ?_
      refine wsc (fun m0 k1 => ?_)
      refine m_loadN (i := 1) (vs := [.int .i64 (rn.K), .int .i64 (rx.K)]) sv i1 d0 rfl rfl rfl rfl rfl Tryd.underlying93 rfl sz93 (by decide) (fun m0 c0 => ?_)
      refine m_build (ps := [(0, .const (.int .i64 24)), (1, .const (.int .i64 23))]) (v := .agg #[.int .i64 24, .int .i64 23]) sv c0 rfl rfl rfl (fun _ => by kernel_rfl) (by decide) (fun m0 i1 => ?_)
      refine r_eqlP sv i1 rfl rfl rfl rfl (by decide) (fun m0 c0 => ?_)
      refine asg c0 (fun m0 i1 => ?_)
      refine wpList_nil (x_then_n (k1 _ _ ?_))
      rcases Bool.eq_false_or_eq_true (decide ((rn.K) = 24) && decide ((rx.K) = 23)) with k1 | k1
      ·
       have m0 := and_tl k1
       have c0 := of_decide_eq_true m0
       have hmkrn24 := many_24 c0
       have m0 := and_tr k1
       have h1 := of_decide_eq_true m0
       have hmkrx23 := many_23 h1
       have m0 := i1.setb (d := 95) (b := true) rfl k1
       refine wp_cond_true (m0.ev rfl) ?_
       refine wp_seq_k (fun b1 f1 => ?_)
       obtain ⟨b1, t0, z0⟩ := d0.agree
       refine d_reg3 (n := 18) z0 8 (pB 0 1 pn) (pan_then (pan_block (pan_then pan_body))) (fun b1 j0 q0 u0 c1 v0 => ?_)
       refine dtM 0 j0 m0 v0 (fun u0 b1 => ?_)
       refine dtN 1 j0 b1 v0 (fun u0 m0 => ?_)
       refine dtF 2 0 j0 m0 v0 Tryd.underlying61 sz59 (fun u0 b1 => ?_)
       refine dtM 3 j0 b1 v0 (fun u0 m0 => ?_)
       refine dtN 4 j0 m0 v0 (fun u0 b1 => ?_)
       refine dtF 5 9 j0 b1 v0 Tryd.underlying61 sz42 (fun u0 m0 => ?_)
       refine dtC 6 8 j0 m0 v0 Tryd.underlying42 (fun u0 b1 => ?_)
       refine dt 7 rfl j0 b1 (want_n rfl) (fun x hx => m_index (i := 1) (j := 1 * 1) (sy b1) b1 rfl rfl rfl rfl Tryd.underlying42 sz22 (by omega) (by omega) (ss_elem (t := rp) (k := 1) (sdat (t0 1 _ rfl) hx.ag).2 (by omega)).some_ rfl (by decide) gt) v0 (fun u0 m0 => ?_)
       refine dt 8 rfl j0 m0 (want_n rfl) (fun x hx => m_loadE (sy m0) m0 rfl rfl rfl 0 (1 * 1) (ss_elem (t := rp) (k := 1) (sdat (t0 1 _ rfl) hx.ag).2 (by omega)) rfl rfl Tryd.underlying22 rfl (by decide) gt) v0 (fun u0 b1 => ?_)
       have u0 := c1.data (dRow 4 ((nthS rp 1).1) ((nthS rp 1).2.2.length) ((nthS rp 1).2.1) (encNs ((nthS rp 1).2.2))) (all_at (t := rp) (k := 1) (c1.get (i := 2) rfl) (by omega))
       refine dtM 9 j0 b1 v0 (fun c1 m0 => ?_)
       refine dtN 10 j0 m0 v0 (fun c1 b1 => ?_)
       refine dtF 11 10 j0 b1 v0 Tryd.underlying61 sz42 (fun c1 m0 => ?_)
       refine dtC 12 9 j0 m0 v0 Tryd.underlying42 (fun c1 b1 => ?_)
       refine dt 13 rfl j0 b1 (want_n rfl) (fun x hx => m_index (i := 1) (j := 1 * 1) (sy b1) b1 rfl rfl rfl rfl Tryd.underlying42 sz22 (by omega) (by omega) (ss_elem (t := rq) (k := 1) (sdat (t0 3 _ rfl) hx.ag).2 (by omega)).some_ rfl (by decide) gt) v0 (fun c1 m0 => ?_)
       refine dt 14 rfl j0 m0 (want_n rfl) (fun x hx => m_loadE (sy m0) m0 rfl rfl rfl 0 (1 * 1) (ss_elem (t := rq) (k := 1) (sdat (t0 3 _ rfl) hx.ag).2 (by omega)) rfl rfl Tryd.underlying22 rfl (by decide) gt) v0 (fun c1 b1 => ?_)
       have c1 := u0.data (dRow 4 ((nthS rq 1).1) ((nthS rq 1).2.2.length) ((nthS rq 1).2.1) (encNs ((nthS rq 1).2.2))) (all_at (t := rq) (k := 1) (u0.get (i := 4) rfl) (by omega))
       refine d1 15 ?_
       have u0 := c1.data (dAll [(((nthS rq 1).1, (nthS rq 1).2.1, (nthS rq 1).2.2) : Sl)]) (all_cons (c1.get (i := 10) rfl) all_nil)
       refine mbs [(0, .tmp 113)] [.slice ((nthS rq 1).1) ((nthS rq 1).2.2.length) ((nthS rq 1).2.1)] (st_opV rfl (want_n rfl)) b1 u0 Tryd.underlying42 zi22 (fun c1 m0 v0 t0 z0 => ?_)
       have m0 := sWI z0 8 (pB 0 1 pn)
       refine ⟨m0, ?_⟩
       refine d1 16 ?_
       have m0 := z0.nf
       have z0 := own_cap (m0.res (i := 2) rfl)
       obtain ⟨c1, u0⟩ := m0.row_dataM (i := 2) rfl (j := 0) rfl (by decide)
       have m0 := c1.data (dRow 1 (some ⟨v0, 0, none⟩) 1 1 (encSs ([(((nthS rq 1).1, (nthS rq 1).2.1, (nthS rq 1).2.2) : Sl)]))) ⟨z0, u0⟩
       refine k_call (xs := [.tmp 101, .tmp 107, .tmp 114]) (st_op rfl (want_n rfl)) t0 rfl rfl rfl (by decide) ok61 (minst_calls _ _ m0.il _ _ _ _ _ _ ((nthS rp 1).2.2) _ _ ([(((nthS rq 1).1, (nthS rq 1).2.1, (nthS rq 1).2.2) : Sl)]) (m0.g 0) (m0.z 0) (imm_box (i := 0) rfl) (m0.g 9) (m0.g 12) (m0.g 11) (hsm := (by first | exact (hqm 1 (by omega)).1 | exact (hpm 2 (by omega)).1 | exact (hpm 1 (by omega)).1)) (hl := (by first | exact Nat.le_trans (hqm 1 (by omega)).2 (by decide) | exact Nat.le_trans (hpm 2 (by omega)).2 (by decide) | exact Nat.le_trans (hpm 1 (by omega)).2 (by decide))) (hls := (by intro x hx; simp only [lsts, List.map_cons, List.map_nil, List.mem_cons, List.not_mem_nil, or_false] at hx; first | (rw [hx]; first | exact (hpm 1 (by omega)).1 | exact (hqm 1 (by omega)).1) | (rcases hx with hx | hx <;> rw [hx] <;> first | assumption | exact (hqm 0 (by omega)).1))) (hlb := (by intro x hx; simp only [lsts, List.map_cons, List.map_nil, List.mem_cons, List.not_mem_nil, or_false] at hx; first | (rw [hx]; first | exact Nat.le_trans (hpm 1 (by omega)).2 (by decide) | exact Nat.le_trans (hqm 1 (by omega)).2 (by decide)) | (rcases hx with hx | hx <;> rw [hx] <;> first | omega | exact Nat.le_trans (hqm 0 (by omega)).2 (by decide)))) (hl0 := (by simp))) ?_
       rintro t0 u0 ⟨c1, z0, v0, rfl, b1, x0, n0, p0⟩
       have u0 := m0.callM (i := 0) rfl b1 x0
       have x0 := m0.dM 0 u0 n0
       refine ⟨_, rfl, fun u0 n0 => ?_⟩
       have u0 := sWI x0 8 (pB 0 1 pn)
       refine ⟨u0, ?_⟩
       refine dtA 17 j0 n0 u0 (fun m0 b1 => ?_)
       refine wpAnyH_done (by kernel_rfl) (q0 _ _ ?_) _
       refine x_then_n (f1 _ _ ?_)
       refine wp_ret ?_
       refine x_block_r ?_
       refine x_then_r ?_
       refine e_ret1 b1 rfl rfl rfl ?_
       refine ⟨c1, z0, v0, ?_, x0.fr, (by rw [show ((urT rn rx (lsts rp) (lsts rq) (lstsT rk)).2 : Int) = ((inQ (re) ((nthS rp 1).2.2) (lsts ([(((nthS rq 1).1, (nthS rq 1).2.1, (nthS rq 1).2.2) : Sl)])))) by (unfold urT; rw [if_neg (by omega)]; unfold urR urX; simp [he, c0, h1, nand_of h0, nand_of y0, nand_of o0, nand_of f0, nand_of k0, lsts_nth, lsts_len, lsts_cons1, lsts_nil1, p0])]; exact x0.res (i := 0) rfl), x0.rx 13, (by unfold urT; rw [if_neg (by omega)]; unfold urR urX; simp [he, c0, h1, nand_of h0, nand_of y0, nand_of o0, nand_of f0, nand_of k0, lsts_nth, lsts_len, lsts_cons1, lsts_nil1, p0])⟩
       exact congrArg Ending.returned (ret_s (by first | rfl | (simp; done)))
      ·
       have x0 := k1
       try simp only [Bool.or_eq_true, Bool.and_eq_true, Bool.not_eq_true', Bool.not_eq_false', decide_eq_true_eq, decide_eq_false_iff_not, Bool.or_eq_false_iff, Bool.and_eq_false_iff] at x0
       have x0 := i1.setb (d := 95) (b := false) rfl k1
       refine wp_cond_false (x0.ev rfl) ?_
       refine wsc (fun i1 p0 => ?_)
       refine m_loadN (i := 1) (vs := [.int .i64 (rn.K), .int .i64 (rx.K)]) sv x0 d0 rfl rfl rfl rfl rfl Tryd.underlying93 rfl sz93 (by decide) (fun i1 v0 => ?_)
       refine m_build (ps := [(0, .const (.int .i64 27)), (1, .const (.int .i64 26))]) (v := .agg #[.int .i64 27, .int .i64 26]) sv v0 rfl rfl rfl (fun _ => by kernel_rfl) (by decide) (fun i1 x0 => ?_)
       refine r_eqlP sv x0 rfl rfl rfl rfl (by decide) (fun i1 v0 => ?_)
       refine asg v0 (fun i1 x0 => ?_)
       refine wpList_nil (x_then_n (p0 _ _ ?_))
       rcases Bool.eq_false_or_eq_true (decide ((rn.K) = 27) && decide ((rx.K) = 26)) with p0 | p0
       ·
        have i1 := and_tl p0
        have v0 := of_decide_eq_true i1
        have v0 := and_tr p0
        have i1 := of_decide_eq_true v0
        have i1 := x0.setb (d := 116) (b := true) rfl p0
        refine wp_cond_true (i1.ev rfl) ?_
        refine wsc (fun v0 z0 => ?_)
        refine mv i1 (fun v0 c1 => ?_)
        have v0 := d0.nf
        refine k_call (xs := [.tmp 120]) se c1 rfl rfl rfl (by decide) ok63 (uelim_calls _ _ v0.il _ _ rn rx _ _ _ _ _ _ _ _ _ (v0.g 0) (v0.z 0) (imm_box (i := 0) rfl) (v0.g 1) (v0.g 2) (v0.g 3) (v0.g 4) (v0.g 5) (v0.g 6) (hp4 := hp4) (hq4 := hq4) (hps := hps) (hqs := hqs) (hcs := hcs) (hc4 := hc4) (hN0 := (hx0 (by assumption)).1) (hlp := hlp) (hlq := hlq) (hsn := hsn) (he := he) (h27 := (by assumption)) (h26 := (by assumption)) (hM0 := (hx0 (by assumption)).2)) ?_
        rintro c1 i1 ⟨h1, c0, b1, rfl, f1, q0, m0, u0⟩
        have i1 := v0.callM (i := 0) rfl f1 q0
        have q0 := v0.dM 0 i1 m0
        refine ⟨_, rfl, fun i1 m0 => ?_⟩
        refine asg m0 (fun i1 v0 => ?_)
        refine wpList_nil (x_then_n (z0 _ _ ?_))
        refine wp_ret ?_
        refine x_block_r ?_
        refine x_then_r ?_
        refine e_ret1 v0 rfl rfl rfl ?_
        refine ⟨h1, c0, b1, ?_, q0.fr, (by rw [show ((urT rn rx (lsts rp) (lsts rq) (lstsT rk)).2 : Int) = (((elR rn rx (lsts rp) (lsts rq) (lstsT rk)).2)) by (unfold urT; rw [if_pos ⟨by assumption, by assumption⟩])]; exact q0.res (i := 0) rfl), q0.rx 8, (by unfold urT; rw [if_pos ⟨by assumption, by assumption⟩]; exact u0)⟩
        exact congrArg Ending.returned (ret_s (by first | rfl | (simp; done)))
       ·
        have q0 := p0
        try simp only [Bool.or_eq_true, Bool.and_eq_true, Bool.not_eq_true', Bool.not_eq_false', decide_eq_true_eq, decide_eq_false_iff_not, Bool.or_eq_false_iff, Bool.and_eq_false_iff] at q0
        have q0 := x0.setb (d := 116) (b := false) rfl p0
        refine wp_cond_false (q0.ev rfl) ?_
        refine wp_skip ?_
        refine x_block_n ?_
        refine x_then_n (b0 _ _ ?_)
        refine wsc (fun b0 x0 => ?_)
        refine mv q0 (fun b0 u0 => ?_)
        refine r_nilCheck sv u0 rfl rfl rfl (by decide) (fun b0 q0 => ?_)
        refine m_field (j' := 0) sv q0 rfl rfl rfl Tryd.underlying61 rfl sz59 rfl rfl (by decide) (fun b0 u0 => ?_)
        have b0 := d0.nf
        refine k_call (xs := [.tmp 124]) se u0 rfl rfl rfl (by decide) ok64 (stuck_calls _ _ b0.il _ _ _ _ (b0.z 0) (imm_box (i := 0) rfl)) ?_
        rintro u0 d0 ⟨q0, b1, rfl, c0, h1, v0⟩
        have d0 := b0.callM (i := 0) rfl c0 h1
        have h1 := b0.dM 0 d0 v0
        refine ⟨_, rfl, fun d0 v0 => ?_⟩
        refine asg v0 (fun d0 b0 => ?_)
        refine wpList_nil (x_then_n (x0 _ _ ?_))
        refine wp_ret ?_
        refine e_ret1 b0 rfl rfl rfl ?_
        refine ⟨q0, b1, ([] : List Nd), ?_, h1.fr, (by rw [show ((urT rn rx (lsts rp) (lsts rq) (lstsT rk)).2 : Int) = ((if (re) = 0 then 120 else (re))) by (unfold urT; rw [if_neg (nand_of p0)]; unfold urR urX; simp [he, nand_of h0, nand_of y0, nand_of o0, nand_of f0, nand_of k0, nand_of k1, nand_of p0, lsts_nth, lsts_len, lsts_cons1, lsts_nil1])]; exact h1.res (i := 0) rfl), h1.rx 8, (by unfold urT; rw [if_neg (nand_of p0)]; unfold urR urX; simp [he, nand_of h0, nand_of y0, nand_of o0, nand_of f0, nand_of k0, nand_of k1, nand_of p0, lsts_nth, lsts_len, lsts_cons1, lsts_nil1])⟩
        exact congrArg Ending.returned (ret_s (by first | rfl | (simp; done)))
end Go.Proofs.YtcfponnkfhkbdaaDoor
