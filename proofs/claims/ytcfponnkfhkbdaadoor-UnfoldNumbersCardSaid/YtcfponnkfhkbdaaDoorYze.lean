import Derived.Test.YtcfponnkfhkbdaaDoorYzd
import Derived.Test.YtcfponnkfhkbdaaDoorCards
import Derived.Test.YtcfponnkfhkbdaaDoorTie
import Derived.ProofKit
import Derived.OpenShut
import Derived.ReadAgain
import Derived.Deep.DeepHandedRow
import Derived.Deep.Slices
import Derived.Lib.LaidTab
import Derived.Deep.DeepWitnessRowRef
/- Contracts of functions, one theorem each: what the call returns, and that nothing old is changed. Printed by gen.py. -/
namespace Go.Proofs.YtcfponnkfhkbdaaDoor
open Go Go.RowKit
set_option linter.unusedSimpArgs false
set_option linter.unusedVariables false
set_option maxRecDepth 100000 in
set_option maxHeartbeats 1000000 in
theorem stuck_calls (w0 : World) (Z : Nat → Prop) (hZ : ∀ k, Z k → k < w0.heap.size) (mg : Nat) (mt : TypeId) (me : Int) (mr : List Value) (hm : (Res.box mg mt (.int .i64 me :: mr)).holds w0) (hmz : ¬ Z mg) :
    Calls Tryd.prog 64 [.pointer (some ⟨mg, 0, none⟩)].toArray w0 (fun e w' => ∃ (rA0 : Option Addr) (rc0 : Nat), e = .returned (.slice rA0 (([] : List Nd)).length rc0) ∧ Fr (· = mg) w0 w' ∧ (Res.box mg mt (.int .i64 (if me = 0 then 120 else me) :: mr)).holds w' ∧ (dRow 4 rA0 ((([] : List Nd)).length) rc0 (encNs ([] : List Nd))).φ w' (nxt Z w0 w')) := by
 have b0 := sM hm hmz hZ zn
 refine c_enter Tryd.func64 rfl Tryd.ntmps64 rfl (fun c0 d0 => ?_)
 refine wsc (fun c0 f0 => ?_)
 refine asg d0 (fun c0 h0 => ?_)
 refine wpList_nil (x_then_n (f0 _ _ ?_))
 refine wsc (fun f0 c0 => ?_)
 refine mv h0 (fun f0 d0 => ?_)
 have f0 := b0.nf
 refine k_call (xs := [.tmp 3, .const (.int .i64 120)]) se d0 rfl rfl rfl (by decide) ok88 (fail_calls _ _ f0.il _ _ _ _ 120 (f0.z 0) (imm_box (i := 0) rfl)) ?_
 rintro d0 b0 ⟨h0, i0, rfl, j0, k0, m0⟩
 have b0 := f0.callM (i := 0) rfl j0 k0
 have k0 := f0.dM 0 b0 m0
 refine ⟨_, rfl, fun b0 m0 => ?_⟩
 refine asg m0 (fun b0 f0 => ?_)
 refine wpList_nil (x_then_n (c0 _ _ ?_))
 refine wp_ret ?_
 refine e_ret1 f0 rfl rfl rfl ?_
 refine ⟨h0, i0, ?_, k0.fr, (by rw [show (if me = 0 then 120 else me : Int) = ((if (me) = 0 then 120 else (me))) by first | rfl | omega | assumption | exact decide_eq_true (by assumption) | ( omega) | (simp []; done) | (simp [] at *; done) | (simp [] <;> omega) | (rw [Bool.eq_iff_iff]; simp [] <;> omega) | (rw [Bool.eq_iff_iff]; simp [] at * <;> omega)]; exact k0.res (i := 0) rfl), k0.rx 0⟩
 exact congrArg Ending.returned rfl
set_option maxRecDepth 100000 in
set_option maxHeartbeats 1000000 in
theorem cloneS_calls (w0 : World) (Z : Nat → Prop) (hZ : ∀ k, Z k → k < w0.heap.size) (tA : Option Addr) (tc : Nat) (t : List Sl) (ht : (dRow 1 tA t.length tc (encSs t)).φ w0 Z) (hts : (dAll t).φ w0 Z) (hl : t.length ≤ 1000000 := by first | assumption | omega | (simp; done) | (simp; omega)) :
    Calls Tryd.prog 89 [.slice tA t.length tc].toArray w0 (fun e w' => ∃ (rA0 : Option Addr) (rc0 : Nat), e = .returned (.slice rA0 (t).length rc0) ∧ Fr none_ w0 w' ∧ (Res.row rA0 (t).length rc0 22 1 (encSs t)).holds w' ∧ (∀ k, (Res.row rA0 (t).length rc0 22 1 (encSs t)).blk = some k → w0.heap.size ≤ k)) := by
 have b0 := s0 (M := none_) hZ (zc ht (zc hts zn))
 refine c_enter Tryd.func89 rfl Tryd.ntmps89 rfl (fun c0 d0 => ?_)
 refine wsc (fun c0 f0 => ?_)
 refine asg d0 (fun c0 h0 => ?_)
 refine wpList_nil (x_then_n (f0 _ _ ?_))
 refine wp_seq_k (fun f0 c0 => ?_)
 refine wsc (fun f0 d0 => ?_)
 refine mv h0 (fun f0 i0 => ?_)
 refine r_eqlNil sv i0 rfl rfl rfl rfl Tryd.underlying42 (by decide) (fun f0 h0 => ?_)
 refine wpList_nil (x_then_n (d0 _ _ ?_))
 rcases Bool.eq_false_or_eq_true (Option.isNone tA) with d0 | d0
 ·
  have f0 := h0.setb (d := 4) (b := true) rfl d0
  refine wp_cond_true (f0.ev rfl) ?_
  refine wsc (fun i0 j0 => ?_)
  refine asg f0 (fun i0 k0 => ?_)
  refine wpList_nil (x_then_n (j0 _ _ ?_))
  refine wp_ret ?_
  refine x_then_r ?_
  refine e_ret1 k0 rfl rfl rfl ?_
  have k0 : t = [] := List.eq_nil_of_length_eq_zero (nil_len ht (by assumption))
  rw [k0]
  refine ⟨none, 0, ?_, b0.fr, nil_row1, nil_row2⟩
  exact congrArg Ending.returned rfl
 ·
  have k0 := h0.setb (d := 4) (b := false) rfl d0
  refine wp_cond_false (k0.ev rfl) ?_
  refine wp_skip ?_
  refine x_then_n (c0 _ _ ?_)
  refine wsc (fun c0 d0 => ?_)
  have c0 := b0.data (dAll []) all_nil
  refine mbs [] [] sv k0 c0 Tryd.underlying42 zi22 (fun b0 h0 j0 i0 f0 => ?_)
  refine mv i0 (fun j0 h0 => ?_)
  refine m_appendF (f := encS) (i := 0) ([]) (t) sv h0 f0 rfl rfl rfl rfl rfl encS_len (encS_one _) Tryd.underlying42 zi22 rfl rfl (f0.row (i := 0) rfl).2.news rfl (by first | omega | (simp only [List.length_cons, List.length_nil]; omega)) (by decide) (fun j0 i0 b0 c0 k0 m0 n0 => ?_)
  have k0 : (([]) ++ t : List Sl).length = t.length := by first | (simp only [List.length_append, List.length_take, List.length_cons, List.length_nil]; done) | (simp only [List.length_append, List.length_take, List.length_cons, List.length_nil]; omega)
  have k0 := n0.data (dAll (([]) ++ t)) (all_append (n0.get (i := 2) rfl) (n0.get (i := 1) rfl))
  refine asg m0 (fun n0 i0 => ?_)
  refine wpList_nil (x_then_n (d0 _ _ ?_))
  refine wp_ret ?_
  refine e_ret1 i0 rfl rfl rfl ?_
  have i0 : t = ([]) ++ t := by simp
  rw [i0]
  refine ⟨b0, c0, ?_, k0.fr, (k0.res (i := 0) rfl), (k0.fresh (i := 0) rfl)⟩
  exact congrArg Ending.returned rfl
set_option maxRecDepth 100000 in
set_option maxHeartbeats 6000000 in
theorem uagain_calls (w0 : World) (Z : Nat → Prop) (hZ : ∀ k, Z k → k < w0.heap.size) (rg : Nat) (re : Int) (rn : Nd) (rx : Nd) (rpA : Option Addr) (rpc : Nat) (rp : List Sl) (rqA : Option Addr) (rqc : Nat) (rq : List Sl) (tA : Option Addr) (tc : Nat) (t : List Nd) (hr : (Res.box rg 61 [.int .i64 (re), .int .i64 (rn.K), .int .i64 (rn.N), .int .i64 (rn.M), .string rn.S, .int .i64 (rx.K), .int .i64 (rx.N), .int .i64 (rx.M), .string rx.S, .slice rpA rp.length rpc, .slice rqA rq.length rqc, .slice none 0 0]).holds w0) (hrz : ¬ Z rg) (hrp : (dRow 1 rpA rp.length rpc (encSs rp)).φ w0 Z) (hrps : (dAll rp).φ w0 Z) (hrq : (dRow 1 rqA rq.length rqc (encSs rq)).φ w0 Z) (hrqs : (dAll rq).φ w0 Z) (ht : (dRow 4 tA t.length tc (encNs t)).φ w0 Z) (hp4 : rp.length ≤ 9 := by first | assumption | omega | (simp; done) | (simp; omega)) (hq4 : rq.length ≤ 9 := by first | assumption | omega | (simp; done) | (simp; omega)) (hps : ∀ x ∈ lsts rp, sml x ∧ x.length ≤ 4000 := by first | assumption | omega | (simp; done) | (simp; omega)) (hqs : ∀ x ∈ lsts rq, sml x ∧ x.length ≤ 4000 := by first | assumption | omega | (simp; done) | (simp; omega)) (h0p : 0 < rp.length := by first | assumption | omega | (simp; done) | (simp; omega)) (hsn : rn.S.size < 1000000 := by first | assumption | omega | (simp; done) | (simp; omega)) (hst : sml t := by first | assumption | omega | (simp; done) | (simp; omega)) (hlt : t.length ≤ 4000 := by first | assumption | omega | (simp; done) | (simp; omega)) :
    Calls Tryd.prog 62 [.pointer (some ⟨rg, 0, none⟩), .slice tA t.length tc].toArray w0 (fun e w' => ∃ (rA0 : Option Addr) (rc0 : Nat) (rL0 : List Nd), e = .returned (.slice rA0 rL0.length rc0) ∧ Fr (· = rg) w0 w' ∧ (Res.box rg 61 [.int .i64 (re), .int .i64 (rn.K), .int .i64 (rn.N), .int .i64 (rn.M), .string rn.S, .int .i64 (rx.K), .int .i64 (rx.N), .int .i64 (rx.M), .string rx.S, .slice rpA rp.length rpc, .slice rqA rq.length rqc, .slice none 0 0]).holds w' ∧ (dRow 4 rA0 rL0.length rc0 (encNs rL0)).φ w' (nxt Z w0 w') ∧ rL0 = noL re rn ((lsts rp).set ((lsts rp).length - 1) t)) := by
 have b0 := sM hr hrz hZ (zc hrp (zc hrps (zc hrq (zc hrqs (zc ht zn)))))
 refine c_enter Tryd.func62 rfl Tryd.ntmps62 rfl (fun c0 d0 => ?_)
 refine wsc (fun c0 f0 => ?_)
 refine asg d0 (fun c0 h0 => ?_)
 refine wpList_nil (x_then_n (f0 _ _ ?_))
 refine wsc (fun f0 c0 => ?_)
 refine mv h0 (fun f0 d0 => ?_)
 refine r_nilCheck sv d0 rfl rfl rfl (by decide) (fun f0 h0 => ?_)
 refine m_field (j' := 9) sv h0 rfl rfl rfl Tryd.underlying61 rfl sz42 rfl rfl (by decide) (fun f0 d0 => ?_)
 refine m_load (i := 0) sv d0 b0 rfl rfl rfl rfl rfl Tryd.underlying42 rfl (by decide) (fun f0 h0 => ?_)
 have f0 := b0.nf
 refine k_call (xs := [.tmp 9]) se h0 rfl rfl rfl (by decide) ok89 (cloneS_calls _ _ f0.il _ _ _ (f0.g 0) (f0.g 1)) ?_
 rintro h0 b0 ⟨d0, i0, rfl, j0, k0, m0⟩
 have b0 := f0.callO j0 k0 m0
 refine ⟨_, rfl, fun m0 k0 => ?_⟩
 refine asg k0 (fun m0 j0 => ?_)
 refine wpList_nil (x_then_n (c0 _ _ ?_))
 refine wsc (fun c0 m0 => ?_)
 refine mv j0 (fun c0 k0 => ?_)
 refine mv k0 (fun c0 j0 => ?_)
 refine r_len sv j0 rfl rfl rfl rfl Tryd.underlying42 (by decide) (fun c0 k0 => ?_)
 refine r_sub (z := (((rp.length : Nat) : Int) - 1)) sv k0 rfl rfl rfl rfl (by decide) (by omega) (by omega) (by omega) (fun c0 j0 => ?_)
 refine mv j0 (fun c0 k0 => ?_)
 refine m_index (i := (rp.length) - (1)) (j := ((rp.length) - (1)) * 1) sv k0 rfl rfl rfl rfl Tryd.underlying42 sz22 (by omega) (by omega) (own_ss (t := rp) (k := (rp.length) - (1)) (b0.res (i := 1) rfl) (by omega)).some_ rfl (by decide) (fun c0 j0 => ?_)
 refine m_storeE (f := encS) (i := 1) (k := (rp.length) - (1)) (L := rp) (z := ((tA, tc, t) : Sl)) se j0 b0 rfl rfl rfl rfl rfl rfl (by omega) encS_len (one1 (f := encS) encS_one) rfl sz22 (fun c0 k0 f0 h0 => ?_)
 have k0 : (rp.set ((rp.length) - (1)) ((tA, tc, t) : Sl)).length = rp.length := by simp
 have c0 := h0.data (dAll (rp.set ((rp.length) - (1)) ((tA, tc, t) : Sl))) (all_set (k := (rp.length) - (1)) (z := ((tA, tc, t) : Sl)) (h0.get (i := 1) rfl) (h0.get (i := 4) rfl))
 refine wpList_nil (x_then_n (m0 _ _ ?_))
 refine wp_seq_k (fun m0 h0 => ?_)
 obtain ⟨m0, j0, b0⟩ := c0.agree
 refine d_reg3 (n := 10) b0 6 (pB 0 0 pn) (pan_then pan_body) (fun j0 m0 c0 n0 o0 p0 => ?_)
 refine dtM 0 m0 f0 p0 (fun n0 j0 => ?_)
 refine dtN 1 m0 j0 p0 (fun n0 f0 => ?_)
 refine dtF 2 0 m0 f0 p0 Tryd.underlying61 sz59 (fun n0 j0 => ?_)
 refine dtM 3 m0 j0 p0 (fun n0 f0 => ?_)
 refine dtN 4 m0 f0 p0 (fun n0 j0 => ?_)
 refine dtF 5 1 m0 j0 p0 Tryd.underlying61 sz39 (fun n0 f0 => ?_)
 refine dt 6 rfl m0 f0 (want_n rfl) (fun x hx => m_loadCN (sy f0) f0 rfl rfl rfl (CellsAt.cons_ (hx.c 1) (CellsAt.cons_ (hx.c 2) (CellsAt.cons_ (hx.c 3) (CellsAt.cons_ (hx.c 4) (CellsAt.nil _ _))))) Tryd.underlying39 rfl sz39 (by decide) gt) p0 (fun n0 j0 => ?_)
 refine dtM 7 m0 j0 p0 (fun n0 f0 => ?_)
 refine d1 8 ?_
 have n0 := o0.nf
 have o0 := own_cap (n0.res (i := 1) rfl)
 obtain ⟨j0, p0⟩ := n0.row_dataM (i := 1) rfl (j := 0) rfl (by decide)
 have n0 := f0.conss f0 (i := 10) rfl k0
 have f0 := n0.conss n0 (i := 5) rfl k0
 have n0 := f0.conss f0 (i := 11) rfl k0
 have f0 := n0.conss n0 (i := 12) rfl k0
 have n0 := f0.conss f0 (i := 24) rfl k0
 have f0 := j0.data (dRow 1 d0 ((rp.set ((rp.length) - (1)) ((tA, tc, t) : Sl)).length) i0 (encSs (rp.set ((rp.length) - (1)) ((tA, tc, t) : Sl)))) ⟨o0, p0⟩
 refine k_call (xs := [.tmp 19, .tmp 23, .tmp 24]) (st_op rfl (want_n rfl)) n0 rfl rfl rfl (by decide) ok72 (node_calls _ _ f0.il _ _ _ _ rn _ _ (rp.set ((rp.length) - (1)) ((tA, tc, t) : Sl)) (f0.z 0) (imm_box (i := 0) rfl) (f0.g 7) (f0.g 5) (hl := (by rw [List.length_set]; omega)) (hb := (set_bd hps hlt))) ?_
 rintro n0 p0 ⟨j0, o0, i0, rfl, d0, k0, b0, q0⟩
 have p0 := f0.callM (i := 0) rfl d0 k0
 have k0 := f0.dM 0 p0 b0
 refine ⟨_, rfl, fun p0 b0 => ?_⟩
 have p0 := sWI k0 6 (pB 0 0 pn)
 refine ⟨p0, ?_⟩
 refine dtA 9 m0 b0 p0 (fun f0 d0 => ?_)
 refine wpAnyH_done (by kernel_rfl) (c0 _ _ ?_) _
 refine x_then_n (h0 _ _ ?_)
 refine wp_ret ?_
 refine e_ret1 d0 rfl rfl rfl ?_
 refine ⟨j0, o0, i0, ?_, k0.fr, k0.res (i := 0) rfl, k0.rx 8, (by rw [q0, lsts_set, lsts_len])⟩
 exact congrArg Ending.returned (ret_s (by first | rfl | (simp; done)))
set_option maxRecDepth 100000 in
set_option maxHeartbeats 1000000 in
theorem ureduct_calls (w0 : World) (Z : Nat → Prop) (hZ : ∀ k, Z k → k < w0.heap.size) (rg : Nat) (re : Int) (rn : Nd) (rx : Nd) (rpA : Option Addr) (rpc : Nat) (rp : List Sl) (rqA : Option Addr) (rqc : Nat) (rq : List Sl) (hShp : Shapes w0 Z) (hr : (Res.box rg 61 [.int .i64 (re), .int .i64 (rn.K), .int .i64 (rn.N), .int .i64 (rn.M), .string rn.S, .int .i64 (rx.K), .int .i64 (rx.N), .int .i64 (rx.M), .string rx.S, .slice rpA rp.length rpc, .slice rqA rq.length rqc, .slice none 0 0]).holds w0) (hrz : ¬ Z rg) (hrp : (dRow 1 rpA rp.length rpc (encSs rp)).φ w0 Z) (hrps : (dAll rp).φ w0 Z) (hrq : (dRow 1 rqA rq.length rqc (encSs rq)).φ w0 Z) (hrqs : (dAll rq).φ w0 Z) (hp4 : rp.length ≤ 9 := by first | assumption | omega | (simp; done) | (simp; omega)) (hq4 : rq.length ≤ 9 := by first | assumption | omega | (simp; done) | (simp; omega)) (hps : ∀ x ∈ lsts rp, sml x ∧ x.length ≤ 4000 := by first | assumption | omega | (simp; done) | (simp; omega)) (hqs : ∀ x ∈ lsts rq, sml x ∧ x.length ≤ 4000 := by first | assumption | omega | (simp; done) | (simp; omega)) (hlp : rp.length = many rn := by first | assumption | omega | (simp; done) | (simp; omega)) (hlq : rq.length = many rx := by first | assumption | omega | (simp; done) | (simp; omega)) (hsn : rn.S.size < 1000000 := by first | assumption | omega | (simp; done) | (simp; omega)) (he : re = 0 := by first | assumption | omega | (simp; done) | (simp; omega)) (h27 : ¬ rn.K = 27 := by first | assumption | omega | (simp; done) | (simp; omega)) :
    Calls Tryd.prog 37 [.pointer (some ⟨rg, 0, none⟩)].toArray w0 (fun e w' => ∃ (rA0 : Option Addr) (rc0 : Nat) (rL0 : List Nd), e = .returned (.slice rA0 rL0.length rc0) ∧ Fr (· = rg) w0 w' ∧ (Res.box rg 61 [.int .i64 (((urR rn rx (lsts rp) (lsts rq)).2)), .int .i64 (rn.K), .int .i64 (rn.N), .int .i64 (rn.M), .string rn.S, .int .i64 (rx.K), .int .i64 (rx.N), .int .i64 (rx.M), .string rx.S, .slice rpA rp.length rpc, .slice rqA rq.length rqc, .slice none 0 0]).holds w' ∧ (dRow 4 rA0 rL0.length rc0 (encNs rL0)).φ w' (nxt Z w0 w') ∧ rL0 = (urR rn rx (lsts rp) (lsts rq)).1) := by
 have b0 := sM hr hrz hZ (zc (d := dShapes) hShp (zc hrp (zc hrps (zc hrq (zc hrqs zn)))))
 have hpm : ∀ k, k < rp.length → sml (nthS rp k).2.2 ∧ (nthS rp k).2.2.length ≤ 4000 := fun k hk => hps _ (nthS_in hk)
 have hqm : ∀ k, k < rq.length → sml (nthS rq k).2.2 ∧ (nthS rq k).2.2.length ≤ 4000 := fun k hk => hqs _ (nthS_in hk)
 refine c_enter Tryd.func37 rfl Tryd.ntmps37 rfl (fun c0 d0 => ?_)
 refine wsc (fun c0 f0 => ?_)
 refine asg d0 (fun c0 h0 => ?_)
 refine wpList_nil (x_then_n (f0 _ _ ?_))
 refine wp_seq_k (fun f0 c0 => ?_)
 obtain ⟨f0, d0, i0⟩ := b0.agree
 refine d_reg3 (n := 13) i0 5 (pB 0 1 pn) (pan_then pan_body) (fun d0 f0 b0 j0 k0 m0 => ?_)
 refine dtM 0 f0 h0 m0 (fun j0 d0 => ?_)
 refine dtN 1 f0 d0 m0 (fun j0 h0 => ?_)
 refine dtF 2 1 f0 h0 m0 Tryd.underlying61 sz39 (fun j0 d0 => ?_)
 refine dtF 3 1 f0 d0 m0 Tryd.underlying39 sz3 (fun j0 h0 => ?_)
 refine dtC 4 0 f0 h0 m0 Tryd.underlying3 (fun j0 d0 => ?_)
 refine dtM 5 f0 d0 m0 (fun j0 h0 => ?_)
 refine dtN 6 f0 h0 m0 (fun j0 d0 => ?_)
 refine dtF 7 5 f0 d0 m0 Tryd.underlying61 sz39 (fun j0 h0 => ?_)
 refine dtF 8 5 f0 h0 m0 Tryd.underlying39 sz3 (fun j0 d0 => ?_)
 refine dtC 9 4 f0 d0 m0 Tryd.underlying3 (fun j0 h0 => ?_)
 refine dt 10 rfl f0 h0 (want_n rfl) (fun x hx => m_build (ps := [(0, .tmp 8), (1, .tmp 13)]) (v := .agg #[.int .i64 (rn.K), .int .i64 (rx.K)]) (sy h0) h0 rfl rfl rfl (fun _ => by kernel_rfl) (by decide) gt) m0 (fun j0 d0 => ?_)
 refine d1 11 ?_
 refine m_alloc (cs := [.int .i64 0, .int .i64 0]) (st_opV rfl (want_n rfl)) d0 k0 rfl rfl ze93 rfl (by decide) (fun j0 h0 m0 f0 i0 => ?_)
 have m0 := sWI i0 5 (pB 0 1 pn)
 refine ⟨m0, ?_⟩
 refine d1 12 ?_
 refine m_store (i := 1) (cs' := [.int .i64 (rn.K), .int .i64 (rx.K)]) (st_op rfl (want_n rfl)) f0 i0 rfl rfl rfl rfl rfl sz93 rfl rfl rfl (fun m0 h0 j0 d0 => ?_)
 have h0 := sWI d0 5 (pB 0 1 pn)
 refine ⟨h0, ?_⟩
 refine wpAnyH_done (by kernel_rfl) (b0 _ _ ?_) _
 refine x_then_n (c0 _ _ ?_)
 refine wp_seq_k (fun c0 b0 => ?_)
 refine wp_block ?_
 refine wsc (fun c0 h0 => ?_)
 refine m_loadN (i := 1) (vs := [.int .i64 (rn.K), .int .i64 (rx.K)]) sv j0 d0 rfl rfl rfl rfl rfl Tryd.underlying93 rfl sz93 (by decide) (fun c0 m0 => ?_)
 refine m_build (ps := [(0, .const (.int .i64 5)), (1, .const (.int .i64 4))]) (v := .agg #[.int .i64 5, .int .i64 4]) sv m0 rfl rfl rfl (fun _ => by kernel_rfl) (by decide) (fun c0 j0 => ?_)
 refine r_eqlP sv j0 rfl rfl rfl rfl (by decide) (fun c0 m0 => ?_)
 refine asg m0 (fun c0 j0 => ?_)
 refine wpList_nil (x_then_n (h0 _ _ ?_))
 rcases Bool.eq_false_or_eq_true (decide ((rn.K) = 5) && decide ((rx.K) = 4)) with h0 | h0
 ·
  have c0 := and_tl h0
  have m0 := of_decide_eq_true c0
  have hmkrn5 := many_5 m0
  have c0 := and_tr h0
  have i0 := of_decide_eq_true c0
  have hmkrx4 := many_4 i0
  have c0 := j0.setb (d := 15) (b := true) rfl h0
  refine wp_cond_true (c0.ev rfl) ?_
  refine wp_seq_k (fun f0 k0 => ?_)
  obtain ⟨f0, n0, o0⟩ := d0.agree
  refine d_reg3 (n := 18) o0 6 (pB 0 1 pn) (pan_then (pan_block (pan_then pan_body))) (fun f0 p0 q0 s0 t0 u0 => ?_)
  refine dtM 0 p0 c0 u0 (fun s0 f0 => ?_)
  refine dtN 1 p0 f0 u0 (fun s0 c0 => ?_)
  refine dtF 2 0 p0 c0 u0 Tryd.underlying61 sz59 (fun s0 f0 => ?_)
  refine dtM 3 p0 f0 u0 (fun s0 c0 => ?_)
  refine dtN 4 p0 c0 u0 (fun s0 f0 => ?_)
  refine dtF 5 10 p0 f0 u0 Tryd.underlying61 sz42 (fun s0 c0 => ?_)
  refine dtC 6 9 p0 c0 u0 Tryd.underlying42 (fun s0 f0 => ?_)
  refine dt 7 rfl p0 f0 (want_n rfl) (fun x hx => m_index (i := 1) (j := 1 * 1) (sy f0) f0 rfl rfl rfl rfl Tryd.underlying42 sz22 (by omega) (by omega) (ss_elem (t := rq) (k := 1) (sdat (n0 3 _ rfl) hx.ag).2 (by omega)).some_ rfl (by decide) gt) u0 (fun s0 c0 => ?_)
  refine dt 8 rfl p0 c0 (want_n rfl) (fun x hx => m_loadE (sy c0) c0 rfl rfl rfl 0 (1 * 1) (ss_elem (t := rq) (k := 1) (sdat (n0 3 _ rfl) hx.ag).2 (by omega)) rfl rfl Tryd.underlying22 rfl (by decide) gt) u0 (fun s0 f0 => ?_)
  have s0 := t0.data (dRow 4 ((nthS rq 1).1) ((nthS rq 1).2.2.length) ((nthS rq 1).2.1) (encNs ((nthS rq 1).2.2))) (all_at (t := rq) (k := 1) (t0.get (i := 4) rfl) (by omega))
  refine dtM 9 p0 f0 u0 (fun t0 c0 => ?_)
  refine dtN 10 p0 c0 u0 (fun t0 f0 => ?_)
  refine dtF 11 9 p0 f0 u0 Tryd.underlying61 sz42 (fun t0 c0 => ?_)
  refine dtC 12 8 p0 c0 u0 Tryd.underlying42 (fun t0 f0 => ?_)
  refine dt 13 rfl p0 f0 (want_n rfl) (fun x hx => m_index (i := 1) (j := 1 * 1) (sy f0) f0 rfl rfl rfl rfl Tryd.underlying42 sz22 (by omega) (by omega) (ss_elem (t := rp) (k := 1) (sdat (n0 1 _ rfl) hx.ag).2 (by omega)).some_ rfl (by decide) gt) u0 (fun t0 c0 => ?_)
  refine dt 14 rfl p0 c0 (want_n rfl) (fun x hx => m_loadE (sy c0) c0 rfl rfl rfl 0 (1 * 1) (ss_elem (t := rp) (k := 1) (sdat (n0 1 _ rfl) hx.ag).2 (by omega)) rfl rfl Tryd.underlying22 rfl (by decide) gt) u0 (fun t0 f0 => ?_)
  have t0 := s0.data (dRow 4 ((nthS rp 1).1) ((nthS rp 1).2.2.length) ((nthS rp 1).2.1) (encNs ((nthS rp 1).2.2))) (all_at (t := rp) (k := 1) (s0.get (i := 2) rfl) (by omega))
  refine d1 15 ?_
  have s0 := t0.data (dAll [(((nthS rp 1).1, (nthS rp 1).2.1, (nthS rp 1).2.2) : Sl)]) (all_cons (t0.get (i := 8) rfl) all_nil)
  refine mbs [(0, .tmp 33)] [.slice ((nthS rp 1).1) ((nthS rp 1).2.2.length) ((nthS rp 1).2.1)] (st_opV rfl (want_n rfl)) f0 s0 Tryd.underlying42 zi22 (fun t0 c0 u0 n0 o0 => ?_)
  have c0 := sWI o0 6 (pB 0 1 pn)
  refine ⟨c0, ?_⟩
  refine d1 16 ?_
  have c0 := o0.nf
  have o0 := own_cap (c0.res (i := 2) rfl)
  obtain ⟨t0, s0⟩ := c0.row_dataM (i := 2) rfl (j := 0) rfl (by decide)
  have c0 := t0.data (dRow 1 (some ⟨u0, 0, none⟩) 1 1 (encSs ([(((nthS rp 1).1, (nthS rp 1).2.1, (nthS rp 1).2.2) : Sl)]))) ⟨o0, s0⟩
  refine k_call (xs := [.tmp 21, .tmp 27, .tmp 34]) (st_op rfl (want_n rfl)) n0 rfl rfl rfl (by decide) ok61 (minst_calls _ _ c0.il _ _ _ _ _ _ ((nthS rq 1).2.2) _ _ ([(((nthS rp 1).1, (nthS rp 1).2.1, (nthS rp 1).2.2) : Sl)]) (c0.g 0) (c0.z 0) (imm_box (i := 0) rfl) (c0.g 7) (c0.g 10) (c0.g 9) (hsm := (by first | exact (hqm 1 (by omega)).1 | exact (hpm 2 (by omega)).1 | exact (hpm 1 (by omega)).1)) (hl := (by first | exact Nat.le_trans (hqm 1 (by omega)).2 (by decide) | exact Nat.le_trans (hpm 2 (by omega)).2 (by decide) | exact Nat.le_trans (hpm 1 (by omega)).2 (by decide))) (hls := (by intro x hx; simp only [lsts, List.map_cons, List.map_nil, List.mem_cons, List.not_mem_nil, or_false] at hx; first | (rw [hx]; first | exact (hpm 1 (by omega)).1 | exact (hqm 1 (by omega)).1) | (rcases hx with hx | hx <;> rw [hx] <;> first | assumption | exact (hqm 0 (by omega)).1))) (hlb := (by intro x hx; simp only [lsts, List.map_cons, List.map_nil, List.mem_cons, List.not_mem_nil, or_false] at hx; first | (rw [hx]; first | exact Nat.le_trans (hpm 1 (by omega)).2 (by decide) | exact Nat.le_trans (hqm 1 (by omega)).2 (by decide)) | (rcases hx with hx | hx <;> rw [hx] <;> first | omega | exact Nat.le_trans (hqm 0 (by omega)).2 (by decide)))) (hl0 := (by simp))) ?_
  rintro n0 s0 ⟨t0, o0, u0, rfl, f0, v0, x0, y0⟩
  have s0 := c0.callM (i := 0) rfl f0 v0
  have v0 := c0.dM 0 s0 x0
  refine ⟨_, rfl, fun s0 x0 => ?_⟩
  have s0 := sWI v0 6 (pB 0 1 pn)
  refine ⟨s0, ?_⟩
  refine dtA 17 p0 x0 s0 (fun c0 f0 => ?_)
  refine wpAnyH_done (by kernel_rfl) (q0 _ _ ?_) _
  refine x_then_n (k0 _ _ ?_)
  refine wp_ret ?_
  refine x_block_r ?_
  refine x_then_r ?_
  refine e_ret1 f0 rfl rfl rfl ?_
  refine ⟨t0, o0, u0, ?_, v0.fr, (by rw [show ((urR rn rx (lsts rp) (lsts rq)).2 : Int) = ((inQ (re) ((nthS rq 1).2.2) (lsts ([(((nthS rp 1).1, (nthS rp 1).2.1, (nthS rp 1).2.2) : Sl)])))) by (unfold urR urX; simp [he, m0, i0, lsts_nth, lsts_len, lsts_cons1, lsts_nil1, y0])]; exact v0.res (i := 0) rfl), v0.rx 11, (by unfold urR urX; simp [he, m0, i0, lsts_nth, lsts_len, lsts_cons1, lsts_nil1, y0])⟩
  exact congrArg Ending.returned (ret_s (by first | rfl | (simp; done)))
 ·
  have v0 := h0
  try simp only [Bool.or_eq_true, Bool.and_eq_true, Bool.not_eq_true', Bool.not_eq_false', decide_eq_true_eq, decide_eq_false_iff_not, Bool.or_eq_false_iff, Bool.and_eq_false_iff] at v0
  have v0 := j0.setb (d := 15) (b := false) rfl h0
  refine wp_cond_false (v0.ev rfl) ?_
  refine wsc (fun j0 y0 => ?_)
  refine m_loadN (i := 1) (vs := [.int .i64 (rn.K), .int .i64 (rx.K)]) sv v0 d0 rfl rfl rfl rfl rfl Tryd.underlying93 rfl sz93 (by decide) (fun j0 u0 => ?_)
  refine m_build (ps := [(0, .const (.int .i64 8)), (1, .const (.int .i64 7))]) (v := .agg #[.int .i64 8, .int .i64 7]) sv u0 rfl rfl rfl (fun _ => by kernel_rfl) (by decide) (fun j0 v0 => ?_)
  refine r_eqlP sv v0 rfl rfl rfl rfl (by decide) (fun j0 u0 => ?_)
  refine asg u0 (fun j0 v0 => ?_)
  refine wpList_nil (x_then_n (y0 _ _ ?_))
  rcases Bool.eq_false_or_eq_true (decide ((rn.K) = 8) && decide ((rx.K) = 7)) with y0 | y0
  ·
   have j0 := and_tl y0
   have u0 := of_decide_eq_true j0
   have hmkrn8 := many_8 u0
   have j0 := and_tr y0
   have o0 := of_decide_eq_true j0
   have hmkrx7 := many_7 o0
   have j0 := v0.setb (d := 36) (b := true) rfl y0
   refine wp_cond_true (j0.ev rfl) ?_
   refine wsc (fun t0 i0 => ?_)
   refine mv j0 (fun t0 m0 => ?_)
   refine r_nilCheck sv m0 rfl rfl rfl (by decide) (fun t0 j0 => ?_)
   refine m_field (j' := 10) sv j0 rfl rfl rfl Tryd.underlying61 rfl sz42 rfl rfl (by decide) (fun t0 m0 => ?_)
   refine m_load (i := 0) sv m0 d0 rfl rfl rfl rfl rfl Tryd.underlying42 rfl (by decide) (fun t0 j0 => ?_)
   refine m_index (i := 1) (j := 1 * 1) sv j0 rfl rfl rfl rfl Tryd.underlying42 sz22 (by omega) (by omega) (ss_elem (t := rq) (k := 1) (d0.row (i := 3) rfl).2 (by omega)).some_ rfl (by decide) (fun t0 m0 => ?_)
   refine m_loadE sv m0 rfl rfl rfl 0 (1 * 1) (ss_elem (t := rq) (k := 1) (d0.row (i := 3) rfl).2 (by omega)) rfl rfl Tryd.underlying22 rfl (by decide) (fun t0 j0 => ?_)
   have t0 := d0.data (dRow 4 ((nthS rq 1).1) ((nthS rq 1).2.2.length) ((nthS rq 1).2.1) (encNs ((nthS rq 1).2.2))) (all_at (t := rq) (k := 1) (d0.get (i := 4) rfl) (by omega))
   refine asg j0 (fun m0 f0 => ?_)
   refine wpList_nil (x_then_n (i0 _ _ ?_))
   refine wp_ret ?_
   refine x_block_r ?_
   refine x_then_r ?_
   refine e_ret1 f0 rfl rfl rfl ?_
   refine ⟨((nthS rq 1).1), ((nthS rq 1).2.1), ((nthS rq 1).2.2), ?_, t0.fr, (by rw [show ((urR rn rx (lsts rp) (lsts rq)).2 : Int) = (re) by (unfold urR urX; simp [he, u0, o0, nand_of h0, lsts_nth, lsts_len, lsts_cons1, lsts_nil1])]; exact t0.res (i := 0) rfl), t0.rx 6, (by unfold urR urX; simp [he, u0, o0, nand_of h0, lsts_nth, lsts_len, lsts_cons1, lsts_nil1])⟩
   exact congrArg Ending.returned (ret_s (by first | rfl | (simp; done)))
  ·
   have t0 := y0
   try simp only [Bool.or_eq_true, Bool.and_eq_true, Bool.not_eq_true', Bool.not_eq_false', decide_eq_true_eq, decide_eq_false_iff_not, Bool.or_eq_false_iff, Bool.and_eq_false_iff] at t0
   have t0 := v0.setb (d := 36) (b := false) rfl y0
   refine wp_cond_false (t0.ev rfl) ?_
   refine wsc (fun v0 o0 => ?_)
   refine m_loadN (i := 1) (vs := [.int .i64 (rn.K), .int .i64 (rx.K)]) sv t0 d0 rfl rfl rfl rfl rfl Tryd.underlying93 rfl sz93 (by decide) (fun v0 u0 => ?_)
   refine m_build (ps := [(0, .const (.int .i64 9)), (1, .const (.int .i64 7))]) (v := .agg #[.int .i64 9, .int .i64 7]) sv u0 rfl rfl rfl (fun _ => by kernel_rfl) (by decide) (fun v0 t0 => ?_)
   refine r_eqlP sv t0 rfl rfl rfl rfl (by decide) (fun v0 u0 => ?_)
   refine asg u0 (fun v0 t0 => ?_)
   refine wpList_nil (x_then_n (o0 _ _ ?_))
   rcases Bool.eq_false_or_eq_true (decide ((rn.K) = 9) && decide ((rx.K) = 7)) with o0 | o0
   ·
    have v0 := and_tl o0
    have u0 := of_decide_eq_true v0
    have hmkrn9 := many_9 u0
    have v0 := and_tr o0
    have f0 := of_decide_eq_true v0
    have hmkrx7 := many_7 f0
    have v0 := t0.setb (d := 46) (b := true) rfl o0
    refine wp_cond_true (v0.ev rfl) ?_
    refine wsc (fun i0 m0 => ?_)
    refine mv v0 (fun i0 j0 => ?_)
    refine r_nilCheck sv j0 rfl rfl rfl (by decide) (fun i0 v0 => ?_)
    refine m_field (j' := 10) sv v0 rfl rfl rfl Tryd.underlying61 rfl sz42 rfl rfl (by decide) (fun i0 j0 => ?_)
    refine m_load (i := 0) sv j0 d0 rfl rfl rfl rfl rfl Tryd.underlying42 rfl (by decide) (fun i0 v0 => ?_)
    refine m_index (i := 2) (j := 2 * 1) sv v0 rfl rfl rfl rfl Tryd.underlying42 sz22 (by omega) (by omega) (ss_elem (t := rq) (k := 2) (d0.row (i := 3) rfl).2 (by omega)).some_ rfl (by decide) (fun i0 j0 => ?_)
    refine m_loadE sv j0 rfl rfl rfl 0 (2 * 1) (ss_elem (t := rq) (k := 2) (d0.row (i := 3) rfl).2 (by omega)) rfl rfl Tryd.underlying22 rfl (by decide) (fun i0 v0 => ?_)
    have i0 := d0.data (dRow 4 ((nthS rq 2).1) ((nthS rq 2).2.2.length) ((nthS rq 2).2.1) (encNs ((nthS rq 2).2.2))) (all_at (t := rq) (k := 2) (d0.get (i := 4) rfl) (by omega))
    refine asg v0 (fun j0 k0 => ?_)
    refine wpList_nil (x_then_n (m0 _ _ ?_))
    refine wp_ret ?_
    refine x_block_r ?_
    refine x_then_r ?_
    refine e_ret1 k0 rfl rfl rfl ?_
    refine ⟨((nthS rq 2).1), ((nthS rq 2).2.1), ((nthS rq 2).2.2), ?_, i0.fr, (by rw [show ((urR rn rx (lsts rp) (lsts rq)).2 : Int) = (re) by (unfold urR urX; simp [he, u0, f0, nand_of h0, nand_of y0, lsts_nth, lsts_len, lsts_cons1, lsts_nil1])]; exact i0.res (i := 0) rfl), i0.rx 6, (by unfold urR urX; simp [he, u0, f0, nand_of h0, nand_of y0, lsts_nth, lsts_len, lsts_cons1, lsts_nil1])⟩
    exact congrArg Ending.returned (ret_s (by first | rfl | (simp; done)))
   ·
    have i0 := o0
    try simp only [Bool.or_eq_true, Bool.and_eq_true, Bool.not_eq_true', Bool.not_eq_false', decide_eq_true_eq, decide_eq_false_iff_not, Bool.or_eq_false_iff, Bool.and_eq_false_iff] at i0
    have i0 := t0.setb (d := 46) (b := false) rfl o0
    refine wp_cond_false (i0.ev rfl) ?_
    refine wsc (fun t0 f0 => ?_)
    refine m_loadN (i := 1) (vs := [.int .i64 (rn.K), .int .i64 (rx.K)]) sv i0 d0 rfl rfl rfl rfl rfl Tryd.underlying93 rfl sz93 (by decide) (fun t0 u0 => ?_)
    refine m_build (ps := [(0, .const (.int .i64 13)), (1, .const (.int .i64 11))]) (v := .agg #[.int .i64 13, .int .i64 11]) sv u0 rfl rfl rfl (fun _ => by kernel_rfl) (by decide) (fun t0 i0 => ?_)
    refine r_eqlP sv i0 rfl rfl rfl rfl (by decide) (fun t0 u0 => ?_)
    refine asg u0 (fun t0 i0 => ?_)
    refine wpList_nil (x_then_n (f0 _ _ ?_))
    rcases Bool.eq_false_or_eq_true (decide ((rn.K) = 13) && decide ((rx.K) = 11)) with f0 | f0
    ·
     have t0 := and_tl f0
     have u0 := of_decide_eq_true t0
     have hmkrn13 := many_13 u0
     have t0 := and_tr f0
     have k0 := of_decide_eq_true t0
     have t0 := i0.setb (d := 56) (b := true) rfl f0
     refine wp_cond_true (t0.ev rfl) ?_
     refine wsc (fun m0 j0 => ?_)
     refine mv t0 (fun m0 v0 => ?_)
     refine r_nilCheck sv v0 rfl rfl rfl (by decide) (fun m0 t0 => ?_)
     refine m_field (j' := 9) sv t0 rfl rfl rfl Tryd.underlying61 rfl sz42 rfl rfl (by decide) (fun m0 v0 => ?_)
     refine m_load (i := 0) sv v0 d0 rfl rfl rfl rfl rfl Tryd.underlying42 rfl (by decide) (fun m0 t0 => ?_)
     refine m_index (i := 1) (j := 1 * 1) sv t0 rfl rfl rfl rfl Tryd.underlying42 sz22 (by omega) (by omega) (ss_elem (t := rp) (k := 1) (d0.row (i := 1) rfl).2 (by omega)).some_ rfl (by decide) (fun m0 v0 => ?_)
     refine m_loadE sv v0 rfl rfl rfl 0 (1 * 1) (ss_elem (t := rp) (k := 1) (d0.row (i := 1) rfl).2 (by omega)) rfl rfl Tryd.underlying22 rfl (by decide) (fun m0 t0 => ?_)
     have m0 := d0.data (dRow 4 ((nthS rp 1).1) ((nthS rp 1).2.2.length) ((nthS rp 1).2.1) (encNs ((nthS rp 1).2.2))) (all_at (t := rp) (k := 1) (d0.get (i := 2) rfl) (by omega))
     refine asg t0 (fun v0 q0 => ?_)
     refine wpList_nil (x_then_n (j0 _ _ ?_))
     refine wp_ret ?_
     refine x_block_r ?_
     refine x_then_r ?_
     refine e_ret1 q0 rfl rfl rfl ?_
     refine ⟨((nthS rp 1).1), ((nthS rp 1).2.1), ((nthS rp 1).2.2), ?_, m0.fr, (by rw [show ((urR rn rx (lsts rp) (lsts rq)).2 : Int) = (re) by (unfold urR urX; simp [he, u0, k0, nand_of h0, nand_of y0, nand_of o0, lsts_nth, lsts_len, lsts_cons1, lsts_nil1])]; exact m0.res (i := 0) rfl), m0.rx 6, (by unfold urR urX; simp [he, u0, k0, nand_of h0, nand_of y0, nand_of o0, lsts_nth, lsts_len, lsts_cons1, lsts_nil1])⟩
     exact congrArg Ending.returned (ret_s (by first | rfl | (simp; done)))
    ·
     have m0 := f0
     try simp only [Bool.or_eq_true, Bool.and_eq_true, Bool.not_eq_true', Bool.not_eq_false', decide_eq_true_eq, decide_eq_false_iff_not, Bool.or_eq_false_iff, Bool.and_eq_false_iff] at m0
     have m0 := i0.setb (d := 56) (b := false) rfl f0
     refine wp_cond_false (m0.ev rfl) ?_
     refine wsc (fun i0 k0 => ?_)
     refine m_loadN (i := 1) (vs := [.int .i64 (rn.K), .int .i64 (rx.K)]) sv m0 d0 rfl rfl rfl rfl rfl Tryd.underlying93 rfl sz93 (by decide) (fun i0 u0 => ?_)
     refine m_build (ps := [(0, .const (.int .i64 13)), (1, .const (.int .i64 12))]) (v := .agg #[.int .i64 13, .int .i64 12]) sv u0 rfl rfl rfl (fun _ => by kernel_rfl) (by decide) (fun i0 m0 => ?_)
     refine r_eqlP sv m0 rfl rfl rfl rfl (by decide) (fun i0 u0 => ?_)
     refine asg u0 (fun i0 m0 => ?_)
     refine wpList_nil (x_then_n (k0 _ _ ?_))
     rcases Bool.eq_false_or_eq_true (decide ((rn.K) = 13) && decide ((rx.K) = 12)) with k0 | k0
     ·
      have i0 := and_tl k0
      have u0 := of_decide_eq_true i0
      have hmkrn13 := many_13 u0
      have i0 := and_tr k0
      have q0 := of_decide_eq_true i0
      have hmkrx12 := many_12 q0
      have i0 := m0.setb (d := 66) (b := true) rfl k0
      refine wp_cond_true (i0.ev rfl) ?_
      refine wp_seq_k (fun j0 v0 => ?_)
      obtain ⟨j0, t0, c0⟩ := d0.agree
      refine d_reg3 (n := 26) c0 6 (pB 0 1 pn) (pan_then (pan_block (pan_then pan_body))) (fun j0 s0 x0 p0 n0 z0 => ?_)
      refine dtM 0 s0 i0 z0 (fun p0 j0 => ?_)
      refine dtN 1 s0 j0 z0 (fun p0 i0 => ?_)
      refine dtF 2 0 s0 i0 z0 Tryd.underlying61 sz59 (fun p0 j0 => ?_)
      refine dtM 3 s0 j0 z0 (fun p0 i0 => ?_)
      refine dtN 4 s0 i0 z0 (fun p0 j0 => ?_)
      refine dtF 5 9 s0 j0 z0 Tryd.underlying61 sz42 (fun p0 i0 => ?_)
      refine dtC 6 8 s0 i0 z0 Tryd.underlying42 (fun p0 j0 => ?_)
      refine dt 7 rfl s0 j0 (want_n rfl) (fun x hx => m_index (i := 2) (j := 2 * 1) (sy j0) j0 rfl rfl rfl rfl Tryd.underlying42 sz22 (by omega) (by omega) (ss_elem (t := rp) (k := 2) (sdat (t0 1 _ rfl) hx.ag).2 (by omega)).some_ rfl (by decide) gt) z0 (fun p0 i0 => ?_)
      refine dt 8 rfl s0 i0 (want_n rfl) (fun x hx => m_loadE (sy i0) i0 rfl rfl rfl 0 (2 * 1) (ss_elem (t := rp) (k := 2) (sdat (t0 1 _ rfl) hx.ag).2 (by omega)) rfl rfl Tryd.underlying22 rfl (by decide) gt) z0 (fun p0 j0 => ?_)
      have p0 := n0.data (dRow 4 ((nthS rp 2).1) ((nthS rp 2).2.2.length) ((nthS rp 2).2.1) (encNs ((nthS rp 2).2.2))) (all_at (t := rp) (k := 2) (n0.get (i := 2) rfl) (by omega))
      refine dtM 9 s0 j0 z0 (fun n0 i0 => ?_)
      refine dtM 10 s0 i0 z0 (fun n0 j0 => ?_)
      refine dtN 11 s0 j0 z0 (fun n0 i0 => ?_)
      refine dtF 12 10 s0 i0 z0 Tryd.underlying61 sz42 (fun n0 j0 => ?_)
      refine dtC 13 9 s0 j0 z0 Tryd.underlying42 (fun n0 i0 => ?_)
      refine dt 14 rfl s0 i0 (want_n rfl) (fun x hx => m_index (i := 0) (j := 0 * 1) (sy i0) i0 rfl rfl rfl rfl Tryd.underlying42 sz22 (by omega) (by omega) (ss_elem (t := rq) (k := 0) (sdat (t0 3 _ rfl) hx.ag).2 (by omega)).some_ rfl (by decide) gt) z0 (fun n0 j0 => ?_)
      refine dt 15 rfl s0 j0 (want_n rfl) (fun x hx => m_loadE (sy j0) j0 rfl rfl rfl 0 (0 * 1) (ss_elem (t := rq) (k := 0) (sdat (t0 3 _ rfl) hx.ag).2 (by omega)) rfl rfl Tryd.underlying22 rfl (by decide) gt) z0 (fun n0 i0 => ?_)
      have n0 := p0.data (dRow 4 ((nthS rq 0).1) ((nthS rq 0).2.2.length) ((nthS rq 0).2.1) (encNs ((nthS rq 0).2.2))) (all_at (t := rq) (k := 0) (p0.get (i := 4) rfl) (by omega))
      refine dtM 17 s0 i0 z0 (fun p0 j0 => ?_)
      refine dtN 18 s0 j0 z0 (fun p0 i0 => ?_)
      refine dtF 19 10 s0 i0 z0 Tryd.underlying61 sz42 (fun p0 j0 => ?_)
      refine dtC 20 9 s0 j0 z0 Tryd.underlying42 (fun p0 i0 => ?_)
      refine dt 21 rfl s0 i0 (want_n rfl) (fun x hx => m_index (i := 0) (j := 0 * 1) (sy i0) i0 rfl rfl rfl rfl Tryd.underlying42 sz22 (by omega) (by omega) (ss_elem (t := rq) (k := 0) (sdat (t0 3 _ rfl) hx.ag).2 (by omega)).some_ rfl (by decide) gt) z0 (fun p0 j0 => ?_)
      refine dt 22 rfl s0 j0 (want_n rfl) (fun x hx => m_loadE (sy j0) j0 rfl rfl rfl 0 (0 * 1) (ss_elem (t := rq) (k := 0) (sdat (t0 3 _ rfl) hx.ag).2 (by omega)) rfl rfl Tryd.underlying22 rfl (by decide) gt) z0 (fun p0 i0 => ?_)
      have p0 := n0.data (dRow 4 ((nthS rq 0).1) ((nthS rq 0).2.2.length) ((nthS rq 0).2.1) (encNs ((nthS rq 0).2.2))) (all_at (t := rq) (k := 0) (n0.get (i := 4) rfl) (by omega))
      refine d1 16 ?_
      have n0 := p0.nf
      refine k_call (xs := [.tmp 79, .tmp 85]) (st_op rfl (want_n rfl)) i0 rfl rfl rfl (by decide) ok62 (uagain_calls _ _ n0.il _ _ rn rx _ _ _ _ _ _ _ _ ((nthS rq 0).2.2) (n0.z 0) (imm_box (i := 0) rfl) (n0.g 1) (n0.g 2) (n0.g 3) (n0.g 4) (n0.g 8) (hp4 := hp4) (hq4 := hq4) (hps := hps) (hqs := hqs) (h0p := (by omega)) (hsn := hsn) (hst := (hqm 0 (by omega)).1) (hlt := (hqm 0 (by omega)).2)) ?_
      rintro i0 p0 ⟨j0, z0, t0, rfl, c0, b1, c1, f1⟩
      have p0 := n0.callM (i := 0) rfl c0 b1
      have b1 := n0.dM 0 p0 c1
      refine ⟨_, rfl, fun p0 c1 => ?_⟩
      obtain ⟨hgl, hgs⟩ := again_sz (t := (nthS rq 0).2.2) f1 hps (by assumption) (hqm 0 (by omega)).1 (hqm 0 (by omega)).2 hp4
      have p0 := sWI b1 6 (pB 0 1 pn)
      refine ⟨p0, ?_⟩
      refine d1 23 ?_
      have p0 := b1.data (dAll [((j0, z0, t0) : Sl), (((nthS rq 0).1, (nthS rq 0).2.1, (nthS rq 0).2.2) : Sl)]) (all_cons (b1.get (i := 10) rfl) (all_cons (b1.get (i := 9) rfl) all_nil))
      refine mbs [(0, .tmp 86), (1, .tmp 92)] [.slice j0 t0.length z0, .slice ((nthS rq 0).1) ((nthS rq 0).2.2.length) ((nthS rq 0).2.1)] (st_opV rfl (want_n rfl)) c1 p0 Tryd.underlying42 zi22 (fun b1 n0 c0 i0 h1 => ?_)
      have n0 := sWI h1 6 (pB 0 1 pn)
      refine ⟨n0, ?_⟩
      refine d1 24 ?_
      have n0 := h1.nf
      have h1 := own_cap (n0.res (i := 2) rfl)
      obtain ⟨b1, p0⟩ := n0.row_dataM (i := 2) rfl (j := 0) rfl (by decide)
      have n0 := b1.data (dRow 1 (some ⟨c0, 0, none⟩) 2 2 (encSs ([((j0, z0, t0) : Sl), (((nthS rq 0).1, (nthS rq 0).2.1, (nthS rq 0).2.2) : Sl)]))) ⟨h1, p0⟩
      refine k_call (xs := [.tmp 72, .tmp 78, .tmp 93]) (st_op rfl (want_n rfl)) i0 rfl rfl rfl (by decide) ok61 (minst_calls _ _ n0.il _ _ _ _ _ _ ((nthS rp 2).2.2) _ _ ([((j0, z0, t0) : Sl), (((nthS rq 0).1, (nthS rq 0).2.1, (nthS rq 0).2.2) : Sl)]) (n0.g 0) (n0.z 0) (imm_box (i := 0) rfl) (n0.g 7) (n0.g 12) (n0.g 11) (hsm := (by first | exact (hqm 1 (by omega)).1 | exact (hpm 2 (by omega)).1 | exact (hpm 1 (by omega)).1)) (hl := (by first | exact Nat.le_trans (hqm 1 (by omega)).2 (by decide) | exact Nat.le_trans (hpm 2 (by omega)).2 (by decide) | exact Nat.le_trans (hpm 1 (by omega)).2 (by decide))) (hls := (by intro x hx; simp only [lsts, List.map_cons, List.map_nil, List.mem_cons, List.not_mem_nil, or_false] at hx; first | (rw [hx]; first | exact (hpm 1 (by omega)).1 | exact (hqm 1 (by omega)).1) | (rcases hx with hx | hx <;> rw [hx] <;> first | assumption | exact (hqm 0 (by omega)).1))) (hlb := (by intro x hx; simp only [lsts, List.map_cons, List.map_nil, List.mem_cons, List.not_mem_nil, or_false] at hx; first | (rw [hx]; first | exact Nat.le_trans (hpm 1 (by omega)).2 (by decide) | exact Nat.le_trans (hqm 1 (by omega)).2 (by decide)) | (rcases hx with hx | hx <;> rw [hx] <;> first | omega | exact Nat.le_trans (hqm 0 (by omega)).2 (by decide)))) (hl0 := (by simp))) ?_
      rintro i0 p0 ⟨b1, h1, c0, rfl, c1, i1, j1, k1⟩
      have p0 := n0.callM (i := 0) rfl c1 i1
      have i1 := n0.dM 0 p0 j1
      refine ⟨_, rfl, fun p0 j1 => ?_⟩
      have p0 := sWI i1 6 (pB 0 1 pn)
      refine ⟨p0, ?_⟩
      refine dtA 25 s0 j1 p0 (fun n0 c1 => ?_)
      refine wpAnyH_done (by kernel_rfl) (x0 _ _ ?_) _
      refine x_then_n (v0 _ _ ?_)
      refine wp_ret ?_
      refine x_block_r ?_
      refine x_then_r ?_
      refine e_ret1 c1 rfl rfl rfl ?_
      refine ⟨b1, h1, c0, ?_, i1.fr, (by rw [show ((urR rn rx (lsts rp) (lsts rq)).2 : Int) = ((inQ ((re)) ((nthS rp 2).2.2) (lsts ([((j0, z0, t0) : Sl), (((nthS rq 0).1, (nthS rq 0).2.1, (nthS rq 0).2.2) : Sl)])))) by (unfold urR urX; simp [he, u0, q0, nand_of h0, nand_of y0, nand_of o0, nand_of f0, lsts_nth, lsts_len, lsts_cons1, lsts_nil1, f1, k1])]; exact i1.res (i := 0) rfl), i1.rx 13, (by unfold urR urX; simp [he, u0, q0, nand_of h0, nand_of y0, nand_of o0, nand_of f0, lsts_nth, lsts_len, lsts_cons1, lsts_nil1, f1, k1])⟩
      exact congrArg Ending.returned (ret_s (by first | rfl | (simp; done)))
     ·
      have i1 := k0
      try simp only [Bool.or_eq_true, Bool.and_eq_true, Bool.not_eq_true', Bool.not_eq_false', decide_eq_true_eq, decide_eq_false_iff_not, Bool.or_eq_false_iff, Bool.and_eq_false_iff] at i1
      have i1 := m0.setb (d := 66) (b := false) rfl k0
      refine wp_cond_false (i1.ev rfl) ?_
      refine wsc (fun m0 k1 => ?_)
      refine m_loadN (i := 1) (vs := [.int .i64 (rn.K), .int .i64 (rx.K)]) sv i1 d0 rfl rfl rfl rfl rfl Tryd.underlying93 rfl sz93 (by decide) (fun m0 c0 => ?_)
      refine m_build (ps := [(0, .const (.int .i64 24)), (1, .const (.int .i64 23))]) (v := .agg #[.int .i64 24, .int .i64 23]) sv c0 rfl rfl rfl (fun _ => by kernel_rfl) (by decide) (fun m0 i1 => ?_)
      refine r_eqlP sv i1 rfl rfl rfl rfl (by decide) (fun m0 c0 => ?_)
      refine asg c0 (fun m0 i1 => ?_)
      refine wpList_nil (x_then_n (k1 _ _ ?_))
      rcases Bool.eq_false_or_eq_true (decide ((rn.K) = 24) && decide ((rx.K) = 23)) with k1 | k1
      ·
       have m0 := and_tl k1
       have c0 := of_decide_eq_true m0
       have hmkrn24 := many_24 c0
       have m0 := and_tr k1
       have h1 := of_decide_eq_true m0
       have hmkrx23 := many_23 h1
       have m0 := i1.setb (d := 95) (b := true) rfl k1
       refine wp_cond_true (m0.ev rfl) ?_
       refine wp_seq_k (fun b1 f1 => ?_)
       obtain ⟨b1, t0, z0⟩ := d0.agree
       refine d_reg3 (n := 18) z0 6 (pB 0 1 pn) (pan_then (pan_block (pan_then pan_body))) (fun b1 j0 q0 u0 c1 v0 => ?_)
       refine dtM 0 j0 m0 v0 (fun u0 b1 => ?_)
       refine dtN 1 j0 b1 v0 (fun u0 m0 => ?_)
       refine dtF 2 0 j0 m0 v0 Tryd.underlying61 sz59 (fun u0 b1 => ?_)
       refine dtM 3 j0 b1 v0 (fun u0 m0 => ?_)
       refine dtN 4 j0 m0 v0 (fun u0 b1 => ?_)
       refine dtF 5 9 j0 b1 v0 Tryd.underlying61 sz42 (fun u0 m0 => ?_)
       refine dtC 6 8 j0 m0 v0 Tryd.underlying42 (fun u0 b1 => ?_)
       refine dt 7 rfl j0 b1 (want_n rfl) (fun x hx => m_index (i := 1) (j := 1 * 1) (sy b1) b1 rfl rfl rfl rfl Tryd.underlying42 sz22 (by omega) (by omega) (ss_elem (t := rp) (k := 1) (sdat (t0 1 _ rfl) hx.ag).2 (by omega)).some_ rfl (by decide) gt) v0 (fun u0 m0 => ?_)
       refine dt 8 rfl j0 m0 (want_n rfl) (fun x hx => m_loadE (sy m0) m0 rfl rfl rfl 0 (1 * 1) (ss_elem (t := rp) (k := 1) (sdat (t0 1 _ rfl) hx.ag).2 (by omega)) rfl rfl Tryd.underlying22 rfl (by decide) gt) v0 (fun u0 b1 => ?_)
       have u0 := c1.data (dRow 4 ((nthS rp 1).1) ((nthS rp 1).2.2.length) ((nthS rp 1).2.1) (encNs ((nthS rp 1).2.2))) (all_at (t := rp) (k := 1) (c1.get (i := 2) rfl) (by omega))
       refine dtM 9 j0 b1 v0 (fun c1 m0 => ?_)
       refine dtN 10 j0 m0 v0 (fun c1 b1 => ?_)
       refine dtF 11 10 j0 b1 v0 Tryd.underlying61 sz42 (fun c1 m0 => ?_)
       refine dtC 12 9 j0 m0 v0 Tryd.underlying42 (fun c1 b1 => ?_)
       refine dt 13 rfl j0 b1 (want_n rfl) (fun x hx => m_index (i := 1) (j := 1 * 1) (sy b1) b1 rfl rfl rfl rfl Tryd.underlying42 sz22 (by omega) (by omega) (ss_elem (t := rq) (k := 1) (sdat (t0 3 _ rfl) hx.ag).2 (by omega)).some_ rfl (by decide) gt) v0 (fun c1 m0 => ?_)
       refine dt 14 rfl j0 m0 (want_n rfl) (fun x hx => m_loadE (sy m0) m0 rfl rfl rfl 0 (1 * 1) (ss_elem (t := rq) (k := 1) (sdat (t0 3 _ rfl) hx.ag).2 (by omega)) rfl rfl Tryd.underlying22 rfl (by decide) gt) v0 (fun c1 b1 => ?_)
       have c1 := u0.data (dRow 4 ((nthS rq 1).1) ((nthS rq 1).2.2.length) ((nthS rq 1).2.1) (encNs ((nthS rq 1).2.2))) (all_at (t := rq) (k := 1) (u0.get (i := 4) rfl) (by omega))
       refine d1 15 ?_
       have u0 := c1.data (dAll [(((nthS rq 1).1, (nthS rq 1).2.1, (nthS rq 1).2.2) : Sl)]) (all_cons (c1.get (i := 8) rfl) all_nil)
       refine mbs [(0, .tmp 113)] [.slice ((nthS rq 1).1) ((nthS rq 1).2.2.length) ((nthS rq 1).2.1)] (st_opV rfl (want_n rfl)) b1 u0 Tryd.underlying42 zi22 (fun c1 m0 v0 t0 z0 => ?_)
       have m0 := sWI z0 6 (pB 0 1 pn)
       refine ⟨m0, ?_⟩
       refine d1 16 ?_
       have m0 := z0.nf
       have z0 := own_cap (m0.res (i := 2) rfl)
       obtain ⟨c1, u0⟩ := m0.row_dataM (i := 2) rfl (j := 0) rfl (by decide)
       have m0 := c1.data (dRow 1 (some ⟨v0, 0, none⟩) 1 1 (encSs ([(((nthS rq 1).1, (nthS rq 1).2.1, (nthS rq 1).2.2) : Sl)]))) ⟨z0, u0⟩
       refine k_call (xs := [.tmp 101, .tmp 107, .tmp 114]) (st_op rfl (want_n rfl)) t0 rfl rfl rfl (by decide) ok61 (minst_calls _ _ m0.il _ _ _ _ _ _ ((nthS rp 1).2.2) _ _ ([(((nthS rq 1).1, (nthS rq 1).2.1, (nthS rq 1).2.2) : Sl)]) (m0.g 0) (m0.z 0) (imm_box (i := 0) rfl) (m0.g 7) (m0.g 10) (m0.g 9) (hsm := (by first | exact (hqm 1 (by omega)).1 | exact (hpm 2 (by omega)).1 | exact (hpm 1 (by omega)).1)) (hl := (by first | exact Nat.le_trans (hqm 1 (by omega)).2 (by decide) | exact Nat.le_trans (hpm 2 (by omega)).2 (by decide) | exact Nat.le_trans (hpm 1 (by omega)).2 (by decide))) (hls := (by intro x hx; simp only [lsts, List.map_cons, List.map_nil, List.mem_cons, List.not_mem_nil, or_false] at hx; first | (rw [hx]; first | exact (hpm 1 (by omega)).1 | exact (hqm 1 (by omega)).1) | (rcases hx with hx | hx <;> rw [hx] <;> first | assumption | exact (hqm 0 (by omega)).1))) (hlb := (by intro x hx; simp only [lsts, List.map_cons, List.map_nil, List.mem_cons, List.not_mem_nil, or_false] at hx; first | (rw [hx]; first | exact Nat.le_trans (hpm 1 (by omega)).2 (by decide) | exact Nat.le_trans (hqm 1 (by omega)).2 (by decide)) | (rcases hx with hx | hx <;> rw [hx] <;> first | omega | exact Nat.le_trans (hqm 0 (by omega)).2 (by decide)))) (hl0 := (by simp))) ?_
       rintro t0 u0 ⟨c1, z0, v0, rfl, b1, x0, n0, p0⟩
       have u0 := m0.callM (i := 0) rfl b1 x0
       have x0 := m0.dM 0 u0 n0
       refine ⟨_, rfl, fun u0 n0 => ?_⟩
       have u0 := sWI x0 6 (pB 0 1 pn)
       refine ⟨u0, ?_⟩
       refine dtA 17 j0 n0 u0 (fun m0 b1 => ?_)
       refine wpAnyH_done (by kernel_rfl) (q0 _ _ ?_) _
       refine x_then_n (f1 _ _ ?_)
       refine wp_ret ?_
       refine x_block_r ?_
       refine x_then_r ?_
       refine e_ret1 b1 rfl rfl rfl ?_
       refine ⟨c1, z0, v0, ?_, x0.fr, (by rw [show ((urR rn rx (lsts rp) (lsts rq)).2 : Int) = ((inQ (re) ((nthS rp 1).2.2) (lsts ([(((nthS rq 1).1, (nthS rq 1).2.1, (nthS rq 1).2.2) : Sl)])))) by (unfold urR urX; simp [he, c0, h1, nand_of h0, nand_of y0, nand_of o0, nand_of f0, nand_of k0, lsts_nth, lsts_len, lsts_cons1, lsts_nil1, p0])]; exact x0.res (i := 0) rfl), x0.rx 11, (by unfold urR urX; simp [he, c0, h1, nand_of h0, nand_of y0, nand_of o0, nand_of f0, nand_of k0, lsts_nth, lsts_len, lsts_cons1, lsts_nil1, p0])⟩
       exact congrArg Ending.returned (ret_s (by first | rfl | (simp; done)))
      ·
       have x0 := k1
       try simp only [Bool.or_eq_true, Bool.and_eq_true, Bool.not_eq_true', Bool.not_eq_false', decide_eq_true_eq, decide_eq_false_iff_not, Bool.or_eq_false_iff, Bool.and_eq_false_iff] at x0
       have x0 := i1.setb (d := 95) (b := false) rfl k1
       refine wp_cond_false (x0.ev rfl) ?_
       refine wsc (fun i1 p0 => ?_)
       refine m_loadN (i := 1) (vs := [.int .i64 (rn.K), .int .i64 (rx.K)]) sv x0 d0 rfl rfl rfl rfl rfl Tryd.underlying93 rfl sz93 (by decide) (fun i1 v0 => ?_)
       refine m_build (ps := [(0, .const (.int .i64 27)), (1, .const (.int .i64 26))]) (v := .agg #[.int .i64 27, .int .i64 26]) sv v0 rfl rfl rfl (fun _ => by kernel_rfl) (by decide) (fun i1 x0 => ?_)
       refine r_eqlP sv x0 rfl rfl rfl rfl (by decide) (fun i1 v0 => ?_)
       refine asg v0 (fun i1 x0 => ?_)
       refine wpList_nil (x_then_n (p0 _ _ ?_))
       have p0 : (decide ((rn.K) = 27) && decide ((rx.K) = 26)) = false := by simp [h27]
       have i1 := p0
       try simp only [Bool.or_eq_true, Bool.and_eq_true, Bool.not_eq_true', Bool.not_eq_false', decide_eq_true_eq, decide_eq_false_iff_not, Bool.or_eq_false_iff, Bool.and_eq_false_iff] at i1
       have i1 := x0.setb (d := 116) (b := false) rfl p0
       refine wp_cond_false (i1.ev rfl) ?_
       refine wp_skip ?_
       refine x_block_n ?_
       refine x_then_n (b0 _ _ ?_)
       refine wsc (fun b0 x0 => ?_)
       refine mv i1 (fun b0 v0 => ?_)
       refine r_nilCheck sv v0 rfl rfl rfl (by decide) (fun b0 i1 => ?_)
       refine m_field (j' := 0) sv i1 rfl rfl rfl Tryd.underlying61 rfl sz59 rfl rfl (by decide) (fun b0 v0 => ?_)
       have b0 := d0.nf
       refine k_call (xs := [.tmp 124]) se v0 rfl rfl rfl (by decide) ok64 (stuck_calls _ _ b0.il _ _ _ _ (b0.z 0) (imm_box (i := 0) rfl)) ?_
       rintro v0 d0 ⟨i1, z0, rfl, c1, h1, c0⟩
       have d0 := b0.callM (i := 0) rfl c1 h1
       have h1 := b0.dM 0 d0 c0
       refine ⟨_, rfl, fun d0 c0 => ?_⟩
       refine asg c0 (fun d0 b0 => ?_)
       refine wpList_nil (x_then_n (x0 _ _ ?_))
       refine wp_ret ?_
       refine e_ret1 b0 rfl rfl rfl ?_
       refine ⟨i1, z0, ([] : List Nd), ?_, h1.fr, (by rw [show ((urR rn rx (lsts rp) (lsts rq)).2 : Int) = ((if (re) = 0 then 120 else (re))) by (unfold urR urX; simp [he, nand_of h0, nand_of y0, nand_of o0, nand_of f0, nand_of k0, nand_of k1, nand_of p0, lsts_nth, lsts_len, lsts_cons1, lsts_nil1])]; exact h1.res (i := 0) rfl), h1.rx 6, (by unfold urR urX; simp [he, nand_of h0, nand_of y0, nand_of o0, nand_of f0, nand_of k0, nand_of k1, nand_of p0, lsts_nth, lsts_len, lsts_cons1, lsts_nil1])⟩
       exact congrArg Ending.returned (ret_s (by first | rfl | (simp; done)))
end Go.Proofs.YtcfponnkfhkbdaaDoor
/- Contracts of functions, one theorem each: what the call returns, and that nothing old is changed. Printed by gen.py. -/
namespace Go.Proofs.YtcfponnkfhkbdaaDoor
open Go Go.RowKit
set_option linter.unusedSimpArgs false
set_option linter.unusedVariables false
set_option maxRecDepth 100000 in
set_option maxHeartbeats 1000000 in
theorem urule0_calls (w0 : World) (Z : Nat → Prop) (hZ : ∀ k, Z k → k < w0.heap.size) (tA : Option Addr) (tc : Nat) (t : List Nd) (hShp : Shapes w0 Z) (ht : (dRow 4 tA t.length tc (encNs t)).φ w0 Z) (hsm : sml t := by first | assumption | omega | (simp; done) | (simp; omega)) (hl : t.length ≤ 5000 := by first | assumption | omega | (simp; done) | (simp; omega)) (h27 : ¬ (nth t (t.length - 1)).K = 27 := by first | assumption | omega | (simp; done) | (simp; omega)) :
    Calls Tryd.prog 13 [.slice tA t.length tc, .slice none 0 0].toArray w0 (fun e w' => ∃ (rA0 : Option Addr) (rc0 : Nat), e = .returned (.tuple #[.slice rA0 (urA t).length rc0, .int .i64 (urE t)]) ∧ Fr none_ w0 w' ∧ (dRow 4 rA0 ((urA t).length) rc0 (encNs (urA t))).φ w' (nxt Z w0 w')) := by
 have b0 := s0 (M := none_) hZ (zc (d := dShapes) hShp (zc ht zn))
 refine c_enter Tryd.func13 rfl Tryd.ntmps13 rfl (fun c0 d0 => ?_)
 refine wsc (fun c0 f0 => ?_)
 refine asg d0 (fun c0 h0 => ?_)
 refine asg h0 (fun c0 d0 => ?_)
 refine wpList_nil (x_then_n (f0 _ _ ?_))
 refine wsc (fun f0 c0 => ?_)
 refine mv d0 (fun f0 h0 => ?_)
 have f0 := b0.nf
 refine k_call (xs := [.tmp 11]) se h0 rfl rfl rfl (by decide) ok33 (args_calls _ _ f0.il _ _ _ (f0.g 0) (f0.g 1)) ?_
 rintro h0 b0 ⟨d0, i0, j0, rfl, k0, m0, n0, o0⟩
 have b0 := f0.below k0.below
 have k0 := f0.dN b0 m0
 have b0 := f0.dN k0 n0
 refine ⟨_, rfl, fun k0 n0 => ?_⟩
 refine mv n0 (fun k0 f0 => ?_)
 refine r_extract sv f0 rfl rfl rfl rfl (by decide) (fun k0 n0 => ?_)
 refine r_extract sv n0 rfl rfl rfl rfl (by decide) (fun k0 f0 => ?_)
 refine asg f0 (fun k0 n0 => ?_)
 refine asg n0 (fun k0 f0 => ?_)
 refine wpList_nil (x_then_n (c0 _ _ ?_))
 refine wp_seq_k (fun c0 k0 => ?_)
 refine wsc (fun c0 n0 => ?_)
 refine mv f0 (fun c0 m0 => ?_)
 refine r_neq sv m0 rfl rfl rfl rfl (by decide) (fun c0 f0 => ?_)
 refine wpList_nil (x_then_n (n0 _ _ ?_))
 rcases Decidable.em (((chk t)) = 0) with n0 | n0
 ·
  have hct := n0
  have hpt := chk_pos hct
  have hrt := right_at (meas_chk hct) (show t.length - 1 < t.length by omega)
  have hM9 := right_M hrt
  have hsn := hsm (t.length - 1) (by omega)
  have c0 := f0.setb (d := 16) (b := false) rfl (by rw [(decide_eq_true n0)]; rfl)
  refine wp_cond_false (c0.ev rfl) ?_
  refine wp_skip ?_
  refine x_then_n (k0 _ _ ?_)
  refine wsc (fun k0 m0 => ?_)
  refine mv c0 (fun k0 h0 => ?_)
  have k0 := b0.nf
  refine k_call (xs := [.tmp 18]) se h0 rfl rfl rfl (by decide) ok34 (uroot_calls _ _ k0.il _ _ _ (k0.g 1)) ?_
  rintro h0 c0 ⟨rfl, p0⟩
  have c0 := k0.below p0.below
  refine ⟨_, rfl, fun p0 k0 => ?_⟩
  refine mv k0 (fun p0 h0 => ?_)
  refine mv h0 (fun p0 k0 => ?_)
  refine m_build (ps := [(1, .tmp 19), (3, .tmp 20), (5, .tmp 21)]) (v := .agg #[.int .i64 0, .int .i64 (((nth t (t.length - 1)).K)), .int .i64 (((nth t (t.length - 1)).N)), .int .i64 (((nth t (t.length - 1)).M)), .string ((nth t (t.length - 1)).S), .int .i64 0, .int .i64 0, .int .i64 0, .string (⟨#[]⟩ : ByteArray), .slice d0 j0.length i0, .slice none 0 0, .slice none 0 0]) sv k0 rfl rfl rfl (fun _ => by kernel_rfl) (by decide) (fun p0 h0 => ?_)
  refine m_box (cs := [.int .i64 0, .int .i64 (((nth t (t.length - 1)).K)), .int .i64 (((nth t (t.length - 1)).N)), .int .i64 (((nth t (t.length - 1)).M)), .string ((nth t (t.length - 1)).S), .int .i64 0, .int .i64 0, .int .i64 0, .string (⟨#[]⟩ : ByteArray), .slice d0 j0.length i0, .slice none 0 0, .slice none 0 0]) sv h0 c0 rfl rfl rfl rfl (by decide) (fun p0 k0 q0 t0 u0 => ?_)
  refine asg t0 (fun q0 k0 => ?_)
  refine wpList_nil (x_then_n (m0 _ _ ?_))
  refine wsc (fun m0 q0 => ?_)
  refine mv k0 (fun m0 t0 => ?_)
  refine r_nilCheck sv t0 rfl rfl rfl (by decide) (fun m0 k0 => ?_)
  refine m_field (j' := 1) sv k0 rfl rfl rfl Tryd.underlying61 rfl sz39 rfl rfl (by decide) (fun m0 t0 => ?_)
  refine m_loadN (i := 0) (vs := [.int .i64 (((nth t (t.length - 1)).K)), .int .i64 (((nth t (t.length - 1)).N)), .int .i64 (((nth t (t.length - 1)).M)), .string ((nth t (t.length - 1)).S)]) sv t0 u0 rfl rfl rfl rfl rfl Tryd.underlying39 rfl sz39 (by decide) (fun m0 k0 => ?_)
  have m0 := u0.nf
  refine k_call (xs := [.tmp 27]) se k0 rfl rfl rfl (by decide) ok35 (utarget_calls _ _ m0.il (nth t (t.length - 1))) ?_
  rintro k0 u0 ⟨rfl, t0⟩
  have u0 := m0.below t0.below
  refine ⟨_, rfl, fun t0 m0 => ?_⟩
  refine asg m0 (fun t0 k0 => ?_)
  refine wpList_nil (x_then_n (q0 _ _ ?_))
  refine wp_seq_k (fun q0 t0 => ?_)
  refine wsc (fun q0 m0 => ?_)
  refine mv k0 (fun q0 p0 => ?_)
  refine r_lss sv p0 rfl rfl rfl rfl (by decide) (fun q0 k0 => ?_)
  refine wpList_nil (x_then_n (m0 _ _ ?_))
  rcases Decidable.em (((tgK (nth t (t.length - 1)))) < 0) with m0 | m0
  ·
   have q0 := k0.setb (d := 30) (b := true) rfl (decide_eq_true m0)
   refine wp_cond_true (q0.ev rfl) ?_
   refine wsc (fun p0 h0 => ?_)
   refine asg q0 (fun p0 c0 => ?_)
   refine asg c0 (fun p0 q0 => ?_)
   refine wpList_nil (x_then_n (h0 _ _ ?_))
   refine wp_ret ?_
   refine x_then_r ?_
   refine e_ret2 q0 rfl rfl rfl rfl ?_
   have q0 : urA t = [] := (ur_neg hct m0).2
   rw [q0]
   refine ⟨none, 0, ?_, u0.fr, ⟨Nat.le_refl _, RowI.nil _ _ _ _⟩⟩
   exact ret_t2 rfl (ret_i (by exact (ur_neg hct m0).1.symm))
  ·
   have htn := m0
   have htm := tg_many hct htn
   have hcz := tg_ok hct htn
   obtain ⟨hpl, hp8⟩ := ag_len hct o0
   have hps := ag_all hct o0 hsm
   obtain ⟨hzl, hsz, hcz'⟩ := ag_nth hct o0 hsm htm
   have hpz := chk_pos hcz'
   have hz : (nthS j0 (tgK (nth t (t.length - 1))).toNat).2.2 = tgL t := by rw [lsts_nth, o0]; rfl
   have q0 := k0.setb (d := 30) (b := false) rfl (decide_eq_false m0)
   refine wp_cond_false (q0.ev rfl) ?_
   refine wp_skip ?_
   refine x_then_n (t0 _ _ ?_)
   refine wsc (fun t0 m0 => ?_)
   refine mv q0 (fun t0 k0 => ?_)
   refine mv k0 (fun t0 q0 => ?_)
   refine mv q0 (fun t0 k0 => ?_)
   refine m_index (i := (((tgK (nth t (t.length - 1))))).toNat) (j := ((((tgK (nth t (t.length - 1))))).toNat) * 1) sv k0 rfl rfl rfl rfl Tryd.underlying42 sz22 (by omega) (by omega) (ss_elem (t := j0) (k := (((tgK (nth t (t.length - 1))))).toNat) (u0.row (i := 2) rfl).2 (by omega)).some_ rfl (by decide) (fun t0 q0 => ?_)
   refine m_loadE sv q0 rfl rfl rfl 0 (((((tgK (nth t (t.length - 1))))).toNat) * 1) (ss_elem (t := j0) (k := (((tgK (nth t (t.length - 1))))).toNat) (u0.row (i := 2) rfl).2 (by omega)) rfl rfl Tryd.underlying22 rfl (by decide) (fun t0 k0 => ?_)
   have t0 := u0.data (dRow 4 ((nthS j0 ((((tgK (nth t (t.length - 1))))).toNat)).1) ((nthS j0 ((((tgK (nth t (t.length - 1))))).toNat)).2.2.length) ((nthS j0 ((((tgK (nth t (t.length - 1))))).toNat)).2.1) (encNs ((nthS j0 ((((tgK (nth t (t.length - 1))))).toNat)).2.2))) (all_at (t := j0) (k := (((tgK (nth t (t.length - 1))))).toNat) (u0.get (i := 3) rfl) (by omega))
   have u0 := t0.nf
   refine k_call (xs := [.tmp 35]) se k0 rfl rfl rfl (by decide) ok34 (uroot_calls _ _ u0.il _ _ ((nthS j0 ((((tgK (nth t (t.length - 1))))).toNat)).2.2) (u0.g 4)) ?_
   rintro k0 t0 ⟨rfl, q0⟩
   have t0 := u0.below q0.below
   refine ⟨_, rfl, fun q0 u0 => ?_⟩
   refine r_nilCheck sv u0 rfl rfl rfl (by decide) (fun q0 k0 => ?_)
   refine m_field (j' := 5) sv k0 rfl rfl rfl Tryd.underlying61 rfl sz39 rfl rfl (by decide) (fun q0 u0 => ?_)
   refine m_store (i := 0) (cs' := [.int .i64 0, .int .i64 (((nth t (t.length - 1)).K)), .int .i64 (((nth t (t.length - 1)).N)), .int .i64 (((nth t (t.length - 1)).M)), .string ((nth t (t.length - 1)).S), .int .i64 (((nth ((nthS j0 ((((tgK (nth t (t.length - 1))))).toNat)).2.2) (((nthS j0 ((((tgK (nth t (t.length - 1))))).toNat)).2.2).length - 1)).K)), .int .i64 (((nth ((nthS j0 ((((tgK (nth t (t.length - 1))))).toNat)).2.2) (((nthS j0 ((((tgK (nth t (t.length - 1))))).toNat)).2.2).length - 1)).N)), .int .i64 (((nth ((nthS j0 ((((tgK (nth t (t.length - 1))))).toNat)).2.2) (((nthS j0 ((((tgK (nth t (t.length - 1))))).toNat)).2.2).length - 1)).M)), .string ((nth ((nthS j0 ((((tgK (nth t (t.length - 1))))).toNat)).2.2) (((nthS j0 ((((tgK (nth t (t.length - 1))))).toNat)).2.2).length - 1)).S), .slice d0 j0.length i0, .slice none 0 0, .slice none 0 0]) se u0 t0 rfl rfl rfl rfl rfl sz39 rfl rfl rfl (fun q0 k0 h0 p0 => ?_)
   refine wpList_nil (x_then_n (m0 _ _ ?_))
   refine wsc (fun m0 k0 => ?_)
   refine mv h0 (fun m0 q0 => ?_)
   refine mv q0 (fun m0 h0 => ?_)
   refine mv h0 (fun m0 q0 => ?_)
   refine m_index (i := (((tgK (nth t (t.length - 1))))).toNat) (j := ((((tgK (nth t (t.length - 1))))).toNat) * 1) sv q0 rfl rfl rfl rfl Tryd.underlying42 sz22 (by omega) (by omega) (ss_elem (t := j0) (k := (((tgK (nth t (t.length - 1))))).toNat) (p0.row (i := 2) rfl).2 (by omega)).some_ rfl (by decide) (fun m0 h0 => ?_)
   refine m_loadE sv h0 rfl rfl rfl 0 (((((tgK (nth t (t.length - 1))))).toNat) * 1) (ss_elem (t := j0) (k := (((tgK (nth t (t.length - 1))))).toNat) (p0.row (i := 2) rfl).2 (by omega)) rfl rfl Tryd.underlying22 rfl (by decide) (fun m0 q0 => ?_)
   have m0 := p0.data (dRow 4 ((nthS j0 ((((tgK (nth t (t.length - 1))))).toNat)).1) ((nthS j0 ((((tgK (nth t (t.length - 1))))).toNat)).2.2.length) ((nthS j0 ((((tgK (nth t (t.length - 1))))).toNat)).2.1) (encNs ((nthS j0 ((((tgK (nth t (t.length - 1))))).toNat)).2.2))) (all_at (t := j0) (k := (((tgK (nth t (t.length - 1))))).toNat) (p0.get (i := 3) rfl) (by omega))
   have p0 := m0.nf
   refine k_call (xs := [.tmp 44]) se q0 rfl rfl rfl (by decide) ok33 (args_calls _ _ p0.il _ _ ((nthS j0 ((((tgK (nth t (t.length - 1))))).toNat)).2.2) (p0.g 0) (p0.g 5)) ?_
   rintro q0 m0 ⟨h0, u0, t0, rfl, c0, v0, x0, y0⟩
   have m0 := p0.below c0.below
   have c0 := p0.dN m0 v0
   have m0 := p0.dN c0 x0
   refine ⟨_, rfl, fun c0 x0 => ?_⟩
   obtain ⟨hql, c0⟩ := ag_len hcz' y0
   have hqs := ag_all hcz' y0 hsz
   refine mv x0 (fun c0 p0 => ?_)
   refine r_extract sv p0 rfl rfl rfl rfl (by decide) (fun c0 x0 => ?_)
   refine r_extract sv x0 rfl rfl rfl rfl (by decide) (fun c0 p0 => ?_)
   refine r_nilCheck sv p0 rfl rfl rfl (by decide) (fun c0 x0 => ?_)
   refine m_field (j' := 10) sv x0 rfl rfl rfl Tryd.underlying61 rfl sz42 rfl rfl (by decide) (fun c0 p0 => ?_)
   refine m_store (i := 0) (cs' := [.int .i64 0, .int .i64 (((nth t (t.length - 1)).K)), .int .i64 (((nth t (t.length - 1)).N)), .int .i64 (((nth t (t.length - 1)).M)), .string ((nth t (t.length - 1)).S), .int .i64 (((nth ((nthS j0 ((((tgK (nth t (t.length - 1))))).toNat)).2.2) (((nthS j0 ((((tgK (nth t (t.length - 1))))).toNat)).2.2).length - 1)).K)), .int .i64 (((nth ((nthS j0 ((((tgK (nth t (t.length - 1))))).toNat)).2.2) (((nthS j0 ((((tgK (nth t (t.length - 1))))).toNat)).2.2).length - 1)).N)), .int .i64 (((nth ((nthS j0 ((((tgK (nth t (t.length - 1))))).toNat)).2.2) (((nthS j0 ((((tgK (nth t (t.length - 1))))).toNat)).2.2).length - 1)).M)), .string ((nth ((nthS j0 ((((tgK (nth t (t.length - 1))))).toNat)).2.2) (((nthS j0 ((((tgK (nth t (t.length - 1))))).toNat)).2.2).length - 1)).S), .slice d0 j0.length i0, .slice h0 t0.length u0, .slice none 0 0]) se p0 m0 rfl rfl rfl rfl rfl sz42 rfl rfl rfl (fun c0 x0 v0 q0 => ?_)
   refine wpList_nil (x_then_n (k0 _ _ ?_))
   refine wp_seq_k (fun k0 x0 => ?_)
   obtain ⟨k0, c0, p0⟩ := q0.agree
   refine d_reg3 (n := 10) p0 8 (pB 0 1 pn) (pan_then pan_body) (fun c0 k0 q0 m0 u0 h0 => ?_)
   refine dtM 0 k0 v0 h0 (fun m0 c0 => ?_)
   refine dtN 1 k0 c0 h0 (fun m0 v0 => ?_)
   refine dtF 2 0 k0 v0 h0 Tryd.underlying61 sz59 (fun m0 c0 => ?_)
   refine dtM 3 k0 c0 h0 (fun m0 v0 => ?_)
   refine d1 4 ?_
   have m0 := u0.nf
   refine k_call (xs := [.tmp 53]) (st_op rfl (want_n rfl)) v0 rfl rfl rfl (by decide) ok37 (ureduct_calls _ _ m0.il _ _ (nth t (t.length - 1)) (nth ((nthS j0 ((((tgK (nth t (t.length - 1))))).toNat)).2.2) (((nthS j0 ((((tgK (nth t (t.length - 1))))).toNat)).2.2).length - 1)) _ _ _ _ _ _ (m0.g 0) (m0.z 0) (imm_box (i := 0) rfl) (m0.g 2) (m0.g 3) (m0.g 6) (m0.g 7)) ?_
   rintro v0 u0 ⟨c0, h0, p0, rfl, i0, d0, z0, b1⟩
   have h0 := m0.callM (i := 0) rfl i0 d0
   have d0 := m0.dM 0 h0 z0
   refine ⟨_, rfl, fun h0 z0 => ?_⟩
   obtain ⟨hrs, hrl⟩ : sml p0 ∧ p0.length ≤ 100000 := by rw [b1]; exact urR_sz hsn hps hqs
   have hof := ur_of hct htn (R := urR (nth t (t.length - 1)) (nth (nthS j0 (tgK (nth t (t.length - 1))).toNat).2.2 ((nthS j0 (tgK (nth t (t.length - 1))).toNat).2.2.length - 1)) (lsts j0) (lsts t0)) (by rw [o0, y0, hz])
   have y0 := sWI d0 8 (pB 0 1 pn)
   refine ⟨y0, ?_⟩
   refine d1 5 ?_
   have y0 := d0.nf
   refine k_call (xs := [.tmp 52, .tmp 54]) (st_op rfl (want_n rfl)) z0 rfl rfl rfl (by decide) ok36 (done_calls _ _ y0.il _ _ _ _ _ _ _ (y0.g 0) (y0.z 0) (imm_box (i := 0) rfl) (y0.g 9)) ?_
   rintro z0 d0 ⟨o0, h0, rfl, m0, i0, c0⟩
   have d0 := y0.callM (i := 0) rfl m0 i0
   have i0 := y0.dM 0 d0 c0
   refine ⟨_, rfl, fun d0 c0 => ?_⟩
   have d0 := sWI i0 8 (pB 0 1 pn)
   refine ⟨d0, ?_⟩
   refine dt 6 rfl k0 c0 (want_n rfl) (fun x hx => r_extract (sy c0) c0 rfl rfl rfl rfl (by decide) gt) d0 (fun y0 m0 => ?_)
   refine dt 7 rfl k0 m0 (want_n rfl) (fun x hx => r_extract (sy m0) m0 rfl rfl rfl rfl (by decide) gt) d0 (fun y0 c0 => ?_)
   refine dtA 8 k0 c0 d0 (fun y0 m0 => ?_)
   refine dtA 9 k0 m0 d0 (fun y0 c0 => ?_)
   refine wpAnyH_done (by kernel_rfl) (q0 _ _ ?_) _
   refine x_then_n (x0 _ _ ?_)
   refine wp_ret ?_
   refine e_ret2 c0 rfl rfl rfl rfl ?_
   have c0 : urA t = (if (if (((urR (nth t (t.length - 1)) (nth ((nthS j0 ((((tgK (nth t (t.length - 1))))).toNat)).2.2) (((nthS j0 ((((tgK (nth t (t.length - 1))))).toNat)).2.2).length - 1)) (lsts j0) (lsts t0)).2)) = 0 then chk p0 else (((urR (nth t (t.length - 1)) (nth ((nthS j0 ((((tgK (nth t (t.length - 1))))).toNat)).2.2) (((nthS j0 ((((tgK (nth t (t.length - 1))))).toNat)).2.2).length - 1)) (lsts j0) (lsts t0)).2))) = 0 then p0 else []) := (by rw [hof.2, b1])
   rw [c0]
   refine ⟨o0, h0, ?_, i0.fr, i0.rx 10⟩
   exact ret_t2 rfl (ret_i (by first | exact hof.1.symm | (rw [hof.1, b1])))
 ·
  have b1 := f0.setb (d := 16) (b := true) rfl (by rw [(decide_eq_false n0)]; rfl)
  refine wp_cond_true (b1.ev rfl) ?_
  refine wsc (fun f0 i0 => ?_)
  refine mv b1 (fun f0 h0 => ?_)
  refine asg h0 (fun f0 b1 => ?_)
  refine asg b1 (fun f0 h0 => ?_)
  refine wpList_nil (x_then_n (i0 _ _ ?_))
  refine wp_ret ?_
  refine x_then_r ?_
  refine e_ret2 h0 rfl rfl rfl rfl ?_
  have h0 : urA t = [] := (ur_err n0).2
  rw [h0]
  refine ⟨none, 0, ?_, b0.fr, ⟨Nat.le_refl _, RowI.nil _ _ _ _⟩⟩
  exact ret_t2 rfl (ret_i (by exact (ur_err n0).1.symm))
end Go.Proofs.YtcfponnkfhkbdaaDoor
/- Contracts of functions, one theorem each: what the call returns, and that nothing old is changed. Printed by gen.py. -/
namespace Go.Proofs.YtcfponnkfhkbdaaDoor
open Go Go.RowKit
set_option linter.unusedSimpArgs false
set_option linter.unusedVariables false
set_option maxRecDepth 100000 in
set_option maxHeartbeats 1000000 in
theorem shown14_calls (w0 : World) (Z : Nat → Prop) (hZ : ∀ k, Z k → k < w0.heap.size)  (hShp : Shapes w0 Z) :
    Calls Tryd.prog 12 [].toArray w0 (fun e w' => e = .returned (.bool (true)) ∧ Fr none_ w0 w') := by
 have b0 := s0 (M := none_) hZ (zc (d := dShapes) hShp zn)
 refine c_enter Tryd.func12 rfl Tryd.ntmps12 rfl (fun c0 d0 => ?_)
 refine wsc (fun c0 f0 => ?_)
 refine asg d0 (fun c0 h0 => ?_)
 refine wpList_nil (x_then_n (f0 _ _ ?_))
 refine wsc (fun f0 c0 => ?_)
 refine m_build (ps := [(0, .const (.int .i64 10))]) (v := .agg #[.int .i64 10, .int .i64 0, .int .i64 0, .string (⟨#[]⟩ : ByteArray)]) sv h0 rfl rfl rfl (fun _ => by kernel_rfl) (by decide) (fun f0 d0 => ?_)
 refine m_build (ps := [(0, .const (.int .i64 11))]) (v := .agg #[.int .i64 11, .int .i64 0, .int .i64 0, .string (⟨#[]⟩ : ByteArray)]) sv d0 rfl rfl rfl (fun _ => by kernel_rfl) (by decide) (fun f0 h0 => ?_)
 refine m_build (ps := [(0, .const (.int .i64 16))]) (v := .agg #[.int .i64 16, .int .i64 0, .int .i64 0, .string (⟨#[]⟩ : ByteArray)]) sv h0 rfl rfl rfl (fun _ => by kernel_rfl) (by decide) (fun f0 d0 => ?_)
 refine m_build (ps := [(0, .const (.int .i64 7))]) (v := .agg #[.int .i64 7, .int .i64 0, .int .i64 0, .string (⟨#[]⟩ : ByteArray)]) sv d0 rfl rfl rfl (fun _ => by kernel_rfl) (by decide) (fun f0 h0 => ?_)
 refine m_build (ps := [(0, .const (.int .i64 8))]) (v := .agg #[.int .i64 8, .int .i64 0, .int .i64 0, .string (⟨#[]⟩ : ByteArray)]) sv h0 rfl rfl rfl (fun _ => by kernel_rfl) (by decide) (fun f0 d0 => ?_)
 refine mbs [(0, .tmp 4), (1, .tmp 5), (2, .tmp 6), (3, .tmp 7), (4, .tmp 8)] [.int .i64 10, .int .i64 0, .int .i64 0, .string (⟨#[]⟩ : ByteArray), .int .i64 11, .int .i64 0, .int .i64 0, .string (⟨#[]⟩ : ByteArray), .int .i64 16, .int .i64 0, .int .i64 0, .string (⟨#[]⟩ : ByteArray), .int .i64 7, .int .i64 0, .int .i64 0, .string (⟨#[]⟩ : ByteArray), .int .i64 8, .int .i64 0, .int .i64 0, .string (⟨#[]⟩ : ByteArray)] sv d0 b0 Tryd.underlying22 zi39 (fun f0 h0 i0 j0 k0 => ?_)
 refine asg j0 (fun h0 f0 => ?_)
 refine wpList_nil (x_then_n (c0 _ _ ?_))
 refine wsc (fun c0 h0 => ?_)
 refine mv f0 (fun c0 j0 => ?_)
 have c0 := k0.nf
 have k0 := own_cap (c0.res (i := 0) rfl)
 obtain ⟨f0, d0⟩ := c0.row_data (i := 0) rfl (fun _ h => h)
 have c0 := f0.data (dRow 4 (some ⟨i0, 0, none⟩) 5 5 (encNs ([(⟨10, 0, 0, (⟨#[]⟩ : ByteArray)⟩ : Nd), (⟨11, 0, 0, (⟨#[]⟩ : ByteArray)⟩ : Nd), (⟨16, 0, 0, (⟨#[]⟩ : ByteArray)⟩ : Nd), (⟨7, 0, 0, (⟨#[]⟩ : ByteArray)⟩ : Nd), (⟨8, 0, 0, (⟨#[]⟩ : ByteArray)⟩ : Nd)]))) ⟨k0, d0⟩
 refine k_call (xs := [.tmp 11, .const (.slice none 0 0)]) se j0 rfl rfl rfl (by decide) ok13 (urule0_calls _ _ c0.il _ _ ([(⟨10, 0, 0, (⟨#[]⟩ : ByteArray)⟩ : Nd), (⟨11, 0, 0, (⟨#[]⟩ : ByteArray)⟩ : Nd), (⟨16, 0, 0, (⟨#[]⟩ : ByteArray)⟩ : Nd), (⟨7, 0, 0, (⟨#[]⟩ : ByteArray)⟩ : Nd), (⟨8, 0, 0, (⟨#[]⟩ : ByteArray)⟩ : Nd)]) (c0.g 0) (c0.g 1) (hsm := sml_14) (hl := (by simp)) (h27 := (by decide))) ?_
 rintro j0 d0 ⟨f0, k0, rfl, b0, m0⟩
 have d0 := c0.below b0.below
 have b0 := c0.dN d0 m0
 refine ⟨_, rfl, fun d0 m0 => ?_⟩
 refine mv m0 (fun d0 c0 => ?_)
 refine r_extract sv c0 rfl rfl rfl rfl (by decide) (fun d0 m0 => ?_)
 refine r_extract sv m0 rfl rfl rfl rfl (by decide) (fun d0 c0 => ?_)
 refine asg c0 (fun d0 m0 => ?_)
 refine asg m0 (fun d0 c0 => ?_)
 refine wpList_nil (x_then_n (h0 _ _ ?_))
 refine wsc (fun h0 d0 => ?_)
 refine mv c0 (fun h0 m0 => ?_)
 refine r_eql sv m0 rfl rfl rfl rfl (by decide) (fun h0 c0 => ?_)
 refine mv c0 (fun h0 m0 => ?_)
 refine l_join (fun ga gw => Reg ga 34 [(0, .bool false), (1, .slice (some ⟨i0, 0, none⟩) 5 5), (2, .slice f0 ((urA ([(⟨10, 0, 0, (⟨#[]⟩ : ByteArray)⟩ : Nd), (⟨11, 0, 0, (⟨#[]⟩ : ByteArray)⟩ : Nd), (⟨16, 0, 0, (⟨#[]⟩ : ByteArray)⟩ : Nd), (⟨7, 0, 0, (⟨#[]⟩ : ByteArray)⟩ : Nd), (⟨8, 0, 0, (⟨#[]⟩ : ByteArray)⟩ : Nd)])).length) k0), (21, .bool ((decide (((urE ([(⟨10, 0, 0, (⟨#[]⟩ : ByteArray)⟩ : Nd), (⟨11, 0, 0, (⟨#[]⟩ : ByteArray)⟩ : Nd), (⟨16, 0, 0, (⟨#[]⟩ : ByteArray)⟩ : Nd), (⟨7, 0, 0, (⟨#[]⟩ : ByteArray)⟩ : Nd), (⟨8, 0, 0, (⟨#[]⟩ : ByteArray)⟩ : Nd)]))) = 0)) && (decide ((((urA ([(⟨10, 0, 0, (⟨#[]⟩ : ByteArray)⟩ : Nd), (⟨11, 0, 0, (⟨#[]⟩ : ByteArray)⟩ : Nd), (⟨16, 0, 0, (⟨#[]⟩ : ByteArray)⟩ : Nd), (⟨7, 0, 0, (⟨#[]⟩ : ByteArray)⟩ : Nd), (⟨8, 0, 0, (⟨#[]⟩ : ByteArray)⟩ : Nd)])).length : Nat) : Int) = 1)))), (1000000, .bool false)] ∧ St w0 Z none_ gw [] [dShapes, dRow 4 (some ⟨i0, 0, none⟩) 5 5 (encNs ([(⟨10, 0, 0, (⟨#[]⟩ : ByteArray)⟩ : Nd), (⟨11, 0, 0, (⟨#[]⟩ : ByteArray)⟩ : Nd), (⟨16, 0, 0, (⟨#[]⟩ : ByteArray)⟩ : Nd), (⟨7, 0, 0, (⟨#[]⟩ : ByteArray)⟩ : Nd), (⟨8, 0, 0, (⟨#[]⟩ : ByteArray)⟩ : Nd)])), dRow 4 f0 ((urA ([(⟨10, 0, 0, (⟨#[]⟩ : ByteArray)⟩ : Nd), (⟨11, 0, 0, (⟨#[]⟩ : ByteArray)⟩ : Nd), (⟨16, 0, 0, (⟨#[]⟩ : ByteArray)⟩ : Nd), (⟨7, 0, 0, (⟨#[]⟩ : ByteArray)⟩ : Nd), (⟨8, 0, 0, (⟨#[]⟩ : ByteArray)⟩ : Nd)])).length) k0 (encNs (urA ([(⟨10, 0, 0, (⟨#[]⟩ : ByteArray)⟩ : Nd), (⟨11, 0, 0, (⟨#[]⟩ : ByteArray)⟩ : Nd), (⟨16, 0, 0, (⟨#[]⟩ : ByteArray)⟩ : Nd), (⟨7, 0, 0, (⟨#[]⟩ : ByteArray)⟩ : Nd), (⟨8, 0, 0, (⟨#[]⟩ : ByteArray)⟩ : Nd)])))]) 4 ?_ ?_
 ·
  rcases Decidable.em (((urE ([(⟨10, 0, 0, (⟨#[]⟩ : ByteArray)⟩ : Nd), (⟨11, 0, 0, (⟨#[]⟩ : ByteArray)⟩ : Nd), (⟨16, 0, 0, (⟨#[]⟩ : ByteArray)⟩ : Nd), (⟨7, 0, 0, (⟨#[]⟩ : ByteArray)⟩ : Nd), (⟨8, 0, 0, (⟨#[]⟩ : ByteArray)⟩ : Nd)]))) = 0) with h0 | h0
  ·
   have c0 := m0.setb (d := 17) (b := true) rfl (decide_eq_true h0)
   refine r_move (st_listV_w (wt c0)) c0 rfl rfl rfl (by decide) (fun j0 n0 => ?_)
   refine r_len (st_listV_w (wt n0)) n0 rfl rfl rfl rfl Tryd.underlying22 (by decide) (fun j0 c0 => ?_)
   refine r_eql (st_listV_w (wt c0)) c0 rfl rfl rfl rfl (by decide) (fun j0 n0 => ?_)
   refine r_pick_t sv n0 rfl rfl rfl rfl (by decide) (fun j0 c0 => ?_)
   refine wpList_nil ?_
   exact x_then_n ⟨(c0.sub (rc rfl (rc rfl (rc rfl (rc (rb rfl (by first | rfl | (simp only [decide_eq_true h0, if_pos h0, bl]; done) | (simp [h0]; done) | (simp [h0]; omega))) (rc rfl rnl)))))), b0⟩
  ·
   have c0 := m0.setb (d := 17) (b := false) rfl (decide_eq_false h0)
   refine sps c0 (wff c0) (fun m0 j0 => ?_)
   refine sps j0 (wff j0) (fun m0 c0 => ?_)
   refine sps c0 (wff c0) (fun m0 j0 => ?_)
   refine r_pick_f sv j0 rfl rfl rfl rfl (by decide) (fun m0 c0 => ?_)
   refine wpList_nil ?_
   exact x_then_n ⟨(c0.sub (rc rfl (rc rfl (rc rfl (rc (rb rfl (by first | rfl | (simp only [decide_eq_false h0, if_neg h0, bl]; done) | (simp [h0]; done) | (simp [h0]; omega))) (rc rfl rnl)))))), b0⟩
 rintro c0 h0 ⟨b0, m0⟩
 refine mv b0 (fun h0 c0 => ?_)
 refine l_join (fun ga gw => Reg ga 34 [(0, .bool false), (1, .slice (some ⟨i0, 0, none⟩) 5 5), (28, .bool (((decide (((urE ([(⟨10, 0, 0, (⟨#[]⟩ : ByteArray)⟩ : Nd), (⟨11, 0, 0, (⟨#[]⟩ : ByteArray)⟩ : Nd), (⟨16, 0, 0, (⟨#[]⟩ : ByteArray)⟩ : Nd), (⟨7, 0, 0, (⟨#[]⟩ : ByteArray)⟩ : Nd), (⟨8, 0, 0, (⟨#[]⟩ : ByteArray)⟩ : Nd)]))) = 0)) && (decide ((((urA ([(⟨10, 0, 0, (⟨#[]⟩ : ByteArray)⟩ : Nd), (⟨11, 0, 0, (⟨#[]⟩ : ByteArray)⟩ : Nd), (⟨16, 0, 0, (⟨#[]⟩ : ByteArray)⟩ : Nd), (⟨7, 0, 0, (⟨#[]⟩ : ByteArray)⟩ : Nd), (⟨8, 0, 0, (⟨#[]⟩ : ByteArray)⟩ : Nd)])).length : Nat) : Int) = 1))) && (decide ((((nth (urA ([(⟨10, 0, 0, (⟨#[]⟩ : ByteArray)⟩ : Nd), (⟨11, 0, 0, (⟨#[]⟩ : ByteArray)⟩ : Nd), (⟨16, 0, 0, (⟨#[]⟩ : ByteArray)⟩ : Nd), (⟨7, 0, 0, (⟨#[]⟩ : ByteArray)⟩ : Nd), (⟨8, 0, 0, (⟨#[]⟩ : ByteArray)⟩ : Nd)])) 0).K)) = 11)))), (1000000, .bool false)] ∧ St w0 Z none_ gw [] [dShapes, dRow 4 (some ⟨i0, 0, none⟩) 5 5 (encNs ([(⟨10, 0, 0, (⟨#[]⟩ : ByteArray)⟩ : Nd), (⟨11, 0, 0, (⟨#[]⟩ : ByteArray)⟩ : Nd), (⟨16, 0, 0, (⟨#[]⟩ : ByteArray)⟩ : Nd), (⟨7, 0, 0, (⟨#[]⟩ : ByteArray)⟩ : Nd), (⟨8, 0, 0, (⟨#[]⟩ : ByteArray)⟩ : Nd)])), dRow 4 f0 ((urA ([(⟨10, 0, 0, (⟨#[]⟩ : ByteArray)⟩ : Nd), (⟨11, 0, 0, (⟨#[]⟩ : ByteArray)⟩ : Nd), (⟨16, 0, 0, (⟨#[]⟩ : ByteArray)⟩ : Nd), (⟨7, 0, 0, (⟨#[]⟩ : ByteArray)⟩ : Nd), (⟨8, 0, 0, (⟨#[]⟩ : ByteArray)⟩ : Nd)])).length) k0 (encNs (urA ([(⟨10, 0, 0, (⟨#[]⟩ : ByteArray)⟩ : Nd), (⟨11, 0, 0, (⟨#[]⟩ : ByteArray)⟩ : Nd), (⟨16, 0, 0, (⟨#[]⟩ : ByteArray)⟩ : Nd), (⟨7, 0, 0, (⟨#[]⟩ : ByteArray)⟩ : Nd), (⟨8, 0, 0, (⟨#[]⟩ : ByteArray)⟩ : Nd)])))]) 6 ?_ ?_
 ·
  rcases Bool.eq_false_or_eq_true (((decide (((urE ([(⟨10, 0, 0, (⟨#[]⟩ : ByteArray)⟩ : Nd), (⟨11, 0, 0, (⟨#[]⟩ : ByteArray)⟩ : Nd), (⟨16, 0, 0, (⟨#[]⟩ : ByteArray)⟩ : Nd), (⟨7, 0, 0, (⟨#[]⟩ : ByteArray)⟩ : Nd), (⟨8, 0, 0, (⟨#[]⟩ : ByteArray)⟩ : Nd)]))) = 0)) && (decide ((((urA ([(⟨10, 0, 0, (⟨#[]⟩ : ByteArray)⟩ : Nd), (⟨11, 0, 0, (⟨#[]⟩ : ByteArray)⟩ : Nd), (⟨16, 0, 0, (⟨#[]⟩ : ByteArray)⟩ : Nd), (⟨7, 0, 0, (⟨#[]⟩ : ByteArray)⟩ : Nd), (⟨8, 0, 0, (⟨#[]⟩ : ByteArray)⟩ : Nd)])).length : Nat) : Int) = 1)))) with h0 | h0
  ·
   have b0 := and_tl h0
   have j0 := of_decide_eq_true b0
   have j0 := and_tr h0
   have b0 := of_decide_eq_true j0
   have b0 := c0.setb (d := 22) (b := true) rfl h0
   refine r_move (st_listV_w (wt b0)) b0 rfl rfl rfl (by decide) (fun j0 n0 => ?_)
   refine m_index (i := 0) (j := 0 * 4) (st_listV_w (wt n0)) n0 rfl rfl rfl rfl Tryd.underlying22 sz39 (by omega) (by omega) (nds_elem (t := urA ([(⟨10, 0, 0, (⟨#[]⟩ : ByteArray)⟩ : Nd), (⟨11, 0, 0, (⟨#[]⟩ : ByteArray)⟩ : Nd), (⟨16, 0, 0, (⟨#[]⟩ : ByteArray)⟩ : Nd), (⟨7, 0, 0, (⟨#[]⟩ : ByteArray)⟩ : Nd), (⟨8, 0, 0, (⟨#[]⟩ : ByteArray)⟩ : Nd)])) (k := 0) (m0.row (i := 2) rfl).2 (by omega)).some_ rfl (by decide) (fun j0 b0 => ?_)
   refine m_fieldE (j' := 0 * 4) (st_listV_w (wt b0)) b0 rfl rfl rfl (nds_elem (t := urA ([(⟨10, 0, 0, (⟨#[]⟩ : ByteArray)⟩ : Nd), (⟨11, 0, 0, (⟨#[]⟩ : ByteArray)⟩ : Nd), (⟨16, 0, 0, (⟨#[]⟩ : ByteArray)⟩ : Nd), (⟨7, 0, 0, (⟨#[]⟩ : ByteArray)⟩ : Nd), (⟨8, 0, 0, (⟨#[]⟩ : ByteArray)⟩ : Nd)])) (k := 0) (m0.row (i := 2) rfl).2 (by omega)).some_ Tryd.underlying39 rfl sz3 rfl rfl (by decide) (fun j0 n0 => ?_)
   refine m_loadE (st_listV_w (wt n0)) n0 rfl rfl rfl 0 (0 * 4) (nds_elem (t := urA ([(⟨10, 0, 0, (⟨#[]⟩ : ByteArray)⟩ : Nd), (⟨11, 0, 0, (⟨#[]⟩ : ByteArray)⟩ : Nd), (⟨16, 0, 0, (⟨#[]⟩ : ByteArray)⟩ : Nd), (⟨7, 0, 0, (⟨#[]⟩ : ByteArray)⟩ : Nd), (⟨8, 0, 0, (⟨#[]⟩ : ByteArray)⟩ : Nd)])) (k := 0) (m0.row (i := 2) rfl).2 (by omega)) rfl rfl Tryd.underlying3 rfl (by decide) (fun j0 b0 => ?_)
   refine r_eql (st_listV_w (wt b0)) b0 rfl rfl rfl rfl (by decide) (fun j0 n0 => ?_)
   refine r_pick_t sv n0 rfl rfl rfl rfl (by decide) (fun j0 b0 => ?_)
   refine wpList_nil ?_
   exact x_then_n ⟨(b0.sub (rc rfl (rc rfl (rc (rb rfl (by first | rfl | (simp only [h0, bl]; done) | (simp [h0]; done) | (simp [h0]; omega))) (rc rfl rnl))))), m0⟩
  ·
   have b0 := h0
   try simp only [Bool.or_eq_true, Bool.and_eq_true, Bool.not_eq_true', Bool.not_eq_false', decide_eq_true_eq, decide_eq_false_iff_not, Bool.or_eq_false_iff, Bool.and_eq_false_iff] at b0
   have b0 := c0.setb (d := 22) (b := false) rfl h0
   refine sps b0 (wff b0) (fun c0 j0 => ?_)
   refine sps j0 (wff j0) (fun c0 b0 => ?_)
   refine sps b0 (wff b0) (fun c0 j0 => ?_)
   refine sps j0 (wff j0) (fun c0 b0 => ?_)
   refine sps b0 (wff b0) (fun c0 j0 => ?_)
   refine r_pick_f sv j0 rfl rfl rfl rfl (by decide) (fun c0 b0 => ?_)
   refine wpList_nil ?_
   exact x_then_n ⟨(b0.sub (rc rfl (rc rfl (rc (rb rfl (by first | rfl | (simp only [h0, bl]; done) | (simp [h0]; done) | (simp [h0]; omega))) (rc rfl rnl))))), m0⟩
 rintro b0 h0 ⟨m0, c0⟩
 refine mv m0 (fun h0 b0 => ?_)
 refine l_join (fun ga gw => Reg ga 34 [(0, .bool false), (33, .bool ((((decide (((urE ([(⟨10, 0, 0, (⟨#[]⟩ : ByteArray)⟩ : Nd), (⟨11, 0, 0, (⟨#[]⟩ : ByteArray)⟩ : Nd), (⟨16, 0, 0, (⟨#[]⟩ : ByteArray)⟩ : Nd), (⟨7, 0, 0, (⟨#[]⟩ : ByteArray)⟩ : Nd), (⟨8, 0, 0, (⟨#[]⟩ : ByteArray)⟩ : Nd)]))) = 0)) && (decide ((((urA ([(⟨10, 0, 0, (⟨#[]⟩ : ByteArray)⟩ : Nd), (⟨11, 0, 0, (⟨#[]⟩ : ByteArray)⟩ : Nd), (⟨16, 0, 0, (⟨#[]⟩ : ByteArray)⟩ : Nd), (⟨7, 0, 0, (⟨#[]⟩ : ByteArray)⟩ : Nd), (⟨8, 0, 0, (⟨#[]⟩ : ByteArray)⟩ : Nd)])).length : Nat) : Int) = 1))) && (decide ((((nth (urA ([(⟨10, 0, 0, (⟨#[]⟩ : ByteArray)⟩ : Nd), (⟨11, 0, 0, (⟨#[]⟩ : ByteArray)⟩ : Nd), (⟨16, 0, 0, (⟨#[]⟩ : ByteArray)⟩ : Nd), (⟨7, 0, 0, (⟨#[]⟩ : ByteArray)⟩ : Nd), (⟨8, 0, 0, (⟨#[]⟩ : ByteArray)⟩ : Nd)])) 0).K)) = 11))) && (decide (((tgA ([(⟨10, 0, 0, (⟨#[]⟩ : ByteArray)⟩ : Nd), (⟨11, 0, 0, (⟨#[]⟩ : ByteArray)⟩ : Nd), (⟨16, 0, 0, (⟨#[]⟩ : ByteArray)⟩ : Nd), (⟨7, 0, 0, (⟨#[]⟩ : ByteArray)⟩ : Nd), (⟨8, 0, 0, (⟨#[]⟩ : ByteArray)⟩ : Nd)]))) = 0)))), (1000000, .bool false)] ∧ St w0 Z none_ gw [] [dShapes, dRow 4 (some ⟨i0, 0, none⟩) 5 5 (encNs ([(⟨10, 0, 0, (⟨#[]⟩ : ByteArray)⟩ : Nd), (⟨11, 0, 0, (⟨#[]⟩ : ByteArray)⟩ : Nd), (⟨16, 0, 0, (⟨#[]⟩ : ByteArray)⟩ : Nd), (⟨7, 0, 0, (⟨#[]⟩ : ByteArray)⟩ : Nd), (⟨8, 0, 0, (⟨#[]⟩ : ByteArray)⟩ : Nd)])), dRow 4 f0 ((urA ([(⟨10, 0, 0, (⟨#[]⟩ : ByteArray)⟩ : Nd), (⟨11, 0, 0, (⟨#[]⟩ : ByteArray)⟩ : Nd), (⟨16, 0, 0, (⟨#[]⟩ : ByteArray)⟩ : Nd), (⟨7, 0, 0, (⟨#[]⟩ : ByteArray)⟩ : Nd), (⟨8, 0, 0, (⟨#[]⟩ : ByteArray)⟩ : Nd)])).length) k0 (encNs (urA ([(⟨10, 0, 0, (⟨#[]⟩ : ByteArray)⟩ : Nd), (⟨11, 0, 0, (⟨#[]⟩ : ByteArray)⟩ : Nd), (⟨16, 0, 0, (⟨#[]⟩ : ByteArray)⟩ : Nd), (⟨7, 0, 0, (⟨#[]⟩ : ByteArray)⟩ : Nd), (⟨8, 0, 0, (⟨#[]⟩ : ByteArray)⟩ : Nd)])))]) 4 ?_ ?_
 ·
  rcases Bool.eq_false_or_eq_true ((((decide (((urE ([(⟨10, 0, 0, (⟨#[]⟩ : ByteArray)⟩ : Nd), (⟨11, 0, 0, (⟨#[]⟩ : ByteArray)⟩ : Nd), (⟨16, 0, 0, (⟨#[]⟩ : ByteArray)⟩ : Nd), (⟨7, 0, 0, (⟨#[]⟩ : ByteArray)⟩ : Nd), (⟨8, 0, 0, (⟨#[]⟩ : ByteArray)⟩ : Nd)]))) = 0)) && (decide ((((urA ([(⟨10, 0, 0, (⟨#[]⟩ : ByteArray)⟩ : Nd), (⟨11, 0, 0, (⟨#[]⟩ : ByteArray)⟩ : Nd), (⟨16, 0, 0, (⟨#[]⟩ : ByteArray)⟩ : Nd), (⟨7, 0, 0, (⟨#[]⟩ : ByteArray)⟩ : Nd), (⟨8, 0, 0, (⟨#[]⟩ : ByteArray)⟩ : Nd)])).length : Nat) : Int) = 1))) && (decide ((((nth (urA ([(⟨10, 0, 0, (⟨#[]⟩ : ByteArray)⟩ : Nd), (⟨11, 0, 0, (⟨#[]⟩ : ByteArray)⟩ : Nd), (⟨16, 0, 0, (⟨#[]⟩ : ByteArray)⟩ : Nd), (⟨7, 0, 0, (⟨#[]⟩ : ByteArray)⟩ : Nd), (⟨8, 0, 0, (⟨#[]⟩ : ByteArray)⟩ : Nd)])) 0).K)) = 11)))) with k0 | k0
  ·
   have f0 := and_tl k0
   have i0 := and_tl f0
   have h0 := of_decide_eq_true i0
   have h0 := and_tr f0
   have f0 := of_decide_eq_true h0
   have f0 := and_tr k0
   have h0 := of_decide_eq_true f0
   have h0 := b0.setb (d := 29) (b := true) rfl k0
   refine r_move (st_listV_w (wt h0)) h0 rfl rfl rfl (by decide) (fun f0 i0 => ?_)
   have f0 := c0.nf
   refine k_call (xs := [.tmp 30]) (st_list_w (wt i0)) i0 rfl rfl rfl (by decide) ok17 (uTarget_calls _ _ f0.il _ _ ([(⟨10, 0, 0, (⟨#[]⟩ : ByteArray)⟩ : Nd), (⟨11, 0, 0, (⟨#[]⟩ : ByteArray)⟩ : Nd), (⟨16, 0, 0, (⟨#[]⟩ : ByteArray)⟩ : Nd), (⟨7, 0, 0, (⟨#[]⟩ : ByteArray)⟩ : Nd), (⟨8, 0, 0, (⟨#[]⟩ : ByteArray)⟩ : Nd)]) (f0.g 0) (f0.g 1) (hsm := sml_14) (hl := (by simp))) ?_
   rintro i0 h0 ⟨rfl, m0⟩
   have h0 := f0.below m0.below
   refine ⟨_, rfl, fun m0 f0 => ?_⟩
   refine r_eql (st_listV_w (wt f0)) f0 rfl rfl rfl rfl (by decide) (fun m0 i0 => ?_)
   refine r_pick_t sv i0 rfl rfl rfl rfl (by decide) (fun m0 f0 => ?_)
   refine wpList_nil ?_
   exact x_then_n ⟨(f0.sub (rc rfl (rc (rb rfl (by first | rfl | (simp only [k0, bl]; done) | (simp [k0]; done) | (simp [k0]; omega))) (rc rfl rnl)))), h0⟩
  ·
   have f0 := k0
   try simp only [Bool.or_eq_true, Bool.and_eq_true, Bool.not_eq_true', Bool.not_eq_false', decide_eq_true_eq, decide_eq_false_iff_not, Bool.or_eq_false_iff, Bool.and_eq_false_iff] at f0
   have f0 := b0.setb (d := 29) (b := false) rfl k0
   refine sps f0 (wff f0) (fun b0 h0 => ?_)
   refine sps h0 (wff h0) (fun b0 f0 => ?_)
   refine sps f0 (wff f0) (fun b0 h0 => ?_)
   refine r_pick_f sv h0 rfl rfl rfl rfl (by decide) (fun b0 f0 => ?_)
   refine wpList_nil ?_
   exact x_then_n ⟨(f0.sub (rc rfl (rc (rb rfl (by first | rfl | (simp only [k0, bl]; done) | (simp [k0]; done) | (simp [k0]; omega))) (rc rfl rnl)))), c0⟩
 rintro f0 k0 ⟨c0, b0⟩
 refine asg c0 (fun k0 f0 => ?_)
 refine wpList_nil (x_then_n (d0 _ _ ?_))
 refine wp_ret ?_
 refine e_ret1 f0 rfl rfl rfl ?_
 refine ⟨?_, b0.fr⟩
 exact congrArg Ending.returned (ret_b (by simp [sh14.1, sh14.2.1, sh14.2.2, nth]))
end Go.Proofs.YtcfponnkfhkbdaaDoor
/- Redexes of pairs, of functions, of numbers. -/
namespace Go.Proofs.YtcfponnkfhkbdaaDoor
set_option linter.unusedSimpArgs false
set_option linter.unusedVariables false
def ofL (k : Nat) (p : List (List Nd)) : List Nd := p.flatten ++ [⟨(k : Int), 0, 0, ⟨#[]⟩⟩]
theorem ofL_ok {k : Nat} {p : List (List Nd)} {b : Nat} (hk : k < 30 ∧ k ≠ 1 ∧ k ≠ 25 ∧ k ≠ 26 ∧ k ≠ 27) (hm : (shp k).b.length = p.length) (hp : ∀ x ∈ p, chk x = 0 ∧ dpL x ≤ b) (hb : b < 60) (hl : p.flatten.length < 4000) :
  chk (ofL k p) = 0 ∧ dpL (ofL k p) ≤ b + 1 ∧ ptL (ofL k p) = p ∧ nth (ofL k p) ((ofL k p).length - 1) = ⟨(k : Int), 0, 0, ⟨#[]⟩⟩ ∧ (ofL k p).length = p.flatten.length + 1 := by
 obtain ⟨hr, hn⟩ := right_lit hk
 have hp' : ∀ x ∈ p, measB x = true := fun x hx => meas_chk (hp x hx).1
 obtain ⟨h1, _, h3, h4⟩ := built hr (hn.trans hm) hp'
 have h5 : dpL (ofL k p) ≤ b + 1 := built_deep hr (hn.trans hm) hp' (fun x hx => (hp x hx).2)
 have hl' : (ofL k p).length = p.flatten.length + 1 := by simp [ofL]
 exact ⟨chk_of (t := ofL k p) h1 (by omega) (by omega), h5, h3, h4, hl'⟩
def PU (x : List Nd) : Prop := chk x = 0 ∧ dpL x ≤ 50
section
variable {s a b : List Nd} (hs : PU s) (ha : PU a) (hb : PU b) (hls : s.length ≤ 120) (hla : a.length ≤ 120) (hlb : b.length ≤ 120)
include hs ha hb hls hla hlb
end
mutual
theorem shz_T {f : Int} : ∀ (x : T) (u : Int), x.wf = true → trE (shV 0 f) u x = 0 ∧ trT (shV 0 f) u x = x
 | .mk n l, u, hw => by
  obtain ⟨h1, h2, h3⟩ := wf_parts hw
  by_cases hk : n.K = 0
  ·
   obtain ⟨e, a, b⟩ := var_node h1 hk
   have hl : l = [] := List.eq_nil_of_length_eq_zero (by rw [← h2]; simp [many, binds, hk, shp])
   simp only [trE, trT, hk, if_true, shV]
   split
   ·
    rw [if_neg (by omega), if_neg (by omega)]
    refine ⟨rfl, ?_⟩
    rw [hl, e]
    simp
   · rw [hl]; exact ⟨rfl, rfl⟩
  ·
   simp only [trE, trT, hk, if_false]
   obtain ⟨a, b⟩ := shz_Ts (f := f) l ((binds n).map (u + ·)) h3 (by simp [← h2, many])
   exact ⟨a, by rw [b]⟩
theorem shz_Ts {f : Int} : ∀ (l : List T) (us : List Int), T.wfs l = true → l.length = us.length → trEs (shV 0 f) l us = 0 ∧ trTs (shV 0 f) l us = l
 | [], us, _, _ => by simp [trEs, trTs]
 | y :: l, [], _, h => by simp at h
 | y :: l, u :: us, hw, h => by
  obtain ⟨h1, h2⟩ := wf_cons hw
  obtain ⟨a, b⟩ := shz_T (f := f) y u h1
  obtain ⟨c, d⟩ := shz_Ts (f := f) l us h2 (by simpa using h)
  simp only [trEs, trTs, a, if_true, b, c, d, and_self]
end
theorem sf_zero {t : List Nd} {f : Int} (h : chk t = 0) : sfE t 0 f = 0 ∧ sfA t 0 f = t := by
 obtain ⟨h1, h2⟩ := sfE_ok (b := 0) (f := f) h
 have hc : clamp 0 = 0 := by decide
 rw [hc] at h1 h2
 obtain ⟨a, b⟩ := shz_T (f := max 0 (clamp f)) (treeOf t) 0 (treeOf_meas (meas_chk h)).1
 refine ⟨h1.trans a, ?_⟩
 rw [h2]
 unfold trL trEL
 rw [if_pos a, b, (treeOf_meas (meas_chk h)).2]
def numL (k : Nat) : List Nd := ⟨11, 0, 0, ⟨#[]⟩⟩ :: List.replicate k ⟨12, 0, 0, ⟨#[]⟩⟩
theorem num_succ (k : Nat) : numL (k + 1) = ofL 12 [numL k] := by
 unfold numL ofL
 rw [List.replicate_succ']
 simp
theorem num_ok : ∀ k, k ≤ 50 → chk (numL k) = 0 ∧ dpL (numL k) ≤ k + 1 ∧ (numL k).length = k + 1
 | 0, _ => by
  have e : numL 0 = ofL 11 [] := rfl
  obtain ⟨h1, h2, _, _, h5⟩ := ofL_ok (k := 11) (p := []) (b := 0) (by decide) rfl (fun x hx => by cases hx) (by decide) (by decide)
  rw [e]
  exact ⟨h1, h2, h5⟩
 | k + 1, hk => by
  obtain ⟨a, b, c⟩ := num_ok k (by omega)
  obtain ⟨h1, h2, _, _, h5⟩ := ofL_ok (k := 12) (p := [numL k]) (b := k + 1) (by decide) rfl (by
   intro x hx
   simp only [List.mem_cons, List.not_mem_nil, or_false] at hx
   rw [hx]; exact ⟨a, b⟩) (by omega) (by simp; omega)
  rw [num_succ]
  refine ⟨h1, h2, ?_⟩
  rw [h5]
  simp
  omega
def numP (k : Nat) : List (List Nd) := [[⟨10, 0, 0, ⟨#[]⟩⟩], [⟨11, 0, 0, ⟨#[]⟩⟩], [⟨0, 0, 0, ⟨#[]⟩⟩, ⟨12, 0, 0, ⟨#[]⟩⟩], numL k]
def recL (k : Nat) : List Nd := ofL 13 (numP k)
theorem small_ok : chk [⟨10, 0, 0, ⟨#[]⟩⟩] = 0 ∧ chk [⟨11, 0, 0, ⟨#[]⟩⟩] = 0 ∧ chk [⟨0, 0, 0, ⟨#[]⟩⟩, ⟨12, 0, 0, ⟨#[]⟩⟩] = 0 := by decide
theorem dp_small {t : List Nd} (h : chk t = 0) : dpL t ≤ t.length := by
 have := deep_flat (treeOf t)
 rw [(treeOf_meas (meas_chk h)).2] at this
 exact this
theorem rec_ok {k : Nat} (hk : k ≤ 50) : chk (recL k) = 0 ∧ ptL (recL k) = numP k ∧ nth (recL k) ((recL k).length - 1) = ⟨13, 0, 0, ⟨#[]⟩⟩ ∧ (recL k).length = k + 6 := by
 obtain ⟨a, b, c⟩ := num_ok k hk
 obtain ⟨s1, s2, s3⟩ := small_ok
 obtain ⟨h1, _, h3, h4, h5⟩ := ofL_ok (k := 13) (p := numP k) (b := k + 2) (by decide) rfl (by
  intro x hx
  simp only [numP, List.mem_cons, List.not_mem_nil, or_false] at hx
  rcases hx with rfl | rfl | rfl | rfl
  · exact ⟨s1, Nat.le_trans (dp_small s1) (by simp)⟩
  · exact ⟨s2, Nat.le_trans (dp_small s2) (by simp)⟩
  · exact ⟨s3, Nat.le_trans (dp_small s3) (by simp)⟩
  · exact ⟨a, by omega⟩) (by omega) (by simp [numP]; omega)
 refine ⟨h1, h3, h4, ?_⟩
 show (ofL 13 (numP k)).length = k + 6
 rw [h5]
 simp [numP]
 omega
theorem rec_zero : urE (recL 0) = 0 ∧ urA (recL 0) = [⟨11, 0, 0, ⟨#[]⟩⟩] := by
 obtain ⟨h1, h2, h3, _⟩ := rec_ok (k := 0) (by decide)
 have htg : tgK (nth (recL 0) ((recL 0).length - 1)) = 3 := by rw [h3]; rfl
 have hL : tgL (recL 0) = numL 0 := by unfold tgL; rw [htg, agA_ok h1, h2]; rfl
 have hQ : urQ (recL 0) = some ([⟨11, 0, 0, ⟨#[]⟩⟩], 0) := by
  unfold urQ
  rw [hL, h3, agA_ok h1, h2]
  rfl
 obtain ⟨u1, u2⟩ := ur_some h1 (by omega) hQ
 rw [if_pos rfl, small_ok.2.1] at u1 u2
 exact ⟨u1, u2⟩
theorem rec_succ {k : Nat} (hk : k ≤ 40) : urE (recL (k + 1)) = 0 ∧ urA (recL (k + 1)) = recL k ++ [⟨12, 0, 0, ⟨#[]⟩⟩] := by
 obtain ⟨h1, h2, h3, _⟩ := rec_ok (k := k + 1) (by omega)
 obtain ⟨r1, _, _, r4⟩ := rec_ok (k := k) (by omega)
 obtain ⟨a, b, c⟩ := num_ok k (by omega)
 obtain ⟨a1, b1, c1⟩ := num_ok (k + 1) (by omega)
 have htg : tgK (nth (recL (k + 1)) ((recL (k + 1)).length - 1)) = 3 := by rw [h3]; rfl
 have hL : tgL (recL (k + 1)) = numL (k + 1) := by unfold tgL; rw [htg, agA_ok h1, h2]; rfl
 have hpt : ptL (numL (k + 1)) = [numL k] ∧ nth (numL (k + 1)) ((numL (k + 1)).length - 1) = ⟨12, 0, 0, ⟨#[]⟩⟩ := by
  rw [num_succ]
  obtain ⟨_, _, g3, g4, _⟩ := ofL_ok (k := 12) (p := [numL k]) (b := k + 1) (by decide) rfl (by
   intro x hx
   simp only [List.mem_cons, List.not_mem_nil, or_false] at hx
   rw [hx]; exact ⟨a, b⟩) (by omega) (by simp; omega)
  exact ⟨g3, g4⟩
 have hQ : urQ (recL (k + 1)) = some (inA [⟨0, 0, 0, ⟨#[]⟩⟩, ⟨12, 0, 0, ⟨#[]⟩⟩] [recL k, numL k], inE [⟨0, 0, 0, ⟨#[]⟩⟩, ⟨12, 0, 0, ⟨#[]⟩⟩] [recL k, numL k]) := by
  unfold urQ
  rw [hL, h3, agA_ok h1, h2, agA_ok a1, hpt.1, hpt.2]
  rfl
 have hck : ckE [[⟨0, 0, 0, ⟨#[]⟩⟩, ⟨12, 0, 0, ⟨#[]⟩⟩], recL k, numL k] = 0 := by simp only [ckE, small_ok.2.2, r1, a, if_true]
 obtain ⟨i1, i2⟩ := in_ok (t := [⟨0, 0, 0, ⟨#[]⟩⟩, ⟨12, 0, 0, ⟨#[]⟩⟩]) (l := [recL k, numL k]) hck
 obtain ⟨z1, z2⟩ := sf_zero (f := 0) r1
 have ht : treeOf [⟨0, 0, 0, ⟨#[]⟩⟩, ⟨12, 0, 0, ⟨#[]⟩⟩] = .mk ⟨12, 0, 0, ⟨#[]⟩⟩ [.mk ⟨0, 0, 0, ⟨#[]⟩⟩ []] := rfl
 have hV : puV 0 [recL k, numL k] ⟨0, 0, 0, ⟨#[]⟩⟩ 0 = (0, treeOf (recL k)) := by
  unfold puV
  rw [if_neg (by decide), if_pos (by simp)]
  show (sfE (recL k) 0 0, treeOf (sfA (recL k) 0 0)) = _
  rw [z1, z2]
 have hE : trEL (puV 0 [recL k, numL k]) [⟨0, 0, 0, ⟨#[]⟩⟩, ⟨12, 0, 0, ⟨#[]⟩⟩] 0 = 0 := by
  unfold trEL
  rw [ht]
  show trEs _ [.mk ⟨0, 0, 0, ⟨#[]⟩⟩ []] [0] = 0
  simp only [trEs, trE, hV, if_true]
 have hT : trL (puV 0 [recL k, numL k]) [⟨0, 0, 0, ⟨#[]⟩⟩, ⟨12, 0, 0, ⟨#[]⟩⟩] 0 = recL k ++ [⟨12, 0, 0, ⟨#[]⟩⟩] := by
  unfold trL
  rw [if_pos hE, ht]
  show (T.mk ⟨12, 0, 0, ⟨#[]⟩⟩ (trTs _ [.mk ⟨0, 0, 0, ⟨#[]⟩⟩ []] [0])).flat = _
  simp only [trTs, trT, hV, if_true, T.flat_mk, T.flats_cons, T.flats_nil, List.append_nil]
  rw [(treeOf_meas (meas_chk r1)).2]
 have hsuc : recL k ++ [⟨12, 0, 0, ⟨#[]⟩⟩] = ofL 12 [recL k] := by simp [ofL]
 have hdp : dpL (recL k) ≤ k + 3 := by
  obtain ⟨s1, s2, s3⟩ := small_ok
  obtain ⟨_, g2, _⟩ := ofL_ok (k := 13) (p := numP k) (b := k + 2) (by decide) rfl (by
   intro x hx
   simp only [numP, List.mem_cons, List.not_mem_nil, or_false] at hx
   rcases hx with rfl | rfl | rfl | rfl
   · exact ⟨s1, Nat.le_trans (dp_small s1) (by simp)⟩
   · exact ⟨s2, Nat.le_trans (dp_small s2) (by simp)⟩
   · exact ⟨s3, Nat.le_trans (dp_small s3) (by simp)⟩
   · exact ⟨a, by omega⟩) (by omega) (by simp [numP]; omega)
  exact g2
 obtain ⟨f1, _⟩ := ofL_ok (k := 12) (p := [recL k]) (b := k + 3) (by decide) rfl (by
  intro x hx
  simp only [List.mem_cons, List.not_mem_nil, or_false] at hx
  rw [hx]; exact ⟨r1, hdp⟩) (by omega) (by simp; omega)
 rw [← hsuc] at f1
 obtain ⟨p1, p2⟩ := po_chk hE
 rw [hT, f1] at p1
 rw [hT, if_pos f1] at p2
 rw [p1] at i1
 rw [p2] at i2
 obtain ⟨u1, u2⟩ := ur_some h1 (by omega) hQ
 rw [i1, i2, if_pos rfl, f1] at u1 u2
 exact ⟨u1, u2⟩
theorem num_len (k : Nat) : (numL k).length = k + 1 := by simp [numL]
theorem num_app {k : Nat} : numL k ++ [⟨12, 0, 0, ⟨#[]⟩⟩] = numL (k + 1) := by
 unfold numL
 rw [List.replicate_succ']
 rfl
theorem rec_app {k : Nat} : ([(⟨10, 0, 0, ⟨#[]⟩⟩ : Nd), ⟨11, 0, 0, ⟨#[]⟩⟩, ⟨0, 0, 0, ⟨#[]⟩⟩, ⟨12, 0, 0, ⟨#[]⟩⟩] ++ numL k) ++ [⟨13, 0, 0, ⟨#[]⟩⟩] = recL k := by
 simp [recL, ofL, numP]
theorem rep_app {j : Nat} : (List.replicate j (⟨12, 0, 0, ⟨#[]⟩⟩ : Nd)) ++ [⟨12, 0, 0, ⟨#[]⟩⟩] = List.replicate (j + 1) ⟨12, 0, 0, ⟨#[]⟩⟩ := List.replicate_succ'.symm
theorem rec_sml (k : Nat) : sml (recL k) := by
 rw [← rec_app, sml_mem]
 intro n hn
 simp only [numL, List.mem_append, List.mem_cons, List.not_mem_nil, or_false, List.mem_replicate] at hn
 rcases hn with ((rfl | rfl | rfl | rfl) | (rfl | ⟨_, rfl⟩)) | rfl <;> decide
theorem rec_root {p : List Nd} : (nth (p ++ [⟨12, 0, 0, ⟨#[]⟩⟩]) ((p ++ [(⟨12, 0, 0, ⟨#[]⟩⟩ : Nd)]).length - 1)).K = 12 := by simp [nth]
theorem rec_step {m : Nat} (h0 : 0 < m) (h : m ≤ 41) : urE (recL m) = 0 ∧ urA (recL m) = recL (m - 1) ++ [⟨12, 0, 0, ⟨#[]⟩⟩] ∧ (urA (recL m)).length = m + 6 ∧ (nth (recL m) ((recL m).length - 1)).K = 13 ∧ (recL m).length = m + 6 := by
 obtain ⟨k, rfl⟩ : ∃ k, m = k + 1 := ⟨m - 1, by omega⟩
 obtain ⟨a, b⟩ := rec_succ (k := k) (by omega)
 obtain ⟨_, _, h3, h4⟩ := rec_ok (k := k + 1) (by omega)
 obtain ⟨_, _, _, h5⟩ := rec_ok (k := k) (by omega)
 refine ⟨a, b, ?_, by rw [h3], h4⟩
 rw [b, List.length_append, h5]
 rfl
theorem rec_cut {m : Nat} {u : List Nd} (h : u = recL (m - 1) ++ [⟨12, 0, 0, ⟨#[]⟩⟩]) : u.take (u.length - 1) = recL (m - 1) := by
 rw [h]
 simp
theorem zero_stuck : urE [⟨11, 0, 0, ⟨#[]⟩⟩] = 120 ∧ urA [⟨11, 0, 0, ⟨#[]⟩⟩] = [] := ur_neg small_ok.2.1 (by decide)
theorem rec_end {m : Nat} (h0 : m = 0) : urE (recL m) = 0 ∧ urA (recL m) = [⟨11, 0, 0, ⟨#[]⟩⟩] ∧ urE (urA (recL m)) = 120 ∧ (nth (recL m) ((recL m).length - 1)).K = 13 ∧ (recL m).length = 6 ∧ (urA (recL m)).length = 1 ∧ sml (urA (recL m)) := by
 subst h0
 obtain ⟨_, _, h3, h4⟩ := rec_ok (k := 0) (by omega)
 refine ⟨rec_zero.1, rec_zero.2, by rw [rec_zero.2]; exact zero_stuck.1, by rw [h3], h4, by rw [rec_zero.2]; rfl, ?_⟩
 rw [rec_zero.2, sml_mem]
 decide
end Go.Proofs.YtcfponnkfhkbdaaDoor
/- Contracts of functions, one theorem each: what the call returns, and that nothing old is changed. Printed by gen.py. -/
namespace Go.Proofs.YtcfponnkfhkbdaaDoor
open Go Go.RowKit
set_option linter.unusedSimpArgs false
set_option linter.unusedVariables false
set_option maxRecDepth 100000 in
set_option maxHeartbeats 1000000 in
theorem rroot_calls (w0 : World) (Z : Nat → Prop) (hZ : ∀ k, Z k → k < w0.heap.size) (tA : Option Addr) (tc : Nat) (t : List Nd) (ht : (dRow 4 tA t.length tc (encNs t)).φ w0 Z) (hl : t.length ≤ 1000000 := by first | assumption | omega | (simp; done) | (simp; omega)) (h0 : 0 < t.length := by first | assumption | omega | (simp; done) | (simp; omega)) :
    Calls Tryd.prog 23 [.slice tA t.length tc].toArray w0 (fun e w' => e = .returned (.agg #[.int .i64 (((nth t (t.length - 1)).K)), .int .i64 (((nth t (t.length - 1)).N)), .int .i64 (((nth t (t.length - 1)).M)), .string ((nth t (t.length - 1)).S)]) ∧ Fr none_ w0 w') := by
 have b0 := s0 (M := none_) hZ (zc ht zn)
 refine c_enter Tryd.func23 rfl Tryd.ntmps23 rfl (fun c0 d0 => ?_)
 refine wsc (fun c0 f0 => ?_)
 refine m_alloc (cs := [.int .i64 0, .int .i64 0, .int .i64 0, .string (⟨#[]⟩ : ByteArray)]) sv d0 b0 rfl rfl ze39 rfl (by decide) (fun c0 i0 j0 k0 m0 => ?_)
 refine wpList_nil (x_then_n (f0 _ _ ?_))
 refine wsc (fun f0 j0 => ?_)
 refine mv k0 (fun f0 i0 => ?_)
 refine mv i0 (fun f0 k0 => ?_)
 refine r_len sv k0 rfl rfl rfl rfl Tryd.underlying22 (by decide) (fun f0 i0 => ?_)
 refine r_sub (z := (((t.length : Nat) : Int) - 1)) sv i0 rfl rfl rfl rfl (by decide) (by omega) (by omega) (by omega) (fun f0 k0 => ?_)
 refine m_index (i := (t.length) - (1)) (j := ((t.length) - (1)) * 4) sv k0 rfl rfl rfl rfl Tryd.underlying22 sz39 (by omega) (by omega) (nds_elem (t := t) (k := (t.length) - (1)) (m0.row (i := 0) rfl).2 (by omega)).some_ rfl (by decide) (fun f0 i0 => ?_)
 refine m_loadEN sv i0 rfl rfl rfl (nds_elem (t := t) (k := (t.length) - (1)) (m0.row (i := 0) rfl).2 (by omega)) Tryd.underlying39 rfl sz39 (by decide) (fun f0 k0 => ?_)
 refine m_store (i := 0) (cs' := [.int .i64 (((nth t ((t.length) - (1))).K)), .int .i64 (((nth t ((t.length) - (1))).N)), .int .i64 (((nth t ((t.length) - (1))).M)), .string ((nth t ((t.length) - (1))).S)]) se k0 m0 rfl rfl rfl rfl rfl sz39 rfl rfl rfl (fun f0 i0 c0 d0 => ?_)
 refine wpList_nil (x_then_n (j0 _ _ ?_))
 refine wp_ret ?_
 refine e_cell (i := 0) (vs := [.int .i64 (((nth t ((t.length) - (1))).K)), .int .i64 (((nth t ((t.length) - (1))).N)), .int .i64 (((nth t ((t.length) - (1))).M)), .string ((nth t ((t.length) - (1))).S)]) (.inl rfl) c0 d0 rfl rfl rfl rfl Tryd.underlying39 rfl sz39 ?_
 refine ⟨?_, d0.fr⟩
 exact congrArg Ending.returned rfl
end Go.Proofs.YtcfponnkfhkbdaaDoor
/- Contracts of functions, one theorem each: what the call returns, and that nothing old is changed. Printed by gen.py. -/
namespace Go.Proofs.YtcfponnkfhkbdaaDoor
open Go Go.RowKit
set_option linter.unusedSimpArgs false
set_option linter.unusedVariables false
set_option maxRecDepth 100000 in
set_option maxHeartbeats 1000000 in
theorem unfoldNumbers_calls (w0 : World) (Z : Nat → Prop) (hZ : ∀ k, Z k → k < w0.heap.size) (n : Nat) (hShp : Shapes w0 Z) (hn : n < 256 := by first | assumption | omega | (simp; done) | (simp; omega)) :
    Calls Tryd.prog 5 [.int .u8 ((n : Nat) : Int)].toArray w0 (fun e w' => e = .returned (.bool (true)) ∧ Fr none_ w0 w') := by
 have b0 := s0 (M := none_) hZ (zc (d := dShapes) hShp zn)
 refine c_enter Tryd.func5 rfl Tryd.ntmps5 rfl (fun c0 d0 => ?_)
 refine wsc (fun c0 f0 => ?_)
 refine asg d0 (fun c0 h0 => ?_)
 refine wpList_nil (x_then_n (f0 _ _ ?_))
 refine wp_seq_k (fun f0 c0 => ?_)
 refine wsc (fun f0 d0 => ?_)
 have f0 := b0.nf
 refine k_call (xs := []) se h0 rfl rfl rfl (by decide) ok12 (shown14_calls _ _ f0.il (f0.g 0)) ?_
 rintro h0 b0 ⟨rfl, i0⟩
 have b0 := f0.below i0.below
 refine ⟨_, rfl, fun i0 f0 => ?_⟩
 refine r_not sv f0 rfl rfl rfl (by decide) (fun i0 h0 => ?_)
 refine wpList_nil (x_then_n (d0 _ _ ?_))
 have d0 := h0.setb (d := 15) (b := false) rfl rfl
 refine wp_cond_false (d0.ev rfl) ?_
 refine wp_skip ?_
 refine x_then_n (c0 _ _ ?_)
 refine wsc (fun c0 h0 => ?_)
 refine m_build (ps := [(0, .const (.int .i64 11))]) (v := .agg #[.int .i64 11, .int .i64 0, .int .i64 0, .string (⟨#[]⟩ : ByteArray)]) sv d0 rfl rfl rfl (fun _ => by kernel_rfl) (by decide) (fun c0 i0 => ?_)
 refine mbs [(0, .tmp 16)] [.int .i64 11, .int .i64 0, .int .i64 0, .string (⟨#[]⟩ : ByteArray)] sv i0 b0 Tryd.underlying22 zi39 (fun c0 d0 f0 j0 k0 => ?_)
 refine asg j0 (fun d0 c0 => ?_)
 refine wpList_nil (x_then_n (h0 _ _ ?_))
 refine wp_seq_k (fun h0 d0 => ?_)
 refine wsc (fun h0 j0 => ?_)
 refine asg c0 (fun h0 i0 => ?_)
 refine wpList_nil (x_then_n (j0 _ _ ?_))
 refine wp_block ?_
 refine wp_loop_ghost (fun gn ga gw => ∃ k : Nat, ∃ nA : Option Addr, ∃ nc : Nat, (Reg ga 105 [(1000000, .bool false), (0, .int .u8 ((n : Nat) : Int)), (2, .bool false), (4, .int .i64 ((k : Nat) : Int)), (3, .slice nA ((numL k).length) nc)]) ∧ (St w0 Z none_ gw [.row nA ((numL k).length) nc 39 4 (encNs (numL k))] [dShapes]) ∧ (k ≤ n % 40) ∧ (n % 40 - k) = gn) _ ⟨0, (some ⟨f0, 0, none⟩), 1, (i0.sub (rc rfl (rc rfl (rc rfl (rc rfl (rc rfl rnl)))))), k0, by omega, rfl⟩ ?_
 rintro i0 k0 f0 ⟨k, nA, nc, j0, h0, hk, c0⟩
 have hnl := num_len k
 refine wp_seq_k (fun c0 f0 => ?_)
 refine wsc (fun c0 k0 => ?_)
 refine mv j0 (fun c0 i0 => ?_)
 refine mv i0 (fun c0 j0 => ?_)
 refine r_conv sv j0 rfl rfl rfl Tryd.underlying5 Tryd.underlying3 (by decide) (by omega) (by omega) (fun c0 i0 => ?_)
 refine r_rem (z := (((n) % 40 : Nat) : Int)) sv i0 rfl rfl rfl rfl (by decide) (tmod_nat (n) 40) (by decide) (fun c0 j0 => ?_)
 refine r_lss sv j0 rfl rfl rfl rfl (by decide) (fun c0 i0 => ?_)
 refine wpList_nil (x_then_n (k0 _ _ ?_))
 rcases Decidable.em (((k : Nat) : Int) < (((n) % 40 : Nat) : Int)) with k0 | k0
 ·
  have c0 := i0.setb (d := 22) (b := true) rfl (decide_eq_true k0)
  refine wp_cond_true (c0.ev rfl) ?_
  refine wp_skip ?_
  refine x_then_n (f0 _ _ ?_)
  refine wp_seq_k (fun f0 j0 => ?_)
  refine wp_block ?_
  refine c_region ?_
  refine mv c0 (fun f0 b0 => ?_)
  refine m_build (ps := [(0, .const (.int .i64 12))]) (v := .agg #[.int .i64 12, .int .i64 0, .int .i64 0, .string (⟨#[]⟩ : ByteArray)]) sv b0 rfl rfl rfl (fun _ => by kernel_rfl) (by decide) (fun f0 c0 => ?_)
  refine mbs [(0, .tmp 26)] [.int .i64 12, .int .i64 0, .int .i64 0, .string (⟨#[]⟩ : ByteArray)] sv c0 h0 Tryd.underlying22 zi39 (fun f0 b0 m0 n0 o0 => ?_)
  refine m_appendF (f := encN) (i := 0) (numL k) ([(⟨12, 0, 0, (⟨#[]⟩ : ByteArray)⟩ : Nd)]) sv n0 o0 rfl rfl rfl rfl rfl encN_len (encN_one _) Tryd.underlying22 zi39 rfl rfl (own_lnews (f := encN) (o0.res (i := 1) rfl)) rfl (by first | omega | (simp only [List.length_cons, List.length_nil]; omega)) (by decide) (fun m0 b0 f0 c0 p0 t0 u0 => ?_)
  have p0 : ((numL k) ++ ([(⟨12, 0, 0, (⟨#[]⟩ : ByteArray)⟩ : Nd)]) : List Nd).length = (numL k).length + 1 := by first | (simp only [List.length_append, List.length_take, List.length_cons, List.length_nil]; done) | (simp only [List.length_append, List.length_take, List.length_cons, List.length_nil]; omega)
  have p0 := u0.erase 1
  refine asg t0 (fun u0 b0 => ?_)
  refine wpList_nil ?_
  refine x_block_n ?_
  refine x_then_n (j0 _ _ ?_)
  refine c_region ?_
  refine mv b0 (fun j0 u0 => ?_)
  refine r_add (z := ((k + 1 : Nat) : Int)) sv u0 rfl rfl rfl rfl (by decide) (by omega) (by omega) (by omega) (fun j0 b0 => ?_)
  refine asg b0 (fun j0 u0 => ?_)
  refine wpList_nil ?_
  have j0 : (numL k) ++ ([(⟨12, 0, 0, (⟨#[]⟩ : ByteArray)⟩ : Nd)]) = numL (k + 1) := num_app
  have b0 := u0
  have u0 := p0
  rw [j0] at b0 u0
  exact ⟨_, by omega, k + 1, f0, c0, (b0.sub (rc rfl (rc rfl (rc rfl (rc rfl (rc rfl rnl)))))), u0, by omega, rfl⟩
 ·
  have u0 := i0.setb (d := 22) (b := false) rfl (decide_eq_false k0)
  refine wp_cond_false (u0.ev rfl) ?_
  refine wp_exit ?_
  refine x_then_e ?_
  refine x_then_e ?_
  refine x_block_eq ?_
  refine x_then_n (d0 _ _ ?_)
  refine wsc (fun d0 i0 => ?_)
  refine m_build (ps := [(0, .const (.int .i64 10))]) (v := .agg #[.int .i64 10, .int .i64 0, .int .i64 0, .string (⟨#[]⟩ : ByteArray)]) sv u0 rfl rfl rfl (fun _ => by kernel_rfl) (by decide) (fun d0 b0 => ?_)
  refine m_build (ps := [(0, .const (.int .i64 11))]) (v := .agg #[.int .i64 11, .int .i64 0, .int .i64 0, .string (⟨#[]⟩ : ByteArray)]) sv b0 rfl rfl rfl (fun _ => by kernel_rfl) (by decide) (fun d0 u0 => ?_)
  refine m_build (ps := [(0, .const (.int .i64 0)), (1, .const (.int .i64 0))]) (v := .agg #[.int .i64 0, .int .i64 0, .int .i64 0, .string (⟨#[]⟩ : ByteArray)]) sv u0 rfl rfl rfl (fun _ => by kernel_rfl) (by decide) (fun d0 b0 => ?_)
  refine m_build (ps := [(0, .const (.int .i64 12))]) (v := .agg #[.int .i64 12, .int .i64 0, .int .i64 0, .string (⟨#[]⟩ : ByteArray)]) sv b0 rfl rfl rfl (fun _ => by kernel_rfl) (by decide) (fun d0 u0 => ?_)
  refine mbs [(0, .tmp 29), (1, .tmp 30), (2, .tmp 31), (3, .tmp 32)] [.int .i64 10, .int .i64 0, .int .i64 0, .string (⟨#[]⟩ : ByteArray), .int .i64 11, .int .i64 0, .int .i64 0, .string (⟨#[]⟩ : ByteArray), .int .i64 0, .int .i64 0, .int .i64 0, .string (⟨#[]⟩ : ByteArray), .int .i64 12, .int .i64 0, .int .i64 0, .string (⟨#[]⟩ : ByteArray)] sv u0 h0 Tryd.underlying22 zi39 (fun d0 b0 c0 f0 j0 => ?_)
  refine asg f0 (fun c0 b0 => ?_)
  refine wpList_nil (x_then_n (i0 _ _ ?_))
  refine wsc (fun i0 c0 => ?_)
  refine mv b0 (fun i0 f0 => ?_)
  refine mv f0 (fun i0 b0 => ?_)
  refine m_appendF (f := encN) (i := 1) ([(⟨10, 0, 0, (⟨#[]⟩ : ByteArray)⟩ : Nd), (⟨11, 0, 0, (⟨#[]⟩ : ByteArray)⟩ : Nd), (⟨0, 0, 0, (⟨#[]⟩ : ByteArray)⟩ : Nd), (⟨12, 0, 0, (⟨#[]⟩ : ByteArray)⟩ : Nd)]) (numL k) sv b0 j0 rfl rfl rfl rfl rfl encN_len (encN_one _) Tryd.underlying22 zi39 rfl rfl (own_lnews (f := encN) (j0.res (i := 0) rfl)) rfl (by first | omega | (simp only [List.length_cons, List.length_nil]; omega)) (by decide) (fun i0 f0 d0 u0 h0 p0 t0 => ?_)
  have h0 : (([(⟨10, 0, 0, (⟨#[]⟩ : ByteArray)⟩ : Nd), (⟨11, 0, 0, (⟨#[]⟩ : ByteArray)⟩ : Nd), (⟨0, 0, 0, (⟨#[]⟩ : ByteArray)⟩ : Nd), (⟨12, 0, 0, (⟨#[]⟩ : ByteArray)⟩ : Nd)]) ++ (numL k) : List Nd).length = (numL k).length + 4 := by first | (simp only [List.length_append, List.length_take, List.length_cons, List.length_nil]; done) | (simp only [List.length_append, List.length_take, List.length_cons, List.length_nil]; omega)
  have h0 := t0.erase 0
  refine asg p0 (fun t0 u0 => ?_)
  refine wpList_nil (x_then_n (c0 _ _ ?_))
  refine wsc (fun c0 t0 => ?_)
  refine mv u0 (fun c0 p0 => ?_)
  refine m_build (ps := [(0, .const (.int .i64 13))]) (v := .agg #[.int .i64 13, .int .i64 0, .int .i64 0, .string (⟨#[]⟩ : ByteArray)]) sv p0 rfl rfl rfl (fun _ => by kernel_rfl) (by decide) (fun c0 u0 => ?_)
  refine mbs [(0, .tmp 38)] [.int .i64 13, .int .i64 0, .int .i64 0, .string (⟨#[]⟩ : ByteArray)] sv u0 h0 Tryd.underlying22 zi39 (fun c0 p0 d0 f0 i0 => ?_)
  refine m_appendF (f := encN) (i := 0) (([(⟨10, 0, 0, (⟨#[]⟩ : ByteArray)⟩ : Nd), (⟨11, 0, 0, (⟨#[]⟩ : ByteArray)⟩ : Nd), (⟨0, 0, 0, (⟨#[]⟩ : ByteArray)⟩ : Nd), (⟨12, 0, 0, (⟨#[]⟩ : ByteArray)⟩ : Nd)]) ++ (numL k)) ([(⟨13, 0, 0, (⟨#[]⟩ : ByteArray)⟩ : Nd)]) sv f0 i0 rfl rfl rfl rfl rfl encN_len (encN_one _) Tryd.underlying22 zi39 rfl rfl (own_lnews (f := encN) (i0.res (i := 1) rfl)) rfl (by first | omega | (simp only [List.length_cons, List.length_nil]; omega)) (by decide) (fun d0 p0 c0 u0 h0 b0 j0 => ?_)
  have h0 : ((([(⟨10, 0, 0, (⟨#[]⟩ : ByteArray)⟩ : Nd), (⟨11, 0, 0, (⟨#[]⟩ : ByteArray)⟩ : Nd), (⟨0, 0, 0, (⟨#[]⟩ : ByteArray)⟩ : Nd), (⟨12, 0, 0, (⟨#[]⟩ : ByteArray)⟩ : Nd)]) ++ (numL k)) ++ ([(⟨13, 0, 0, (⟨#[]⟩ : ByteArray)⟩ : Nd)]) : List Nd).length = (([(⟨10, 0, 0, (⟨#[]⟩ : ByteArray)⟩ : Nd), (⟨11, 0, 0, (⟨#[]⟩ : ByteArray)⟩ : Nd), (⟨0, 0, 0, (⟨#[]⟩ : ByteArray)⟩ : Nd), (⟨12, 0, 0, (⟨#[]⟩ : ByteArray)⟩ : Nd)]) ++ (numL k) : List Nd).length + 1 := by first | (simp only [List.length_append, List.length_take, List.length_cons, List.length_nil]; done) | (simp only [List.length_append, List.length_take, List.length_cons, List.length_nil]; omega)
  have h0 := j0.erase 1
  refine asg b0 (fun j0 p0 => ?_)
  refine wpList_nil (x_then_n (t0 _ _ ?_))
  refine wsc (fun t0 j0 => ?_)
  refine mbs [] [] sv p0 h0 Tryd.underlying22 zi39 (fun t0 b0 d0 i0 f0 => ?_)
  refine asg i0 (fun b0 t0 => ?_)
  refine wpList_nil (x_then_n (j0 _ _ ?_))
  refine wp_seq_k (fun j0 b0 => ?_)
  refine wsc (fun j0 i0 => ?_)
  refine asg t0 (fun j0 p0 => ?_)
  refine wpList_nil (x_then_n (i0 _ _ ?_))
  refine wp_block ?_
  have i0 := own_cap (f0.res (i := 0) rfl)
  obtain ⟨j0, t0⟩ := f0.row_data (i := 0) rfl (fun _ h => h)
  have f0 := j0.data (dRow 4 c0 (((([(⟨10, 0, 0, (⟨#[]⟩ : ByteArray)⟩ : Nd), (⟨11, 0, 0, (⟨#[]⟩ : ByteArray)⟩ : Nd), (⟨0, 0, 0, (⟨#[]⟩ : ByteArray)⟩ : Nd), (⟨12, 0, 0, (⟨#[]⟩ : ByteArray)⟩ : Nd)]) ++ (numL k)) ++ ([(⟨13, 0, 0, (⟨#[]⟩ : ByteArray)⟩ : Nd)]) : List Nd).length) u0 (encNs ((([(⟨10, 0, 0, (⟨#[]⟩ : ByteArray)⟩ : Nd), (⟨11, 0, 0, (⟨#[]⟩ : ByteArray)⟩ : Nd), (⟨0, 0, 0, (⟨#[]⟩ : ByteArray)⟩ : Nd), (⟨12, 0, 0, (⟨#[]⟩ : ByteArray)⟩ : Nd)]) ++ (numL k)) ++ ([(⟨13, 0, 0, (⟨#[]⟩ : ByteArray)⟩ : Nd)])))) ⟨i0, t0⟩
  have t0 : (([(⟨10, 0, 0, (⟨#[]⟩ : ByteArray)⟩ : Nd), (⟨11, 0, 0, (⟨#[]⟩ : ByteArray)⟩ : Nd), (⟨0, 0, 0, (⟨#[]⟩ : ByteArray)⟩ : Nd), (⟨12, 0, 0, (⟨#[]⟩ : ByteArray)⟩ : Nd)]) ++ (numL k)) ++ ([(⟨13, 0, 0, (⟨#[]⟩ : ByteArray)⟩ : Nd)]) = recL (n % 40) := by rw [show n % 40 = k by omega]; exact rec_app
  have j0 := p0
  have p0 := f0
  rw [t0] at j0 p0
  refine wp_loop_ghost (fun gn ga gw => ∃ j : Nat, ∃ tA : Option Addr, ∃ tc : Nat, ∃ uA : Option Addr, ∃ uc : Nat, (Reg ga 105 [(1000000, .bool false), (0, .int .u8 ((n : Nat) : Int)), (7, .int .i64 ((j : Nat) : Int)), (5, .slice tA ((recL (n % 40 - j)).length) tc), (6, .slice uA ((List.replicate j (⟨12, 0, 0, ⟨#[]⟩⟩ : Nd)).length) uc)]) ∧ (St w0 Z none_ gw [.row uA ((List.replicate j (⟨12, 0, 0, ⟨#[]⟩⟩ : Nd)).length) uc 39 4 (encNs (List.replicate j (⟨12, 0, 0, ⟨#[]⟩⟩ : Nd)))] [dShapes, dRow 4 tA ((recL (n % 40 - j)).length) tc (encNs (recL (n % 40 - j)))]) ∧ (j ≤ n % 40) ∧ (n % 40 - j) = gn) _ ⟨0, c0, u0, (some ⟨d0, 0, none⟩), 0, (j0.sub (rc rfl (rc rfl (rc rfl (rc rfl (rc rfl rnl)))))), p0, by omega, rfl⟩ ?_
  rintro p0 j0 d0 ⟨j, tA, tc, uA, uc, u0, c0, hj, t0⟩
  have hrl : (List.replicate j (⟨12, 0, 0, ⟨#[]⟩⟩ : Nd)).length = j := List.length_replicate
  refine wp_seq_k (fun t0 d0 => ?_)
  refine wsc (fun t0 j0 => ?_)
  refine mv u0 (fun t0 p0 => ?_)
  refine mv p0 (fun t0 u0 => ?_)
  refine r_conv sv u0 rfl rfl rfl Tryd.underlying5 Tryd.underlying3 (by decide) (by omega) (by omega) (fun t0 p0 => ?_)
  refine r_rem (z := (((n) % 40 : Nat) : Int)) sv p0 rfl rfl rfl rfl (by decide) (tmod_nat (n) 40) (by decide) (fun t0 u0 => ?_)
  refine r_lss sv u0 rfl rfl rfl rfl (by decide) (fun t0 p0 => ?_)
  refine wpList_nil (x_then_n (j0 _ _ ?_))
  rcases Decidable.em (((j : Nat) : Int) < (((n) % 40 : Nat) : Int)) with j0 | j0
  ·
   obtain ⟨hz1, hz2, hz3, hz4, hz5⟩ := rec_step (m := n % 40 - j) (by omega) (by omega)
   have t0 := p0.setb (d := 46) (b := true) rfl (decide_eq_true j0)
   refine wp_cond_true (t0.ev rfl) ?_
   refine wp_skip ?_
   refine x_then_n (d0 _ _ ?_)
   refine wp_seq_k (fun d0 u0 => ?_)
   refine wp_block ?_
   refine wsc (fun d0 f0 => ?_)
   refine mv t0 (fun d0 i0 => ?_)
   have d0 := c0.nf
   refine k_call (xs := [.tmp 50, .const (.slice none 0 0)]) se i0 rfl rfl rfl (by decide) ok13 (urule0_calls _ _ d0.il _ _ (recL (n % 40 - j)) (d0.g 0) (d0.g 1) (hsm := (by first | exact rec_sml _ | exact hz7)) (hl := (by omega)) (h27 := (by first | (rw [hz4]; decide) | (rw [hz2]; decide)))) ?_
   rintro i0 t0 ⟨h0, m0, rfl, o0, n0⟩
   have m0 := d0.below o0.below
   have o0 := d0.dN m0 n0
   refine ⟨_, rfl, fun m0 n0 => ?_⟩
   refine mv n0 (fun m0 d0 => ?_)
   refine r_extract sv d0 rfl rfl rfl rfl (by decide) (fun m0 n0 => ?_)
   refine r_extract sv n0 rfl rfl rfl rfl (by decide) (fun m0 d0 => ?_)
   refine asg d0 (fun m0 n0 => ?_)
   refine asg n0 (fun m0 d0 => ?_)
   refine wpList_nil (x_then_n (f0 _ _ ?_))
   refine wp_seq_k (fun f0 m0 => ?_)
   refine wsc (fun f0 n0 => ?_)
   refine mv d0 (fun f0 h0 => ?_)
   refine r_neq sv h0 rfl rfl rfl rfl (by decide) (fun f0 d0 => ?_)
   refine mv d0 (fun f0 h0 => ?_)
   have f0 : ((urE (recL (n % 40 - j)))) = 0 := hz1
   have d0 := h0.setb (d := 56) (b := false) rfl (by rw [(decide_eq_true f0)]; rfl)
   refine r_move (st_listV_w (wt d0)) d0 rfl rfl rfl (by decide) (fun f0 h0 => ?_)
   have f0 := o0.nf
   refine k_call (xs := [.tmp 57]) (st_list_w (wt h0)) h0 rfl rfl rfl (by decide) ok23 (rroot_calls _ _ f0.il _ _ (urA (recL (n % 40 - j))) (f0.g 2)) ?_
   rintro h0 o0 ⟨rfl, d0⟩
   have o0 := f0.below d0.below
   refine ⟨_, rfl, fun d0 f0 => ?_⟩
   refine m_fieldV (v := .int .i64 (((nth (urA (recL (n % 40 - j))) ((urA (recL (n % 40 - j))).length - 1)).K))) (st_listV_w (wt f0)) f0 rfl rfl rfl (fun _ => by kernel_rfl) (by decide) (fun d0 h0 => ?_)
   refine r_neq (st_listV_w (wt h0)) h0 rfl rfl rfl rfl (by decide) (fun d0 f0 => ?_)
   refine r_pick_f sv f0 rfl rfl rfl rfl (by decide) (fun d0 h0 => ?_)
   refine wpList_nil (x_then_n (n0 _ _ ?_))
   have n0 : (((nth (urA (recL (n % 40 - j))) ((urA (recL (n % 40 - j))).length - 1)).K)) = 12 := (by rw [hz2]; exact rec_root)
   have d0 := h0.setb (d := 61) (b := false) rfl (by rw [(decide_eq_true n0)]; rfl)
   refine wp_cond_false (d0.ev rfl) ?_
   refine wp_skip ?_
   refine x_then_n (m0 _ _ ?_)
   refine wsc (fun m0 n0 => ?_)
   refine mv d0 (fun m0 h0 => ?_)
   refine mv h0 (fun m0 d0 => ?_)
   refine r_len sv d0 rfl rfl rfl rfl Tryd.underlying22 (by decide) (fun m0 h0 => ?_)
   refine r_sub (z := ((((urA (recL (n % 40 - j))).length : Nat) : Int) - 1)) sv h0 rfl rfl rfl rfl (by decide) (by omega) (by omega) (by omega) (fun m0 d0 => ?_)
   refine m_sliceD (f := encN) (lo := none) (hi := some (.tmp 65)) (vlo := none) (vhi := (some (.int .i64 ((((urA (recL (n % 40 - j))).length : Nat) : Int) - 1)))) (kd := .i64) (kd' := .i64) sv d0 rfl rfl rfl rfl rfl (0) (((urA (recL (n % 40 - j))).length) - (1)) (.inr ⟨rfl, rfl⟩) (.inl (by congr 2; omega)) ((urA (recL (n % 40 - j))).take (((urA (recL (n % 40 - j))).length) - (1))) (by simp) encN_len (o0.row (i := 2) rfl) Tryd.underlying22 sz39 (by omega) (by decide) (fun m0 h0 f0 t0 i0 => ?_)
   have m0 : ((urA (recL (n % 40 - j))).take (((urA (recL (n % 40 - j))).length) - (1))).length = ((urA (recL (n % 40 - j))).length) - (1) := by first | (simp only [List.length_drop, List.length_take]; done) | (simp only [List.length_drop, List.length_take]; omega)
   have m0 := o0.data (dRow 4 h0 (((urA (recL (n % 40 - j))).take (((urA (recL (n % 40 - j))).length) - (1))).length) f0 (encNs ((urA (recL (n % 40 - j))).take (((urA (recL (n % 40 - j))).length) - (1))))) t0
   refine asg i0 (fun t0 o0 => ?_)
   refine wpList_nil (x_then_n (n0 _ _ (c_region ?_)))
   refine mv o0 (fun n0 t0 => ?_)
   refine m_build (ps := [(0, .const (.int .i64 12))]) (v := .agg #[.int .i64 12, .int .i64 0, .int .i64 0, .string (⟨#[]⟩ : ByteArray)]) sv t0 rfl rfl rfl (fun _ => by kernel_rfl) (by decide) (fun n0 o0 => ?_)
   refine mbs [(0, .tmp 68)] [.int .i64 12, .int .i64 0, .int .i64 0, .string (⟨#[]⟩ : ByteArray)] sv o0 m0 Tryd.underlying22 zi39 (fun n0 t0 i0 d0 v0 => ?_)
   refine m_appendF (f := encN) (i := 0) (List.replicate j (⟨12, 0, 0, ⟨#[]⟩⟩ : Nd)) ([(⟨12, 0, 0, (⟨#[]⟩ : ByteArray)⟩ : Nd)]) sv d0 v0 rfl rfl rfl rfl rfl encN_len (encN_one _) Tryd.underlying22 zi39 rfl rfl (own_lnews (f := encN) (v0.res (i := 1) rfl)) rfl (by first | omega | (simp only [List.length_cons, List.length_nil]; omega)) (by decide) (fun i0 t0 n0 o0 m0 x0 y0 => ?_)
   have m0 : ((List.replicate j (⟨12, 0, 0, ⟨#[]⟩⟩ : Nd)) ++ ([(⟨12, 0, 0, (⟨#[]⟩ : ByteArray)⟩ : Nd)]) : List Nd).length = (List.replicate j (⟨12, 0, 0, ⟨#[]⟩⟩ : Nd)).length + 1 := by first | (simp only [List.length_append, List.length_take, List.length_cons, List.length_nil]; done) | (simp only [List.length_append, List.length_take, List.length_cons, List.length_nil]; omega)
   have m0 := y0.erase 1
   refine asg x0 (fun y0 t0 => ?_)
   refine wpList_nil ?_
   refine x_block_n ?_
   refine x_then_n (u0 _ _ ?_)
   refine c_region ?_
   refine mv t0 (fun u0 y0 => ?_)
   refine r_add (z := ((j + 1 : Nat) : Int)) sv y0 rfl rfl rfl rfl (by decide) (by omega) (by omega) (by omega) (fun u0 t0 => ?_)
   refine asg t0 (fun u0 y0 => ?_)
   refine wpList_nil ?_
   have u0 : (urA (recL (n % 40 - j))).take (((urA (recL (n % 40 - j))).length) - (1)) = recL (n % 40 - (j + 1)) := rec_cut hz2
   have t0 := y0
   have y0 := m0
   rw [u0] at t0 y0
   have u0 : (List.replicate j (⟨12, 0, 0, ⟨#[]⟩⟩ : Nd)) ++ ([(⟨12, 0, 0, (⟨#[]⟩ : ByteArray)⟩ : Nd)]) = List.replicate (j + 1) (⟨12, 0, 0, ⟨#[]⟩⟩ : Nd) := rep_app
   have m0 := t0
   have t0 := y0
   rw [u0] at m0 t0
   have u0 := t0.forget 2
   have t0 := u0.forget 1
   exact ⟨_, by omega, j + 1, h0, f0, n0, o0, (m0.sub (rc rfl (rc rfl (rc rfl (rc rfl (rc rfl rnl)))))), t0, by omega, rfl⟩
  ·
   obtain ⟨hz1, hz2, hz3, hz4, hz5, hz6, hz7⟩ := rec_end (m := n % 40 - j) (by omega)
   have t0 := p0.setb (d := 46) (b := false) rfl (decide_eq_false j0)
   refine wp_cond_false (t0.ev rfl) ?_
   refine wp_exit ?_
   refine x_then_e ?_
   refine x_then_e ?_
   refine x_block_eq ?_
   refine x_then_n (b0 _ _ ?_)
   refine wsc (fun b0 p0 => ?_)
   refine mv t0 (fun b0 m0 => ?_)
   have b0 := c0.nf
   refine k_call (xs := [.tmp 72, .const (.slice none 0 0)]) se m0 rfl rfl rfl (by decide) ok13 (urule0_calls _ _ b0.il _ _ (recL (n % 40 - j)) (b0.g 0) (b0.g 1) (hsm := (by first | exact rec_sml _ | exact hz7)) (hl := (by omega)) (h27 := (by first | (rw [hz4]; decide) | (rw [hz2]; decide)))) ?_
   rintro m0 c0 ⟨t0, o0, rfl, n0, f0⟩
   have o0 := b0.below n0.below
   have n0 := b0.dN o0 f0
   refine ⟨_, rfl, fun o0 f0 => ?_⟩
   refine mv f0 (fun o0 b0 => ?_)
   refine r_extract sv b0 rfl rfl rfl rfl (by decide) (fun o0 f0 => ?_)
   refine r_extract sv f0 rfl rfl rfl rfl (by decide) (fun o0 b0 => ?_)
   refine asg b0 (fun o0 f0 => ?_)
   refine asg f0 (fun o0 b0 => ?_)
   refine wpList_nil (x_then_n (p0 _ _ ?_))
   refine wp_seq_k (fun p0 o0 => ?_)
   refine wsc (fun p0 f0 => ?_)
   refine mv b0 (fun p0 t0 => ?_)
   refine r_neq sv t0 rfl rfl rfl rfl (by decide) (fun p0 b0 => ?_)
   refine mv b0 (fun p0 t0 => ?_)
   have p0 : ((urE (recL (n % 40 - j)))) = 0 := hz1
   have b0 := t0.setb (d := 78) (b := false) rfl (by rw [(decide_eq_true p0)]; rfl)
   refine r_move (st_listV_w (wt b0)) b0 rfl rfl rfl (by decide) (fun t0 c0 => ?_)
   refine r_len (st_listV_w (wt c0)) c0 rfl rfl rfl rfl Tryd.underlying22 (by decide) (fun t0 b0 => ?_)
   refine r_neq (st_listV_w (wt b0)) b0 rfl rfl rfl rfl (by decide) (fun t0 c0 => ?_)
   refine r_pick_f sv c0 rfl rfl rfl rfl (by decide) (fun t0 b0 => ?_)
   refine mv b0 (fun t0 c0 => ?_)
   have t0 : (((urA (recL (n % 40 - j))).length : Nat) : Int) = 1 := (by rw [hz2]; rfl)
   have b0 := c0.setb (d := 83) (b := false) rfl (by rw [(decide_eq_true t0)]; rfl)
   refine r_move (st_listV_w (wt b0)) b0 rfl rfl rfl (by decide) (fun c0 m0 => ?_)
   refine m_index (i := 0) (j := 0 * 4) (st_listV_w (wt m0)) m0 rfl rfl rfl rfl Tryd.underlying22 sz39 (by omega) (by omega) (nds_elem (t := urA (recL (n % 40 - j))) (k := 0) (n0.row (i := 2) rfl).2 (by omega)).some_ rfl (by decide) (fun c0 b0 => ?_)
   refine m_fieldE (j' := 0 * 4) (st_listV_w (wt b0)) b0 rfl rfl rfl (nds_elem (t := urA (recL (n % 40 - j))) (k := 0) (n0.row (i := 2) rfl).2 (by omega)).some_ Tryd.underlying39 rfl sz3 rfl rfl (by decide) (fun c0 m0 => ?_)
   refine m_loadE (st_listV_w (wt m0)) m0 rfl rfl rfl 0 (0 * 4) (nds_elem (t := urA (recL (n % 40 - j))) (k := 0) (n0.row (i := 2) rfl).2 (by omega)) rfl rfl Tryd.underlying3 rfl (by decide) (fun c0 b0 => ?_)
   refine r_neq (st_listV_w (wt b0)) b0 rfl rfl rfl rfl (by decide) (fun c0 m0 => ?_)
   refine r_pick_f sv m0 rfl rfl rfl rfl (by decide) (fun c0 b0 => ?_)
   refine wpList_nil (x_then_n (f0 _ _ ?_))
   have f0 : (((nth (urA (recL (n % 40 - j))) 0).K)) = 11 := (by rw [hz2]; rfl)
   have c0 := b0.setb (d := 89) (b := false) rfl (by rw [(decide_eq_true f0)]; rfl)
   refine wp_cond_false (c0.ev rfl) ?_
   refine wp_skip ?_
   refine x_then_n (o0 _ _ ?_)
   refine wsc (fun o0 b0 => ?_)
   refine mv c0 (fun o0 m0 => ?_)
   have o0 := n0.nf
   refine k_call (xs := [.tmp 91, .const (.slice none 0 0)]) se m0 rfl rfl rfl (by decide) ok13 (urule0_calls _ _ o0.il _ _ (urA (recL (n % 40 - j))) (o0.g 0) (o0.g 2) (hsm := (by first | exact rec_sml _ | exact hz7)) (hl := (by omega)) (h27 := (by first | (rw [hz4]; decide) | (rw [hz2]; decide)))) ?_
   rintro m0 n0 ⟨c0, h0, rfl, u0, y0⟩
   have h0 := o0.below u0.below
   have u0 := o0.dN h0 y0
   refine ⟨_, rfl, fun h0 y0 => ?_⟩
   refine mv y0 (fun h0 o0 => ?_)
   refine r_extract sv o0 rfl rfl rfl rfl (by decide) (fun h0 y0 => ?_)
   refine r_extract sv y0 rfl rfl rfl rfl (by decide) (fun h0 o0 => ?_)
   refine asg o0 (fun h0 y0 => ?_)
   refine asg y0 (fun h0 o0 => ?_)
   refine wpList_nil (x_then_n (b0 _ _ ?_))
   refine wsc (fun b0 h0 => ?_)
   refine mv o0 (fun b0 y0 => ?_)
   refine r_eql sv y0 rfl rfl rfl rfl (by decide) (fun b0 o0 => ?_)
   refine mv o0 (fun b0 y0 => ?_)
   have b0 : ((urE (urA (recL (n % 40 - j))))) = 120 := hz3
   have o0 := y0.setb (d := 97) (b := true) rfl (decide_eq_true b0)
   refine r_move (st_listV_w (wt o0)) o0 rfl rfl rfl (by decide) (fun y0 c0 => ?_)
   refine r_len (st_listV_w (wt c0)) c0 rfl rfl rfl rfl Tryd.underlying22 (by decide) (fun y0 o0 => ?_)
   refine r_move (st_listV_w (wt o0)) o0 rfl rfl rfl (by decide) (fun y0 c0 => ?_)
   refine r_conv (st_listV_w (wt c0)) c0 rfl rfl rfl Tryd.underlying5 Tryd.underlying3 (by decide) (by omega) (by omega) (fun y0 o0 => ?_)
   refine r_rem (z := (((n) % 40 : Nat) : Int)) (st_listV_w (wt o0)) o0 rfl rfl rfl rfl (by decide) (tmod_nat (n) 40) (by decide) (fun y0 c0 => ?_)
   refine r_eql (st_listV_w (wt c0)) c0 rfl rfl rfl rfl (by decide) (fun y0 o0 => ?_)
   refine r_pick_t sv o0 rfl rfl rfl rfl (by decide) (fun y0 c0 => ?_)
   refine asg c0 (fun y0 o0 => ?_)
   refine wpList_nil (x_then_n (h0 _ _ ?_))
   refine wp_ret ?_
   refine e_ret1 o0 rfl rfl rfl ?_
   refine ⟨?_, u0.fr⟩
   exact congrArg Ending.returned (ret_b (by first | rfl | omega | assumption | exact decide_eq_true (by assumption) | (have u0 := k0; (try simp at u0); have o0 := j0; (try simp at o0); have h0 := p0; (try simp at h0); have y0 := t0; (try simp at y0); have c0 := f0; (try simp at c0); have n0 := b0; (try simp at n0);  omega) | (simp [k0, j0, p0, t0, f0, b0]; done) | (simp [] at *; done) | (simp [k0, j0, p0, t0, f0, b0] <;> omega) | (rw [Bool.eq_iff_iff]; simp [k0, j0, p0, t0, f0, b0] <;> omega) | (rw [Bool.eq_iff_iff]; simp [k0, j0, p0, t0, f0, b0] at * <;> omega)))
end Go.Proofs.YtcfponnkfhkbdaaDoor
/- From a row's reading to cells, and back: slices of nodes, the table of shapes, arguments that nobody changed. -/
namespace Go.Proofs.YtcfponnkfhkbdaaDoor
set_option linter.unusedSimpArgs false
set_option linter.unusedVariables false
open Go Go.RowKit Go.WideShapes Go.ChangeShapes
theorem kids : Kids Tryd.prog (· < Tryd.prog.types.size) := kids_rows (by kernel_rfl) (by kernel_rfl)
theorem slicesFull : ∀ t e, t < Tryd.prog.types.size → Tryd.prog.underlying t = some (.slice e) → 0 < Tryd.prog.cellsOf e := slices_full_of Tryd.prog (by kernel_rfl)
theorem ownKnobNone : ownKnob Tryd.prog.godebug = none := by kernel_rfl
section
variable {H : Type} {enc : TypeId × Value → H} {P : Program} {w W W' : World}
theorem trodAll_carry {base : Nat} {sp : Nat → Bool} {held : Bool} : ∀ {ts : List TypeId} {vs : List Value} {ds : List (DataW H)} {ps : List MemPlace},
  DataW.TrodAll enc P W base sp held ts vs ds ps → (∀ p ∈ ps, W.sameAt W' p) → DataW.TrodAll enc P W' base sp held ts vs ds ps
 | [], [], [], _, h, _ => h
 | _ :: _, _ :: _, _ :: _, _, ⟨p, q, ⟨n, h1⟩, h2, e⟩, hs =>
  ⟨p, q, ⟨n, DataW.trod_carry n _ _ _ h1 (fun x hx => hs x (by rw [e]; exact List.mem_append_left _ hx))⟩,
   trodAll_carry h2 (fun x hx => hs x (by rw [e]; exact List.mem_append_right _ hx)), e⟩
 | [], [], _ :: _, _, h, _ => h.elim
 | [], _ :: _, _, _, h, _ => h.elim
 | _ :: _, [], _, _, h, _ => h.elim
 | _ :: _, _ :: _, [], _, h, _ => h.elim
theorem sameAt_below (hb : Below W.heap.size W W') {p : MemPlace} (hp : p.block < W.heap.size) : W.sameAt W' p := by
 cases p with
 | cell b off => exact hb.cell (p := ⟨b, off, none⟩) hp
 | map b => exact hb.block b hp
theorem post_true {f : Func} {s : ChangeSpec} {apart fresh handsOn again : Bool} {args : Array Value} {ds : List (DataW H)} {before : List MemPlace}
  (K : Kids P (· < P.types.size)) (hz : ∀ t e, t < P.types.size → P.underlying t = some (.slice e) → 0 < P.cellsOf e) (hts : ∀ t ∈ f.params.toList, t < P.types.size)
  (hvars : s.vars = []) (hW : DataW.Whole enc P f.params.toList s.vars apart W args.toList ds [] before)
  {tb : TypeId} (hrt : f.resultTypes = #[tb]) (htb : P.underlying tb = some .bool)
  (hfn : (s.fn H ds).results = [.lit (.bool true)] ∧ (s.fn H ds).args = ds ∧ (s.fn H ds).vars = []) (hb : Below W.heap.size W W') :
  s.post enc P f apart fresh handsOn again W args (.bool true) W' := by
 have hlt : ∀ p ∈ before, p.block < W.heap.size := fun p hp => hW.lt p hp
 have hold : ∀ p ∈ before, (fun b => decide (b < W.heap.size)) p.block = true := fun p hp => by simpa using hlt p hp
 have hW0 := hW
 obtain ⟨p, q, hA, hV, he, hzf, hn⟩ := hW0
 rw [hvars] at hV
 have hq : q = [] := hV
 subst hq
 rw [List.append_nil] at he
 subst he
 have hA' := trodAll_carry (W' := W') hA (fun x hx => sameAt_below hb (hlt x hx))
 have hres : ∀ (b : Nat) (sp : Nat → Bool) (hd : Bool), DataW.TrodAll enc P W' b sp hd f.resultTypes.toList ((Value.bool true).resultList f.resultTypes.size) (s.fn H ds).results [] := fun b sp hd => by
  rw [hfn.1, hrt]
  exact trodAll_mk1 (shut_bool htb true)
 refine ⟨ds, [], before, [], before, [], hW, ?_, ?_, ?_, World.keptBut_mono (fun p hp => ⟨hp, .inr (.inl hp)⟩) (hb.frame (· ∈ before)), fun _ => ⟨?_, ?_⟩⟩
 · rw [List.append_nil]; exact hres _ _ _
 ·
  rw [List.append_nil, hfn.2.1]
  exact DataW.TrodAll.respare K hz hts hA' hold
 ·
  rw [List.append_nil, hfn.2.2, hvars]
  exact rfl
 · exact ok_one hrt rfl (okWide_bool_mk htb true)
 ·
  refine ⟨[.lit (.bool true)] ++ ds, [], [] ++ before, ⟨[] ++ before, [], ?_, ?_, by simp, ?_, ?_⟩, ?_⟩
  ·
   rw [hrt]
   exact trodAll_append hA' (trodAll_mk1 (shut_bool htb true))
  ·
   rw [hvars]
   exact rfl
  ·
   intro b off hp
   have hin : MemPlace.cell b off ∈ before := by simpa using hp
   rw [hb.frozen (hlt _ hin)]
   exact hzf b off hin
  ·
   intro ha
   simpa using hn ha
  ·
   intro x hx _
   simpa using hx
end
section
variable {H : Type} {enc : TypeId × Value → H} {w : World}
theorem lt_of_cell {p : Addr} {v : Value} (h : w.cell? p = some v) : p.block < w.heap.size := by
 unfold World.cell? at h
 cases ho : w.heap[p.block]? with
 | none => simp [ho] at h
 | some o => exact (Array.getElem?_eq_some_iff.1 ho).1
end
end Go.Proofs.YtcfponnkfhkbdaaDoor
/- An argument that is a byte. -/
namespace Go.Proofs.YtcfponnkfhkbdaaDoor
set_option linter.unusedSimpArgs false
set_option linter.unusedVariables false
open Go Go.RowKit Go.WideShapes Go.ChangeShapes
section
variable {P : Program}
theorem okWide_byte {t : TypeId} {w : World} {r : Reach} {b0 : Nat} {v : Value} (ht : P.underlying t = some (.int .u8)) (h : Value.okWide P w r b0 t v) : ∃ b : Nat, v = .int .u8 (b : Int) ∧ b < 256 := by
 have h0 := h
 obtain ⟨n, rfl⟩ := okWide_int ht h
 simp only [Value.okWide, ht, Cell.okWide] at h0
 have h1 : IntKind.u8.has n := by simpa [Cell.ok, ht] using h0
 have h2 : (0 : Int) ≤ n ∧ n ≤ 255 := h1
 exact ⟨n.toNat, by rw [Int.toNat_of_nonneg h2.1], by omega⟩
end
set_option maxRecDepth 100000 in
theorem open_byte {w : World} {r : Reach} {b0 : Nat} {v : Value} (hval : Value.okWide Tryd.prog w r b0 5 v) : ∃ b : Nat, v = .int .u8 (b : Int) ∧ b < 256 := okWide_byte Tryd.underlying5 hval
end Go.Proofs.YtcfponnkfhkbdaaDoor
/- The table of shapes: from the row's list to cells; a world that holds it. -/
namespace Go.Proofs.YtcfponnkfhkbdaaDoor
set_option linter.unusedSimpArgs false
set_option linter.unusedVariables false
open Go Go.RowKit Go.WideShapes Go.ChangeShapes
set_option maxRecDepth 100000
def shapeD (k : Nat) : DataW Unit := .agg [(match (shp k).b with | [] => .nil | b => .slice (lits .i64 b) []), .lit (.bool (shp k).n), .lit (.bool (shp k).m), .lit (.bool (shp k).s)]
theorem laid_eq : (Rows.laid_cornice_term_shapes : DataW Unit) = .agg ((List.range 30).map shapeD) := by kernel_rfl
theorem encIs_map (l : List Int) : encIs l = l.map (fun n => Value.int .i64 n) := by
 induction l with
 | nil => rfl
 | cons x t ih => rw [List.map_cons, ← ih]; rfl
theorem shape_cells {w : World} {base : Nat} {sp : Nat → Bool} {held : Bool} {n : Nat} {cs : List Value} {k : Nat} {p : List MemPlace}
  (h : DataW.trod (fun _ => ()) Tryd.prog w base sp held n 113 cs = some (shapeD k, p)) :
  ∃ (A : Option Addr) (cap : Nat), cs = [.slice A (shp k).b.length cap, .bool (shp k).n, .bool (shp k).m, .bool (shp k).s] ∧ (shp k).b.length ≤ cap ∧ RowI w (fun k => k < w.heap.size) 1 A (shp k).b.length (encIs (shp k).b) := by
 have hu : Tryd.prog.underlying 113 = some (.struct (Tryd.prog.fieldsOf 113)) := by kernel_rfl
 have hf : (Tryd.prog.fieldsOf 113).toList.map (fun f => (f.type, f.offset)) = [(79, 0), (4, 1), (4, 2), (4, 3)] := by kernel_rfl
 have hci : Tryd.prog.cellsOf 79 = 1 := by kernel_rfl
 have hci1 : Tryd.prog.cellsOf 3 = 1 := by kernel_rfl
 have hcs : Tryd.prog.cellsOf 4 = 1 := by kernel_rfl
 have hcn : Tryd.prog.cellsOf 113 = 4 := by kernel_rfl
 obtain ⟨xs, m, _, hx, hl, hxl, hg⟩ := DataW.trod_struct hu h
 rw [hcn] at hl
 have hd : xs.map (·.1) = [(match (shp k).b with | [] => .nil | b => .slice (lits .i64 b) []), .lit (.bool (shp k).n), .lit (.bool (shp k).m), .lit (.bool (shp k).s)] := by
  have := congrArg Prod.fst hx
  simp only [shapeD] at this
  injection this with h1
  exact h1.symm
 have fld : ∀ (j : Nat) (t : TypeId) (off : Nat), ((Tryd.prog.fieldsOf 113).toList.map (fun f => (f.type, f.offset)))[j]? = some (t, off) → DataW.trod (fun _ => ()) Tryd.prog w base sp held m t ((cs.drop off).take (Tryd.prog.cellsOf t)) = xs[j]? := by
  intro j t off hj
  rw [List.getElem?_map] at hj
  cases hfj : (Tryd.prog.fieldsOf 113).toList[j]? with
  | none => rw [hfj] at hj; cases hj
  | some f =>
   rw [hfj] at hj
   simp only [Option.map_some, Option.some.injEq, Prod.mk.injEq] at hj
   obtain ⟨rfl, rfl⟩ := hj
   exact hg j f (by rw [← Array.getElem?_toList]; exact hfj)
 rw [hf] at fld
 match cs, hl, xs, hd with
 | [c0, c1, c2, c3], _, [y0, y1, y2, y3], hd =>
  simp only [List.map_cons, List.map_nil, List.cons.injEq, and_true] at hd
  obtain ⟨d0, d1, d2, d3⟩ := hd
  have h0 := fld 0 _ _ rfl
  have h1 := fld 1 _ _ rfl
  have h2 := fld 2 _ _ rfl
  have h3 := fld 3 _ _ rfl
  rw [hci] at h0
  rw [hcs] at h1 h2 h3
  obtain ⟨b1, e1, f1⟩ := DataW.trod_bool Tryd.underlying4 h1
  obtain ⟨b2, e2, f2⟩ := DataW.trod_bool Tryd.underlying4 h2
  obtain ⟨b3, e3, f3⟩ := DataW.trod_bool Tryd.underlying4 h3
  simp at e1 e2 e3
  simp [f1] at d1
  simp [f2] at d2
  simp [f3] at d3
  subst e1 e2 e3 d1 d2 d3
  rcases open_ints Tryd.underlying79 Tryd.underlying3 hci1 h0 with ⟨hcs0, hy⟩ | ⟨a, len, cap, zs, hcs0, _, hle, _, hzl, hy, hcell, _⟩
  ·
   simp at hcs0
   subst hcs0
   rw [hy] at d0
   cases hb : (shp k).b with
   | nil => exact ⟨none, 0, by simp, by simp, by simp [encIs], fun h => absurd h (by simp)⟩
   | cons z zs => rw [hb] at d0; simp at d0
  ·
   simp at hcs0
   subst hcs0
   rw [hy] at d0
   cases hb : (shp k).b with
   | nil => rw [hb] at d0; simp at d0
   | cons z l =>
    rw [hb] at d0
    simp only [DataW.slice.injEq] at d0
    obtain ⟨d4, d5⟩ := d0
    have hinj : ∀ a b : List Int, (lits .i64 a : List (DataW Unit)) = lits .i64 b → a = b := by
     intro a
     induction a with
     | nil => intro b hb; cases b with
      | nil => rfl
      | cons _ _ => simp [lits] at hb
     | cons x a ih => intro b hb; cases b with
      | nil => simp [lits] at hb
      | cons y b =>
       simp only [lits, List.map_cons, List.cons.injEq, DataW.lit.injEq, Lit.int.injEq, true_and] at hb
       rw [hb.1, ih b hb.2]
    have d6 := hinj _ _ d4
    have hll : len = (z :: l).length := by
     have := congrArg List.length d6
     rw [List.length_take] at this
     have hz : len ≤ zs.length := by rw [hzl]; split <;> omega
     omega
    subst hll
    refine ⟨some a, cap, rfl, hle, by simp [encIs_length], fun _ => ⟨a, rfl, ?_, ?_⟩⟩
    ·
     have h9 := hcell 0 (by have hz2 : (z :: l).length ≤ zs.length := (by rw [hzl]; split <;> omega); rw [List.length_cons] at hz2; omega)
     have := lt_of_cell h9
     rwa [block_of_add] at this
    ·
     intro j u hu
     have hjl : j < (z :: l).length := by
      have := (List.getElem?_eq_some_iff.1 hu).1
      rw [encIs_length] at this
      simpa using this
     have hzz : (z :: l).length ≤ zs.length := by rw [hzl]; split <;> omega
     rw [hcell j (by omega)]
     have h8 : (z :: l)[j]? = zs[j]? := by rw [← d6, List.getElem?_take_of_lt hjl]
     have h7 := encIs_map (z :: l)
     rw [h7, List.getElem?_map, h8] at hu
     cases hq : zs[j]? with
     | none => rw [hq] at hu; simp at hu
     | some q =>
      rw [hq] at hu
      simp only [Option.map_some, Option.some.injEq] at hu
      rw [← hu, List.getD_eq_getElem?_getD, hq]
      rfl
theorem shapes_of_laid {W : World} (h : laidMetH Tryd.prog [("cornice/term.shapes", Rows.laid_cornice_term_shapes)] W) : Shapes W (fun k => k < W.heap.size) := by
 have h' : laidMet Tryd.prog [("cornice/term.shapes", Rows.laid_cornice_term_shapes)] W := h
 obtain ⟨ps, ⟨g, t, cs, fuel, p, q, hg, ht, hvar, hd, _, _⟩, _⟩ := h'
 have hg0 : Tryd.prog.globalNamed "cornice/term.shapes" = some 0 := by kernel_rfl
 have ht0 : (Tryd.prog.globals[0]?).map (·.type) = some 114 := by kernel_rfl
 obtain rfl : 0 = g := Option.some.inj (hg0.symm.trans hg)
 obtain rfl : 114 = t := Option.some.inj (ht0.symm.trans ht)
 have hcn : Tryd.prog.cellsOf 113 = 4 := by kernel_rfl
 have hct : Tryd.prog.cellsOf 114 = 120 := by kernel_rfl
 obtain ⟨xs, m, _, hx, hl, hxl, hi⟩ := DataW.trod_array Tryd.underlying114 hd
 rw [hct] at hl
 have hxd : xs.map (·.1) = (List.range 30).map shapeD := by
  have := congrArg Prod.fst hx
  simp only [laid_eq] at this
  injection this with h1
  exact h1.symm
 intro k hk
 have h1 := hi k hk
 rw [hcn] at h1
 have hkx : k < xs.length := by omega
 have h2 : xs[k]? = some (shapeD k, (xs[k]).2) := by
  rw [List.getElem?_eq_getElem hkx]
  have h3 : (xs.map (·.1))[k]? = some (shapeD k) := by rw [hxd]; simp [hk]
  rw [List.getElem?_map, List.getElem?_eq_getElem hkx] at h3
  simp only [Option.map_some, Option.some.injEq] at h3
  rw [← h3]
 rw [h2] at h1
 obtain ⟨A, cap, hcs, hle, hrow⟩ := shape_cells h1
 refine ⟨A, cap, ⟨hle, hrow⟩, ?_, ?_⟩
 ·
  have h4 := World.var?_cell hg hvar 0
  have h5 : cs[0]? ≠ none := by
   intro e
   rw [← Array.getElem?_toList, List.getElem?_eq_none_iff] at e
   omega
  cases h6 : cs[0]? with
  | none => exact absurd h6 h5
  | some v => rw [h6] at h4; exact lt_of_cell h4
 ·
  intro j u hu
  have hj : j < 4 := by
   have := (List.getElem?_eq_some_iff.1 hu).1
   simpa using this
  have h4 := World.var?_cell hg hvar (k * 4 + j)
  rw [← hcs, List.getElem?_take_of_lt hj, List.getElem?_drop, Array.getElem?_toList] at hu
  rw [hu] at h4
  rw [add_of_add]
  have : (⟨0, 0, none⟩ : Addr).add (k * 4 + j) = ⟨0, k * 4 + j, none⟩ := by unfold Addr.add; split <;> simp_all
  rw [this]
  exact h4
noncomputable def laidWorld (os : Os) : World :=
 { World.holding Tryd.prog os ⟨#[.cells #[.int .i64 0, .int .i64 1, .int .i64 0, .int .i64 1, .int .i64 0, .int .i64 0, .int .i64 0, .int .i64 1, .int .i64 0, .int .i64 0, .int .i64 0, .int .i64 0, .int .i64 0, .int .i64 0, .int .i64 1, .int .i64 0, .int .i64 2, .int .i64 0, .int .i64 0, .int .i64 0, .int .i64 0, .int .i64 0, .int .i64 0, .int .i64 0, .int .i64 0, .int .i64 0, .int .i64 0, .int .i64 0, .int .i64 0, .int .i64 0, .int .i64 0, .int .i64 1, .int .i64 0, .int .i64 0, .int .i64 0, .int .i64 0, .int .i64 2, .int .i64 0, .int .i64 0, .int .i64 0, .int .i64 0, .int .i64 0, .int .i64 0, .int .i64 1, .int .i64 0, .int .i64 0, .int .i64 0] 3], #[], []⟩ with heap := (World.holding Tryd.prog os ⟨#[.cells #[.int .i64 0, .int .i64 1, .int .i64 0, .int .i64 1, .int .i64 0, .int .i64 0, .int .i64 0, .int .i64 1, .int .i64 0, .int .i64 0, .int .i64 0, .int .i64 0, .int .i64 0, .int .i64 0, .int .i64 1, .int .i64 0, .int .i64 2, .int .i64 0, .int .i64 0, .int .i64 0, .int .i64 0, .int .i64 0, .int .i64 0, .int .i64 0, .int .i64 0, .int .i64 0, .int .i64 0, .int .i64 0, .int .i64 0, .int .i64 0, .int .i64 0, .int .i64 1, .int .i64 0, .int .i64 0, .int .i64 0, .int .i64 0, .int .i64 2, .int .i64 0, .int .i64 0, .int .i64 0, .int .i64 0, .int .i64 0, .int .i64 0, .int .i64 1, .int .i64 0, .int .i64 0, .int .i64 0] 3], #[], []⟩).heap.modify 0 fun
   | .cells _ t frozen => .cells #[.slice none 0 0, .bool true, .bool false, .bool false, .slice none 0 0, .bool false, .bool false, .bool true, .slice none 0 0, .bool true, .bool false, .bool false, .slice (some ⟨6, 0, none⟩) 2 2, .bool true, .bool false, .bool false, .slice (some ⟨6, 2, none⟩) 2 2, .bool false, .bool false, .bool false, .slice (some ⟨6, 4, none⟩) 2 2, .bool false, .bool false, .bool false, .slice (some ⟨6, 6, none⟩) 2 2, .bool true, .bool false, .bool false, .slice (some ⟨6, 8, none⟩) 3 3, .bool false, .bool false, .bool false, .slice (some ⟨6, 11, none⟩) 1 1, .bool false, .bool false, .bool false, .slice (some ⟨6, 12, none⟩) 1 1, .bool false, .bool false, .bool false, .slice none 0 0, .bool false, .bool false, .bool false, .slice none 0 0, .bool false, .bool false, .bool false, .slice (some ⟨6, 13, none⟩) 1 1, .bool false, .bool false, .bool false, .slice (some ⟨6, 14, none⟩) 4 4, .bool false, .bool false, .bool false, .slice none 0 0, .bool false, .bool false, .bool false, .slice (some ⟨6, 18, none⟩) 2 2, .bool false, .bool false, .bool false, .slice none 0 0, .bool false, .bool false, .bool false, .slice none 0 0, .bool false, .bool false, .bool false, .slice (some ⟨6, 20, none⟩) 3 3, .bool false, .bool false, .bool false, .slice (some ⟨6, 23, none⟩) 2 2, .bool false, .bool false, .bool false, .slice (some ⟨6, 25, none⟩) 4 4, .bool false, .bool false, .bool false, .slice (some ⟨6, 29, none⟩) 6 6, .bool false, .bool false, .bool false, .slice (some ⟨6, 35, none⟩) 5 5, .bool false, .bool false, .bool false, .slice (some ⟨6, 40, none⟩) 2 2, .bool false, .bool false, .bool false, .slice (some ⟨6, 42, none⟩) 4 4, .bool false, .bool false, .bool false, .slice none 0 0, .bool false, .bool false, .bool true, .slice none 0 0, .bool true, .bool true, .bool true, .slice none 0 0, .bool false, .bool true, .bool true, .slice (some ⟨6, 46, none⟩) 1 1, .bool false, .bool false, .bool false, .slice none 0 0, .bool false, .bool false, .bool false] t frozen
   | o => o }
end Go.Proofs.YtcfponnkfhkbdaaDoor
/- The law UnfoldNumbers: it returns true, whatever its arguments are, and they read as they did; the table of shapes holds what the program's text lays. -/
namespace Go.Proofs.YtcfponnkfhkbdaaDoor.lawUnfoldNumbers
open Go Go.RowKit Go.WideShapes Go.ChangeShapes Go.Proofs.YtcfponnkfhkbdaaDoor
set_option maxRecDepth 100000
set_option linter.unusedSimpArgs false
set_option linter.unusedVariables false
theorem contract (H : Type) (enc : TypeId × Value → H) (W : World) (base : Nat) (args : Array Value) (ds gs : List (DataW H)) (before : List MemPlace)
  (hval : ∀ (j : Nat) t v, Tryd.f5.params[j]? = some t → args[j]? = some v → Value.okWide Tryd.prog W .any base t v)
  (hW : DataW.Whole enc Tryd.prog Tryd.f5.params.toList Rows.unfoldNumbersSpec.vars false W args.toList ds gs before) (hL : laidMetH Tryd.prog Rows.unfoldNumbersRow.laid W) :
  Calls Tryd.prog 5 args W fun e W' => ∃ v, e = .returned v ∧ Rows.unfoldNumbersSpec.post enc Tryd.prog Tryd.f5 false true false false W args v W' := by
 have hW' := hW
 obtain ⟨p, q, hA0, hV, rfl, hfz, hnd⟩ := hW
 have hA := hA0
 rw [Tryd.params5] at hA hval
 obtain ⟨v0, vs0, d0, ds0, p0, q0, hargs, rfl, rfl, h0, r0⟩ := trodAll_cons hA
 obtain ⟨rfl, rfl, rfl⟩ := trodAll_nil r0
 obtain rfl : args = #[v0] := by cases args; simp_all
 obtain ⟨rfl, rfl⟩ := trodVars_none hV
 obtain ⟨b0, rfl, hb0⟩ := open_byte (hval 0 _ _ rfl rfl)
 refine (unfoldNumbers_calls W (fun k => k < W.heap.size) (fun _ h => h) b0 (shapes_of_laid hL) hb0).mono fun e W' ⟨he, hf⟩ => ?_
 subst he
 exact ⟨_, rfl, post_true kids slicesFull (by rw [Tryd.params5]; decide) rfl hW' rfl Tryd.underlying4 ⟨rfl, rfl, rfl⟩ hf.below⟩
theorem laid_met (os : Os) : laidMet Tryd.prog Rows.unfoldNumbersRow.laid ((laidWorld os).forCall (fun _ _ => 0) ⟨#[], #[Value.int .u8 0], []⟩).memory :=
 laidMet_of_run' 8 (by kernel_rfl) (by kernel_rfl)
theorem reads (os : Os) {H : Type} (enc : TypeId × Value → H) : ∃ places, DataW.whole enc Tryd.prog ((laidWorld os).forCall (fun _ _ => 0) ⟨#[], #[Value.int .u8 0], []⟩).memory Tryd.f5.params.toList Rows.unfoldNumbersSpec.vars false #[Value.int .u8 0].toList 8 = some ([.lit (.int .u8 0)], [], places) :=
 ⟨[], by kernel_rfl⟩
theorem lifted (os : Os) (started : os.Started) (H : Type) (enc : TypeId × Value → H) (F : Stop.Interp) :
  ReturnsInHanded {} Tryd.checked os 5 .any ((OpenSpec.ofChange Rows.unfoldNumbersSpec).preRow enc Tryd.prog Tryd.f5 Rows.unfoldNumbersRow.domain false Rows.unfoldNumbersRow.laid) (((OpenSpec.ofChange Rows.unfoldNumbersSpec).at F).post enc Tryd.prog Tryd.f5 false true false false) := by
 obtain ⟨places, hx⟩ := reads os enc
 refine returnsInHanded_of_row (C := Tryd.checked) (s := OpenSpec.ofChange Rows.unfoldNumbersSpec) ownKnobNone started (by kernel_rfl) Tryd.func5
  (witness_row_atRef (enc := enc) (C := Tryd.checked) false (laidWorld os) #[Value.int .u8 0] rfl (by kernel_rfl) (by kernel_rfl) (by kernel_rfl)
   (OpenSpec.preRow_of_cond 8 hx (by kernel_rfl) (fun k hk => by cases hk) (by kernel_rfl) (laid_met os))) ?_
 intro W base args ds gs before hval hW _ _ _ hL _ _
 exact contract H enc W base args ds gs before hval hW hL
theorem said : Rows.UnfoldNumbersSaid :=
 OpenClaim.holds_of_cond 5 Tryd.f5 rfl rfl rfl rfl rfl rfl rfl ⟨rfl, rfl, rfl, rfl, rfl⟩ rfl rfl rfl rfl rfl (by kernel_rfl) Tryd.func5 (by kernel_rfl)
  (of_decide_eq_true (by kernel_rfl)) (by unfold Func.isWrapper; first | (rw [if_pos (by decide +kernel)]; kernel_rfl) | (rw [if_neg (by decide +kernel)]; exact ⟨rfl, rfl⟩))
  (fun os started H enc _ F => by rw [OpenClaim.pre_eq_preRow]; exact lifted os started H enc F)
theorem plain (f : FuncId) (fn : Func) (hf : Tryd.pinned.checked.prog.funcNamed "cornice/cornicelaw14.UnfoldNumbers" = some f) (hfn : Tryd.pinned.checked.prog.funcs[f]? = some fn) :
  false = Tryd.pinned.checked.prog.looks [] ∧ ∀ (j : Nat) t, fn.params[j]? = some t → Tryd.pinned.checked.prog.wantsStandIn t = false := by
 obtain rfl : f = 5 := Option.some.inj ((show Tryd.prog.funcNamed "cornice/cornicelaw14.UnfoldNumbers" = some 5 by kernel_rfl).symm.trans hf) |>.symm
 obtain rfl : fn = Tryd.f5 := (Option.some.inj (Tryd.func5.symm.trans hfn)).symm
 refine ⟨by kernel_rfl, fun j t ht => ?_⟩
 rw [Tryd.params5] at ht
 have hm := Array.mem_of_getElem? ht
 simp only [List.mem_toArray, List.mem_cons, List.not_mem_nil, or_false] at hm
 subst hm
 exact (show Tryd.prog.wantsStandIn 5 = false by kernel_rfl)
theorem proved : Rows.UnfoldNumbersCardSaid :=
 Claim7.holds_tied_plain_at .later [] _ _ _ _ said (fun _ h => by cases h) (by kernel_rfl) (fun _ h => by cases h) unfoldNumbers_row_tie rfl ⟨rfl, rfl⟩ (by kernel_rfl) rfl plain (by kernel_rfl)
end Go.Proofs.YtcfponnkfhkbdaaDoor.lawUnfoldNumbers
