import Derived.Test.YtcfponnkfhkbdaaDoorYyd
/- Contracts of functions, one theorem each: what the call returns, and that nothing old is changed. Printed by gen.py. -/
namespace Go.Proofs.YtcfponnkfhkbdaaDoor
open Go Go.RowKit
set_option linter.unusedSimpArgs false
set_option linter.unusedVariables false
set_option maxRecDepth 100000 in
set_option maxHeartbeats 1000000 in
theorem inst_calls (w0 : World) (Z : Nat → Prop) (hZ : ∀ k, Z k → k < w0.heap.size) (tA : Option Addr) (tc : Nat) (t : List Nd) (psA : Option Addr) (psc : Nat) (ps : List Sl) (hShp : Shapes w0 Z) (ht : (dRow 4 tA t.length tc (encNs t)).φ w0 Z) (hps : (dRow 1 psA ps.length psc (encSs ps)).φ w0 Z) (hpss : (dAll ps).φ w0 Z) (hsm : sml t := by first | assumption | omega | (simp; done) | (simp; omega)) (hl : t.length ≤ 1000000 := by first | assumption | omega | (simp; done) | (simp; omega)) (hls : ∀ x ∈ lsts ps, sml x := by first | assumption | omega | (simp; done) | (simp; omega)) (hlb : ∀ x ∈ lsts ps, x.length ≤ 1000000 := by first | assumption | omega | (simp; done) | (simp; omega)) (hl0 : ps.length ≤ 1000 := by first | assumption | omega | (simp; done) | (simp; omega)) :
    Calls Tryd.prog 87 [.slice tA t.length tc, .slice psA ps.length psc].toArray w0 (fun e w' => ∃ (rA0 : Option Addr) (rc0 : Nat), e = .returned (.tuple #[.slice rA0 (inA t (lsts ps)).length rc0, .int .i64 (inE t (lsts ps))]) ∧ Fr none_ w0 w' ∧ (dRow 4 rA0 ((inA t (lsts ps)).length) rc0 (encNs (inA t (lsts ps)))).φ w' (nxt Z w0 w')) := by
 have b0 := s0 (M := none_) hZ (zc (d := dShapes) hShp (zc ht (zc hps (zc hpss zn))))
 refine c_enter Tryd.func87 rfl Tryd.ntmps87 rfl (fun c0 d0 => ?_)
 refine wsc (fun c0 f0 => ?_)
 refine m_box (cs := [.slice psA ps.length psc]) sv d0 b0 rfl rfl rfl rfl (by decide) (fun c0 h0 i0 j0 k0 => ?_)
 refine asg j0 (fun h0 c0 => ?_)
 refine asg c0 (fun h0 j0 => ?_)
 refine wpList_nil (x_then_n (f0 _ _ ?_))
 refine wp_seq_k (fun f0 h0 => ?_)
 refine wsc (fun f0 c0 => ?_)
 refine mv j0 (fun f0 d0 => ?_)
 have f0 := k0.data (dAll [((tA, tc, t) : Sl)]) (all_cons (k0.get (i := 1) rfl) all_nil)
 refine mbs [(0, .tmp 9)] [.slice tA t.length tc] sv d0 f0 Tryd.underlying42 zi22 (fun k0 j0 b0 m0 n0 => ?_)
 refine m_load (i := 0) sv m0 n0 rfl rfl rfl rfl rfl Tryd.underlying42 rfl (by decide) (fun b0 j0 => ?_)
 refine m_appendF (f := encS) (i := 1) ([((tA, tc, t) : Sl)]) (ps) sv j0 n0 rfl rfl rfl rfl rfl encS_len (encS_one _) Tryd.underlying42 zi22 rfl rfl (n0.row (i := 2) rfl).2.news rfl (by first | omega | (simp only [List.length_cons, List.length_nil]; omega)) (by decide) (fun b0 m0 k0 f0 d0 o0 p0 => ?_)
 have d0 : (([((tA, tc, t) : Sl)]) ++ ps : List Sl).length = ps.length + 1 := by first | (simp only [List.length_append, List.length_take, List.length_cons, List.length_nil]; done) | (simp only [List.length_append, List.length_take, List.length_cons, List.length_nil]; omega)
 have d0 := p0.data (dAll (([((tA, tc, t) : Sl)]) ++ ps)) (all_append (p0.get (i := 4) rfl) (p0.get (i := 3) rfl))
 refine r_len sv o0 rfl rfl rfl rfl Tryd.underlying42 (by decide) (fun p0 m0 => ?_)
 refine mv m0 (fun p0 o0 => ?_)
 refine wpList_nil (x_then_n (c0 _ _ ?_))
 refine wp_block ?_
 refine wp_loop_ghost (fun gn ga gw => ∃ k : Nat, (Reg ga 29 [(1000000, .bool false), (0, .slice tA t.length tc), (3, .pointer (some ⟨i0, 0, none⟩)), (12, .slice k0 ((([((tA, tc, t) : Sl)]) ++ ps : List Sl).length) f0), (13, .int .i64 (((([((tA, tc, t) : Sl)]) ++ ps : List Sl).length : Nat) : Int)), (14, .int .i64 ((k : Nat) : Int))]) ∧ (St w0 Z none_ gw [.box i0 42 [.slice psA ps.length psc], .row k0 ((([((tA, tc, t) : Sl)]) ++ ps : List Sl).length) f0 22 1 (encSs (([((tA, tc, t) : Sl)]) ++ ps))] [dShapes, dRow 4 tA t.length tc (encNs t), dRow 1 psA ps.length psc (encSs ps), dAll ps, dAll [((tA, tc, t) : Sl)], dAll (([((tA, tc, t) : Sl)]) ++ ps)]) ∧ (k ≤ ps.length + 1) ∧ (∀ i, i < k → chk (nthL (t :: lsts ps) i) = 0) ∧ (ps.length + 1 - k) = gn) _ ⟨0, (o0.sub (rc rfl (rc rfl (rc rfl (rc rfl (rc rfl (rc rfl rnl))))))), d0, by omega, (fun _ h => by omega), rfl⟩ ?_
 rintro o0 d0 f0 ⟨k, k0, c0, hk, hck, p0⟩
 have hLl : (t :: lsts ps).length = ps.length + 1 := by rw [List.length_cons, lsts_len]
 refine wsc (fun p0 f0 => ?_)
 refine r_lss sv k0 rfl rfl rfl rfl (by decide) (fun p0 d0 => ?_)
 refine wpList_nil (x_then_n (f0 _ _ ?_))
 refine wp_seq_k (fun f0 p0 => ?_)
 rcases Decidable.em (((k : Nat) : Int) < (((([((tA, tc, t) : Sl)]) ++ ps : List Sl).length : Nat) : Int)) with f0 | f0
 ·
  have hne : (nthS ([((tA, tc, t) : Sl)] ++ ps) k).2.2 = nthL (t :: lsts ps) k := nthS_cons _ _ _
  have hmm : nthL (t :: lsts ps) k = t ∨ nthL (t :: lsts ps) k ∈ lsts ps := by have := nthL_mem (l := t :: lsts ps) (k := k) (by rw [List.length_cons, lsts_len]; omega); simpa using this
  have hms : sml (nthS ([((tA, tc, t) : Sl)] ++ ps) k).2.2 := by rw [hne]; rcases hmm with q | q; rw [q]; exact hsm; exact hls _ q
  have hml : (nthS ([((tA, tc, t) : Sl)] ++ ps) k).2.2.length ≤ 1000000 := by rw [hne]; rcases hmm with q | q; rw [q]; exact hl; exact hlb _ q
  have k0 := d0.setb (d := 15) (b := true) rfl (decide_eq_true f0)
  refine wp_cond_true (k0.ev rfl) ?_
  refine wp_skip ?_
  refine x_then_n (p0 _ _ ?_)
  refine wp_seq_k (fun p0 o0 => ?_)
  refine wp_block ?_
  refine wsc (fun p0 m0 => ?_)
  refine m_index (i := k) (j := k * 1) sv k0 rfl rfl rfl rfl Tryd.underlying42 sz22 (by omega) (by omega) (own_ss (t := ([((tA, tc, t) : Sl)]) ++ ps) (k := k) (c0.res (i := 1) rfl) (by omega)).some_ rfl (by decide) (fun p0 b0 => ?_)
  refine m_loadE sv b0 rfl rfl rfl 0 (k * 1) (own_ss (t := ([((tA, tc, t) : Sl)]) ++ ps) (k := k) (c0.res (i := 1) rfl) (by omega)) rfl rfl Tryd.underlying22 rfl (by decide) (fun p0 k0 => ?_)
  have p0 := c0.data (dRow 4 ((nthS (([((tA, tc, t) : Sl)]) ++ ps) k).1) ((nthS (([((tA, tc, t) : Sl)]) ++ ps) k).2.2.length) ((nthS (([((tA, tc, t) : Sl)]) ++ ps) k).2.1) (encNs ((nthS (([((tA, tc, t) : Sl)]) ++ ps) k).2.2))) (all_at (t := ([((tA, tc, t) : Sl)]) ++ ps) (k := k) (c0.get (i := 5) rfl) (by omega))
  refine asg k0 (fun b0 j0 => ?_)
  refine wpList_nil (x_then_n (m0 _ _ ?_))
  refine wsc (fun m0 b0 => ?_)
  refine mv j0 (fun m0 k0 => ?_)
  have m0 := p0.nf
  refine k_call (xs := [.tmp 18]) se k0 rfl rfl rfl (by decide) ok40 (check_calls _ _ m0.il _ _ ((nthS (([((tA, tc, t) : Sl)]) ++ ps) k).2.2) (m0.g 0) (m0.g 6)) ?_
  rintro k0 p0 ⟨rfl, j0⟩
  have p0 := m0.below j0.below
  refine ⟨_, rfl, fun j0 m0 => ?_⟩
  refine asg m0 (fun j0 k0 => ?_)
  refine wpList_nil (x_then_n (b0 _ _ ?_))
  refine wsc (fun b0 j0 => ?_)
  refine mv k0 (fun b0 m0 => ?_)
  refine r_neq sv m0 rfl rfl rfl rfl (by decide) (fun b0 k0 => ?_)
  refine wpList_nil (x_then_n (j0 _ _ ?_))
  rcases Decidable.em (((chk ((nthS (([((tA, tc, t) : Sl)]) ++ ps) k).2.2))) = 0) with j0 | j0
  ·
   have b0 := k0.setb (d := 21) (b := false) rfl (by rw [(decide_eq_true j0)]; rfl)
   refine wp_cond_false (b0.ev rfl) ?_
   refine wp_skip ?_
   refine x_block_n ?_
   refine x_then_n (o0 _ _ ?_)
   refine c_region ?_
   refine r_add (z := ((k + 1 : Nat) : Int)) sv b0 rfl rfl rfl rfl (by decide) (by omega) (by omega) (by omega) (fun o0 m0 => ?_)
   refine mv m0 (fun o0 b0 => ?_)
   refine wpList_nil ?_
   have o0 := p0.forget 6
   exact ⟨_, by omega, k + 1, (b0.sub (rc rfl (rc rfl (rc rfl (rc rfl (rc rfl (rc rfl rnl))))))), o0, by omega, hyp_step hck (by rw [← hne]; assumption), rfl⟩
  ·
   have o0 := k0.setb (d := 21) (b := true) rfl (by rw [(decide_eq_false j0)]; rfl)
   refine wp_cond_true (o0.ev rfl) ?_
   refine wsc (fun j0 k0 => ?_)
   refine mv o0 (fun j0 b0 => ?_)
   refine asg b0 (fun j0 o0 => ?_)
   refine asg o0 (fun j0 b0 => ?_)
   refine wpList_nil (x_then_n (k0 _ _ ?_))
   refine wp_ret ?_
   refine x_block_r ?_
   refine x_then_r ?_
   refine x_then_r ?_
   refine x_block_r ?_
   refine x_then_r ?_
   refine e_ret2 b0 rfl rfl rfl rfl ?_
   have b0 : inA t (lsts ps) = [] := (in_err (by rw [ckE_at hck (by rw [List.length_cons, lsts_len]; omega) (by rw [← hne]; assumption), ← hne]; assumption)).2
   rw [b0]
   refine ⟨none, 0, ?_, p0.fr, ⟨Nat.le_refl _, RowI.nil _ _ _ _⟩⟩
   exact ret_t2 rfl (ret_i (by first | (rw [(in_err (by rw [ckE_at hck (by rw [List.length_cons, lsts_len]; omega) (by rw [← hne]; assumption), ← hne]; assumption)).1, ckE_at hck (by rw [List.length_cons, lsts_len]; omega) (by rw [← hne]; assumption), hne]; done) | exact (in_ok hca).1.symm))
 ·
  obtain ⟨hca, hco⟩ := ckE_all hck (by rw [List.length_cons, lsts_len]; omega)
  have hct : chk t = 0 := hco t (by simp)
  have hol : oks (lsts ps) := fun p hp => hco p (by simp [hp])
  have p0 := d0.setb (d := 15) (b := false) rfl (decide_eq_false f0)
  refine wp_cond_false (p0.ev rfl) ?_
  refine wp_exit ?_
  refine x_then_e ?_
  refine x_then_e ?_
  refine x_block_eq ?_
  refine x_then_n (h0 _ _ ?_)
  refine wsc (fun h0 f0 => ?_)
  refine mv p0 (fun h0 d0 => ?_)
  refine r_makeFunc sv d0 rfl rfl rfl (by decide) (fun h0 p0 => ?_)
  have h0 := c0.nf
  obtain ⟨c0, d0⟩ := h0.box_data (i := 0) rfl (fun _ h => h)
  have h0 := c0.data (dBox i0 [.slice psA ps.length psc]) d0
  refine k_call (xs := [.tmp 24, .tmp 25]) se p0 rfl rfl rfl (by decide) ok113 (put_calls _ _ h0.il _ _ _ i0 psA psc ps (h0.g 0) (h0.g 1) (h0.g 2) (h0.g 3) (h0.g 6) (hsm := hsm) (hl := hl) (hc := hct) (hok := hol) (hls := hls) (hl0 := hl0)) ?_
  rintro p0 i0 ⟨d0, c0, rfl, b0, k0⟩
  have i0 := h0.below b0.below
  have b0 := h0.dN i0 k0
  refine ⟨_, rfl, fun i0 k0 => ?_⟩
  refine r_extract sv k0 rfl rfl rfl rfl (by decide) (fun i0 h0 => ?_)
  refine r_extract sv h0 rfl rfl rfl rfl (by decide) (fun i0 k0 => ?_)
  refine asg k0 (fun i0 h0 => ?_)
  refine asg h0 (fun i0 k0 => ?_)
  refine wpList_nil (x_then_n (f0 _ _ ?_))
  refine wp_ret ?_
  refine e_ret2 k0 rfl rfl rfl rfl ?_
  have k0 : inA t (lsts ps) = poA t 0 (lsts ps) := (in_ok hca).2
  rw [k0]
  refine ⟨d0, c0, ?_, b0.fr, b0.rx 7⟩
  exact ret_t2 rfl (ret_i (by first | (rw [(in_err (by rw [ckE_at hck (by rw [List.length_cons, lsts_len]; omega) (by rw [← hne]; assumption), ← hne]; assumption)).1, ckE_at hck (by rw [List.length_cons, lsts_len]; omega) (by rw [← hne]; assumption), hne]; done) | exact (in_ok hca).1.symm))
end Go.Proofs.YtcfponnkfhkbdaaDoor
/- Contracts of functions, one theorem each: what the call returns, and that nothing old is changed. Printed by gen.py. -/
namespace Go.Proofs.YtcfponnkfhkbdaaDoor
open Go Go.RowKit
set_option linter.unusedSimpArgs false
set_option linter.unusedVariables false
set_option maxRecDepth 100000 in
set_option maxHeartbeats 1000000 in
theorem done_calls (w0 : World) (Z : Nat → Prop) (hZ : ∀ k, Z k → k < w0.heap.size) (mg : Nat) (mt : TypeId) (me : Int) (mr : List Value) (tA : Option Addr) (tc : Nat) (t : List Nd) (hShp : Shapes w0 Z) (hm : (Res.box mg mt (.int .i64 me :: mr)).holds w0) (hmz : ¬ Z mg) (ht : (dRow 4 tA t.length tc (encNs t)).φ w0 Z) (hsm : sml t := by first | assumption | omega | (simp; done) | (simp; omega)) (hl : t.length ≤ 1000000 := by first | assumption | omega | (simp; done) | (simp; omega)) :
    Calls Tryd.prog 36 [.pointer (some ⟨mg, 0, none⟩), .slice tA t.length tc].toArray w0 (fun e w' => ∃ (rA0 : Option Addr) (rc0 : Nat), e = .returned (.tuple #[.slice rA0 ((if (if me = 0 then chk t else me) = 0 then t else [])).length rc0, .int .i64 ((if me = 0 then chk t else me))]) ∧ Fr (· = mg) w0 w' ∧ (Res.box mg mt (.int .i64 (if me = 0 then chk t else me) :: mr)).holds w' ∧ (dRow 4 rA0 (((if (if me = 0 then chk t else me) = 0 then t else [])).length) rc0 (encNs (if (if me = 0 then chk t else me) = 0 then t else []))).φ w' (nxt Z w0 w')) := by
 have b0 := sM hm hmz hZ (zc (d := dShapes) hShp (zc ht zn))
 refine c_enter Tryd.func36 rfl Tryd.ntmps36 rfl (fun c0 d0 => ?_)
 refine wsc (fun c0 f0 => ?_)
 refine asg d0 (fun c0 h0 => ?_)
 refine asg h0 (fun c0 d0 => ?_)
 refine wpList_nil (x_then_n (f0 _ _ ?_))
 refine c_join (fun ga gw => Reg ga 26 [(0, .pointer (some ⟨mg, 0, none⟩)), (1, .slice tA t.length tc), (4, .slice none 0 0), (5, .int .i64 0), (1000000, .bool false)] ∧ St w0 Z (· = mg) gw [.box mg mt (.int .i64 ((if ((me) = 0) then ((chk t)) else (me))) :: mr)] [dShapes, dRow 4 tA t.length tc (encNs t)]) ?_ ?_
 ·
  refine wsc (fun f0 c0 => ?_)
  refine mv d0 (fun f0 h0 => ?_)
  refine r_nilCheck sv h0 rfl rfl rfl (by decide) (fun f0 d0 => ?_)
  refine m_field (j' := 0) sv d0 rfl rfl rfl Tryd.underlying59 rfl sz27 rfl rfl (by decide) (fun f0 h0 => ?_)
  refine m_load (i := 0) sv h0 b0 rfl rfl rfl rfl rfl Tryd.underlying27 rfl (by decide) (fun f0 d0 => ?_)
  refine r_eql sv d0 rfl rfl rfl rfl (by decide) (fun f0 h0 => ?_)
  refine wpList_nil (x_then_n (c0 _ _ ?_))
  rcases Decidable.em ((me) = 0) with c0 | c0
  ·
   have f0 := h0.setb (d := 10) (b := true) rfl (decide_eq_true c0)
   refine wp_cond_true (f0.ev rfl) ?_
   refine c_region ?_
   refine mv f0 (fun d0 i0 => ?_)
   refine mv i0 (fun d0 f0 => ?_)
   have d0 := b0.nf
   refine k_call (xs := [.tmp 12]) se f0 rfl rfl rfl (by decide) ok40 (check_calls _ _ d0.il _ _ _ (d0.g 0) (d0.g 1)) ?_
   rintro f0 i0 ⟨rfl, j0⟩
   have i0 := d0.below j0.below
   refine ⟨_, rfl, fun j0 d0 => ?_⟩
   refine r_nilCheck sv d0 rfl rfl rfl (by decide) (fun j0 f0 => ?_)
   refine m_field (j' := 0) sv f0 rfl rfl rfl Tryd.underlying59 rfl sz27 rfl rfl (by decide) (fun j0 d0 => ?_)
   refine m_store (i := 0) (cs' := (.int .i64 ((chk t)) :: mr)) se d0 i0 rfl rfl rfl rfl rfl sz27 rfl rfl rfl (fun j0 f0 k0 m0 => ?_)
   refine wpList_nil ?_
   have hSj := m0
   exact x_then_n ⟨(k0.sub (rc rfl (rc rfl (rc rfl (rc rfl (rc rfl rnl)))))), by rw [(show (((if ((me) = 0) then ((chk t)) else (me))) : Int) = ((chk t)) by first | rfl | (simp only [decide_eq_true c0, if_pos c0, bl]; done) | (simp [c0]; done) | (simp [c0]; omega))]; exact hSj⟩
  ·
   have k0 := h0.setb (d := 10) (b := false) rfl (decide_eq_false c0)
   refine wp_cond_false (k0.ev rfl) ?_
   refine wp_skip ?_
   have hSj := b0
   exact x_then_n ⟨(k0.sub (rc rfl (rc rfl (rc rfl (rc rfl (rc rfl rnl)))))), by rw [(show (((if ((me) = 0) then ((chk t)) else (me))) : Int) = (me) by first | rfl | (simp only [decide_eq_false c0, if_neg c0, bl]; done) | (simp [c0]; done) | (simp [c0]; omega))]; exact hSj⟩
 rintro k0 c0 ⟨b0, h0⟩
 refine wp_seq_k (fun c0 k0 => ?_)
 refine wsc (fun c0 m0 => ?_)
 refine mv b0 (fun c0 f0 => ?_)
 refine r_nilCheck sv f0 rfl rfl rfl (by decide) (fun c0 b0 => ?_)
 refine m_field (j' := 0) sv b0 rfl rfl rfl Tryd.underlying59 rfl sz27 rfl rfl (by decide) (fun c0 f0 => ?_)
 refine m_load (i := 0) sv f0 h0 rfl rfl rfl rfl rfl Tryd.underlying27 rfl (by decide) (fun c0 b0 => ?_)
 refine r_neq sv b0 rfl rfl rfl rfl (by decide) (fun c0 f0 => ?_)
 refine wpList_nil (x_then_n (m0 _ _ ?_))
 rcases Decidable.em (((if ((me) = 0) then ((chk t)) else (me))) = 0) with m0 | m0
 ·
  have c0 := f0.setb (d := 20) (b := false) rfl (by rw [(decide_eq_true m0)]; rfl)
  refine wp_cond_false (c0.ev rfl) ?_
  refine wp_skip ?_
  refine x_then_n (k0 _ _ ?_)
  refine wsc (fun k0 b0 => ?_)
  refine mv c0 (fun k0 j0 => ?_)
  refine asg j0 (fun k0 c0 => ?_)
  refine asg c0 (fun k0 j0 => ?_)
  refine wpList_nil (x_then_n (b0 _ _ ?_))
  refine wp_ret ?_
  refine e_ret2 j0 rfl rfl rfl rfl ?_
  have j0 : (if (if me = 0 then chk t else me) = 0 then t else []) = t := by simp [m0]
  rw [j0]
  refine ⟨tA, tc, ?_, h0.fr, (by rw [show (if me = 0 then chk t else me : Int) = ((if ((me) = 0) then ((chk t)) else (me))) by first | (simp [m0]; done) | (have j0 := m0; (try simp at j0);  simp_all; done) | omega]; exact h0.res (i := 0) rfl), h0.rx 1⟩
  exact ret_t2 rfl (ret_i (by first | (simp [m0]; done) | (have j0 := m0; (try simp at j0);  simp_all; done) | omega))
 ·
  have b0 := f0.setb (d := 20) (b := true) rfl (by rw [(decide_eq_false m0)]; rfl)
  refine wp_cond_true (b0.ev rfl) ?_
  refine wp_seq_k (fun f0 k0 => ?_)
  obtain ⟨f0, c0, d0⟩ := h0.agree
  refine d_reg3 (n := 6) d0 2 (pc 0 0 pn) (pan_then (pan_then pan_body)) (fun c0 f0 h0 i0 n0 o0 => ?_)
  refine dtM 0 f0 b0 o0 (fun i0 c0 => ?_)
  refine dtN 1 f0 c0 o0 (fun i0 b0 => ?_)
  refine dtF 2 0 f0 b0 o0 Tryd.underlying59 sz27 (fun i0 c0 => ?_)
  refine dtC 3 0 f0 c0 o0 Tryd.underlying27 (fun i0 b0 => ?_)
  refine dtA 4 f0 b0 o0 (fun i0 c0 => ?_)
  refine dtA 5 f0 c0 o0 (fun i0 b0 => ?_)
  refine wpAnyH_done (by kernel_rfl) (h0 _ _ ?_) _
  refine x_then_n (k0 _ _ ?_)
  refine wp_ret ?_
  refine x_then_r ?_
  refine e_ret2 b0 rfl rfl rfl rfl ?_
  have b0 : (if (if me = 0 then chk t else me) = 0 then t else []) = [] := by simp [m0]
  rw [b0]
  refine ⟨none, 0, ?_, n0.fr, (by rw [show (if me = 0 then chk t else me : Int) = ((if ((me) = 0) then ((chk t)) else (me))) by first | (simp [m0]; done) | (have j0 := m0; (try simp at j0);  simp_all; done) | omega]; exact n0.res (i := 0) rfl), ⟨Nat.le_refl _, RowI.nil _ _ _ _⟩⟩
  exact ret_t2 rfl (ret_i (by first | (simp [m0]; done) | (have j0 := m0; (try simp at j0);  simp_all; done) | omega))
set_option maxRecDepth 100000 in
set_option maxHeartbeats 1000000 in
theorem node_calls (w0 : World) (Z : Nat → Prop) (hZ : ∀ k, Z k → k < w0.heap.size) (mg : Nat) (mt : TypeId) (me : Int) (mr : List Value) (n : Nd) (pA : Option Addr) (pc : Nat) (p : List Sl) (hm : (Res.box mg mt (.int .i64 me :: mr)).holds w0) (hmz : ¬ Z mg) (hp : (dRow 1 pA p.length pc (encSs p)).φ w0 Z) (hps : (dAll p).φ w0 Z) (hl : p.length ≤ 100 := by first | assumption | omega | (simp; done) | (simp; omega)) (hb : ∀ s ∈ p, s.2.2.length ≤ 100000 := by first | assumption | omega | (simp; done) | (simp; omega)) :
    Calls Tryd.prog 72 [.pointer (some ⟨mg, 0, none⟩), .agg #[.int .i64 (n.K), .int .i64 (n.N), .int .i64 (n.M), .string n.S], .slice pA p.length pc].toArray w0 (fun e w' => ∃ (rA0 : Option Addr) (rc0 : Nat) (rL0 : List Nd), e = .returned (.slice rA0 rL0.length rc0) ∧ Fr (· = mg) w0 w' ∧ (Res.box mg mt (.int .i64 (me) :: mr)).holds w' ∧ (dRow 4 rA0 rL0.length rc0 (encNs rL0)).φ w' (nxt Z w0 w') ∧ rL0 = noL me n (lsts p)) := by
 have b0 := sM hm hmz hZ (zc hp (zc hps zn))
 refine c_enter Tryd.func72 rfl Tryd.ntmps72 rfl (fun c0 d0 => ?_)
 refine wsc (fun c0 f0 => ?_)
 refine m_box (cs := [.int .i64 (n.K), .int .i64 (n.N), .int .i64 (n.M), .string n.S]) sv d0 b0 rfl rfl rfl rfl (by decide) (fun c0 h0 i0 j0 k0 => ?_)
 refine asg j0 (fun h0 c0 => ?_)
 refine wpList_nil (x_then_n (f0 _ _ ?_))
 refine wp_seq_k (fun f0 h0 => ?_)
 refine wsc (fun f0 j0 => ?_)
 refine mv c0 (fun f0 d0 => ?_)
 refine r_nilCheck sv d0 rfl rfl rfl (by decide) (fun f0 c0 => ?_)
 refine m_field (j' := 0) sv c0 rfl rfl rfl Tryd.underlying59 rfl sz27 rfl rfl (by decide) (fun f0 d0 => ?_)
 refine m_load (i := 0) sv d0 k0 rfl rfl rfl rfl rfl Tryd.underlying27 rfl (by decide) (fun f0 c0 => ?_)
 refine r_neq sv c0 rfl rfl rfl rfl (by decide) (fun f0 d0 => ?_)
 refine wpList_nil (x_then_n (j0 _ _ ?_))
 rcases Decidable.em ((me) = 0) with j0 | j0
 ·
  have f0 := d0.setb (d := 14) (b := false) rfl (by rw [(decide_eq_true j0)]; rfl)
  refine wp_cond_false (f0.ev rfl) ?_
  refine wp_skip ?_
  refine x_then_n (h0 _ _ ?_)
  refine wsc (fun h0 c0 => ?_)
  refine asg f0 (fun h0 b0 => ?_)
  refine wpList_nil (x_then_n (c0 _ _ ?_))
  refine wp_seq_k (fun c0 h0 => ?_)
  refine wsc (fun c0 f0 => ?_)
  refine mv b0 (fun c0 m0 => ?_)
  refine r_len sv m0 rfl rfl rfl rfl Tryd.underlying42 (by decide) (fun c0 b0 => ?_)
  refine mv b0 (fun c0 m0 => ?_)
  refine wpList_nil (x_then_n (f0 _ _ ?_))
  refine wp_block ?_
  have f0 := k0.nilrow 39 4
  refine wp_loop_ghost (fun gn ga gw => ∃ k : Nat, ∃ Ao : Option Addr, ∃ co : Nat, (Reg ga 29 [(1000000, .bool false), (4, .pointer (some ⟨i0, 0, none⟩)), (6, .slice none 0 0), (15, .slice pA p.length pc), (16, .int .i64 ((p.length : Nat) : Int)), (17, .int .i64 ((k : Nat) : Int)), (7, .slice Ao (((lsts (p.take k)).flatten).length) co)]) ∧ (St w0 Z (· = mg) gw [.box mg mt (.int .i64 (me) :: mr), .box i0 39 [.int .i64 (n.K), .int .i64 (n.N), .int .i64 (n.M), .string n.S], .row Ao (((lsts (p.take k)).flatten).length) co 39 4 (encNs ((lsts (p.take k)).flatten))] [dRow 1 pA p.length pc (encSs p), dAll p]) ∧ (k ≤ p.length) ∧ (p.length - k) = gn) _ ⟨0, none, 0, (m0.sub (rc rfl (rc rfl (rc rfl (rc rfl (rc rfl (rc rfl (rc rfl rnl)))))))), f0, by omega, rfl⟩ ?_
  rintro f0 m0 i0 ⟨k, Ao, co, c0, b0, hk, n0⟩
  have hfl := flat_le hb hk
  refine wsc (fun n0 i0 => ?_)
  refine r_lss sv c0 rfl rfl rfl rfl (by decide) (fun n0 m0 => ?_)
  refine wpList_nil (x_then_n (i0 _ _ ?_))
  refine wp_seq_k (fun i0 n0 => ?_)
  rcases Decidable.em (((k : Nat) : Int) < ((p.length : Nat) : Int)) with i0 | i0
  ·
   have c0 := m0.setb (d := 18) (b := true) rfl (decide_eq_true i0)
   refine wp_cond_true (c0.ev rfl) ?_
   refine wp_skip ?_
   refine x_then_n (n0 _ _ ?_)
   refine wp_seq_k (fun n0 f0 => ?_)
   refine wp_block ?_
   refine wsc (fun n0 o0 => ?_)
   refine m_index (i := k) (j := k * 1) sv c0 rfl rfl rfl rfl Tryd.underlying42 sz22 (by omega) (by omega) (ss_elem (t := p) (k := k) (b0.row (i := 0) rfl).2 (by omega)).some_ rfl (by decide) (fun n0 p0 => ?_)
   refine m_loadE sv p0 rfl rfl rfl 0 (k * 1) (ss_elem (t := p) (k := k) (b0.row (i := 0) rfl).2 (by omega)) rfl rfl Tryd.underlying22 rfl (by decide) (fun n0 c0 => ?_)
   have n0 := b0.data (dRow 4 ((nthS p k).1) ((nthS p k).2.2.length) ((nthS p k).2.1) (encNs ((nthS p k).2.2))) (all_at (t := p) (k := k) (b0.get (i := 1) rfl) (by omega))
   refine asg c0 (fun p0 q0 => ?_)
   refine wpList_nil (x_then_n (o0 _ _ (c_region ?_)))
   refine mv q0 (fun o0 p0 => ?_)
   refine mv p0 (fun o0 q0 => ?_)
   refine m_appendF (f := encN) (i := 2) ((lsts (p.take k)).flatten) ((nthS p k).2.2) sv q0 n0 rfl rfl rfl rfl rfl encN_len (encN_one _) Tryd.underlying22 zi39 rfl rfl (n0.row (i := 2) rfl).2.news rfl (by first | omega | (simp only [List.length_cons, List.length_nil]; omega)) (by decide) (fun o0 p0 c0 s0 t0 u0 v0 => ?_)
   have t0 : (((lsts (p.take k)).flatten) ++ ((nthS p k).2.2)).length = ((lsts (p.take k)).flatten).length + (nthS p k).2.2.length := by first | (simp only [List.length_append, List.length_take, List.length_cons, List.length_nil]; done) | (simp only [List.length_append, List.length_take, List.length_cons, List.length_nil]; omega)
   refine asg u0 (fun t0 p0 => ?_)
   refine wpList_nil ?_
   refine x_block_n ?_
   refine x_then_n (f0 _ _ ?_)
   refine c_region ?_
   refine r_add (z := ((k + 1 : Nat) : Int)) sv p0 rfl rfl rfl rfl (by decide) (by omega) (by omega) (by omega) (fun f0 t0 => ?_)
   refine mv t0 (fun f0 p0 => ?_)
   refine wpList_nil ?_
   have f0 : ((lsts (p.take k)).flatten) ++ ((nthS p k).2.2) = (lsts (p.take (k + 1))).flatten := (flat_step (by omega)).symm
   have t0 := p0
   have p0 := v0
   rw [f0] at t0 p0
   have f0 := p0.forget 2
   exact ⟨_, by omega, k + 1, c0, s0, (t0.sub (rc rfl (rc rfl (rc rfl (rc rfl (rc rfl (rc rfl (rc rfl rnl)))))))), f0, by omega, rfl⟩
  ·
   have f0 := m0.setb (d := 18) (b := false) rfl (decide_eq_false i0)
   refine wp_cond_false (f0.ev rfl) ?_
   refine wp_exit ?_
   refine x_then_e ?_
   refine x_then_e ?_
   refine x_block_eq ?_
   refine x_then_n (h0 _ _ ?_)
   refine wsc (fun h0 i0 => ?_)
   refine mv f0 (fun h0 m0 => ?_)
   refine m_loadN (i := 1) (vs := [.int .i64 (n.K), .int .i64 (n.N), .int .i64 (n.M), .string n.S]) sv m0 b0 rfl rfl rfl rfl rfl Tryd.underlying39 rfl sz39 (by decide) (fun h0 f0 => ?_)
   refine mbs [(0, .tmp 26)] [.int .i64 (n.K), .int .i64 (n.N), .int .i64 (n.M), .string n.S] sv f0 b0 Tryd.underlying22 zi39 (fun h0 m0 t0 s0 c0 => ?_)
   refine m_appendF (f := encN) (i := 2) ((lsts (p.take k)).flatten) ([n]) sv s0 c0 rfl rfl rfl rfl rfl encN_len (encN_one _) Tryd.underlying22 zi39 rfl rfl (own_lnews (f := encN) (c0.res (i := 3) rfl)) rfl (by first | omega | (simp only [List.length_cons, List.length_nil]; omega)) (by decide) (fun t0 m0 h0 f0 b0 p0 v0 => ?_)
   have b0 : (((lsts (p.take k)).flatten) ++ ([n]) : List Nd).length = ((lsts (p.take k)).flatten).length + 1 := by first | (simp only [List.length_append, List.length_take, List.length_cons, List.length_nil]; done) | (simp only [List.length_append, List.length_take, List.length_cons, List.length_nil]; omega)
   have b0 := v0.erase 3
   refine asg p0 (fun v0 m0 => ?_)
   refine wpList_nil (x_then_n (i0 _ _ ?_))
   refine wp_ret ?_
   refine e_ret1 m0 rfl rfl rfl ?_
   have m0 := own_cap (b0.res (i := 2) rfl)
   obtain ⟨i0, v0⟩ := b0.row_dataM (i := 2) rfl (j := 0) rfl (by decide)
   have b0 := i0.data (dRow 4 h0 ((((lsts (p.take k)).flatten) ++ ([n]) : List Nd).length) f0 (encNs (((lsts (p.take k)).flatten) ++ ([n])))) ⟨m0, v0⟩
   refine ⟨h0, f0, (((lsts (p.take k)).flatten) ++ ([n])), ?_, b0.fr, b0.res (i := 0) rfl, b0.rx 2, (by unfold noL; rw [if_pos (by assumption), List.take_of_length_le (by omega)])⟩
   exact congrArg Ending.returned (ret_s (by first | rfl | (simp; done)))
 ·
  have b0 := d0.setb (d := 14) (b := true) rfl (by rw [(decide_eq_false j0)]; rfl)
  refine wp_cond_true (b0.ev rfl) ?_
  refine wsc (fun j0 d0 => ?_)
  refine asg b0 (fun j0 f0 => ?_)
  refine wpList_nil (x_then_n (d0 _ _ ?_))
  refine wp_ret ?_
  refine x_then_r ?_
  refine e_ret1 f0 rfl rfl rfl ?_
  refine ⟨none, 0, [], ?_, k0.fr, k0.res (i := 0) rfl, ⟨Nat.le_refl _, RowI.nil _ _ _ _⟩, (by unfold noL; rw [if_neg (by assumption)])⟩
  exact congrArg Ending.returned (ret_s (by first | rfl | (simp; done)))
end Go.Proofs.YtcfponnkfhkbdaaDoor
/- Contracts of functions, one theorem each: what the call returns, and that nothing old is changed. Printed by gen.py. -/
namespace Go.Proofs.YtcfponnkfhkbdaaDoor
open Go Go.RowKit
set_option linter.unusedSimpArgs false
set_option linter.unusedVariables false
set_option maxRecDepth 100000 in
set_option maxHeartbeats 1000000 in
theorem fail_calls (w0 : World) (Z : Nat → Prop) (hZ : ∀ k, Z k → k < w0.heap.size) (mg : Nat) (mt : TypeId) (me : Int) (mr : List Value) (ee : Int) (hm : (Res.box mg mt (.int .i64 me :: mr)).holds w0) (hmz : ¬ Z mg) :
    Calls Tryd.prog 88 [.pointer (some ⟨mg, 0, none⟩), .int .i64 ee].toArray w0 (fun e w' => ∃ (rA0 : Option Addr) (rc0 : Nat), e = .returned (.slice rA0 (([] : List Nd)).length rc0) ∧ Fr (· = mg) w0 w' ∧ (Res.box mg mt (.int .i64 (if me = 0 then ee else me) :: mr)).holds w' ∧ (dRow 4 rA0 ((([] : List Nd)).length) rc0 (encNs ([] : List Nd))).φ w' (nxt Z w0 w')) := by
 have b0 := sM hm hmz hZ zn
 refine c_enter Tryd.func88 rfl Tryd.ntmps88 rfl (fun c0 d0 => ?_)
 refine wsc (fun c0 f0 => ?_)
 refine asg d0 (fun c0 h0 => ?_)
 refine wpList_nil (x_then_n (f0 _ _ ?_))
 refine wp_seq_k (fun f0 c0 => ?_)
 refine wsc (fun f0 d0 => ?_)
 refine mv h0 (fun f0 i0 => ?_)
 refine r_nilCheck sv i0 rfl rfl rfl (by decide) (fun f0 h0 => ?_)
 refine m_field (j' := 0) sv h0 rfl rfl rfl Tryd.underlying59 rfl sz27 rfl rfl (by decide) (fun f0 i0 => ?_)
 refine m_load (i := 0) sv i0 b0 rfl rfl rfl rfl rfl Tryd.underlying27 rfl (by decide) (fun f0 h0 => ?_)
 refine r_eql sv h0 rfl rfl rfl rfl (by decide) (fun f0 i0 => ?_)
 refine wpList_nil (x_then_n (d0 _ _ ?_))
 rcases Decidable.em ((me) = 0) with d0 | d0
 ·
  have f0 := i0.setb (d := 9) (b := true) rfl (decide_eq_true d0)
  refine wp_cond_true (f0.ev rfl) ?_
  refine c_region ?_
  refine mv f0 (fun h0 j0 => ?_)
  refine mv j0 (fun h0 f0 => ?_)
  refine r_nilCheck sv f0 rfl rfl rfl (by decide) (fun h0 j0 => ?_)
  refine m_field (j' := 0) sv j0 rfl rfl rfl Tryd.underlying59 rfl sz27 rfl rfl (by decide) (fun h0 f0 => ?_)
  refine m_store (i := 0) (cs' := (.int .i64 (ee) :: mr)) se f0 b0 rfl rfl rfl rfl rfl sz27 rfl rfl rfl (fun h0 j0 k0 m0 => ?_)
  refine wpList_nil (x_then_n (c0 _ _ ?_))
  refine wsc (fun j0 h0 => ?_)
  refine asg k0 (fun j0 f0 => ?_)
  refine wpList_nil (x_then_n (h0 _ _ ?_))
  refine wp_ret ?_
  refine e_ret1 f0 rfl rfl rfl ?_
  have f0 : ([] : List Nd) = [] := rfl
  rw [f0]
  refine ⟨none, 0, ?_, m0.fr, (by rw [show (if me = 0 then ee else me : Int) = (ee) by first | rfl | omega | assumption | exact decide_eq_true (by assumption) | (have f0 := d0; (try simp at f0);  omega) | (simp [d0]; done) | (simp [] at *; done) | (simp [d0] <;> omega) | (rw [Bool.eq_iff_iff]; simp [d0] <;> omega) | (rw [Bool.eq_iff_iff]; simp [d0] at * <;> omega)]; exact m0.res (i := 0) rfl), ⟨Nat.le_refl _, RowI.nil _ _ _ _⟩⟩
  exact congrArg Ending.returned rfl
 ·
  have m0 := i0.setb (d := 9) (b := false) rfl (decide_eq_false d0)
  refine wp_cond_false (m0.ev rfl) ?_
  refine wp_skip ?_
  refine x_then_n (c0 _ _ ?_)
  refine wsc (fun c0 i0 => ?_)
  refine asg m0 (fun c0 h0 => ?_)
  refine wpList_nil (x_then_n (i0 _ _ ?_))
  refine wp_ret ?_
  refine e_ret1 h0 rfl rfl rfl ?_
  have h0 : ([] : List Nd) = [] := rfl
  rw [h0]
  refine ⟨none, 0, ?_, b0.fr, (by rw [show (if me = 0 then ee else me : Int) = (me) by first | rfl | omega | assumption | exact decide_eq_true (by assumption) | (have f0 := d0; (try simp at f0);  omega) | (simp [d0]; done) | (simp [] at *; done) | (simp [d0] <;> omega) | (rw [Bool.eq_iff_iff]; simp [d0] <;> omega) | (rw [Bool.eq_iff_iff]; simp [d0] at * <;> omega)]; exact b0.res (i := 0) rfl), ⟨Nat.le_refl _, RowI.nil _ _ _ _⟩⟩
  exact congrArg Ending.returned rfl
set_option maxRecDepth 100000 in
set_option maxHeartbeats 1000000 in
theorem minst_calls (w0 : World) (Z : Nat → Prop) (hZ : ∀ k, Z k → k < w0.heap.size) (mg : Nat) (mt : TypeId) (me : Int) (mr : List Value) (tA : Option Addr) (tc : Nat) (t : List Nd) (psA : Option Addr) (psc : Nat) (ps : List Sl) (hShp : Shapes w0 Z) (hm : (Res.box mg mt (.int .i64 me :: mr)).holds w0) (hmz : ¬ Z mg) (ht : (dRow 4 tA t.length tc (encNs t)).φ w0 Z) (hps : (dRow 1 psA ps.length psc (encSs ps)).φ w0 Z) (hpss : (dAll ps).φ w0 Z) (hsm : sml t := by first | assumption | omega | (simp; done) | (simp; omega)) (hl : t.length ≤ 1000000 := by first | assumption | omega | (simp; done) | (simp; omega)) (hls : ∀ x ∈ lsts ps, sml x := by first | assumption | omega | (simp; done) | (simp; omega)) (hlb : ∀ x ∈ lsts ps, x.length ≤ 1000000 := by first | assumption | omega | (simp; done) | (simp; omega)) (hl0 : ps.length ≤ 1000 := by first | assumption | omega | (simp; done) | (simp; omega)) :
    Calls Tryd.prog 61 [.pointer (some ⟨mg, 0, none⟩), .slice tA t.length tc, .slice psA ps.length psc].toArray w0 (fun e w' => ∃ (rA0 : Option Addr) (rc0 : Nat) (rL0 : List Nd), e = .returned (.slice rA0 rL0.length rc0) ∧ Fr (· = mg) w0 w' ∧ (Res.box mg mt (.int .i64 (inQ me t (lsts ps)) :: mr)).holds w' ∧ (dRow 4 rA0 rL0.length rc0 (encNs rL0)).φ w' (nxt Z w0 w') ∧ rL0 = inL me t (lsts ps)) := by
 have b0 := sM hm hmz hZ (zc (d := dShapes) hShp (zc ht (zc hps (zc hpss zn))))
 refine c_enter Tryd.func61 rfl Tryd.ntmps61 rfl (fun c0 d0 => ?_)
 refine wsc (fun c0 f0 => ?_)
 refine asg d0 (fun c0 h0 => ?_)
 refine wpList_nil (x_then_n (f0 _ _ ?_))
 refine wp_seq_k (fun f0 c0 => ?_)
 refine wsc (fun f0 d0 => ?_)
 refine mv h0 (fun f0 i0 => ?_)
 refine r_nilCheck sv i0 rfl rfl rfl (by decide) (fun f0 h0 => ?_)
 refine m_field (j' := 0) sv h0 rfl rfl rfl Tryd.underlying59 rfl sz27 rfl rfl (by decide) (fun f0 i0 => ?_)
 refine m_load (i := 0) sv i0 b0 rfl rfl rfl rfl rfl Tryd.underlying27 rfl (by decide) (fun f0 h0 => ?_)
 refine r_neq sv h0 rfl rfl rfl rfl (by decide) (fun f0 i0 => ?_)
 refine wpList_nil (x_then_n (d0 _ _ ?_))
 rcases Decidable.em ((me) = 0) with d0 | d0
 ·
  have f0 := i0.setb (d := 13) (b := false) rfl (by rw [(decide_eq_true d0)]; rfl)
  refine wp_cond_false (f0.ev rfl) ?_
  refine wp_skip ?_
  refine x_then_n (c0 _ _ ?_)
  refine wsc (fun c0 h0 => ?_)
  refine mv f0 (fun c0 j0 => ?_)
  refine mv j0 (fun c0 f0 => ?_)
  have c0 := b0.nf
  refine k_call (xs := [.tmp 15, .tmp 16]) se f0 rfl rfl rfl (by decide) ok87 (inst_calls _ _ c0.il _ _ _ _ _ _ (c0.g 0) (c0.g 1) (c0.g 2) (c0.g 3)) ?_
  rintro f0 j0 ⟨k0, m0, rfl, n0, o0⟩
  have j0 := c0.below n0.below
  have n0 := c0.dN j0 o0
  refine ⟨_, rfl, fun j0 o0 => ?_⟩
  refine mv o0 (fun j0 c0 => ?_)
  refine r_extract sv c0 rfl rfl rfl rfl (by decide) (fun j0 o0 => ?_)
  refine r_extract sv o0 rfl rfl rfl rfl (by decide) (fun j0 c0 => ?_)
  refine asg c0 (fun j0 o0 => ?_)
  refine asg o0 (fun j0 c0 => ?_)
  refine wpList_nil (x_then_n (h0 _ _ ?_))
  refine wp_seq_k (fun h0 j0 => ?_)
  refine wsc (fun h0 o0 => ?_)
  refine mv c0 (fun h0 f0 => ?_)
  refine r_neq sv f0 rfl rfl rfl rfl (by decide) (fun h0 c0 => ?_)
  refine wpList_nil (x_then_n (o0 _ _ ?_))
  rcases Decidable.em (((inE t (lsts ps))) = 0) with o0 | o0
  ·
   have h0 := c0.setb (d := 21) (b := false) rfl (by rw [(decide_eq_true o0)]; rfl)
   refine wp_cond_false (h0.ev rfl) ?_
   refine wp_skip ?_
   refine x_then_n (j0 _ _ ?_)
   refine wsc (fun j0 f0 => ?_)
   refine mv h0 (fun j0 p0 => ?_)
   refine asg p0 (fun j0 h0 => ?_)
   refine wpList_nil (x_then_n (f0 _ _ ?_))
   refine wp_ret ?_
   refine e_ret1 h0 rfl rfl rfl ?_
   refine ⟨k0, m0, (inA t (lsts ps)), ?_, n0.fr, (by rw [show (inQ me t (lsts ps) : Int) = (me) by first | (simp [upE, inQ, d0, o0]; done) | (simp_all [upE, inQ]; done) | (simp only [upE, inQ] <;> split <;> simp_all)]; exact n0.res (i := 0) rfl), n0.rx 4, (by unfold inL; rw [if_pos (by assumption)])⟩
   exact congrArg Ending.returned (ret_s (by first | rfl | (simp; done)))
  ·
   have m0 := c0.setb (d := 21) (b := true) rfl (by rw [(decide_eq_false o0)]; rfl)
   refine wp_cond_true (m0.ev rfl) ?_
   refine wsc (fun c0 k0 => ?_)
   refine mv m0 (fun c0 h0 => ?_)
   refine mv h0 (fun c0 m0 => ?_)
   have c0 := n0.nf
   refine k_call (xs := [.tmp 22, .tmp 23]) se m0 rfl rfl rfl (by decide) ok88 (fail_calls _ _ c0.il _ _ _ _ ((inE t (lsts ps))) (c0.z 0) (imm_box (i := 0) rfl)) ?_
   rintro m0 n0 ⟨h0, f0, rfl, j0, p0, q0⟩
   have n0 := c0.callM (i := 0) rfl j0 p0
   have p0 := c0.dM 0 n0 q0
   refine ⟨_, rfl, fun n0 q0 => ?_⟩
   refine asg q0 (fun n0 c0 => ?_)
   refine wpList_nil (x_then_n (k0 _ _ ?_))
   refine wp_ret ?_
   refine x_then_r ?_
   refine e_ret1 c0 rfl rfl rfl ?_
   refine ⟨h0, f0, ([] : List Nd), ?_, p0.fr, (by rw [show (inQ me t (lsts ps) : Int) = ((if (me) = 0 then ((inE t (lsts ps))) else (me))) by first | (simp [upE, inQ, d0, o0]; done) | (simp_all [upE, inQ]; done) | (simp only [upE, inQ] <;> split <;> simp_all)]; exact p0.res (i := 0) rfl), p0.rx 5, (by unfold inL; first | (rw [if_neg (by assumption)]; done) | (rw [if_pos (by assumption), in_bad (by assumption)]; done))⟩
   exact congrArg Ending.returned (ret_s (by first | rfl | (simp; done)))
 ·
  have p0 := i0.setb (d := 13) (b := true) rfl (by rw [(decide_eq_false d0)]; rfl)
  refine wp_cond_true (p0.ev rfl) ?_
  refine wsc (fun i0 f0 => ?_)
  refine asg p0 (fun i0 h0 => ?_)
  refine wpList_nil (x_then_n (f0 _ _ ?_))
  refine wp_ret ?_
  refine x_then_r ?_
  refine e_ret1 h0 rfl rfl rfl ?_
  refine ⟨none, 0, [], ?_, b0.fr, (by rw [show (inQ me t (lsts ps) : Int) = (me) by first | (simp [upE, inQ, d0]; done) | (simp_all [upE, inQ]; done) | (simp only [upE, inQ] <;> split <;> simp_all)]; exact b0.res (i := 0) rfl), ⟨Nat.le_refl _, RowI.nil _ _ _ _⟩, (by unfold inL; first | (rw [if_neg (by assumption)]; done) | (rw [if_pos (by assumption), in_bad (by assumption)]; done))⟩
  exact congrArg Ending.returned (ret_s (by first | rfl | (simp; done)))
end Go.Proofs.YtcfponnkfhkbdaaDoor
/- Contracts of functions, one theorem each: what the call returns, and that nothing old is changed. Printed by gen.py. -/
namespace Go.Proofs.YtcfponnkfhkbdaaDoor
open Go Go.RowKit
set_option linter.unusedSimpArgs false
set_option linter.unusedVariables false
set_option maxRecDepth 100000 in
set_option maxHeartbeats 1000000 in
theorem stuck_calls (w0 : World) (Z : Nat → Prop) (hZ : ∀ k, Z k → k < w0.heap.size) (mg : Nat) (mt : TypeId) (me : Int) (mr : List Value) (hm : (Res.box mg mt (.int .i64 me :: mr)).holds w0) (hmz : ¬ Z mg) :
    Calls Tryd.prog 64 [.pointer (some ⟨mg, 0, none⟩)].toArray w0 (fun e w' => ∃ (rA0 : Option Addr) (rc0 : Nat), e = .returned (.slice rA0 (([] : List Nd)).length rc0) ∧ Fr (· = mg) w0 w' ∧ (Res.box mg mt (.int .i64 (if me = 0 then 120 else me) :: mr)).holds w' ∧ (dRow 4 rA0 ((([] : List Nd)).length) rc0 (encNs ([] : List Nd))).φ w' (nxt Z w0 w')) := by
 have b0 := sM hm hmz hZ zn
 refine c_enter Tryd.func64 rfl Tryd.ntmps64 rfl (fun c0 d0 => ?_)
 refine wsc (fun c0 f0 => ?_)
 refine asg d0 (fun c0 h0 => ?_)
 refine wpList_nil (x_then_n (f0 _ _ ?_))
 refine wsc (fun f0 c0 => ?_)
 refine mv h0 (fun f0 d0 => ?_)
 have f0 := b0.nf
 refine k_call (xs := [.tmp 3, .const (.int .i64 120)]) se d0 rfl rfl rfl (by decide) ok88 (fail_calls _ _ f0.il _ _ _ _ 120 (f0.z 0) (imm_box (i := 0) rfl)) ?_
 rintro d0 b0 ⟨h0, i0, rfl, j0, k0, m0⟩
 have b0 := f0.callM (i := 0) rfl j0 k0
 have k0 := f0.dM 0 b0 m0
 refine ⟨_, rfl, fun b0 m0 => ?_⟩
 refine asg m0 (fun b0 f0 => ?_)
 refine wpList_nil (x_then_n (c0 _ _ ?_))
 refine wp_ret ?_
 refine e_ret1 f0 rfl rfl rfl ?_
 refine ⟨h0, i0, ?_, k0.fr, (by rw [show (if me = 0 then 120 else me : Int) = ((if (me) = 0 then 120 else (me))) by first | rfl | omega | assumption | exact decide_eq_true (by assumption) | ( omega) | (simp []; done) | (simp [] at *; done) | (simp [] <;> omega) | (rw [Bool.eq_iff_iff]; simp [] <;> omega) | (rw [Bool.eq_iff_iff]; simp [] at * <;> omega)]; exact k0.res (i := 0) rfl), k0.rx 0⟩
 exact congrArg Ending.returned rfl
set_option maxRecDepth 100000 in
set_option maxHeartbeats 1000000 in
theorem cloneS_calls (w0 : World) (Z : Nat → Prop) (hZ : ∀ k, Z k → k < w0.heap.size) (tA : Option Addr) (tc : Nat) (t : List Sl) (ht : (dRow 1 tA t.length tc (encSs t)).φ w0 Z) (hts : (dAll t).φ w0 Z) (hl : t.length ≤ 1000000 := by first | assumption | omega | (simp; done) | (simp; omega)) :
    Calls Tryd.prog 89 [.slice tA t.length tc].toArray w0 (fun e w' => ∃ (rA0 : Option Addr) (rc0 : Nat), e = .returned (.slice rA0 (t).length rc0) ∧ Fr none_ w0 w' ∧ (Res.row rA0 (t).length rc0 22 1 (encSs t)).holds w' ∧ (∀ k, (Res.row rA0 (t).length rc0 22 1 (encSs t)).blk = some k → w0.heap.size ≤ k)) := by
 have b0 := s0 (M := none_) hZ (zc ht (zc hts zn))
 refine c_enter Tryd.func89 rfl Tryd.ntmps89 rfl (fun c0 d0 => ?_)
 refine wsc (fun c0 f0 => ?_)
 refine asg d0 (fun c0 h0 => ?_)
 refine wpList_nil (x_then_n (f0 _ _ ?_))
 refine wp_seq_k (fun f0 c0 => ?_)
 refine wsc (fun f0 d0 => ?_)
 refine mv h0 (fun f0 i0 => ?_)
 refine r_eqlNil sv i0 rfl rfl rfl rfl Tryd.underlying42 (by decide) (fun f0 h0 => ?_)
 refine wpList_nil (x_then_n (d0 _ _ ?_))
 rcases Bool.eq_false_or_eq_true (Option.isNone tA) with d0 | d0
 ·
  have f0 := h0.setb (d := 4) (b := true) rfl d0
  refine wp_cond_true (f0.ev rfl) ?_
  refine wsc (fun i0 j0 => ?_)
  refine asg f0 (fun i0 k0 => ?_)
  refine wpList_nil (x_then_n (j0 _ _ ?_))
  refine wp_ret ?_
  refine x_then_r ?_
  refine e_ret1 k0 rfl rfl rfl ?_
  have k0 : t = [] := List.eq_nil_of_length_eq_zero (nil_len ht (by assumption))
  rw [k0]
  refine ⟨none, 0, ?_, b0.fr, nil_row1, nil_row2⟩
  exact congrArg Ending.returned rfl
 ·
  have k0 := h0.setb (d := 4) (b := false) rfl d0
  refine wp_cond_false (k0.ev rfl) ?_
  refine wp_skip ?_
  refine x_then_n (c0 _ _ ?_)
  refine wsc (fun c0 d0 => ?_)
  have c0 := b0.data (dAll []) all_nil
  refine mbs [] [] sv k0 c0 Tryd.underlying42 zi22 (fun b0 h0 j0 i0 f0 => ?_)
  refine mv i0 (fun j0 h0 => ?_)
  refine m_appendF (f := encS) (i := 0) ([]) (t) sv h0 f0 rfl rfl rfl rfl rfl encS_len (encS_one _) Tryd.underlying42 zi22 rfl rfl (f0.row (i := 0) rfl).2.news rfl (by first | omega | (simp only [List.length_cons, List.length_nil]; omega)) (by decide) (fun j0 i0 b0 c0 k0 m0 n0 => ?_)
  have k0 : (([]) ++ t : List Sl).length = t.length := by first | (simp only [List.length_append, List.length_take, List.length_cons, List.length_nil]; done) | (simp only [List.length_append, List.length_take, List.length_cons, List.length_nil]; omega)
  have k0 := n0.data (dAll (([]) ++ t)) (all_append (n0.get (i := 2) rfl) (n0.get (i := 1) rfl))
  refine asg m0 (fun n0 i0 => ?_)
  refine wpList_nil (x_then_n (d0 _ _ ?_))
  refine wp_ret ?_
  refine e_ret1 i0 rfl rfl rfl ?_
  have i0 : t = ([]) ++ t := by simp
  rw [i0]
  refine ⟨b0, c0, ?_, k0.fr, (k0.res (i := 0) rfl), (k0.fresh (i := 0) rfl)⟩
  exact congrArg Ending.returned rfl
set_option maxRecDepth 100000 in
set_option maxHeartbeats 6000000 in
theorem uagain_calls (w0 : World) (Z : Nat → Prop) (hZ : ∀ k, Z k → k < w0.heap.size) (rg : Nat) (re : Int) (rn : Nd) (rx : Nd) (rpA : Option Addr) (rpc : Nat) (rp : List Sl) (rqA : Option Addr) (rqc : Nat) (rq : List Sl) (tA : Option Addr) (tc : Nat) (t : List Nd) (hr : (Res.box rg 61 [.int .i64 (re), .int .i64 (rn.K), .int .i64 (rn.N), .int .i64 (rn.M), .string rn.S, .int .i64 (rx.K), .int .i64 (rx.N), .int .i64 (rx.M), .string rx.S, .slice rpA rp.length rpc, .slice rqA rq.length rqc, .slice none 0 0]).holds w0) (hrz : ¬ Z rg) (hrp : (dRow 1 rpA rp.length rpc (encSs rp)).φ w0 Z) (hrps : (dAll rp).φ w0 Z) (hrq : (dRow 1 rqA rq.length rqc (encSs rq)).φ w0 Z) (hrqs : (dAll rq).φ w0 Z) (ht : (dRow 4 tA t.length tc (encNs t)).φ w0 Z) (hp4 : rp.length ≤ 9 := by first | assumption | omega | (simp; done) | (simp; omega)) (hq4 : rq.length ≤ 9 := by first | assumption | omega | (simp; done) | (simp; omega)) (hps : ∀ x ∈ lsts rp, sml x ∧ x.length ≤ 4000 := by first | assumption | omega | (simp; done) | (simp; omega)) (hqs : ∀ x ∈ lsts rq, sml x ∧ x.length ≤ 4000 := by first | assumption | omega | (simp; done) | (simp; omega)) (h0p : 0 < rp.length := by first | assumption | omega | (simp; done) | (simp; omega)) (hsn : rn.S.size < 1000000 := by first | assumption | omega | (simp; done) | (simp; omega)) (hst : sml t := by first | assumption | omega | (simp; done) | (simp; omega)) (hlt : t.length ≤ 4000 := by first | assumption | omega | (simp; done) | (simp; omega)) :
    Calls Tryd.prog 62 [.pointer (some ⟨rg, 0, none⟩), .slice tA t.length tc].toArray w0 (fun e w' => ∃ (rA0 : Option Addr) (rc0 : Nat) (rL0 : List Nd), e = .returned (.slice rA0 rL0.length rc0) ∧ Fr (· = rg) w0 w' ∧ (Res.box rg 61 [.int .i64 (re), .int .i64 (rn.K), .int .i64 (rn.N), .int .i64 (rn.M), .string rn.S, .int .i64 (rx.K), .int .i64 (rx.N), .int .i64 (rx.M), .string rx.S, .slice rpA rp.length rpc, .slice rqA rq.length rqc, .slice none 0 0]).holds w' ∧ (dRow 4 rA0 rL0.length rc0 (encNs rL0)).φ w' (nxt Z w0 w') ∧ rL0 = noL re rn ((lsts rp).set ((lsts rp).length - 1) t)) := by
 have b0 := sM hr hrz hZ (zc hrp (zc hrps (zc hrq (zc hrqs (zc ht zn)))))
 refine c_enter Tryd.func62 rfl Tryd.ntmps62 rfl (fun c0 d0 => ?_)
 refine wsc (fun c0 f0 => ?_)
 refine asg d0 (fun c0 h0 => ?_)
 refine wpList_nil (x_then_n (f0 _ _ ?_))
 refine wsc (fun f0 c0 => ?_)
 refine mv h0 (fun f0 d0 => ?_)
 refine r_nilCheck sv d0 rfl rfl rfl (by decide) (fun f0 h0 => ?_)
 refine m_field (j' := 9) sv h0 rfl rfl rfl Tryd.underlying61 rfl sz42 rfl rfl (by decide) (fun f0 d0 => ?_)
 refine m_load (i := 0) sv d0 b0 rfl rfl rfl rfl rfl Tryd.underlying42 rfl (by decide) (fun f0 h0 => ?_)
 have f0 := b0.nf
 refine k_call (xs := [.tmp 9]) se h0 rfl rfl rfl (by decide) ok89 (cloneS_calls _ _ f0.il _ _ _ (f0.g 0) (f0.g 1)) ?_
 rintro h0 b0 ⟨d0, i0, rfl, j0, k0, m0⟩
 have b0 := f0.callO j0 k0 m0
 refine ⟨_, rfl, fun m0 k0 => ?_⟩
 refine asg k0 (fun m0 j0 => ?_)
 refine wpList_nil (x_then_n (c0 _ _ ?_))
 refine wsc (fun c0 m0 => ?_)
 refine mv j0 (fun c0 k0 => ?_)
 refine mv k0 (fun c0 j0 => ?_)
 refine r_len sv j0 rfl rfl rfl rfl Tryd.underlying42 (by decide) (fun c0 k0 => ?_)
 refine r_sub (z := (((rp.length : Nat) : Int) - 1)) sv k0 rfl rfl rfl rfl (by decide) (by omega) (by omega) (by omega) (fun c0 j0 => ?_)
 refine mv j0 (fun c0 k0 => ?_)
 refine m_index (i := (rp.length) - (1)) (j := ((rp.length) - (1)) * 1) sv k0 rfl rfl rfl rfl Tryd.underlying42 sz22 (by omega) (by omega) (own_ss (t := rp) (k := (rp.length) - (1)) (b0.res (i := 1) rfl) (by omega)).some_ rfl (by decide) (fun c0 j0 => ?_)
 refine m_storeE (f := encS) (i := 1) (k := (rp.length) - (1)) (L := rp) (z := ((tA, tc, t) : Sl)) se j0 b0 rfl rfl rfl rfl rfl rfl (by omega) encS_len (one1 (f := encS) encS_one) rfl sz22 (fun c0 k0 f0 h0 => ?_)
 have k0 : (rp.set ((rp.length) - (1)) ((tA, tc, t) : Sl)).length = rp.length := by simp
 have c0 := h0.data (dAll (rp.set ((rp.length) - (1)) ((tA, tc, t) : Sl))) (all_set (k := (rp.length) - (1)) (z := ((tA, tc, t) : Sl)) (h0.get (i := 1) rfl) (h0.get (i := 4) rfl))
 refine wpList_nil (x_then_n (m0 _ _ ?_))
 refine wp_seq_k (fun m0 h0 => ?_)
 obtain ⟨m0, j0, b0⟩ := c0.agree
 refine d_reg3 (n := 10) b0 6 (pB 0 0 pn) (pan_then pan_body) (fun j0 m0 c0 n0 o0 p0 => ?_)
 refine dtM 0 m0 f0 p0 (fun n0 j0 => ?_)
 refine dtN 1 m0 j0 p0 (fun n0 f0 => ?_)
 refine dtF 2 0 m0 f0 p0 Tryd.underlying61 sz59 (fun n0 j0 => ?_)
 refine dtM 3 m0 j0 p0 (fun n0 f0 => ?_)
 refine dtN 4 m0 f0 p0 (fun n0 j0 => ?_)
 refine dtF 5 1 m0 j0 p0 Tryd.underlying61 sz39 (fun n0 f0 => ?_)
 refine dt 6 rfl m0 f0 (want_n rfl) (fun x hx => m_loadCN (sy f0) f0 rfl rfl rfl (CellsAt.cons_ (hx.c 1) (CellsAt.cons_ (hx.c 2) (CellsAt.cons_ (hx.c 3) (CellsAt.cons_ (hx.c 4) (CellsAt.nil _ _))))) Tryd.underlying39 rfl sz39 (by decide) gt) p0 (fun n0 j0 => ?_)
 refine dtM 7 m0 j0 p0 (fun n0 f0 => ?_)
 refine d1 8 ?_
 have n0 := o0.nf
 have o0 := own_cap (n0.res (i := 1) rfl)
 obtain ⟨j0, p0⟩ := n0.row_dataM (i := 1) rfl (j := 0) rfl (by decide)
 have n0 := f0.conss f0 (i := 10) rfl k0
 have f0 := n0.conss n0 (i := 5) rfl k0
 have n0 := f0.conss f0 (i := 11) rfl k0
 have f0 := n0.conss n0 (i := 12) rfl k0
 have n0 := f0.conss f0 (i := 24) rfl k0
 have f0 := j0.data (dRow 1 d0 ((rp.set ((rp.length) - (1)) ((tA, tc, t) : Sl)).length) i0 (encSs (rp.set ((rp.length) - (1)) ((tA, tc, t) : Sl)))) ⟨o0, p0⟩
 refine k_call (xs := [.tmp 19, .tmp 23, .tmp 24]) (st_op rfl (want_n rfl)) n0 rfl rfl rfl (by decide) ok72 (node_calls _ _ f0.il _ _ _ _ rn _ _ (rp.set ((rp.length) - (1)) ((tA, tc, t) : Sl)) (f0.z 0) (imm_box (i := 0) rfl) (f0.g 7) (f0.g 5) (hl := (by rw [List.length_set]; omega)) (hb := (set_bd hps hlt))) ?_
 rintro n0 p0 ⟨j0, o0, i0, rfl, d0, k0, b0, q0⟩
 have p0 := f0.callM (i := 0) rfl d0 k0
 have k0 := f0.dM 0 p0 b0
 refine ⟨_, rfl, fun p0 b0 => ?_⟩
 have p0 := sWI k0 6 (pB 0 0 pn)
 refine ⟨p0, ?_⟩
 refine dtA 9 m0 b0 p0 (fun f0 d0 => ?_)
 refine wpAnyH_done (by kernel_rfl) (c0 _ _ ?_) _
 refine x_then_n (h0 _ _ ?_)
 refine wp_ret ?_
 refine e_ret1 d0 rfl rfl rfl ?_
 refine ⟨j0, o0, i0, ?_, k0.fr, k0.res (i := 0) rfl, k0.rx 8, (by rw [q0, lsts_set, lsts_len])⟩
 exact congrArg Ending.returned (ret_s (by first | rfl | (simp; done)))
set_option maxRecDepth 100000 in
set_option maxHeartbeats 1000000 in
theorem ureduct_calls (w0 : World) (Z : Nat → Prop) (hZ : ∀ k, Z k → k < w0.heap.size) (rg : Nat) (re : Int) (rn : Nd) (rx : Nd) (rpA : Option Addr) (rpc : Nat) (rp : List Sl) (rqA : Option Addr) (rqc : Nat) (rq : List Sl) (hShp : Shapes w0 Z) (hr : (Res.box rg 61 [.int .i64 (re), .int .i64 (rn.K), .int .i64 (rn.N), .int .i64 (rn.M), .string rn.S, .int .i64 (rx.K), .int .i64 (rx.N), .int .i64 (rx.M), .string rx.S, .slice rpA rp.length rpc, .slice rqA rq.length rqc, .slice none 0 0]).holds w0) (hrz : ¬ Z rg) (hrp : (dRow 1 rpA rp.length rpc (encSs rp)).φ w0 Z) (hrps : (dAll rp).φ w0 Z) (hrq : (dRow 1 rqA rq.length rqc (encSs rq)).φ w0 Z) (hrqs : (dAll rq).φ w0 Z) (hp4 : rp.length ≤ 9 := by first | assumption | omega | (simp; done) | (simp; omega)) (hq4 : rq.length ≤ 9 := by first | assumption | omega | (simp; done) | (simp; omega)) (hps : ∀ x ∈ lsts rp, sml x ∧ x.length ≤ 4000 := by first | assumption | omega | (simp; done) | (simp; omega)) (hqs : ∀ x ∈ lsts rq, sml x ∧ x.length ≤ 4000 := by first | assumption | omega | (simp; done) | (simp; omega)) (hlp : rp.length = many rn := by first | assumption | omega | (simp; done) | (simp; omega)) (hlq : rq.length = many rx := by first | assumption | omega | (simp; done) | (simp; omega)) (hsn : rn.S.size < 1000000 := by first | assumption | omega | (simp; done) | (simp; omega)) (he : re = 0 := by first | assumption | omega | (simp; done) | (simp; omega)) (h27 : ¬ rn.K = 27 := by first | assumption | omega | (simp; done) | (simp; omega)) :
    Calls Tryd.prog 37 [.pointer (some ⟨rg, 0, none⟩)].toArray w0 (fun e w' => ∃ (rA0 : Option Addr) (rc0 : Nat) (rL0 : List Nd), e = .returned (.slice rA0 rL0.length rc0) ∧ Fr (· = rg) w0 w' ∧ (Res.box rg 61 [.int .i64 (((urR rn rx (lsts rp) (lsts rq)).2)), .int .i64 (rn.K), .int .i64 (rn.N), .int .i64 (rn.M), .string rn.S, .int .i64 (rx.K), .int .i64 (rx.N), .int .i64 (rx.M), .string rx.S, .slice rpA rp.length rpc, .slice rqA rq.length rqc, .slice none 0 0]).holds w' ∧ (dRow 4 rA0 rL0.length rc0 (encNs rL0)).φ w' (nxt Z w0 w') ∧ rL0 = (urR rn rx (lsts rp) (lsts rq)).1) := by
 have b0 := sM hr hrz hZ (zc (d := dShapes) hShp (zc hrp (zc hrps (zc hrq (zc hrqs zn)))))
 have hpm : ∀ k, k < rp.length → sml (nthS rp k).2.2 ∧ (nthS rp k).2.2.length ≤ 4000 := fun k hk => hps _ (nthS_in hk)
 have hqm : ∀ k, k < rq.length → sml (nthS rq k).2.2 ∧ (nthS rq k).2.2.length ≤ 4000 := fun k hk => hqs _ (nthS_in hk)
 refine c_enter Tryd.func37 rfl Tryd.ntmps37 rfl (fun c0 d0 => ?_)
 refine wsc (fun c0 f0 => ?_)
 refine asg d0 (fun c0 h0 => ?_)
 refine wpList_nil (x_then_n (f0 _ _ ?_))
 refine wp_seq_k (fun f0 c0 => ?_)
 obtain ⟨f0, d0, i0⟩ := b0.agree
 refine d_reg3 (n := 13) i0 5 (pB 0 1 pn) (pan_then pan_body) (fun d0 f0 b0 j0 k0 m0 => ?_)
 refine dtM 0 f0 h0 m0 (fun j0 d0 => ?_)
 refine dtN 1 f0 d0 m0 (fun j0 h0 => ?_)
 refine dtF 2 1 f0 h0 m0 Tryd.underlying61 sz39 (fun j0 d0 => ?_)
 refine dtF 3 1 f0 d0 m0 Tryd.underlying39 sz3 (fun j0 h0 => ?_)
 refine dtC 4 0 f0 h0 m0 Tryd.underlying3 (fun j0 d0 => ?_)
 refine dtM 5 f0 d0 m0 (fun j0 h0 => ?_)
 refine dtN 6 f0 h0 m0 (fun j0 d0 => ?_)
 refine dtF 7 5 f0 d0 m0 Tryd.underlying61 sz39 (fun j0 h0 => ?_)
 refine dtF 8 5 f0 h0 m0 Tryd.underlying39 sz3 (fun j0 d0 => ?_)
 refine dtC 9 4 f0 d0 m0 Tryd.underlying3 (fun j0 h0 => ?_)
 refine dt 10 rfl f0 h0 (want_n rfl) (fun x hx => m_build (ps := [(0, .tmp 8), (1, .tmp 13)]) (v := .agg #[.int .i64 (rn.K), .int .i64 (rx.K)]) (sy h0) h0 rfl rfl rfl (fun _ => by kernel_rfl) (by decide) gt) m0 (fun j0 d0 => ?_)
 refine d1 11 ?_
 refine m_alloc (cs := [.int .i64 0, .int .i64 0]) (st_opV rfl (want_n rfl)) d0 k0 rfl rfl ze93 rfl (by decide) (fun j0 h0 m0 f0 i0 => ?_)
 have m0 := sWI i0 5 (pB 0 1 pn)
 refine ⟨m0, ?_⟩
 refine d1 12 ?_
 refine m_store (i := 1) (cs' := [.int .i64 (rn.K), .int .i64 (rx.K)]) (st_op rfl (want_n rfl)) f0 i0 rfl rfl rfl rfl rfl sz93 rfl rfl rfl (fun m0 h0 j0 d0 => ?_)
 have h0 := sWI d0 5 (pB 0 1 pn)
 refine ⟨h0, ?_⟩
 refine wpAnyH_done (by kernel_rfl) (b0 _ _ ?_) _
 refine x_then_n (c0 _ _ ?_)
 refine wp_seq_k (fun c0 b0 => ?_)
 refine wp_block ?_
 refine wsc (fun c0 h0 => ?_)
 refine m_loadN (i := 1) (vs := [.int .i64 (rn.K), .int .i64 (rx.K)]) sv j0 d0 rfl rfl rfl rfl rfl Tryd.underlying93 rfl sz93 (by decide) (fun c0 m0 => ?_)
 refine m_build (ps := [(0, .const (.int .i64 5)), (1, .const (.int .i64 4))]) (v := .agg #[.int .i64 5, .int .i64 4]) sv m0 rfl rfl rfl (fun _ => by kernel_rfl) (by decide) (fun c0 j0 => ?_)
 refine r_eqlP sv j0 rfl rfl rfl rfl (by decide) (fun c0 m0 => ?_)
 refine asg m0 (fun c0 j0 => ?_)
 refine wpList_nil (x_then_n (h0 _ _ ?_))
 rcases Bool.eq_false_or_eq_true (decide ((rn.K) = 5) && decide ((rx.K) = 4)) with h0 | h0
 ·
  have c0 := and_tl h0
  have m0 := of_decide_eq_true c0
  have hmkrn5 := many_5 m0
  have c0 := and_tr h0
  have i0 := of_decide_eq_true c0
  have hmkrx4 := many_4 i0
  have c0 := j0.setb (d := 15) (b := true) rfl h0
  refine wp_cond_true (c0.ev rfl) ?_
  refine wp_seq_k (fun f0 k0 => ?_)
  obtain ⟨f0, n0, o0⟩ := d0.agree
  refine d_reg3 (n := 18) o0 6 (pB 0 1 pn) (pan_then (pan_block (pan_then pan_body))) (fun f0 p0 q0 s0 t0 u0 => ?_)
  refine dtM 0 p0 c0 u0 (fun s0 f0 => ?_)
  refine dtN 1 p0 f0 u0 (fun s0 c0 => ?_)
  refine dtF 2 0 p0 c0 u0 Tryd.underlying61 sz59 (fun s0 f0 => ?_)
  refine dtM 3 p0 f0 u0 (fun s0 c0 => ?_)
  refine dtN 4 p0 c0 u0 (fun s0 f0 => ?_)
  refine dtF 5 10 p0 f0 u0 Tryd.underlying61 sz42 (fun s0 c0 => ?_)
  refine dtC 6 9 p0 c0 u0 Tryd.underlying42 (fun s0 f0 => ?_)
  refine dt 7 rfl p0 f0 (want_n rfl) (fun x hx => m_index (i := 1) (j := 1 * 1) (sy f0) f0 rfl rfl rfl rfl Tryd.underlying42 sz22 (by omega) (by omega) (ss_elem (t := rq) (k := 1) (sdat (n0 3 _ rfl) hx.ag).2 (by omega)).some_ rfl (by decide) gt) u0 (fun s0 c0 => ?_)
  refine dt 8 rfl p0 c0 (want_n rfl) (fun x hx => m_loadE (sy c0) c0 rfl rfl rfl 0 (1 * 1) (ss_elem (t := rq) (k := 1) (sdat (n0 3 _ rfl) hx.ag).2 (by omega)) rfl rfl Tryd.underlying22 rfl (by decide) gt) u0 (fun s0 f0 => ?_)
  have s0 := t0.data (dRow 4 ((nthS rq 1).1) ((nthS rq 1).2.2.length) ((nthS rq 1).2.1) (encNs ((nthS rq 1).2.2))) (all_at (t := rq) (k := 1) (t0.get (i := 4) rfl) (by omega))
  refine dtM 9 p0 f0 u0 (fun t0 c0 => ?_)
  refine dtN 10 p0 c0 u0 (fun t0 f0 => ?_)
  refine dtF 11 9 p0 f0 u0 Tryd.underlying61 sz42 (fun t0 c0 => ?_)
  refine dtC 12 8 p0 c0 u0 Tryd.underlying42 (fun t0 f0 => ?_)
  refine dt 13 rfl p0 f0 (want_n rfl) (fun x hx => m_index (i := 1) (j := 1 * 1) (sy f0) f0 rfl rfl rfl rfl Tryd.underlying42 sz22 (by omega) (by omega) (ss_elem (t := rp) (k := 1) (sdat (n0 1 _ rfl) hx.ag).2 (by omega)).some_ rfl (by decide) gt) u0 (fun t0 c0 => ?_)
  refine dt 14 rfl p0 c0 (want_n rfl) (fun x hx => m_loadE (sy c0) c0 rfl rfl rfl 0 (1 * 1) (ss_elem (t := rp) (k := 1) (sdat (n0 1 _ rfl) hx.ag).2 (by omega)) rfl rfl Tryd.underlying22 rfl (by decide) gt) u0 (fun t0 f0 => ?_)
  have t0 := s0.data (dRow 4 ((nthS rp 1).1) ((nthS rp 1).2.2.length) ((nthS rp 1).2.1) (encNs ((nthS rp 1).2.2))) (all_at (t := rp) (k := 1) (s0.get (i := 2) rfl) (by omega))
  refine d1 15 ?_
  have s0 := t0.data (dAll [(((nthS rp 1).1, (nthS rp 1).2.1, (nthS rp 1).2.2) : Sl)]) (all_cons (t0.get (i := 8) rfl) all_nil)
  refine mbs [(0, .tmp 33)] [.slice ((nthS rp 1).1) ((nthS rp 1).2.2.length) ((nthS rp 1).2.1)] (st_opV rfl (want_n rfl)) f0 s0 Tryd.underlying42 zi22 (fun t0 c0 u0 n0 o0 => ?_)
  have c0 := sWI o0 6 (pB 0 1 pn)
  refine ⟨c0, ?_⟩
  refine d1 16 ?_
  have c0 := o0.nf
  have o0 := own_cap (c0.res (i := 2) rfl)
  obtain ⟨t0, s0⟩ := c0.row_dataM (i := 2) rfl (j := 0) rfl (by decide)
  have c0 := t0.data (dRow 1 (some ⟨u0, 0, none⟩) 1 1 (encSs ([(((nthS rp 1).1, (nthS rp 1).2.1, (nthS rp 1).2.2) : Sl)]))) ⟨o0, s0⟩
  refine k_call (xs := [.tmp 21, .tmp 27, .tmp 34]) (st_op rfl (want_n rfl)) n0 rfl rfl rfl (by decide) ok61 (minst_calls _ _ c0.il _ _ _ _ _ _ ((nthS rq 1).2.2) _ _ ([(((nthS rp 1).1, (nthS rp 1).2.1, (nthS rp 1).2.2) : Sl)]) (c0.g 0) (c0.z 0) (imm_box (i := 0) rfl) (c0.g 7) (c0.g 10) (c0.g 9) (hsm := (by first | exact (hqm 1 (by omega)).1 | exact (hpm 2 (by omega)).1 | exact (hpm 1 (by omega)).1)) (hl := (by first | exact Nat.le_trans (hqm 1 (by omega)).2 (by decide) | exact Nat.le_trans (hpm 2 (by omega)).2 (by decide) | exact Nat.le_trans (hpm 1 (by omega)).2 (by decide))) (hls := (by intro x hx; simp only [lsts, List.map_cons, List.map_nil, List.mem_cons, List.not_mem_nil, or_false] at hx; first | (rw [hx]; first | exact (hpm 1 (by omega)).1 | exact (hqm 1 (by omega)).1) | (rcases hx with hx | hx <;> rw [hx] <;> first | assumption | exact (hqm 0 (by omega)).1))) (hlb := (by intro x hx; simp only [lsts, List.map_cons, List.map_nil, List.mem_cons, List.not_mem_nil, or_false] at hx; first | (rw [hx]; first | exact Nat.le_trans (hpm 1 (by omega)).2 (by decide) | exact Nat.le_trans (hqm 1 (by omega)).2 (by decide)) | (rcases hx with hx | hx <;> rw [hx] <;> first | omega | exact Nat.le_trans (hqm 0 (by omega)).2 (by decide)))) (hl0 := (by simp))) ?_
  rintro n0 s0 ⟨t0, o0, u0, rfl, f0, v0, x0, y0⟩
  have s0 := c0.callM (i := 0) rfl f0 v0
  have v0 := c0.dM 0 s0 x0
  refine ⟨_, rfl, fun s0 x0 => ?_⟩
  have s0 := sWI v0 6 (pB 0 1 pn)
  refine ⟨s0, ?_⟩
  refine dtA 17 p0 x0 s0 (fun c0 f0 => ?_)
  refine wpAnyH_done (by kernel_rfl) (q0 _ _ ?_) _
  refine x_then_n (k0 _ _ ?_)
  refine wp_ret ?_
  refine x_block_r ?_
  refine x_then_r ?_
  refine e_ret1 f0 rfl rfl rfl ?_
  refine ⟨t0, o0, u0, ?_, v0.fr, (by rw [show ((urR rn rx (lsts rp) (lsts rq)).2 : Int) = ((inQ (re) ((nthS rq 1).2.2) (lsts ([(((nthS rp 1).1, (nthS rp 1).2.1, (nthS rp 1).2.2) : Sl)])))) by (unfold urR urX; simp [he, m0, i0, lsts_nth, lsts_len, lsts_cons1, lsts_nil1, y0])]; exact v0.res (i := 0) rfl), v0.rx 11, (by unfold urR urX; simp [he, m0, i0, lsts_nth, lsts_len, lsts_cons1, lsts_nil1, y0])⟩
  exact congrArg Ending.returned (ret_s (by first | rfl | (simp; done)))
 ·
  have v0 := h0
  try simp only [Bool.or_eq_true, Bool.and_eq_true, Bool.not_eq_true', Bool.not_eq_false', decide_eq_true_eq, decide_eq_false_iff_not, Bool.or_eq_false_iff, Bool.and_eq_false_iff] at v0
  have v0 := j0.setb (d := 15) (b := false) rfl h0
  refine wp_cond_false (v0.ev rfl) ?_
  refine wsc (fun j0 y0 => ?_)
  refine m_loadN (i := 1) (vs := [.int .i64 (rn.K), .int .i64 (rx.K)]) sv v0 d0 rfl rfl rfl rfl rfl Tryd.underlying93 rfl sz93 (by decide) (fun j0 u0 => ?_)
  refine m_build (ps := [(0, .const (.int .i64 8)), (1, .const (.int .i64 7))]) (v := .agg #[.int .i64 8, .int .i64 7]) sv u0 rfl rfl rfl (fun _ => by kernel_rfl) (by decide) (fun j0 v0 => ?_)
  refine r_eqlP sv v0 rfl rfl rfl rfl (by decide) (fun j0 u0 => ?_)
  refine asg u0 (fun j0 v0 => ?_)
  refine wpList_nil (x_then_n (y0 _ _ ?_))
  rcases Bool.eq_false_or_eq_true (decide ((rn.K) = 8) && decide ((rx.K) = 7)) with y0 | y0
  ·
   have j0 := and_tl y0
   have u0 := of_decide_eq_true j0
   have hmkrn8 := many_8 u0
   have j0 := and_tr y0
   have o0 := of_decide_eq_true j0
   have hmkrx7 := many_7 o0
   have j0 := v0.setb (d := 36) (b := true) rfl y0
   refine wp_cond_true (j0.ev rfl) ?_
   refine wsc (fun t0 i0 => ?_)
   refine mv j0 (fun t0 m0 => ?_)
   refine r_nilCheck sv m0 rfl rfl rfl (by decide) (fun t0 j0 => ?_)
   refine m_field (j' := 10) sv j0 rfl rfl rfl Tryd.underlying61 rfl sz42 rfl rfl (by decide) (fun t0 m0 => ?_)
   refine m_load (i := 0) sv m0 d0 rfl rfl rfl rfl rfl Tryd.underlying42 rfl (by decide) (fun t0 j0 => ?_)
   refine m_index (i := 1) (j := 1 * 1) sv j0 rfl rfl rfl rfl Tryd.underlying42 sz22 (by omega) (by omega) (ss_elem (t := rq) (k := 1) (d0.row (i := 3) rfl).2 (by omega)).some_ rfl (by decide) (fun t0 m0 => ?_)
   refine m_loadE sv m0 rfl rfl rfl 0 (1 * 1) (ss_elem (t := rq) (k := 1) (d0.row (i := 3) rfl).2 (by omega)) rfl rfl Tryd.underlying22 rfl (by decide) (fun t0 j0 => ?_)
   have t0 := d0.data (dRow 4 ((nthS rq 1).1) ((nthS rq 1).2.2.length) ((nthS rq 1).2.1) (encNs ((nthS rq 1).2.2))) (all_at (t := rq) (k := 1) (d0.get (i := 4) rfl) (by omega))
   refine asg j0 (fun m0 f0 => ?_)
   refine wpList_nil (x_then_n (i0 _ _ ?_))
   refine wp_ret ?_
   refine x_block_r ?_
   refine x_then_r ?_
   refine e_ret1 f0 rfl rfl rfl ?_
   refine ⟨((nthS rq 1).1), ((nthS rq 1).2.1), ((nthS rq 1).2.2), ?_, t0.fr, (by rw [show ((urR rn rx (lsts rp) (lsts rq)).2 : Int) = (re) by (unfold urR urX; simp [he, u0, o0, nand_of h0, lsts_nth, lsts_len, lsts_cons1, lsts_nil1])]; exact t0.res (i := 0) rfl), t0.rx 6, (by unfold urR urX; simp [he, u0, o0, nand_of h0, lsts_nth, lsts_len, lsts_cons1, lsts_nil1])⟩
   exact congrArg Ending.returned (ret_s (by first | rfl | (simp; done)))
  ·
   have t0 := y0
   try simp only [Bool.or_eq_true, Bool.and_eq_true, Bool.not_eq_true', Bool.not_eq_false', decide_eq_true_eq, decide_eq_false_iff_not, Bool.or_eq_false_iff, Bool.and_eq_false_iff] at t0
   have t0 := v0.setb (d := 36) (b := false) rfl y0
   refine wp_cond_false (t0.ev rfl) ?_
   refine wsc (fun v0 o0 => ?_)
   refine m_loadN (i := 1) (vs := [.int .i64 (rn.K), .int .i64 (rx.K)]) sv t0 d0 rfl rfl rfl rfl rfl Tryd.underlying93 rfl sz93 (by decide) (fun v0 u0 => ?_)
   refine m_build (ps := [(0, .const (.int .i64 9)), (1, .const (.int .i64 7))]) (v := .agg #[.int .i64 9, .int .i64 7]) sv u0 rfl rfl rfl (fun _ => by kernel_rfl) (by decide) (fun v0 t0 => ?_)
   refine r_eqlP sv t0 rfl rfl rfl rfl (by decide) (fun v0 u0 => ?_)
   refine asg u0 (fun v0 t0 => ?_)
   refine wpList_nil (x_then_n (o0 _ _ ?_))
   rcases Bool.eq_false_or_eq_true (decide ((rn.K) = 9) && decide ((rx.K) = 7)) with o0 | o0
   ·
    have v0 := and_tl o0
    have u0 := of_decide_eq_true v0
    have hmkrn9 := many_9 u0
    have v0 := and_tr o0
    have f0 := of_decide_eq_true v0
    have hmkrx7 := many_7 f0
    have v0 := t0.setb (d := 46) (b := true) rfl o0
    refine wp_cond_true (v0.ev rfl) ?_
    refine wsc (fun i0 m0 => ?_)
    refine mv v0 (fun i0 j0 => ?_)
    refine r_nilCheck sv j0 rfl rfl rfl (by decide) (fun i0 v0 => ?_)
    refine m_field (j' := 10) sv v0 rfl rfl rfl Tryd.underlying61 rfl sz42 rfl rfl (by decide) (fun i0 j0 => ?_)
    refine m_load (i := 0) sv j0 d0 rfl rfl rfl rfl rfl Tryd.underlying42 rfl (by decide) (fun i0 v0 => ?_)
    refine m_index (i := 2) (j := 2 * 1) sv v0 rfl rfl rfl rfl Tryd.underlying42 sz22 (by omega) (by omega) (ss_elem (t := rq) (k := 2) (d0.row (i := 3) rfl).2 (by omega)).some_ rfl (by decide) (fun i0 j0 => ?_)
    refine m_loadE sv j0 rfl rfl rfl 0 (2 * 1) (ss_elem (t := rq) (k := 2) (d0.row (i := 3) rfl).2 (by omega)) rfl rfl Tryd.underlying22 rfl (by decide) (fun i0 v0 => ?_)
    have i0 := d0.data (dRow 4 ((nthS rq 2).1) ((nthS rq 2).2.2.length) ((nthS rq 2).2.1) (encNs ((nthS rq 2).2.2))) (all_at (t := rq) (k := 2) (d0.get (i := 4) rfl) (by omega))
    refine asg v0 (fun j0 k0 => ?_)
    refine wpList_nil (x_then_n (m0 _ _ ?_))
    refine wp_ret ?_
    refine x_block_r ?_
    refine x_then_r ?_
    refine e_ret1 k0 rfl rfl rfl ?_
    refine ⟨((nthS rq 2).1), ((nthS rq 2).2.1), ((nthS rq 2).2.2), ?_, i0.fr, (by rw [show ((urR rn rx (lsts rp) (lsts rq)).2 : Int) = (re) by (unfold urR urX; simp [he, u0, f0, nand_of h0, nand_of y0, lsts_nth, lsts_len, lsts_cons1, lsts_nil1])]; exact i0.res (i := 0) rfl), i0.rx 6, (by unfold urR urX; simp [he, u0, f0, nand_of h0, nand_of y0, lsts_nth, lsts_len, lsts_cons1, lsts_nil1])⟩
    exact congrArg Ending.returned (ret_s (by first | rfl | (simp; done)))
   ·
    have i0 := o0
    try simp only [Bool.or_eq_true, Bool.and_eq_true, Bool.not_eq_true', Bool.not_eq_false', decide_eq_true_eq, decide_eq_false_iff_not, Bool.or_eq_false_iff, Bool.and_eq_false_iff] at i0
    have i0 := t0.setb (d := 46) (b := false) rfl o0
    refine wp_cond_false (i0.ev rfl) ?_
    refine wsc (fun t0 f0 => ?_)
    refine m_loadN (i := 1) (vs := [.int .i64 (rn.K), .int .i64 (rx.K)]) sv i0 d0 rfl rfl rfl rfl rfl Tryd.underlying93 rfl sz93 (by decide) (fun t0 u0 => ?_)
    refine m_build (ps := [(0, .const (.int .i64 13)), (1, .const (.int .i64 11))]) (v := .agg #[.int .i64 13, .int .i64 11]) sv u0 rfl rfl rfl (fun _ => by kernel_rfl) (by decide) (fun t0 i0 => ?_)
    refine r_eqlP sv i0 rfl rfl rfl rfl (by decide) (fun t0 u0 => ?_)
    refine asg u0 (fun t0 i0 => ?_)
    refine wpList_nil (x_then_n (f0 _ _ ?_))
    rcases Bool.eq_false_or_eq_true (decide ((rn.K) = 13) && decide ((rx.K) = 11)) with f0 | f0
    ·
     have t0 := and_tl f0
     have u0 := of_decide_eq_true t0
     have hmkrn13 := many_13 u0
     have t0 := and_tr f0
     have k0 := of_decide_eq_true t0
     have t0 := i0.setb (d := 56) (b := true) rfl f0
     refine wp_cond_true (t0.ev rfl) ?_
     refine wsc (fun m0 j0 => ?_)
     refine mv t0 (fun m0 v0 => ?_)
     refine r_nilCheck sv v0 rfl rfl rfl (by decide) (fun m0 t0 => ?_)
     refine m_field (j' := 9) sv t0 rfl rfl rfl Tryd.underlying61 rfl sz42 rfl rfl (by decide) (fun m0 v0 => ?_)
     refine m_load (i := 0) sv v0 d0 rfl rfl rfl rfl rfl Tryd.underlying42 rfl (by decide) (fun m0 t0 => ?_)
     refine m_index (i := 1) (j := 1 * 1) sv t0 rfl rfl rfl rfl Tryd.underlying42 sz22 (by omega) (by omega) (ss_elem (t := rp) (k := 1) (d0.row (i := 1) rfl).2 (by omega)).some_ rfl (by decide) (fun m0 v0 => ?_)
     refine m_loadE sv v0 rfl rfl rfl 0 (1 * 1) (ss_elem (t := rp) (k := 1) (d0.row (i := 1) rfl).2 (by omega)) rfl rfl Tryd.underlying22 rfl (by decide) (fun m0 t0 => ?_)
     have m0 := d0.data (dRow 4 ((nthS rp 1).1) ((nthS rp 1).2.2.length) ((nthS rp 1).2.1) (encNs ((nthS rp 1).2.2))) (all_at (t := rp) (k := 1) (d0.get (i := 2) rfl) (by omega))
     refine asg t0 (fun v0 q0 => ?_)
     refine wpList_nil (x_then_n (j0 _ _ ?_))
     refine wp_ret ?_
     refine x_block_r ?_
     refine x_then_r ?_
     refine e_ret1 q0 rfl rfl rfl ?_
     refine ⟨((nthS rp 1).1), ((nthS rp 1).2.1), ((nthS rp 1).2.2), ?_, m0.fr, (by rw [show ((urR rn rx (lsts rp) (lsts rq)).2 : Int) = (re) by (unfold urR urX; simp [he, u0, k0, nand_of h0, nand_of y0, nand_of o0, lsts_nth, lsts_len, lsts_cons1, lsts_nil1])]; exact m0.res (i := 0) rfl), m0.rx 6, (by unfold urR urX; simp [he, u0, k0, nand_of h0, nand_of y0, nand_of o0, lsts_nth, lsts_len, lsts_cons1, lsts_nil1])⟩
     exact congrArg Ending.returned (ret_s (by first | rfl | (simp; done)))
    ·
     have m0 := f0
     try simp only [Bool.or_eq_true, Bool.and_eq_true, Bool.not_eq_true', Bool.not_eq_false', decide_eq_true_eq, decide_eq_false_iff_not, Bool.or_eq_false_iff, Bool.and_eq_false_iff] at m0
     have m0 := i0.setb (d := 56) (b := false) rfl f0
     refine wp_cond_false (m0.ev rfl) ?_
     refine wsc (fun i0 k0 => ?_)
     refine m_loadN (i := 1) (vs := [.int .i64 (rn.K), .int .i64 (rx.K)]) sv m0 d0 rfl rfl rfl rfl rfl Tryd.underlying93 rfl sz93 (by decide) (fun i0 u0 => ?_)
     refine m_build (ps := [(0, .const (.int .i64 13)), (1, .const (.int .i64 12))]) (v := .agg #[.int .i64 13, .int .i64 12]) sv u0 rfl rfl rfl (fun _ => by kernel_rfl) (by decide) (fun i0 m0 => ?_)
     refine r_eqlP sv m0 rfl rfl rfl rfl (by decide) (fun i0 u0 => ?_)
     refine asg u0 (fun i0 m0 => ?_)
     refine wpList_nil (x_then_n (k0 _ _ ?_))
     rcases Bool.eq_false_or_eq_true (decide ((rn.K) = 13) && decide ((rx.K) = 12)) with k0 | k0
     ·
      have i0 := and_tl k0
      have u0 := of_decide_eq_true i0
      have hmkrn13 := many_13 u0
      have i0 := and_tr k0
      have q0 := of_decide_eq_true i0
      have hmkrx12 := many_12 q0
      have i0 := m0.setb (d := 66) (b := true) rfl k0
      refine wp_cond_true (i0.ev rfl) ?_
      refine wp_seq_k (fun j0 v0 => ?_)
      obtain ⟨j0, t0, c0⟩ := d0.agree
      refine d_reg3 (n := 26) c0 6 (pB 0 1 pn) (pan_then (pan_block (pan_then pan_body))) (fun j0 s0 x0 p0 n0 z0 => ?_)
      refine dtM 0 s0 i0 z0 (fun p0 j0 => ?_)
      refine dtN 1 s0 j0 z0 (fun p0 i0 => ?_)
      refine dtF 2 0 s0 i0 z0 Tryd.underlying61 sz59 (fun p0 j0 => ?_)
      refine dtM 3 s0 j0 z0 (fun p0 i0 => ?_)
      refine dtN 4 s0 i0 z0 (fun p0 j0 => ?_)
      refine dtF 5 9 s0 j0 z0 Tryd.underlying61 sz42 (fun p0 i0 => ?_)
      refine dtC 6 8 s0 i0 z0 Tryd.underlying42 (fun p0 j0 => ?_)
      refine dt 7 rfl s0 j0 (want_n rfl) (fun x hx => m_index (i := 2) (j := 2 * 1) (sy j0) j0 rfl rfl rfl rfl Tryd.underlying42 sz22 (by omega) (by omega) (ss_elem (t := rp) (k := 2) (sdat (t0 1 _ rfl) hx.ag).2 (by omega)).some_ rfl (by decide) gt) z0 (fun p0 i0 => ?_)
      refine dt 8 rfl s0 i0 (want_n rfl) (fun x hx => m_loadE (sy i0) i0 rfl rfl rfl 0 (2 * 1) (ss_elem (t := rp) (k := 2) (sdat (t0 1 _ rfl) hx.ag).2 (by omega)) rfl rfl Tryd.underlying22 rfl (by decide) gt) z0 (fun p0 j0 => ?_)
      have p0 := n0.data (dRow 4 ((nthS rp 2).1) ((nthS rp 2).2.2.length) ((nthS rp 2).2.1) (encNs ((nthS rp 2).2.2))) (all_at (t := rp) (k := 2) (n0.get (i := 2) rfl) (by omega))
      refine dtM 9 s0 j0 z0 (fun n0 i0 => ?_)
      refine dtM 10 s0 i0 z0 (fun n0 j0 => ?_)
      refine dtN 11 s0 j0 z0 (fun n0 i0 => ?_)
      refine dtF 12 10 s0 i0 z0 Tryd.underlying61 sz42 (fun n0 j0 => ?_)
      refine dtC 13 9 s0 j0 z0 Tryd.underlying42 (fun n0 i0 => ?_)
      refine dt 14 rfl s0 i0 (want_n rfl) (fun x hx => m_index (i := 0) (j := 0 * 1) (sy i0) i0 rfl rfl rfl rfl Tryd.underlying42 sz22 (by omega) (by omega) (ss_elem (t := rq) (k := 0) (sdat (t0 3 _ rfl) hx.ag).2 (by omega)).some_ rfl (by decide) gt) z0 (fun n0 j0 => ?_)
      refine dt 15 rfl s0 j0 (want_n rfl) (fun x hx => m_loadE (sy j0) j0 rfl rfl rfl 0 (0 * 1) (ss_elem (t := rq) (k := 0) (sdat (t0 3 _ rfl) hx.ag).2 (by omega)) rfl rfl Tryd.underlying22 rfl (by decide) gt) z0 (fun n0 i0 => ?_)
      have n0 := p0.data (dRow 4 ((nthS rq 0).1) ((nthS rq 0).2.2.length) ((nthS rq 0).2.1) (encNs ((nthS rq 0).2.2))) (all_at (t := rq) (k := 0) (p0.get (i := 4) rfl) (by omega))
      refine dtM 17 s0 i0 z0 (fun p0 j0 => ?_)
      refine dtN 18 s0 j0 z0 (fun p0 i0 => ?_)
      refine dtF 19 10 s0 i0 z0 Tryd.underlying61 sz42 (fun p0 j0 => ?_)
      refine dtC 20 9 s0 j0 z0 Tryd.underlying42 (fun p0 i0 => ?_)
      refine dt 21 rfl s0 i0 (want_n rfl) (fun x hx => m_index (i := 0) (j := 0 * 1) (sy i0) i0 rfl rfl rfl rfl Tryd.underlying42 sz22 (by omega) (by omega) (ss_elem (t := rq) (k := 0) (sdat (t0 3 _ rfl) hx.ag).2 (by omega)).some_ rfl (by decide) gt) z0 (fun p0 j0 => ?_)
      refine dt 22 rfl s0 j0 (want_n rfl) (fun x hx => m_loadE (sy j0) j0 rfl rfl rfl 0 (0 * 1) (ss_elem (t := rq) (k := 0) (sdat (t0 3 _ rfl) hx.ag).2 (by omega)) rfl rfl Tryd.underlying22 rfl (by decide) gt) z0 (fun p0 i0 => ?_)
      have p0 := n0.data (dRow 4 ((nthS rq 0).1) ((nthS rq 0).2.2.length) ((nthS rq 0).2.1) (encNs ((nthS rq 0).2.2))) (all_at (t := rq) (k := 0) (n0.get (i := 4) rfl) (by omega))
      refine d1 16 ?_
      have n0 := p0.nf
      refine k_call (xs := [.tmp 79, .tmp 85]) (st_op rfl (want_n rfl)) i0 rfl rfl rfl (by decide) ok62 (uagain_calls _ _ n0.il _ _ rn rx _ _ _ _ _ _ _ _ ((nthS rq 0).2.2) (n0.z 0) (imm_box (i := 0) rfl) (n0.g 1) (n0.g 2) (n0.g 3) (n0.g 4) (n0.g 8) (hp4 := hp4) (hq4 := hq4) (hps := hps) (hqs := hqs) (h0p := (by omega)) (hsn := hsn) (hst := (hqm 0 (by omega)).1) (hlt := (hqm 0 (by omega)).2)) ?_
      rintro i0 p0 ⟨j0, z0, t0, rfl, c0, b1, c1, f1⟩
      have p0 := n0.callM (i := 0) rfl c0 b1
      have b1 := n0.dM 0 p0 c1
      refine ⟨_, rfl, fun p0 c1 => ?_⟩
      obtain ⟨hgl, hgs⟩ := again_sz (t := (nthS rq 0).2.2) f1 hps (by assumption) (hqm 0 (by omega)).1 (hqm 0 (by omega)).2 hp4
      have p0 := sWI b1 6 (pB 0 1 pn)
      refine ⟨p0, ?_⟩
      refine d1 23 ?_
      have p0 := b1.data (dAll [((j0, z0, t0) : Sl), (((nthS rq 0).1, (nthS rq 0).2.1, (nthS rq 0).2.2) : Sl)]) (all_cons (b1.get (i := 10) rfl) (all_cons (b1.get (i := 9) rfl) all_nil))
      refine mbs [(0, .tmp 86), (1, .tmp 92)] [.slice j0 t0.length z0, .slice ((nthS rq 0).1) ((nthS rq 0).2.2.length) ((nthS rq 0).2.1)] (st_opV rfl (want_n rfl)) c1 p0 Tryd.underlying42 zi22 (fun b1 n0 c0 i0 h1 => ?_)
      have n0 := sWI h1 6 (pB 0 1 pn)
      refine ⟨n0, ?_⟩
      refine d1 24 ?_
      have n0 := h1.nf
      have h1 := own_cap (n0.res (i := 2) rfl)
      obtain ⟨b1, p0⟩ := n0.row_dataM (i := 2) rfl (j := 0) rfl (by decide)
      have n0 := b1.data (dRow 1 (some ⟨c0, 0, none⟩) 2 2 (encSs ([((j0, z0, t0) : Sl), (((nthS rq 0).1, (nthS rq 0).2.1, (nthS rq 0).2.2) : Sl)]))) ⟨h1, p0⟩
      refine k_call (xs := [.tmp 72, .tmp 78, .tmp 93]) (st_op rfl (want_n rfl)) i0 rfl rfl rfl (by decide) ok61 (minst_calls _ _ n0.il _ _ _ _ _ _ ((nthS rp 2).2.2) _ _ ([((j0, z0, t0) : Sl), (((nthS rq 0).1, (nthS rq 0).2.1, (nthS rq 0).2.2) : Sl)]) (n0.g 0) (n0.z 0) (imm_box (i := 0) rfl) (n0.g 7) (n0.g 12) (n0.g 11) (hsm := (by first | exact (hqm 1 (by omega)).1 | exact (hpm 2 (by omega)).1 | exact (hpm 1 (by omega)).1)) (hl := (by first | exact Nat.le_trans (hqm 1 (by omega)).2 (by decide) | exact Nat.le_trans (hpm 2 (by omega)).2 (by decide) | exact Nat.le_trans (hpm 1 (by omega)).2 (by decide))) (hls := (by intro x hx; simp only [lsts, List.map_cons, List.map_nil, List.mem_cons, List.not_mem_nil, or_false] at hx; first | (rw [hx]; first | exact (hpm 1 (by omega)).1 | exact (hqm 1 (by omega)).1) | (rcases hx with hx | hx <;> rw [hx] <;> first | assumption | exact (hqm 0 (by omega)).1))) (hlb := (by intro x hx; simp only [lsts, List.map_cons, List.map_nil, List.mem_cons, List.not_mem_nil, or_false] at hx; first | (rw [hx]; first | exact Nat.le_trans (hpm 1 (by omega)).2 (by decide) | exact Nat.le_trans (hqm 1 (by omega)).2 (by decide)) | (rcases hx with hx | hx <;> rw [hx] <;> first | omega | exact Nat.le_trans (hqm 0 (by omega)).2 (by decide)))) (hl0 := (by simp))) ?_
      rintro i0 p0 ⟨b1, h1, c0, rfl, c1, i1, j1, k1⟩
      have p0 := n0.callM (i := 0) rfl c1 i1
      have i1 := n0.dM 0 p0 j1
      refine ⟨_, rfl, fun p0 j1 => ?_⟩
      have p0 := sWI i1 6 (pB 0 1 pn)
      refine ⟨p0, ?_⟩
      refine dtA 25 s0 j1 p0 (fun n0 c1 => ?_)
      refine wpAnyH_done (by kernel_rfl) (x0 _ _ ?_) _
      refine x_then_n (v0 _ _ ?_)
      refine wp_ret ?_
      refine x_block_r ?_
      refine x_then_r ?_
      refine e_ret1 c1 rfl rfl rfl ?_
      refine ⟨b1, h1, c0, ?_, i1.fr, (by rw [show ((urR rn rx (lsts rp) (lsts rq)).2 : Int) = ((inQ ((re)) ((nthS rp 2).2.2) (lsts ([((j0, z0, t0) : Sl), (((nthS rq 0).1, (nthS rq 0).2.1, (nthS rq 0).2.2) : Sl)])))) by (unfold urR urX; simp [he, u0, q0, nand_of h0, nand_of y0, nand_of o0, nand_of f0, lsts_nth, lsts_len, lsts_cons1, lsts_nil1, f1, k1])]; exact i1.res (i := 0) rfl), i1.rx 13, (by unfold urR urX; simp [he, u0, q0, nand_of h0, nand_of y0, nand_of o0, nand_of f0, lsts_nth, lsts_len, lsts_cons1, lsts_nil1, f1, k1])⟩
      exact congrArg Ending.returned (ret_s (by first | rfl | (simp; done)))
     ·
      have i1 := k0
      try simp only [Bool.or_eq_true, Bool.and_eq_true, Bool.not_eq_true', Bool.not_eq_false', decide_eq_true_eq, decide_eq_false_iff_not, Bool.or_eq_false_iff, Bool.and_eq_false_iff] at i1
      have i1 := m0.setb (d := 66) (b := false) rfl k0
      refine wp_cond_false (i1.ev rfl) ?_
      refine wsc (fun m0 k1 => ?_)
      refine m_loadN (i := 1) (vs := [.int .i64 (rn.K), .int .i64 (rx.K)]) sv i1 d0 rfl rfl rfl rfl rfl Tryd.underlying93 rfl sz93 (by decide) (fun m0 c0 => ?_)
      refine m_build (ps := [(0, .const (.int .i64 24)), (1, .const (.int .i64 23))]) (v := .agg #[.int .i64 24, .int .i64 23]) sv c0 rfl rfl rfl (fun _ => by kernel_rfl) (by decide) (fun m0 i1 => ?_)
      refine r_eqlP sv i1 rfl rfl rfl rfl (by decide) (fun m0 c0 => ?_)
      refine asg c0 (fun m0 i1 => ?_)
      refine wpList_nil (x_then_n (k1 _ _ ?_))
      rcases Bool.eq_false_or_eq_true (decide ((rn.K) = 24) && decide ((rx.K) = 23)) with k1 | k1
      ·
       have m0 := and_tl k1
       have c0 := of_decide_eq_true m0
       have hmkrn24 := many_24 c0
       have m0 := and_tr k1
       have h1 := of_decide_eq_true m0
       have hmkrx23 := many_23 h1
       have m0 := i1.setb (d := 95) (b := true) rfl k1
       refine wp_cond_true (m0.ev rfl) ?_
       refine wp_seq_k (fun b1 f1 => ?_)
       obtain ⟨b1, t0, z0⟩ := d0.agree
       refine d_reg3 (n := 18) z0 6 (pB 0 1 pn) (pan_then (pan_block (pan_then pan_body))) (fun b1 j0 q0 u0 c1 v0 => ?_)
       refine dtM 0 j0 m0 v0 (fun u0 b1 => ?_)
       refine dtN 1 j0 b1 v0 (fun u0 m0 => ?_)
       refine dtF 2 0 j0 m0 v0 Tryd.underlying61 sz59 (fun u0 b1 => ?_)
       refine dtM 3 j0 b1 v0 (fun u0 m0 => ?_)
       refine dtN 4 j0 m0 v0 (fun u0 b1 => ?_)
       refine dtF 5 9 j0 b1 v0 Tryd.underlying61 sz42 (fun u0 m0 => ?_)
       refine dtC 6 8 j0 m0 v0 Tryd.underlying42 (fun u0 b1 => ?_)
       refine dt 7 rfl j0 b1 (want_n rfl) (fun x hx => m_index (i := 1) (j := 1 * 1) (sy b1) b1 rfl rfl rfl rfl Tryd.underlying42 sz22 (by omega) (by omega) (ss_elem (t := rp) (k := 1) (sdat (t0 1 _ rfl) hx.ag).2 (by omega)).some_ rfl (by decide) gt) v0 (fun u0 m0 => ?_)
       refine dt 8 rfl j0 m0 (want_n rfl) (fun x hx => m_loadE (sy m0) m0 rfl rfl rfl 0 (1 * 1) (ss_elem (t := rp) (k := 1) (sdat (t0 1 _ rfl) hx.ag).2 (by omega)) rfl rfl Tryd.underlying22 rfl (by decide) gt) v0 (fun u0 b1 => ?_)
       have u0 := c1.data (dRow 4 ((nthS rp 1).1) ((nthS rp 1).2.2.length) ((nthS rp 1).2.1) (encNs ((nthS rp 1).2.2))) (all_at (t := rp) (k := 1) (c1.get (i := 2) rfl) (by omega))
       refine dtM 9 j0 b1 v0 (fun c1 m0 => ?_)
       refine dtN 10 j0 m0 v0 (fun c1 b1 => ?_)
       refine dtF 11 10 j0 b1 v0 Tryd.underlying61 sz42 (fun c1 m0 => ?_)
       refine dtC 12 9 j0 m0 v0 Tryd.underlying42 (fun c1 b1 => ?_)
       refine dt 13 rfl j0 b1 (want_n rfl) (fun x hx => m_index (i := 1) (j := 1 * 1) (sy b1) b1 rfl rfl rfl rfl Tryd.underlying42 sz22 (by omega) (by omega) (ss_elem (t := rq) (k := 1) (sdat (t0 3 _ rfl) hx.ag).2 (by omega)).some_ rfl (by decide) gt) v0 (fun c1 m0 => ?_)
       refine dt 14 rfl j0 m0 (want_n rfl) (fun x hx => m_loadE (sy m0) m0 rfl rfl rfl 0 (1 * 1) (ss_elem (t := rq) (k := 1) (sdat (t0 3 _ rfl) hx.ag).2 (by omega)) rfl rfl Tryd.underlying22 rfl (by decide) gt) v0 (fun c1 b1 => ?_)
       have c1 := u0.data (dRow 4 ((nthS rq 1).1) ((nthS rq 1).2.2.length) ((nthS rq 1).2.1) (encNs ((nthS rq 1).2.2))) (all_at (t := rq) (k := 1) (u0.get (i := 4) rfl) (by omega))
       refine d1 15 ?_
       have u0 := c1.data (dAll [(((nthS rq 1).1, (nthS rq 1).2.1, (nthS rq 1).2.2) : Sl)]) (all_cons (c1.get (i := 8) rfl) all_nil)
       refine mbs [(0, .tmp 113)] [.slice ((nthS rq 1).1) ((nthS rq 1).2.2.length) ((nthS rq 1).2.1)] (st_opV rfl (want_n rfl)) b1 u0 Tryd.underlying42 zi22 (fun c1 m0 v0 t0 z0 => ?_)
       have m0 := sWI z0 6 (pB 0 1 pn)
       refine ⟨m0, ?_⟩
       refine d1 16 ?_
       have m0 := z0.nf
       have z0 := own_cap (m0.res (i := 2) rfl)
       obtain ⟨c1, u0⟩ := m0.row_dataM (i := 2) rfl (j := 0) rfl (by decide)
       have m0 := c1.data (dRow 1 (some ⟨v0, 0, none⟩) 1 1 (encSs ([(((nthS rq 1).1, (nthS rq 1).2.1, (nthS rq 1).2.2) : Sl)]))) ⟨z0, u0⟩
       refine k_call (xs := [.tmp 101, .tmp 107, .tmp 114]) (st_op rfl (want_n rfl)) t0 rfl rfl rfl (by decide) ok61 (minst_calls _ _ m0.il _ _ _ _ _ _ ((nthS rp 1).2.2) _ _ ([(((nthS rq 1).1, (nthS rq 1).2.1, (nthS rq 1).2.2) : Sl)]) (m0.g 0) (m0.z 0) (imm_box (i := 0) rfl) (m0.g 7) (m0.g 10) (m0.g 9) (hsm := (by first | exact (hqm 1 (by omega)).1 | exact (hpm 2 (by omega)).1 | exact (hpm 1 (by omega)).1)) (hl := (by first | exact Nat.le_trans (hqm 1 (by omega)).2 (by decide) | exact Nat.le_trans (hpm 2 (by omega)).2 (by decide) | exact Nat.le_trans (hpm 1 (by omega)).2 (by decide))) (hls := (by intro x hx; simp only [lsts, List.map_cons, List.map_nil, List.mem_cons, List.not_mem_nil, or_false] at hx; first | (rw [hx]; first | exact (hpm 1 (by omega)).1 | exact (hqm 1 (by omega)).1) | (rcases hx with hx | hx <;> rw [hx] <;> first | assumption | exact (hqm 0 (by omega)).1))) (hlb := (by intro x hx; simp only [lsts, List.map_cons, List.map_nil, List.mem_cons, List.not_mem_nil, or_false] at hx; first | (rw [hx]; first | exact Nat.le_trans (hpm 1 (by omega)).2 (by decide) | exact Nat.le_trans (hqm 1 (by omega)).2 (by decide)) | (rcases hx with hx | hx <;> rw [hx] <;> first | omega | exact Nat.le_trans (hqm 0 (by omega)).2 (by decide)))) (hl0 := (by simp))) ?_
       rintro t0 u0 ⟨c1, z0, v0, rfl, b1, x0, n0, p0⟩
       have u0 := m0.callM (i := 0) rfl b1 x0
       have x0 := m0.dM 0 u0 n0
       refine ⟨_, rfl, fun u0 n0 => ?_⟩
       have u0 := sWI x0 6 (pB 0 1 pn)
       refine ⟨u0, ?_⟩
       refine dtA 17 j0 n0 u0 (fun m0 b1 => ?_)
       refine wpAnyH_done (by kernel_rfl) (q0 _ _ ?_) _
       refine x_then_n (f1 _ _ ?_)
       refine wp_ret ?_
       refine x_block_r ?_
       refine x_then_r ?_
       refine e_ret1 b1 rfl rfl rfl ?_
       refine ⟨c1, z0, v0, ?_, x0.fr, (by rw [show ((urR rn rx (lsts rp) (lsts rq)).2 : Int) = ((inQ (re) ((nthS rp 1).2.2) (lsts ([(((nthS rq 1).1, (nthS rq 1).2.1, (nthS rq 1).2.2) : Sl)])))) by (unfold urR urX; simp [he, c0, h1, nand_of h0, nand_of y0, nand_of o0, nand_of f0, nand_of k0, lsts_nth, lsts_len, lsts_cons1, lsts_nil1, p0])]; exact x0.res (i := 0) rfl), x0.rx 11, (by unfold urR urX; simp [he, c0, h1, nand_of h0, nand_of y0, nand_of o0, nand_of f0, nand_of k0, lsts_nth, lsts_len, lsts_cons1, lsts_nil1, p0])⟩
       exact congrArg Ending.returned (ret_s (by first | rfl | (simp; done)))
      ·
       have x0 := k1
       try simp only [Bool.or_eq_true, Bool.and_eq_true, Bool.not_eq_true', Bool.not_eq_false', decide_eq_true_eq, decide_eq_false_iff_not, Bool.or_eq_false_iff, Bool.and_eq_false_iff] at x0
       have x0 := i1.setb (d := 95) (b := false) rfl k1
       refine wp_cond_false (x0.ev rfl) ?_
       refine wsc (fun i1 p0 => ?_)
       refine m_loadN (i := 1) (vs := [.int .i64 (rn.K), .int .i64 (rx.K)]) sv x0 d0 rfl rfl rfl rfl rfl Tryd.underlying93 rfl sz93 (by decide) (fun i1 v0 => ?_)
       refine m_build (ps := [(0, .const (.int .i64 27)), (1, .const (.int .i64 26))]) (v := .agg #[.int .i64 27, .int .i64 26]) sv v0 rfl rfl rfl (fun _ => by kernel_rfl) (by decide) (fun i1 x0 => ?_)
       refine r_eqlP sv x0 rfl rfl rfl rfl (by decide) (fun i1 v0 => ?_)
       refine asg v0 (fun i1 x0 => ?_)
       refine wpList_nil (x_then_n (p0 _ _ ?_))
       have p0 : (decide ((rn.K) = 27) && decide ((rx.K) = 26)) = false := by simp [h27]
       have i1 := p0
       try simp only [Bool.or_eq_true, Bool.and_eq_true, Bool.not_eq_true', Bool.not_eq_false', decide_eq_true_eq, decide_eq_false_iff_not, Bool.or_eq_false_iff, Bool.and_eq_false_iff] at i1
       have i1 := x0.setb (d := 116) (b := false) rfl p0
       refine wp_cond_false (i1.ev rfl) ?_
       refine wp_skip ?_
       refine x_block_n ?_
       refine x_then_n (b0 _ _ ?_)
       refine wsc (fun b0 x0 => ?_)
       refine mv i1 (fun b0 v0 => ?_)
       refine r_nilCheck sv v0 rfl rfl rfl (by decide) (fun b0 i1 => ?_)
       refine m_field (j' := 0) sv i1 rfl rfl rfl Tryd.underlying61 rfl sz59 rfl rfl (by decide) (fun b0 v0 => ?_)
       have b0 := d0.nf
       refine k_call (xs := [.tmp 124]) se v0 rfl rfl rfl (by decide) ok64 (stuck_calls _ _ b0.il _ _ _ _ (b0.z 0) (imm_box (i := 0) rfl)) ?_
       rintro v0 d0 ⟨i1, z0, rfl, c1, h1, c0⟩
       have d0 := b0.callM (i := 0) rfl c1 h1
       have h1 := b0.dM 0 d0 c0
       refine ⟨_, rfl, fun d0 c0 => ?_⟩
       refine asg c0 (fun d0 b0 => ?_)
       refine wpList_nil (x_then_n (x0 _ _ ?_))
       refine wp_ret ?_
       refine e_ret1 b0 rfl rfl rfl ?_
       refine ⟨i1, z0, ([] : List Nd), ?_, h1.fr, (by rw [show ((urR rn rx (lsts rp) (lsts rq)).2 : Int) = ((if (re) = 0 then 120 else (re))) by (unfold urR urX; simp [he, nand_of h0, nand_of y0, nand_of o0, nand_of f0, nand_of k0, nand_of k1, nand_of p0, lsts_nth, lsts_len, lsts_cons1, lsts_nil1])]; exact h1.res (i := 0) rfl), h1.rx 6, (by unfold urR urX; simp [he, nand_of h0, nand_of y0, nand_of o0, nand_of f0, nand_of k0, nand_of k1, nand_of p0, lsts_nth, lsts_len, lsts_cons1, lsts_nil1])⟩
       exact congrArg Ending.returned (ret_s (by first | rfl | (simp; done)))
end Go.Proofs.YtcfponnkfhkbdaaDoor
/- Contracts of functions, one theorem each: what the call returns, and that nothing old is changed. Printed by gen.py. -/
namespace Go.Proofs.YtcfponnkfhkbdaaDoor
open Go Go.RowKit
set_option linter.unusedSimpArgs false
set_option linter.unusedVariables false
set_option maxRecDepth 100000 in
set_option maxHeartbeats 1000000 in
theorem urule0_calls (w0 : World) (Z : Nat → Prop) (hZ : ∀ k, Z k → k < w0.heap.size) (tA : Option Addr) (tc : Nat) (t : List Nd) (hShp : Shapes w0 Z) (ht : (dRow 4 tA t.length tc (encNs t)).φ w0 Z) (hsm : sml t := by first | assumption | omega | (simp; done) | (simp; omega)) (hl : t.length ≤ 5000 := by first | assumption | omega | (simp; done) | (simp; omega)) (h27 : ¬ (nth t (t.length - 1)).K = 27 := by first | assumption | omega | (simp; done) | (simp; omega)) :
    Calls Tryd.prog 13 [.slice tA t.length tc, .slice none 0 0].toArray w0 (fun e w' => ∃ (rA0 : Option Addr) (rc0 : Nat), e = .returned (.tuple #[.slice rA0 (urA t).length rc0, .int .i64 (urE t)]) ∧ Fr none_ w0 w' ∧ (dRow 4 rA0 ((urA t).length) rc0 (encNs (urA t))).φ w' (nxt Z w0 w')) := by
 have b0 := s0 (M := none_) hZ (zc (d := dShapes) hShp (zc ht zn))
 refine c_enter Tryd.func13 rfl Tryd.ntmps13 rfl (fun c0 d0 => ?_)
 refine wsc (fun c0 f0 => ?_)
 refine asg d0 (fun c0 h0 => ?_)
 refine asg h0 (fun c0 d0 => ?_)
 refine wpList_nil (x_then_n (f0 _ _ ?_))
 refine wsc (fun f0 c0 => ?_)
 refine mv d0 (fun f0 h0 => ?_)
 have f0 := b0.nf
 refine k_call (xs := [.tmp 11]) se h0 rfl rfl rfl (by decide) ok33 (args_calls _ _ f0.il _ _ _ (f0.g 0) (f0.g 1)) ?_
 rintro h0 b0 ⟨d0, i0, j0, rfl, k0, m0, n0, o0⟩
 have b0 := f0.below k0.below
 have k0 := f0.dN b0 m0
 have b0 := f0.dN k0 n0
 refine ⟨_, rfl, fun k0 n0 => ?_⟩
 refine mv n0 (fun k0 f0 => ?_)
 refine r_extract sv f0 rfl rfl rfl rfl (by decide) (fun k0 n0 => ?_)
 refine r_extract sv n0 rfl rfl rfl rfl (by decide) (fun k0 f0 => ?_)
 refine asg f0 (fun k0 n0 => ?_)
 refine asg n0 (fun k0 f0 => ?_)
 refine wpList_nil (x_then_n (c0 _ _ ?_))
 refine wp_seq_k (fun c0 k0 => ?_)
 refine wsc (fun c0 n0 => ?_)
 refine mv f0 (fun c0 m0 => ?_)
 refine r_neq sv m0 rfl rfl rfl rfl (by decide) (fun c0 f0 => ?_)
 refine wpList_nil (x_then_n (n0 _ _ ?_))
 rcases Decidable.em (((chk t)) = 0) with n0 | n0
 ·
  have hct := n0
  have hpt := chk_pos hct
  have hrt := right_at (meas_chk hct) (show t.length - 1 < t.length by omega)
  have hM9 := right_M hrt
  have hsn := hsm (t.length - 1) (by omega)
  have c0 := f0.setb (d := 16) (b := false) rfl (by rw [(decide_eq_true n0)]; rfl)
  refine wp_cond_false (c0.ev rfl) ?_
  refine wp_skip ?_
  refine x_then_n (k0 _ _ ?_)
  refine wsc (fun k0 m0 => ?_)
  refine mv c0 (fun k0 h0 => ?_)
  have k0 := b0.nf
  refine k_call (xs := [.tmp 18]) se h0 rfl rfl rfl (by decide) ok34 (uroot_calls _ _ k0.il _ _ _ (k0.g 1)) ?_
  rintro h0 c0 ⟨rfl, p0⟩
  have c0 := k0.below p0.below
  refine ⟨_, rfl, fun p0 k0 => ?_⟩
  refine mv k0 (fun p0 h0 => ?_)
  refine mv h0 (fun p0 k0 => ?_)
  refine m_build (ps := [(1, .tmp 19), (3, .tmp 20), (5, .tmp 21)]) (v := .agg #[.int .i64 0, .int .i64 (((nth t (t.length - 1)).K)), .int .i64 (((nth t (t.length - 1)).N)), .int .i64 (((nth t (t.length - 1)).M)), .string ((nth t (t.length - 1)).S), .int .i64 0, .int .i64 0, .int .i64 0, .string (⟨#[]⟩ : ByteArray), .slice d0 j0.length i0, .slice none 0 0, .slice none 0 0]) sv k0 rfl rfl rfl (fun _ => by kernel_rfl) (by decide) (fun p0 h0 => ?_)
  refine m_box (cs := [.int .i64 0, .int .i64 (((nth t (t.length - 1)).K)), .int .i64 (((nth t (t.length - 1)).N)), .int .i64 (((nth t (t.length - 1)).M)), .string ((nth t (t.length - 1)).S), .int .i64 0, .int .i64 0, .int .i64 0, .string (⟨#[]⟩ : ByteArray), .slice d0 j0.length i0, .slice none 0 0, .slice none 0 0]) sv h0 c0 rfl rfl rfl rfl (by decide) (fun p0 k0 q0 t0 u0 => ?_)
  refine asg t0 (fun q0 k0 => ?_)
  refine wpList_nil (x_then_n (m0 _ _ ?_))
  refine wsc (fun m0 q0 => ?_)
  refine mv k0 (fun m0 t0 => ?_)
  refine r_nilCheck sv t0 rfl rfl rfl (by decide) (fun m0 k0 => ?_)
  refine m_field (j' := 1) sv k0 rfl rfl rfl Tryd.underlying61 rfl sz39 rfl rfl (by decide) (fun m0 t0 => ?_)
  refine m_loadN (i := 0) (vs := [.int .i64 (((nth t (t.length - 1)).K)), .int .i64 (((nth t (t.length - 1)).N)), .int .i64 (((nth t (t.length - 1)).M)), .string ((nth t (t.length - 1)).S)]) sv t0 u0 rfl rfl rfl rfl rfl Tryd.underlying39 rfl sz39 (by decide) (fun m0 k0 => ?_)
  have m0 := u0.nf
  refine k_call (xs := [.tmp 27]) se k0 rfl rfl rfl (by decide) ok35 (utarget_calls _ _ m0.il (nth t (t.length - 1))) ?_
  rintro k0 u0 ⟨rfl, t0⟩
  have u0 := m0.below t0.below
  refine ⟨_, rfl, fun t0 m0 => ?_⟩
  refine asg m0 (fun t0 k0 => ?_)
  refine wpList_nil (x_then_n (q0 _ _ ?_))
  refine wp_seq_k (fun q0 t0 => ?_)
  refine wsc (fun q0 m0 => ?_)
  refine mv k0 (fun q0 p0 => ?_)
  refine r_lss sv p0 rfl rfl rfl rfl (by decide) (fun q0 k0 => ?_)
  refine wpList_nil (x_then_n (m0 _ _ ?_))
  rcases Decidable.em (((tgK (nth t (t.length - 1)))) < 0) with m0 | m0
  ·
   have q0 := k0.setb (d := 30) (b := true) rfl (decide_eq_true m0)
   refine wp_cond_true (q0.ev rfl) ?_
   refine wsc (fun p0 h0 => ?_)
   refine asg q0 (fun p0 c0 => ?_)
   refine asg c0 (fun p0 q0 => ?_)
   refine wpList_nil (x_then_n (h0 _ _ ?_))
   refine wp_ret ?_
   refine x_then_r ?_
   refine e_ret2 q0 rfl rfl rfl rfl ?_
   have q0 : urA t = [] := (ur_neg hct m0).2
   rw [q0]
   refine ⟨none, 0, ?_, u0.fr, ⟨Nat.le_refl _, RowI.nil _ _ _ _⟩⟩
   exact ret_t2 rfl (ret_i (by exact (ur_neg hct m0).1.symm))
  ·
   have htn := m0
   have htm := tg_many hct htn
   have hcz := tg_ok hct htn
   obtain ⟨hpl, hp8⟩ := ag_len hct o0
   have hps := ag_all hct o0 hsm
   obtain ⟨hzl, hsz, hcz'⟩ := ag_nth hct o0 hsm htm
   have hpz := chk_pos hcz'
   have hz : (nthS j0 (tgK (nth t (t.length - 1))).toNat).2.2 = tgL t := by rw [lsts_nth, o0]; rfl
   have q0 := k0.setb (d := 30) (b := false) rfl (decide_eq_false m0)
   refine wp_cond_false (q0.ev rfl) ?_
   refine wp_skip ?_
   refine x_then_n (t0 _ _ ?_)
   refine wsc (fun t0 m0 => ?_)
   refine mv q0 (fun t0 k0 => ?_)
   refine mv k0 (fun t0 q0 => ?_)
   refine mv q0 (fun t0 k0 => ?_)
   refine m_index (i := (((tgK (nth t (t.length - 1))))).toNat) (j := ((((tgK (nth t (t.length - 1))))).toNat) * 1) sv k0 rfl rfl rfl rfl Tryd.underlying42 sz22 (by omega) (by omega) (ss_elem (t := j0) (k := (((tgK (nth t (t.length - 1))))).toNat) (u0.row (i := 2) rfl).2 (by omega)).some_ rfl (by decide) (fun t0 q0 => ?_)
   refine m_loadE sv q0 rfl rfl rfl 0 (((((tgK (nth t (t.length - 1))))).toNat) * 1) (ss_elem (t := j0) (k := (((tgK (nth t (t.length - 1))))).toNat) (u0.row (i := 2) rfl).2 (by omega)) rfl rfl Tryd.underlying22 rfl (by decide) (fun t0 k0 => ?_)
   have t0 := u0.data (dRow 4 ((nthS j0 ((((tgK (nth t (t.length - 1))))).toNat)).1) ((nthS j0 ((((tgK (nth t (t.length - 1))))).toNat)).2.2.length) ((nthS j0 ((((tgK (nth t (t.length - 1))))).toNat)).2.1) (encNs ((nthS j0 ((((tgK (nth t (t.length - 1))))).toNat)).2.2))) (all_at (t := j0) (k := (((tgK (nth t (t.length - 1))))).toNat) (u0.get (i := 3) rfl) (by omega))
   have u0 := t0.nf
   refine k_call (xs := [.tmp 35]) se k0 rfl rfl rfl (by decide) ok34 (uroot_calls _ _ u0.il _ _ ((nthS j0 ((((tgK (nth t (t.length - 1))))).toNat)).2.2) (u0.g 4)) ?_
   rintro k0 t0 ⟨rfl, q0⟩
   have t0 := u0.below q0.below
   refine ⟨_, rfl, fun q0 u0 => ?_⟩
   refine r_nilCheck sv u0 rfl rfl rfl (by decide) (fun q0 k0 => ?_)
   refine m_field (j' := 5) sv k0 rfl rfl rfl Tryd.underlying61 rfl sz39 rfl rfl (by decide) (fun q0 u0 => ?_)
   refine m_store (i := 0) (cs' := [.int .i64 0, .int .i64 (((nth t (t.length - 1)).K)), .int .i64 (((nth t (t.length - 1)).N)), .int .i64 (((nth t (t.length - 1)).M)), .string ((nth t (t.length - 1)).S), .int .i64 (((nth ((nthS j0 ((((tgK (nth t (t.length - 1))))).toNat)).2.2) (((nthS j0 ((((tgK (nth t (t.length - 1))))).toNat)).2.2).length - 1)).K)), .int .i64 (((nth ((nthS j0 ((((tgK (nth t (t.length - 1))))).toNat)).2.2) (((nthS j0 ((((tgK (nth t (t.length - 1))))).toNat)).2.2).length - 1)).N)), .int .i64 (((nth ((nthS j0 ((((tgK (nth t (t.length - 1))))).toNat)).2.2) (((nthS j0 ((((tgK (nth t (t.length - 1))))).toNat)).2.2).length - 1)).M)), .string ((nth ((nthS j0 ((((tgK (nth t (t.length - 1))))).toNat)).2.2) (((nthS j0 ((((tgK (nth t (t.length - 1))))).toNat)).2.2).length - 1)).S), .slice d0 j0.length i0, .slice none 0 0, .slice none 0 0]) se u0 t0 rfl rfl rfl rfl rfl sz39 rfl rfl rfl (fun q0 k0 h0 p0 => ?_)
   refine wpList_nil (x_then_n (m0 _ _ ?_))
   refine wsc (fun m0 k0 => ?_)
   refine mv h0 (fun m0 q0 => ?_)
   refine mv q0 (fun m0 h0 => ?_)
   refine mv h0 (fun m0 q0 => ?_)
   refine m_index (i := (((tgK (nth t (t.length - 1))))).toNat) (j := ((((tgK (nth t (t.length - 1))))).toNat) * 1) sv q0 rfl rfl rfl rfl Tryd.underlying42 sz22 (by omega) (by omega) (ss_elem (t := j0) (k := (((tgK (nth t (t.length - 1))))).toNat) (p0.row (i := 2) rfl).2 (by omega)).some_ rfl (by decide) (fun m0 h0 => ?_)
   refine m_loadE sv h0 rfl rfl rfl 0 (((((tgK (nth t (t.length - 1))))).toNat) * 1) (ss_elem (t := j0) (k := (((tgK (nth t (t.length - 1))))).toNat) (p0.row (i := 2) rfl).2 (by omega)) rfl rfl Tryd.underlying22 rfl (by decide) (fun m0 q0 => ?_)
   have m0 := p0.data (dRow 4 ((nthS j0 ((((tgK (nth t (t.length - 1))))).toNat)).1) ((nthS j0 ((((tgK (nth t (t.length - 1))))).toNat)).2.2.length) ((nthS j0 ((((tgK (nth t (t.length - 1))))).toNat)).2.1) (encNs ((nthS j0 ((((tgK (nth t (t.length - 1))))).toNat)).2.2))) (all_at (t := j0) (k := (((tgK (nth t (t.length - 1))))).toNat) (p0.get (i := 3) rfl) (by omega))
   have p0 := m0.nf
   refine k_call (xs := [.tmp 44]) se q0 rfl rfl rfl (by decide) ok33 (args_calls _ _ p0.il _ _ ((nthS j0 ((((tgK (nth t (t.length - 1))))).toNat)).2.2) (p0.g 0) (p0.g 5)) ?_
   rintro q0 m0 ⟨h0, u0, t0, rfl, c0, v0, x0, y0⟩
   have m0 := p0.below c0.below
   have c0 := p0.dN m0 v0
   have m0 := p0.dN c0 x0
   refine ⟨_, rfl, fun c0 x0 => ?_⟩
   obtain ⟨hql, c0⟩ := ag_len hcz' y0
   have hqs := ag_all hcz' y0 hsz
   refine mv x0 (fun c0 p0 => ?_)
   refine r_extract sv p0 rfl rfl rfl rfl (by decide) (fun c0 x0 => ?_)
   refine r_extract sv x0 rfl rfl rfl rfl (by decide) (fun c0 p0 => ?_)
   refine r_nilCheck sv p0 rfl rfl rfl (by decide) (fun c0 x0 => ?_)
   refine m_field (j' := 10) sv x0 rfl rfl rfl Tryd.underlying61 rfl sz42 rfl rfl (by decide) (fun c0 p0 => ?_)
   refine m_store (i := 0) (cs' := [.int .i64 0, .int .i64 (((nth t (t.length - 1)).K)), .int .i64 (((nth t (t.length - 1)).N)), .int .i64 (((nth t (t.length - 1)).M)), .string ((nth t (t.length - 1)).S), .int .i64 (((nth ((nthS j0 ((((tgK (nth t (t.length - 1))))).toNat)).2.2) (((nthS j0 ((((tgK (nth t (t.length - 1))))).toNat)).2.2).length - 1)).K)), .int .i64 (((nth ((nthS j0 ((((tgK (nth t (t.length - 1))))).toNat)).2.2) (((nthS j0 ((((tgK (nth t (t.length - 1))))).toNat)).2.2).length - 1)).N)), .int .i64 (((nth ((nthS j0 ((((tgK (nth t (t.length - 1))))).toNat)).2.2) (((nthS j0 ((((tgK (nth t (t.length - 1))))).toNat)).2.2).length - 1)).M)), .string ((nth ((nthS j0 ((((tgK (nth t (t.length - 1))))).toNat)).2.2) (((nthS j0 ((((tgK (nth t (t.length - 1))))).toNat)).2.2).length - 1)).S), .slice d0 j0.length i0, .slice h0 t0.length u0, .slice none 0 0]) se p0 m0 rfl rfl rfl rfl rfl sz42 rfl rfl rfl (fun c0 x0 v0 q0 => ?_)
   refine wpList_nil (x_then_n (k0 _ _ ?_))
   refine wp_seq_k (fun k0 x0 => ?_)
   obtain ⟨k0, c0, p0⟩ := q0.agree
   refine d_reg3 (n := 10) p0 8 (pB 0 1 pn) (pan_then pan_body) (fun c0 k0 q0 m0 u0 h0 => ?_)
   refine dtM 0 k0 v0 h0 (fun m0 c0 => ?_)
   refine dtN 1 k0 c0 h0 (fun m0 v0 => ?_)
   refine dtF 2 0 k0 v0 h0 Tryd.underlying61 sz59 (fun m0 c0 => ?_)
   refine dtM 3 k0 c0 h0 (fun m0 v0 => ?_)
   refine d1 4 ?_
   have m0 := u0.nf
   refine k_call (xs := [.tmp 53]) (st_op rfl (want_n rfl)) v0 rfl rfl rfl (by decide) ok37 (ureduct_calls _ _ m0.il _ _ (nth t (t.length - 1)) (nth ((nthS j0 ((((tgK (nth t (t.length - 1))))).toNat)).2.2) (((nthS j0 ((((tgK (nth t (t.length - 1))))).toNat)).2.2).length - 1)) _ _ _ _ _ _ (m0.g 0) (m0.z 0) (imm_box (i := 0) rfl) (m0.g 2) (m0.g 3) (m0.g 6) (m0.g 7)) ?_
   rintro v0 u0 ⟨c0, h0, p0, rfl, i0, d0, z0, b1⟩
   have h0 := m0.callM (i := 0) rfl i0 d0
   have d0 := m0.dM 0 h0 z0
   refine ⟨_, rfl, fun h0 z0 => ?_⟩
   obtain ⟨hrs, hrl⟩ : sml p0 ∧ p0.length ≤ 100000 := by rw [b1]; exact urR_sz hsn hps hqs
   have hof := ur_of hct htn (R := urR (nth t (t.length - 1)) (nth (nthS j0 (tgK (nth t (t.length - 1))).toNat).2.2 ((nthS j0 (tgK (nth t (t.length - 1))).toNat).2.2.length - 1)) (lsts j0) (lsts t0)) (by rw [o0, y0, hz])
   have y0 := sWI d0 8 (pB 0 1 pn)
   refine ⟨y0, ?_⟩
   refine d1 5 ?_
   have y0 := d0.nf
   refine k_call (xs := [.tmp 52, .tmp 54]) (st_op rfl (want_n rfl)) z0 rfl rfl rfl (by decide) ok36 (done_calls _ _ y0.il _ _ _ _ _ _ _ (y0.g 0) (y0.z 0) (imm_box (i := 0) rfl) (y0.g 9)) ?_
   rintro z0 d0 ⟨o0, h0, rfl, m0, i0, c0⟩
   have d0 := y0.callM (i := 0) rfl m0 i0
   have i0 := y0.dM 0 d0 c0
   refine ⟨_, rfl, fun d0 c0 => ?_⟩
   have d0 := sWI i0 8 (pB 0 1 pn)
   refine ⟨d0, ?_⟩
   refine dt 6 rfl k0 c0 (want_n rfl) (fun x hx => r_extract (sy c0) c0 rfl rfl rfl rfl (by decide) gt) d0 (fun y0 m0 => ?_)
   refine dt 7 rfl k0 m0 (want_n rfl) (fun x hx => r_extract (sy m0) m0 rfl rfl rfl rfl (by decide) gt) d0 (fun y0 c0 => ?_)
   refine dtA 8 k0 c0 d0 (fun y0 m0 => ?_)
   refine dtA 9 k0 m0 d0 (fun y0 c0 => ?_)
   refine wpAnyH_done (by kernel_rfl) (q0 _ _ ?_) _
   refine x_then_n (x0 _ _ ?_)
   refine wp_ret ?_
   refine e_ret2 c0 rfl rfl rfl rfl ?_
   have c0 : urA t = (if (if (((urR (nth t (t.length - 1)) (nth ((nthS j0 ((((tgK (nth t (t.length - 1))))).toNat)).2.2) (((nthS j0 ((((tgK (nth t (t.length - 1))))).toNat)).2.2).length - 1)) (lsts j0) (lsts t0)).2)) = 0 then chk p0 else (((urR (nth t (t.length - 1)) (nth ((nthS j0 ((((tgK (nth t (t.length - 1))))).toNat)).2.2) (((nthS j0 ((((tgK (nth t (t.length - 1))))).toNat)).2.2).length - 1)) (lsts j0) (lsts t0)).2))) = 0 then p0 else []) := (by rw [hof.2, b1])
   rw [c0]
   refine ⟨o0, h0, ?_, i0.fr, i0.rx 10⟩
   exact ret_t2 rfl (ret_i (by first | exact hof.1.symm | (rw [hof.1, b1])))
 ·
  have b1 := f0.setb (d := 16) (b := true) rfl (by rw [(decide_eq_false n0)]; rfl)
  refine wp_cond_true (b1.ev rfl) ?_
  refine wsc (fun f0 i0 => ?_)
  refine mv b1 (fun f0 h0 => ?_)
  refine asg h0 (fun f0 b1 => ?_)
  refine asg b1 (fun f0 h0 => ?_)
  refine wpList_nil (x_then_n (i0 _ _ ?_))
  refine wp_ret ?_
  refine x_then_r ?_
  refine e_ret2 h0 rfl rfl rfl rfl ?_
  have h0 : urA t = [] := (ur_err n0).2
  rw [h0]
  refine ⟨none, 0, ?_, b0.fr, ⟨Nat.le_refl _, RowI.nil _ _ _ _⟩⟩
  exact ret_t2 rfl (ret_i (by exact (ur_err n0).1.symm))
end Go.Proofs.YtcfponnkfhkbdaaDoor
/- Contracts of functions, one theorem each: what the call returns, and that nothing old is changed. Printed by gen.py. -/
namespace Go.Proofs.YtcfponnkfhkbdaaDoor
open Go Go.RowKit
set_option linter.unusedSimpArgs false
set_option linter.unusedVariables false
set_option maxRecDepth 100000 in
set_option maxHeartbeats 1000000 in
theorem heavy14_calls (w0 : World) (Z : Nat → Prop) (hZ : ∀ k, Z k → k < w0.heap.size) (tA : Option Addr) (tc : Nat) (t : List Nd) (ht : (dRow 4 tA t.length tc (encNs t)).φ w0 Z) :
    Calls Tryd.prog 10 [.slice tA t.length tc].toArray w0 (fun e w' => e = .returned (.bool (heavyB 120 t)) ∧ Fr none_ w0 w') := by
 have b0 := s0 (M := none_) hZ (zc ht zn)
 refine c_enter Tryd.func10 rfl Tryd.ntmps10 rfl (fun c0 d0 => ?_)
 refine wsc (fun c0 f0 => ?_)
 refine asg d0 (fun c0 h0 => ?_)
 refine wpList_nil (x_then_n (f0 _ _ ?_))
 refine wp_seq_k (fun f0 c0 => ?_)
 refine wsc (fun f0 d0 => ?_)
 refine mv h0 (fun f0 i0 => ?_)
 refine r_len sv i0 rfl rfl rfl rfl Tryd.underlying22 (by decide) (fun f0 h0 => ?_)
 refine r_gtr sv h0 rfl rfl rfl rfl (by decide) (fun f0 i0 => ?_)
 refine wpList_nil (x_then_n (d0 _ _ ?_))
 rcases Decidable.em (120 < ((t.length : Nat) : Int)) with d0 | d0
 ·
  have f0 := i0.setb (d := 6) (b := true) rfl (decide_eq_true d0)
  refine wp_cond_true (f0.ev rfl) ?_
  refine wsc (fun h0 j0 => ?_)
  refine asg f0 (fun h0 k0 => ?_)
  refine wpList_nil (x_then_n (j0 _ _ ?_))
  refine wp_ret ?_
  refine x_then_r ?_
  refine e_ret1 k0 rfl rfl rfl ?_
  refine ⟨?_, b0.fr⟩
  exact congrArg Ending.returned (ret_b (by first | exact (heavy_len (by omega)).symm | exact (heavy_at (k := k) (by omega) (by omega)).symm | exact (heavy_no hi (by omega) (by omega)).symm))
 ·
  have k0 := i0.setb (d := 6) (b := false) rfl (decide_eq_false d0)
  refine wp_cond_false (k0.ev rfl) ?_
  refine wp_skip ?_
  refine x_then_n (c0 _ _ ?_)
  refine wp_seq_k (fun c0 d0 => ?_)
  refine wsc (fun c0 i0 => ?_)
  refine asg k0 (fun c0 j0 => ?_)
  refine wpList_nil (x_then_n (i0 _ _ ?_))
  refine wp_block ?_
  refine wp_loop_ghost (fun gn ga gw => ∃ k : Nat, (Reg ga 20 [(1000000, .bool false), (0, .slice tA t.length tc), (3, .int .i64 ((k : Nat) : Int))]) ∧ (St w0 Z none_ gw [] [dRow 4 tA t.length tc (encNs t)]) ∧ (k ≤ t.length) ∧ (lightTo t k) ∧ (t.length - k) = gn) _ ⟨0, (j0.sub (rc rfl (rc rfl (rc rfl rnl)))), b0, by omega, (fun _ h => by omega), rfl⟩ ?_
  rintro j0 b0 i0 ⟨k, c0, k0, hk, hi, h0⟩
  refine wp_seq_k (fun h0 i0 => ?_)
  refine wsc (fun h0 b0 => ?_)
  refine mv c0 (fun h0 j0 => ?_)
  refine mv j0 (fun h0 c0 => ?_)
  refine r_len sv c0 rfl rfl rfl rfl Tryd.underlying22 (by decide) (fun h0 j0 => ?_)
  refine r_lss sv j0 rfl rfl rfl rfl (by decide) (fun h0 c0 => ?_)
  refine wpList_nil (x_then_n (b0 _ _ ?_))
  rcases Decidable.em (((k : Nat) : Int) < ((t.length : Nat) : Int)) with b0 | b0
  ·
   have h0 := c0.setb (d := 10) (b := true) rfl (decide_eq_true b0)
   refine wp_cond_true (h0.ev rfl) ?_
   refine wp_skip ?_
   refine x_then_n (i0 _ _ ?_)
   refine wp_seq_k (fun i0 j0 => ?_)
   refine wp_block ?_
   refine wsc (fun i0 f0 => ?_)
   refine mv h0 (fun i0 m0 => ?_)
   refine mv m0 (fun i0 h0 => ?_)
   refine m_index (i := k) (j := k * 4) sv h0 rfl rfl rfl rfl Tryd.underlying22 sz39 (by omega) (by omega) (nds_elem (t := t) (k := k) (k0.row (i := 0) rfl).2 (by omega)).some_ rfl (by decide) (fun i0 m0 => ?_)
   refine m_fieldE (j' := k * 4 + 3) sv m0 rfl rfl rfl (nds_elem (t := t) (k := k) (k0.row (i := 0) rfl).2 (by omega)).some_ Tryd.underlying39 rfl sz9 rfl rfl (by decide) (fun i0 h0 => ?_)
   refine m_loadE sv h0 rfl rfl rfl 3 (k * 4) (nds_elem (t := t) (k := k) (k0.row (i := 0) rfl).2 (by omega)) rfl rfl Tryd.underlying9 rfl (by decide) (fun i0 m0 => ?_)
   refine r_lenS sv m0 rfl rfl rfl rfl Tryd.underlying9 (by decide) (fun i0 h0 => ?_)
   refine r_gtr sv h0 rfl rfl rfl rfl (by decide) (fun i0 m0 => ?_)
   refine wpList_nil (x_then_n (f0 _ _ ?_))
   rcases Decidable.em (100 < ((((nth t k).S).size : Nat) : Int)) with f0 | f0
   ·
    have i0 := m0.setb (d := 19) (b := true) rfl (decide_eq_true f0)
    refine wp_cond_true (i0.ev rfl) ?_
    refine wsc (fun h0 n0 => ?_)
    refine asg i0 (fun h0 o0 => ?_)
    refine wpList_nil (x_then_n (n0 _ _ ?_))
    refine wp_ret ?_
    refine x_block_r ?_
    refine x_then_r ?_
    refine x_then_r ?_
    refine x_block_r ?_
    refine x_then_r ?_
    refine e_ret1 o0 rfl rfl rfl ?_
    refine ⟨?_, k0.fr⟩
    exact congrArg Ending.returned (ret_b (by first | exact (heavy_len (by omega)).symm | exact (heavy_at (k := k) (by omega) (by omega)).symm | exact (heavy_no hi (by omega) (by omega)).symm))
   ·
    have o0 := m0.setb (d := 19) (b := false) rfl (decide_eq_false f0)
    refine wp_cond_false (o0.ev rfl) ?_
    refine wp_skip ?_
    refine x_block_n ?_
    refine x_then_n (j0 _ _ ?_)
    refine c_region ?_
    refine mv o0 (fun j0 f0 => ?_)
    refine r_add (z := ((k + 1 : Nat) : Int)) sv f0 rfl rfl rfl rfl (by decide) (by omega) (by omega) (by omega) (fun j0 o0 => ?_)
    refine asg o0 (fun j0 f0 => ?_)
    refine wpList_nil ?_
    exact ⟨_, by omega, k + 1, (f0.sub (rc rfl (rc rfl (rc rfl rnl)))), k0, by omega, light_step hi (by omega), rfl⟩
  ·
   have f0 := c0.setb (d := 10) (b := false) rfl (decide_eq_false b0)
   refine wp_cond_false (f0.ev rfl) ?_
   refine wp_exit ?_
   refine x_then_e ?_
   refine x_then_e ?_
   refine x_block_eq ?_
   refine x_then_n (d0 _ _ ?_)
   refine wsc (fun d0 b0 => ?_)
   refine asg f0 (fun d0 c0 => ?_)
   refine wpList_nil (x_then_n (b0 _ _ ?_))
   refine wp_ret ?_
   refine e_ret1 c0 rfl rfl rfl ?_
   refine ⟨?_, k0.fr⟩
   exact congrArg Ending.returned (ret_b (by first | exact (heavy_len (by omega)).symm | exact (heavy_at (k := k) (by omega) (by omega)).symm | exact (heavy_no hi (by omega) (by omega)).symm))
end Go.Proofs.YtcfponnkfhkbdaaDoor
/- Contracts of functions, one theorem each: what the call returns, and that nothing old is changed. Printed by gen.py. -/
namespace Go.Proofs.YtcfponnkfhkbdaaDoor
open Go Go.RowKit
set_option linter.unusedSimpArgs false
set_option linter.unusedVariables false
set_option maxRecDepth 100000 in
set_option maxHeartbeats 1000000 in
theorem shown14_calls (w0 : World) (Z : Nat → Prop) (hZ : ∀ k, Z k → k < w0.heap.size)  (hShp : Shapes w0 Z) :
    Calls Tryd.prog 12 [].toArray w0 (fun e w' => e = .returned (.bool (true)) ∧ Fr none_ w0 w') := by
 have b0 := s0 (M := none_) hZ (zc (d := dShapes) hShp zn)
 refine c_enter Tryd.func12 rfl Tryd.ntmps12 rfl (fun c0 d0 => ?_)
 refine wsc (fun c0 f0 => ?_)
 refine asg d0 (fun c0 h0 => ?_)
 refine wpList_nil (x_then_n (f0 _ _ ?_))
 refine wsc (fun f0 c0 => ?_)
 refine m_build (ps := [(0, .const (.int .i64 10))]) (v := .agg #[.int .i64 10, .int .i64 0, .int .i64 0, .string (⟨#[]⟩ : ByteArray)]) sv h0 rfl rfl rfl (fun _ => by kernel_rfl) (by decide) (fun f0 d0 => ?_)
 refine m_build (ps := [(0, .const (.int .i64 11))]) (v := .agg #[.int .i64 11, .int .i64 0, .int .i64 0, .string (⟨#[]⟩ : ByteArray)]) sv d0 rfl rfl rfl (fun _ => by kernel_rfl) (by decide) (fun f0 h0 => ?_)
 refine m_build (ps := [(0, .const (.int .i64 16))]) (v := .agg #[.int .i64 16, .int .i64 0, .int .i64 0, .string (⟨#[]⟩ : ByteArray)]) sv h0 rfl rfl rfl (fun _ => by kernel_rfl) (by decide) (fun f0 d0 => ?_)
 refine m_build (ps := [(0, .const (.int .i64 7))]) (v := .agg #[.int .i64 7, .int .i64 0, .int .i64 0, .string (⟨#[]⟩ : ByteArray)]) sv d0 rfl rfl rfl (fun _ => by kernel_rfl) (by decide) (fun f0 h0 => ?_)
 refine m_build (ps := [(0, .const (.int .i64 8))]) (v := .agg #[.int .i64 8, .int .i64 0, .int .i64 0, .string (⟨#[]⟩ : ByteArray)]) sv h0 rfl rfl rfl (fun _ => by kernel_rfl) (by decide) (fun f0 d0 => ?_)
 refine mbs [(0, .tmp 4), (1, .tmp 5), (2, .tmp 6), (3, .tmp 7), (4, .tmp 8)] [.int .i64 10, .int .i64 0, .int .i64 0, .string (⟨#[]⟩ : ByteArray), .int .i64 11, .int .i64 0, .int .i64 0, .string (⟨#[]⟩ : ByteArray), .int .i64 16, .int .i64 0, .int .i64 0, .string (⟨#[]⟩ : ByteArray), .int .i64 7, .int .i64 0, .int .i64 0, .string (⟨#[]⟩ : ByteArray), .int .i64 8, .int .i64 0, .int .i64 0, .string (⟨#[]⟩ : ByteArray)] sv d0 b0 Tryd.underlying22 zi39 (fun f0 h0 i0 j0 k0 => ?_)
 refine asg j0 (fun h0 f0 => ?_)
 refine wpList_nil (x_then_n (c0 _ _ ?_))
 refine wsc (fun c0 h0 => ?_)
 refine mv f0 (fun c0 j0 => ?_)
 have c0 := k0.nf
 have k0 := own_cap (c0.res (i := 0) rfl)
 obtain ⟨f0, d0⟩ := c0.row_data (i := 0) rfl (fun _ h => h)
 have c0 := f0.data (dRow 4 (some ⟨i0, 0, none⟩) 5 5 (encNs ([(⟨10, 0, 0, (⟨#[]⟩ : ByteArray)⟩ : Nd), (⟨11, 0, 0, (⟨#[]⟩ : ByteArray)⟩ : Nd), (⟨16, 0, 0, (⟨#[]⟩ : ByteArray)⟩ : Nd), (⟨7, 0, 0, (⟨#[]⟩ : ByteArray)⟩ : Nd), (⟨8, 0, 0, (⟨#[]⟩ : ByteArray)⟩ : Nd)]))) ⟨k0, d0⟩
 refine k_call (xs := [.tmp 11, .const (.slice none 0 0)]) se j0 rfl rfl rfl (by decide) ok13 (urule0_calls _ _ c0.il _ _ ([(⟨10, 0, 0, (⟨#[]⟩ : ByteArray)⟩ : Nd), (⟨11, 0, 0, (⟨#[]⟩ : ByteArray)⟩ : Nd), (⟨16, 0, 0, (⟨#[]⟩ : ByteArray)⟩ : Nd), (⟨7, 0, 0, (⟨#[]⟩ : ByteArray)⟩ : Nd), (⟨8, 0, 0, (⟨#[]⟩ : ByteArray)⟩ : Nd)]) (c0.g 0) (c0.g 1) (hsm := sml_14) (hl := (by simp)) (h27 := (by decide))) ?_
 rintro j0 d0 ⟨f0, k0, rfl, b0, m0⟩
 have d0 := c0.below b0.below
 have b0 := c0.dN d0 m0
 refine ⟨_, rfl, fun d0 m0 => ?_⟩
 refine mv m0 (fun d0 c0 => ?_)
 refine r_extract sv c0 rfl rfl rfl rfl (by decide) (fun d0 m0 => ?_)
 refine r_extract sv m0 rfl rfl rfl rfl (by decide) (fun d0 c0 => ?_)
 refine asg c0 (fun d0 m0 => ?_)
 refine asg m0 (fun d0 c0 => ?_)
 refine wpList_nil (x_then_n (h0 _ _ ?_))
 refine wsc (fun h0 d0 => ?_)
 refine mv c0 (fun h0 m0 => ?_)
 refine r_eql sv m0 rfl rfl rfl rfl (by decide) (fun h0 c0 => ?_)
 refine mv c0 (fun h0 m0 => ?_)
 refine l_join (fun ga gw => Reg ga 34 [(0, .bool false), (1, .slice (some ⟨i0, 0, none⟩) 5 5), (2, .slice f0 ((urA ([(⟨10, 0, 0, (⟨#[]⟩ : ByteArray)⟩ : Nd), (⟨11, 0, 0, (⟨#[]⟩ : ByteArray)⟩ : Nd), (⟨16, 0, 0, (⟨#[]⟩ : ByteArray)⟩ : Nd), (⟨7, 0, 0, (⟨#[]⟩ : ByteArray)⟩ : Nd), (⟨8, 0, 0, (⟨#[]⟩ : ByteArray)⟩ : Nd)])).length) k0), (21, .bool ((decide (((urE ([(⟨10, 0, 0, (⟨#[]⟩ : ByteArray)⟩ : Nd), (⟨11, 0, 0, (⟨#[]⟩ : ByteArray)⟩ : Nd), (⟨16, 0, 0, (⟨#[]⟩ : ByteArray)⟩ : Nd), (⟨7, 0, 0, (⟨#[]⟩ : ByteArray)⟩ : Nd), (⟨8, 0, 0, (⟨#[]⟩ : ByteArray)⟩ : Nd)]))) = 0)) && (decide ((((urA ([(⟨10, 0, 0, (⟨#[]⟩ : ByteArray)⟩ : Nd), (⟨11, 0, 0, (⟨#[]⟩ : ByteArray)⟩ : Nd), (⟨16, 0, 0, (⟨#[]⟩ : ByteArray)⟩ : Nd), (⟨7, 0, 0, (⟨#[]⟩ : ByteArray)⟩ : Nd), (⟨8, 0, 0, (⟨#[]⟩ : ByteArray)⟩ : Nd)])).length : Nat) : Int) = 1)))), (1000000, .bool false)] ∧ St w0 Z none_ gw [] [dShapes, dRow 4 (some ⟨i0, 0, none⟩) 5 5 (encNs ([(⟨10, 0, 0, (⟨#[]⟩ : ByteArray)⟩ : Nd), (⟨11, 0, 0, (⟨#[]⟩ : ByteArray)⟩ : Nd), (⟨16, 0, 0, (⟨#[]⟩ : ByteArray)⟩ : Nd), (⟨7, 0, 0, (⟨#[]⟩ : ByteArray)⟩ : Nd), (⟨8, 0, 0, (⟨#[]⟩ : ByteArray)⟩ : Nd)])), dRow 4 f0 ((urA ([(⟨10, 0, 0, (⟨#[]⟩ : ByteArray)⟩ : Nd), (⟨11, 0, 0, (⟨#[]⟩ : ByteArray)⟩ : Nd), (⟨16, 0, 0, (⟨#[]⟩ : ByteArray)⟩ : Nd), (⟨7, 0, 0, (⟨#[]⟩ : ByteArray)⟩ : Nd), (⟨8, 0, 0, (⟨#[]⟩ : ByteArray)⟩ : Nd)])).length) k0 (encNs (urA ([(⟨10, 0, 0, (⟨#[]⟩ : ByteArray)⟩ : Nd), (⟨11, 0, 0, (⟨#[]⟩ : ByteArray)⟩ : Nd), (⟨16, 0, 0, (⟨#[]⟩ : ByteArray)⟩ : Nd), (⟨7, 0, 0, (⟨#[]⟩ : ByteArray)⟩ : Nd), (⟨8, 0, 0, (⟨#[]⟩ : ByteArray)⟩ : Nd)])))]) 4 ?_ ?_
 ·
  rcases Decidable.em (((urE ([(⟨10, 0, 0, (⟨#[]⟩ : ByteArray)⟩ : Nd), (⟨11, 0, 0, (⟨#[]⟩ : ByteArray)⟩ : Nd), (⟨16, 0, 0, (⟨#[]⟩ : ByteArray)⟩ : Nd), (⟨7, 0, 0, (⟨#[]⟩ : ByteArray)⟩ : Nd), (⟨8, 0, 0, (⟨#[]⟩ : ByteArray)⟩ : Nd)]))) = 0) with h0 | h0
  ·
   have c0 := m0.setb (d := 17) (b := true) rfl (decide_eq_true h0)
   refine r_move (st_listV_w (wt c0)) c0 rfl rfl rfl (by decide) (fun j0 n0 => ?_)
   refine r_len (st_listV_w (wt n0)) n0 rfl rfl rfl rfl Tryd.underlying22 (by decide) (fun j0 c0 => ?_)
   refine r_eql (st_listV_w (wt c0)) c0 rfl rfl rfl rfl (by decide) (fun j0 n0 => ?_)
   refine r_pick_t sv n0 rfl rfl rfl rfl (by decide) (fun j0 c0 => ?_)
   refine wpList_nil ?_
   exact x_then_n ⟨(c0.sub (rc rfl (rc rfl (rc rfl (rc (rb rfl (by first | rfl | (simp only [decide_eq_true h0, if_pos h0, bl]; done) | (simp [h0]; done) | (simp [h0]; omega))) (rc rfl rnl)))))), b0⟩
  ·
   have c0 := m0.setb (d := 17) (b := false) rfl (decide_eq_false h0)
   refine sps c0 (wff c0) (fun m0 j0 => ?_)
   refine sps j0 (wff j0) (fun m0 c0 => ?_)
   refine sps c0 (wff c0) (fun m0 j0 => ?_)
   refine r_pick_f sv j0 rfl rfl rfl rfl (by decide) (fun m0 c0 => ?_)
   refine wpList_nil ?_
   exact x_then_n ⟨(c0.sub (rc rfl (rc rfl (rc rfl (rc (rb rfl (by first | rfl | (simp only [decide_eq_false h0, if_neg h0, bl]; done) | (simp [h0]; done) | (simp [h0]; omega))) (rc rfl rnl)))))), b0⟩
 rintro c0 h0 ⟨b0, m0⟩
 refine mv b0 (fun h0 c0 => ?_)
 refine l_join (fun ga gw => Reg ga 34 [(0, .bool false), (1, .slice (some ⟨i0, 0, none⟩) 5 5), (28, .bool (((decide (((urE ([(⟨10, 0, 0, (⟨#[]⟩ : ByteArray)⟩ : Nd), (⟨11, 0, 0, (⟨#[]⟩ : ByteArray)⟩ : Nd), (⟨16, 0, 0, (⟨#[]⟩ : ByteArray)⟩ : Nd), (⟨7, 0, 0, (⟨#[]⟩ : ByteArray)⟩ : Nd), (⟨8, 0, 0, (⟨#[]⟩ : ByteArray)⟩ : Nd)]))) = 0)) && (decide ((((urA ([(⟨10, 0, 0, (⟨#[]⟩ : ByteArray)⟩ : Nd), (⟨11, 0, 0, (⟨#[]⟩ : ByteArray)⟩ : Nd), (⟨16, 0, 0, (⟨#[]⟩ : ByteArray)⟩ : Nd), (⟨7, 0, 0, (⟨#[]⟩ : ByteArray)⟩ : Nd), (⟨8, 0, 0, (⟨#[]⟩ : ByteArray)⟩ : Nd)])).length : Nat) : Int) = 1))) && (decide ((((nth (urA ([(⟨10, 0, 0, (⟨#[]⟩ : ByteArray)⟩ : Nd), (⟨11, 0, 0, (⟨#[]⟩ : ByteArray)⟩ : Nd), (⟨16, 0, 0, (⟨#[]⟩ : ByteArray)⟩ : Nd), (⟨7, 0, 0, (⟨#[]⟩ : ByteArray)⟩ : Nd), (⟨8, 0, 0, (⟨#[]⟩ : ByteArray)⟩ : Nd)])) 0).K)) = 11)))), (1000000, .bool false)] ∧ St w0 Z none_ gw [] [dShapes, dRow 4 (some ⟨i0, 0, none⟩) 5 5 (encNs ([(⟨10, 0, 0, (⟨#[]⟩ : ByteArray)⟩ : Nd), (⟨11, 0, 0, (⟨#[]⟩ : ByteArray)⟩ : Nd), (⟨16, 0, 0, (⟨#[]⟩ : ByteArray)⟩ : Nd), (⟨7, 0, 0, (⟨#[]⟩ : ByteArray)⟩ : Nd), (⟨8, 0, 0, (⟨#[]⟩ : ByteArray)⟩ : Nd)])), dRow 4 f0 ((urA ([(⟨10, 0, 0, (⟨#[]⟩ : ByteArray)⟩ : Nd), (⟨11, 0, 0, (⟨#[]⟩ : ByteArray)⟩ : Nd), (⟨16, 0, 0, (⟨#[]⟩ : ByteArray)⟩ : Nd), (⟨7, 0, 0, (⟨#[]⟩ : ByteArray)⟩ : Nd), (⟨8, 0, 0, (⟨#[]⟩ : ByteArray)⟩ : Nd)])).length) k0 (encNs (urA ([(⟨10, 0, 0, (⟨#[]⟩ : ByteArray)⟩ : Nd), (⟨11, 0, 0, (⟨#[]⟩ : ByteArray)⟩ : Nd), (⟨16, 0, 0, (⟨#[]⟩ : ByteArray)⟩ : Nd), (⟨7, 0, 0, (⟨#[]⟩ : ByteArray)⟩ : Nd), (⟨8, 0, 0, (⟨#[]⟩ : ByteArray)⟩ : Nd)])))]) 6 ?_ ?_
 ·
  rcases Bool.eq_false_or_eq_true (((decide (((urE ([(⟨10, 0, 0, (⟨#[]⟩ : ByteArray)⟩ : Nd), (⟨11, 0, 0, (⟨#[]⟩ : ByteArray)⟩ : Nd), (⟨16, 0, 0, (⟨#[]⟩ : ByteArray)⟩ : Nd), (⟨7, 0, 0, (⟨#[]⟩ : ByteArray)⟩ : Nd), (⟨8, 0, 0, (⟨#[]⟩ : ByteArray)⟩ : Nd)]))) = 0)) && (decide ((((urA ([(⟨10, 0, 0, (⟨#[]⟩ : ByteArray)⟩ : Nd), (⟨11, 0, 0, (⟨#[]⟩ : ByteArray)⟩ : Nd), (⟨16, 0, 0, (⟨#[]⟩ : ByteArray)⟩ : Nd), (⟨7, 0, 0, (⟨#[]⟩ : ByteArray)⟩ : Nd), (⟨8, 0, 0, (⟨#[]⟩ : ByteArray)⟩ : Nd)])).length : Nat) : Int) = 1)))) with h0 | h0
  ·
   have b0 := and_tl h0
   have j0 := of_decide_eq_true b0
   have j0 := and_tr h0
   have b0 := of_decide_eq_true j0
   have b0 := c0.setb (d := 22) (b := true) rfl h0
   refine r_move (st_listV_w (wt b0)) b0 rfl rfl rfl (by decide) (fun j0 n0 => ?_)
   refine m_index (i := 0) (j := 0 * 4) (st_listV_w (wt n0)) n0 rfl rfl rfl rfl Tryd.underlying22 sz39 (by omega) (by omega) (nds_elem (t := urA ([(⟨10, 0, 0, (⟨#[]⟩ : ByteArray)⟩ : Nd), (⟨11, 0, 0, (⟨#[]⟩ : ByteArray)⟩ : Nd), (⟨16, 0, 0, (⟨#[]⟩ : ByteArray)⟩ : Nd), (⟨7, 0, 0, (⟨#[]⟩ : ByteArray)⟩ : Nd), (⟨8, 0, 0, (⟨#[]⟩ : ByteArray)⟩ : Nd)])) (k := 0) (m0.row (i := 2) rfl).2 (by omega)).some_ rfl (by decide) (fun j0 b0 => ?_)
   refine m_fieldE (j' := 0 * 4) (st_listV_w (wt b0)) b0 rfl rfl rfl (nds_elem (t := urA ([(⟨10, 0, 0, (⟨#[]⟩ : ByteArray)⟩ : Nd), (⟨11, 0, 0, (⟨#[]⟩ : ByteArray)⟩ : Nd), (⟨16, 0, 0, (⟨#[]⟩ : ByteArray)⟩ : Nd), (⟨7, 0, 0, (⟨#[]⟩ : ByteArray)⟩ : Nd), (⟨8, 0, 0, (⟨#[]⟩ : ByteArray)⟩ : Nd)])) (k := 0) (m0.row (i := 2) rfl).2 (by omega)).some_ Tryd.underlying39 rfl sz3 rfl rfl (by decide) (fun j0 n0 => ?_)
   refine m_loadE (st_listV_w (wt n0)) n0 rfl rfl rfl 0 (0 * 4) (nds_elem (t := urA ([(⟨10, 0, 0, (⟨#[]⟩ : ByteArray)⟩ : Nd), (⟨11, 0, 0, (⟨#[]⟩ : ByteArray)⟩ : Nd), (⟨16, 0, 0, (⟨#[]⟩ : ByteArray)⟩ : Nd), (⟨7, 0, 0, (⟨#[]⟩ : ByteArray)⟩ : Nd), (⟨8, 0, 0, (⟨#[]⟩ : ByteArray)⟩ : Nd)])) (k := 0) (m0.row (i := 2) rfl).2 (by omega)) rfl rfl Tryd.underlying3 rfl (by decide) (fun j0 b0 => ?_)
   refine r_eql (st_listV_w (wt b0)) b0 rfl rfl rfl rfl (by decide) (fun j0 n0 => ?_)
   refine r_pick_t sv n0 rfl rfl rfl rfl (by decide) (fun j0 b0 => ?_)
   refine wpList_nil ?_
   exact x_then_n ⟨(b0.sub (rc rfl (rc rfl (rc (rb rfl (by first | rfl | (simp only [h0, bl]; done) | (simp [h0]; done) | (simp [h0]; omega))) (rc rfl rnl))))), m0⟩
  ·
   have b0 := h0
   try simp only [Bool.or_eq_true, Bool.and_eq_true, Bool.not_eq_true', Bool.not_eq_false', decide_eq_true_eq, decide_eq_false_iff_not, Bool.or_eq_false_iff, Bool.and_eq_false_iff] at b0
   have b0 := c0.setb (d := 22) (b := false) rfl h0
   refine sps b0 (wff b0) (fun c0 j0 => ?_)
   refine sps j0 (wff j0) (fun c0 b0 => ?_)
   refine sps b0 (wff b0) (fun c0 j0 => ?_)
   refine sps j0 (wff j0) (fun c0 b0 => ?_)
   refine sps b0 (wff b0) (fun c0 j0 => ?_)
   refine r_pick_f sv j0 rfl rfl rfl rfl (by decide) (fun c0 b0 => ?_)
   refine wpList_nil ?_
   exact x_then_n ⟨(b0.sub (rc rfl (rc rfl (rc (rb rfl (by first | rfl | (simp only [h0, bl]; done) | (simp [h0]; done) | (simp [h0]; omega))) (rc rfl rnl))))), m0⟩
 rintro b0 h0 ⟨m0, c0⟩
 refine mv m0 (fun h0 b0 => ?_)
 refine l_join (fun ga gw => Reg ga 34 [(0, .bool false), (33, .bool ((((decide (((urE ([(⟨10, 0, 0, (⟨#[]⟩ : ByteArray)⟩ : Nd), (⟨11, 0, 0, (⟨#[]⟩ : ByteArray)⟩ : Nd), (⟨16, 0, 0, (⟨#[]⟩ : ByteArray)⟩ : Nd), (⟨7, 0, 0, (⟨#[]⟩ : ByteArray)⟩ : Nd), (⟨8, 0, 0, (⟨#[]⟩ : ByteArray)⟩ : Nd)]))) = 0)) && (decide ((((urA ([(⟨10, 0, 0, (⟨#[]⟩ : ByteArray)⟩ : Nd), (⟨11, 0, 0, (⟨#[]⟩ : ByteArray)⟩ : Nd), (⟨16, 0, 0, (⟨#[]⟩ : ByteArray)⟩ : Nd), (⟨7, 0, 0, (⟨#[]⟩ : ByteArray)⟩ : Nd), (⟨8, 0, 0, (⟨#[]⟩ : ByteArray)⟩ : Nd)])).length : Nat) : Int) = 1))) && (decide ((((nth (urA ([(⟨10, 0, 0, (⟨#[]⟩ : ByteArray)⟩ : Nd), (⟨11, 0, 0, (⟨#[]⟩ : ByteArray)⟩ : Nd), (⟨16, 0, 0, (⟨#[]⟩ : ByteArray)⟩ : Nd), (⟨7, 0, 0, (⟨#[]⟩ : ByteArray)⟩ : Nd), (⟨8, 0, 0, (⟨#[]⟩ : ByteArray)⟩ : Nd)])) 0).K)) = 11))) && (decide (((tgA ([(⟨10, 0, 0, (⟨#[]⟩ : ByteArray)⟩ : Nd), (⟨11, 0, 0, (⟨#[]⟩ : ByteArray)⟩ : Nd), (⟨16, 0, 0, (⟨#[]⟩ : ByteArray)⟩ : Nd), (⟨7, 0, 0, (⟨#[]⟩ : ByteArray)⟩ : Nd), (⟨8, 0, 0, (⟨#[]⟩ : ByteArray)⟩ : Nd)]))) = 0)))), (1000000, .bool false)] ∧ St w0 Z none_ gw [] [dShapes, dRow 4 (some ⟨i0, 0, none⟩) 5 5 (encNs ([(⟨10, 0, 0, (⟨#[]⟩ : ByteArray)⟩ : Nd), (⟨11, 0, 0, (⟨#[]⟩ : ByteArray)⟩ : Nd), (⟨16, 0, 0, (⟨#[]⟩ : ByteArray)⟩ : Nd), (⟨7, 0, 0, (⟨#[]⟩ : ByteArray)⟩ : Nd), (⟨8, 0, 0, (⟨#[]⟩ : ByteArray)⟩ : Nd)])), dRow 4 f0 ((urA ([(⟨10, 0, 0, (⟨#[]⟩ : ByteArray)⟩ : Nd), (⟨11, 0, 0, (⟨#[]⟩ : ByteArray)⟩ : Nd), (⟨16, 0, 0, (⟨#[]⟩ : ByteArray)⟩ : Nd), (⟨7, 0, 0, (⟨#[]⟩ : ByteArray)⟩ : Nd), (⟨8, 0, 0, (⟨#[]⟩ : ByteArray)⟩ : Nd)])).length) k0 (encNs (urA ([(⟨10, 0, 0, (⟨#[]⟩ : ByteArray)⟩ : Nd), (⟨11, 0, 0, (⟨#[]⟩ : ByteArray)⟩ : Nd), (⟨16, 0, 0, (⟨#[]⟩ : ByteArray)⟩ : Nd), (⟨7, 0, 0, (⟨#[]⟩ : ByteArray)⟩ : Nd), (⟨8, 0, 0, (⟨#[]⟩ : ByteArray)⟩ : Nd)])))]) 4 ?_ ?_
 ·
  rcases Bool.eq_false_or_eq_true ((((decide (((urE ([(⟨10, 0, 0, (⟨#[]⟩ : ByteArray)⟩ : Nd), (⟨11, 0, 0, (⟨#[]⟩ : ByteArray)⟩ : Nd), (⟨16, 0, 0, (⟨#[]⟩ : ByteArray)⟩ : Nd), (⟨7, 0, 0, (⟨#[]⟩ : ByteArray)⟩ : Nd), (⟨8, 0, 0, (⟨#[]⟩ : ByteArray)⟩ : Nd)]))) = 0)) && (decide ((((urA ([(⟨10, 0, 0, (⟨#[]⟩ : ByteArray)⟩ : Nd), (⟨11, 0, 0, (⟨#[]⟩ : ByteArray)⟩ : Nd), (⟨16, 0, 0, (⟨#[]⟩ : ByteArray)⟩ : Nd), (⟨7, 0, 0, (⟨#[]⟩ : ByteArray)⟩ : Nd), (⟨8, 0, 0, (⟨#[]⟩ : ByteArray)⟩ : Nd)])).length : Nat) : Int) = 1))) && (decide ((((nth (urA ([(⟨10, 0, 0, (⟨#[]⟩ : ByteArray)⟩ : Nd), (⟨11, 0, 0, (⟨#[]⟩ : ByteArray)⟩ : Nd), (⟨16, 0, 0, (⟨#[]⟩ : ByteArray)⟩ : Nd), (⟨7, 0, 0, (⟨#[]⟩ : ByteArray)⟩ : Nd), (⟨8, 0, 0, (⟨#[]⟩ : ByteArray)⟩ : Nd)])) 0).K)) = 11)))) with k0 | k0
  ·
   have f0 := and_tl k0
   have i0 := and_tl f0
   have h0 := of_decide_eq_true i0
   have h0 := and_tr f0
   have f0 := of_decide_eq_true h0
   have f0 := and_tr k0
   have h0 := of_decide_eq_true f0
   have h0 := b0.setb (d := 29) (b := true) rfl k0
   refine r_move (st_listV_w (wt h0)) h0 rfl rfl rfl (by decide) (fun f0 i0 => ?_)
   have f0 := c0.nf
   refine k_call (xs := [.tmp 30]) (st_list_w (wt i0)) i0 rfl rfl rfl (by decide) ok17 (uTarget_calls _ _ f0.il _ _ ([(⟨10, 0, 0, (⟨#[]⟩ : ByteArray)⟩ : Nd), (⟨11, 0, 0, (⟨#[]⟩ : ByteArray)⟩ : Nd), (⟨16, 0, 0, (⟨#[]⟩ : ByteArray)⟩ : Nd), (⟨7, 0, 0, (⟨#[]⟩ : ByteArray)⟩ : Nd), (⟨8, 0, 0, (⟨#[]⟩ : ByteArray)⟩ : Nd)]) (f0.g 0) (f0.g 1) (hsm := sml_14) (hl := (by simp))) ?_
   rintro i0 h0 ⟨rfl, m0⟩
   have h0 := f0.below m0.below
   refine ⟨_, rfl, fun m0 f0 => ?_⟩
   refine r_eql (st_listV_w (wt f0)) f0 rfl rfl rfl rfl (by decide) (fun m0 i0 => ?_)
   refine r_pick_t sv i0 rfl rfl rfl rfl (by decide) (fun m0 f0 => ?_)
   refine wpList_nil ?_
   exact x_then_n ⟨(f0.sub (rc rfl (rc (rb rfl (by first | rfl | (simp only [k0, bl]; done) | (simp [k0]; done) | (simp [k0]; omega))) (rc rfl rnl)))), h0⟩
  ·
   have f0 := k0
   try simp only [Bool.or_eq_true, Bool.and_eq_true, Bool.not_eq_true', Bool.not_eq_false', decide_eq_true_eq, decide_eq_false_iff_not, Bool.or_eq_false_iff, Bool.and_eq_false_iff] at f0
   have f0 := b0.setb (d := 29) (b := false) rfl k0
   refine sps f0 (wff f0) (fun b0 h0 => ?_)
   refine sps h0 (wff h0) (fun b0 f0 => ?_)
   refine sps f0 (wff f0) (fun b0 h0 => ?_)
   refine r_pick_f sv h0 rfl rfl rfl rfl (by decide) (fun b0 f0 => ?_)
   refine wpList_nil ?_
   exact x_then_n ⟨(f0.sub (rc rfl (rc (rb rfl (by first | rfl | (simp only [k0, bl]; done) | (simp [k0]; done) | (simp [k0]; omega))) (rc rfl rnl)))), c0⟩
 rintro f0 k0 ⟨c0, b0⟩
 refine asg c0 (fun k0 f0 => ?_)
 refine wpList_nil (x_then_n (d0 _ _ ?_))
 refine wp_ret ?_
 refine e_ret1 f0 rfl rfl rfl ?_
 refine ⟨?_, b0.fr⟩
 exact congrArg Ending.returned (ret_b (by simp [sh14.1, sh14.2.1, sh14.2.2, nth]))
end Go.Proofs.YtcfponnkfhkbdaaDoor
/- Contracts of functions, one theorem each: what the call returns, and that nothing old is changed. Printed by gen.py. -/
namespace Go.Proofs.YtcfponnkfhkbdaaDoor
open Go Go.RowKit
set_option linter.unusedSimpArgs false
set_option linter.unusedVariables false
set_option maxRecDepth 100000 in
set_option maxHeartbeats 1000000 in
theorem rlevel_calls (w0 : World) (Z : Nat → Prop) (hZ : ∀ k, Z k → k < w0.heap.size) (n : Int)  :
    Calls Tryd.prog 111 [.int .i64 n].toArray w0 (fun e w' => e = .returned (.bool (decide (0 ≤ n) && decide (n ≤ 9))) ∧ Fr none_ w0 w') := by
 have b0 := s0 (M := none_) hZ zn
 refine c_enter Tryd.func111 rfl Tryd.ntmps111 rfl (fun c0 d0 => ?_)
 refine wsc (fun c0 f0 => ?_)
 refine asg d0 (fun c0 h0 => ?_)
 refine wpList_nil (x_then_n (f0 _ _ ?_))
 refine wsc (fun f0 c0 => ?_)
 refine mv h0 (fun f0 d0 => ?_)
 refine r_geq sv d0 rfl rfl rfl rfl (by decide) (fun f0 h0 => ?_)
 refine mv h0 (fun f0 d0 => ?_)
 refine l_join (fun ga gw => Reg ga 9 [(2, .bool false), (8, .bool ((decide (0 ≤ (n))) && (decide ((n) ≤ 9)))), (1000000, .bool false)] ∧ St w0 Z none_ gw [] []) 3 ?_ ?_
 ·
  rcases Decidable.em (0 ≤ (n)) with f0 | f0
  ·
   have h0 := d0.setb (d := 5) (b := true) rfl (decide_eq_true f0)
   refine r_move (st_listV_w (wt h0)) h0 rfl rfl rfl (by decide) (fun i0 j0 => ?_)
   refine r_leq (st_listV_w (wt j0)) j0 rfl rfl rfl rfl (by decide) (fun i0 h0 => ?_)
   refine r_pick_t sv h0 rfl rfl rfl rfl (by decide) (fun i0 j0 => ?_)
   refine wpList_nil ?_
   exact x_then_n ⟨(j0.sub (rc rfl (rc (rb rfl (by first | rfl | (simp only [decide_eq_true f0, if_pos f0, bl]; done) | (simp [f0]; done) | (simp [f0]; omega))) (rc rfl rnl)))), b0⟩
  ·
   have j0 := d0.setb (d := 5) (b := false) rfl (decide_eq_false f0)
   refine sps j0 (wff j0) (fun d0 i0 => ?_)
   refine sps i0 (wff i0) (fun d0 j0 => ?_)
   refine r_pick_f sv j0 rfl rfl rfl rfl (by decide) (fun d0 i0 => ?_)
   refine wpList_nil ?_
   exact x_then_n ⟨(i0.sub (rc rfl (rc (rb rfl (by first | rfl | (simp only [decide_eq_false f0, if_neg f0, bl]; done) | (simp [f0]; done) | (simp [f0]; omega))) (rc rfl rnl)))), b0⟩
 rintro i0 f0 ⟨b0, d0⟩
 refine asg b0 (fun f0 i0 => ?_)
 refine wpList_nil (x_then_n (c0 _ _ ?_))
 refine wp_ret ?_
 refine e_ret1 i0 rfl rfl rfl ?_
 refine ⟨?_, d0.fr⟩
 exact congrArg Ending.returned (ret_b (by first | rfl | omega | assumption | exact decide_eq_true (by assumption) | ( omega) | (simp []; done) | (simp [] at *; done) | (simp [] <;> omega) | (rw [Bool.eq_iff_iff]; simp [] <;> omega) | (rw [Bool.eq_iff_iff]; simp [] at * <;> omega)))
set_option maxRecDepth 100000 in
set_option maxHeartbeats 1000000 in
theorem rlvCheck_calls (w0 : World) (Z : Nat → Prop) (hZ : ∀ k, Z k → k < w0.heap.size) (n : Int)  :
    Calls Tryd.prog 83 [.int .i64 n].toArray w0 (fun e w' => e = .returned (.int .i64 (lvChk n)) ∧ Fr none_ w0 w') := by
 have b0 := s0 (M := none_) hZ zn
 refine c_enter Tryd.func83 rfl Tryd.ntmps83 rfl (fun c0 d0 => ?_)
 refine wsc (fun c0 f0 => ?_)
 refine asg d0 (fun c0 h0 => ?_)
 refine wpList_nil (x_then_n (f0 _ _ ?_))
 refine wp_seq_k (fun f0 c0 => ?_)
 refine wsc (fun f0 d0 => ?_)
 refine mv h0 (fun f0 i0 => ?_)
 have f0 := b0.nf
 refine k_call (xs := [.tmp 3]) se i0 rfl rfl rfl (by decide) ok111 (rlevel_calls _ _ f0.il (n)) ?_
 rintro i0 b0 ⟨rfl, h0⟩
 have b0 := f0.below h0.below
 refine ⟨_, rfl, fun h0 f0 => ?_⟩
 refine r_not sv f0 rfl rfl rfl (by decide) (fun h0 i0 => ?_)
 refine wpList_nil (x_then_n (d0 _ _ ?_))
 rcases Bool.eq_false_or_eq_true (decide (0 ≤ (n)) && decide ((n) ≤ 9)) with d0 | d0
 ·
  have h0 := and_tl d0
  have f0 := of_decide_eq_true h0
  have h0 := and_tr d0
  have j0 := of_decide_eq_true h0
  have h0 := i0.setb (d := 5) (b := false) rfl (by rw [d0]; rfl)
  refine wp_cond_false (h0.ev rfl) ?_
  refine wp_skip ?_
  refine x_then_n (c0 _ _ ?_)
  refine wsc (fun c0 k0 => ?_)
  refine asg h0 (fun c0 m0 => ?_)
  refine wpList_nil (x_then_n (k0 _ _ ?_))
  refine wp_ret ?_
  refine e_ret1 m0 rfl rfl rfl ?_
  refine ⟨?_, b0.fr⟩
  exact congrArg Ending.returned (ret_i (by have m0 := d0; (try simp at m0); have k0 := f0; (try simp at k0); have c0 := j0; (try simp at c0);  unfold lvChk; (try split) <;> first | rfl | omega))
 ·
  have c0 := d0
  try simp only [Bool.or_eq_true, Bool.and_eq_true, Bool.not_eq_true', Bool.not_eq_false', decide_eq_true_eq, decide_eq_false_iff_not, Bool.or_eq_false_iff, Bool.and_eq_false_iff] at c0
  have c0 := i0.setb (d := 5) (b := true) rfl (by rw [d0]; rfl)
  refine wp_cond_true (c0.ev rfl) ?_
  refine wsc (fun i0 k0 => ?_)
  refine asg c0 (fun i0 j0 => ?_)
  refine wpList_nil (x_then_n (k0 _ _ ?_))
  refine wp_ret ?_
  refine x_then_r ?_
  refine e_ret1 j0 rfl rfl rfl ?_
  refine ⟨?_, b0.fr⟩
  exact congrArg Ending.returned (ret_i (by have m0 := d0; (try simp at m0);  unfold lvChk; (try split) <;> first | rfl | omega))
set_option maxRecDepth 100000 in
set_option maxHeartbeats 1000000 in
theorem rletter_calls (w0 : World) (Z : Nat → Prop) (hZ : ∀ k, Z k → k < w0.heap.size) (c : Nat)  :
    Calls Tryd.prog 48 [.int .u8 ((c : Nat) : Int)].toArray w0 (fun e w' => e = .returned (.bool (letN c)) ∧ Fr none_ w0 w') := by
 have b0 := s0 (M := none_) hZ zn
 refine c_enter Tryd.func48 rfl Tryd.ntmps48 rfl (fun c0 d0 => ?_)
 refine wsc (fun c0 f0 => ?_)
 refine asg d0 (fun c0 h0 => ?_)
 refine wpList_nil (x_then_n (f0 _ _ ?_))
 refine wsc (fun f0 c0 => ?_)
 refine mv h0 (fun f0 d0 => ?_)
 refine r_geq sv d0 rfl rfl rfl rfl (by decide) (fun f0 h0 => ?_)
 refine mv h0 (fun f0 d0 => ?_)
 refine l_join (fun ga gw => Reg ga 21 [(0, .int .u8 ((c : Nat) : Int)), (2, .bool false), (8, .bool ((decide (97 ≤ ((c : Nat) : Int))) && (decide (((c : Nat) : Int) ≤ 122)))), (1000000, .bool false)] ∧ St w0 Z none_ gw [] []) 3 ?_ ?_
 ·
  rcases Decidable.em (97 ≤ ((c : Nat) : Int)) with f0 | f0
  ·
   have h0 := d0.setb (d := 5) (b := true) rfl (decide_eq_true f0)
   refine r_move (st_listV_w (wt h0)) h0 rfl rfl rfl (by decide) (fun i0 j0 => ?_)
   refine r_leq (st_listV_w (wt j0)) j0 rfl rfl rfl rfl (by decide) (fun i0 h0 => ?_)
   refine r_pick_t sv h0 rfl rfl rfl rfl (by decide) (fun i0 j0 => ?_)
   refine wpList_nil ?_
   exact x_then_n ⟨(j0.sub (rc rfl (rc rfl (rc (rb rfl (by first | rfl | (simp only [decide_eq_true f0, if_pos f0, bl]; done) | (simp [f0]; done) | (simp [f0]; omega))) (rc rfl rnl))))), b0⟩
  ·
   have j0 := d0.setb (d := 5) (b := false) rfl (decide_eq_false f0)
   refine sps j0 (wff j0) (fun d0 i0 => ?_)
   refine sps i0 (wff i0) (fun d0 j0 => ?_)
   refine r_pick_f sv j0 rfl rfl rfl rfl (by decide) (fun d0 i0 => ?_)
   refine wpList_nil ?_
   exact x_then_n ⟨(i0.sub (rc rfl (rc rfl (rc (rb rfl (by first | rfl | (simp only [decide_eq_false f0, if_neg f0, bl]; done) | (simp [f0]; done) | (simp [f0]; omega))) (rc rfl rnl))))), b0⟩
 rintro i0 f0 ⟨b0, d0⟩
 refine mv b0 (fun f0 i0 => ?_)
 refine l_join (fun ga gw => Reg ga 21 [(0, .int .u8 ((c : Nat) : Int)), (2, .bool false), (16, .bool (((decide (97 ≤ ((c : Nat) : Int))) && (decide (((c : Nat) : Int) ≤ 122))) || ((decide (65 ≤ ((c : Nat) : Int))) && (decide (((c : Nat) : Int) ≤ 90))))), (1000000, .bool false)] ∧ St w0 Z none_ gw [] []) 7 ?_ ?_
 ·
  rcases Bool.eq_false_or_eq_true (((decide (97 ≤ ((c : Nat) : Int))) && (decide (((c : Nat) : Int) ≤ 122)))) with f0 | f0
  ·
   have b0 := and_tl f0
   have j0 := of_decide_eq_true b0
   have j0 := and_tr f0
   have b0 := of_decide_eq_true j0
   have b0 := i0.setb (d := 9) (b := true) rfl f0
   refine sps b0 (wff b0) (fun j0 h0 => ?_)
   refine sps h0 (wff h0) (fun j0 b0 => ?_)
   refine sps b0 (wff b0) (fun j0 h0 => ?_)
   refine sps h0 (wu h0) (fun j0 b0 => ?_)
   refine sps b0 (wu b0) (fun j0 h0 => ?_)
   refine sps h0 (wff h0) (fun j0 b0 => ?_)
   refine r_pick_t sv b0 rfl rfl rfl rfl (by decide) (fun j0 h0 => ?_)
   refine wpList_nil ?_
   exact x_then_n ⟨(h0.sub (rc rfl (rc rfl (rc (rb rfl (by first | rfl | (simp only [f0, bl]; done) | (simp [f0]; done) | (simp [f0]; omega))) (rc rfl rnl))))), d0⟩
  ·
   have h0 := f0
   try simp only [Bool.or_eq_true, Bool.and_eq_true, Bool.not_eq_true', Bool.not_eq_false', decide_eq_true_eq, decide_eq_false_iff_not, Bool.or_eq_false_iff, Bool.and_eq_false_iff] at h0
   have h0 := i0.setb (d := 9) (b := false) rfl f0
   refine r_move (st_listV_w (wt h0)) h0 rfl rfl rfl (by decide) (fun i0 j0 => ?_)
   refine r_geq (st_listV_w (wt j0)) j0 rfl rfl rfl rfl (by decide) (fun i0 h0 => ?_)
   refine r_move (st_listV_w (wt h0)) h0 rfl rfl rfl (by decide) (fun i0 j0 => ?_)
   rcases Decidable.em (65 ≤ ((c : Nat) : Int)) with i0 | i0
   ·
    have h0 := j0.setb (d := 12) (b := true) rfl (decide_eq_true i0)
    refine r_move (st_listV_w (wt h0)) h0 rfl rfl rfl (by decide) (fun b0 k0 => ?_)
    refine r_leq (st_listV_w (wt k0)) k0 rfl rfl rfl rfl (by decide) (fun b0 h0 => ?_)
    refine r_pick_t (st_listV_w (wt h0)) h0 rfl rfl rfl rfl (by decide) (fun b0 k0 => ?_)
    refine r_pick_f sv k0 rfl rfl rfl rfl (by decide) (fun b0 h0 => ?_)
    refine wpList_nil ?_
    exact x_then_n ⟨(h0.sub (rc rfl (rc rfl (rc (rb rfl (by first | rfl | (simp only [f0, decide_eq_true i0, if_pos i0, bl]; done) | (simp [f0, i0]; done) | (simp [f0, i0]; omega))) (rc rfl rnl))))), d0⟩
   ·
    have h0 := j0.setb (d := 12) (b := false) rfl (decide_eq_false i0)
    refine sps h0 (wff h0) (fun j0 b0 => ?_)
    refine sps b0 (wff b0) (fun j0 h0 => ?_)
    refine r_pick_f (st_listV_w (wt h0)) h0 rfl rfl rfl rfl (by decide) (fun j0 b0 => ?_)
    refine r_pick_f sv b0 rfl rfl rfl rfl (by decide) (fun j0 h0 => ?_)
    refine wpList_nil ?_
    exact x_then_n ⟨(h0.sub (rc rfl (rc rfl (rc (rb rfl (by first | rfl | (simp only [f0, decide_eq_false i0, if_neg i0, bl]; done) | (simp [f0, i0]; done) | (simp [f0, i0]; omega))) (rc rfl rnl))))), d0⟩
 rintro h0 i0 ⟨f0, d0⟩
 refine mv f0 (fun i0 h0 => ?_)
 refine l_join (fun ga gw => Reg ga 21 [(2, .bool false), (20, .bool ((((decide (97 ≤ ((c : Nat) : Int))) && (decide (((c : Nat) : Int) ≤ 122))) || ((decide (65 ≤ ((c : Nat) : Int))) && (decide (((c : Nat) : Int) ≤ 90)))) || (decide (((c : Nat) : Int) = 95)))), (1000000, .bool false)] ∧ St w0 Z none_ gw [] []) 3 ?_ ?_
 ·
  rcases Bool.eq_false_or_eq_true ((((decide (97 ≤ ((c : Nat) : Int))) && (decide (((c : Nat) : Int) ≤ 122))) || ((decide (65 ≤ ((c : Nat) : Int))) && (decide (((c : Nat) : Int) ≤ 90))))) with i0 | i0
  ·
   have f0 := i0
   try simp only [Bool.or_eq_true, Bool.and_eq_true, Bool.not_eq_true', Bool.not_eq_false', decide_eq_true_eq, decide_eq_false_iff_not, Bool.or_eq_false_iff, Bool.and_eq_false_iff] at f0
   have f0 := h0.setb (d := 17) (b := true) rfl i0
   refine sps f0 (wff f0) (fun j0 b0 => ?_)
   refine sps b0 (wff b0) (fun j0 f0 => ?_)
   refine r_pick_t sv f0 rfl rfl rfl rfl (by decide) (fun j0 b0 => ?_)
   refine wpList_nil ?_
   exact x_then_n ⟨(b0.sub (rc rfl (rc (rb rfl (by first | rfl | (simp only [i0, bl]; done) | (simp [i0]; done) | (simp [i0]; omega))) (rc rfl rnl)))), d0⟩
  ·
   have b0 := or_fl i0
   have j0 := b0
   try simp only [Bool.or_eq_true, Bool.and_eq_true, Bool.not_eq_true', Bool.not_eq_false', decide_eq_true_eq, decide_eq_false_iff_not, Bool.or_eq_false_iff, Bool.and_eq_false_iff] at j0
   have j0 := or_fr i0
   have b0 := j0
   try simp only [Bool.or_eq_true, Bool.and_eq_true, Bool.not_eq_true', Bool.not_eq_false', decide_eq_true_eq, decide_eq_false_iff_not, Bool.or_eq_false_iff, Bool.and_eq_false_iff] at b0
   have b0 := h0.setb (d := 17) (b := false) rfl i0
   refine r_move (st_listV_w (wt b0)) b0 rfl rfl rfl (by decide) (fun h0 j0 => ?_)
   refine r_eql (st_listV_w (wt j0)) j0 rfl rfl rfl rfl (by decide) (fun h0 b0 => ?_)
   refine r_pick_f sv b0 rfl rfl rfl rfl (by decide) (fun h0 j0 => ?_)
   refine wpList_nil ?_
   exact x_then_n ⟨(j0.sub (rc rfl (rc (rb rfl (by first | rfl | (simp only [i0, bl]; done) | (simp [i0]; done) | (simp [i0]; omega))) (rc rfl rnl)))), d0⟩
 rintro j0 i0 ⟨d0, h0⟩
 refine asg d0 (fun i0 j0 => ?_)
 refine wpList_nil (x_then_n (c0 _ _ ?_))
 refine wp_ret ?_
 refine e_ret1 j0 rfl rfl rfl ?_
 refine ⟨?_, h0.fr⟩
 exact congrArg Ending.returned (ret_b (by first | rfl | ( rw [Bool.eq_iff_iff]; unfold letN; simp; omega)))
set_option maxRecDepth 100000 in
set_option maxHeartbeats 1000000 in
theorem rname_calls (w0 : World) (Z : Nat → Prop) (hZ : ∀ k, Z k → k < w0.heap.size) (s : ByteArray) (hs : s.size ≤ 9223372036854775807 := by first | assumption | omega | (simp; done) | (simp; omega)) :
    Calls Tryd.prog 28 [.string s].toArray w0 (fun e w' => e = .returned (.bool (nameOk s)) ∧ Fr none_ w0 w') := by
 have b0 := s0 (M := none_) hZ zn
 refine c_enter Tryd.func28 rfl Tryd.ntmps28 rfl (fun c0 d0 => ?_)
 refine wsc (fun c0 f0 => ?_)
 refine asg d0 (fun c0 h0 => ?_)
 refine wpList_nil (x_then_n (f0 _ _ ?_))
 refine wp_seq_k (fun f0 c0 => ?_)
 refine wsc (fun f0 d0 => ?_)
 refine mv h0 (fun f0 i0 => ?_)
 refine r_lenS sv i0 rfl rfl rfl rfl Tryd.underlying9 (by decide) (fun f0 h0 => ?_)
 refine r_lss sv h0 rfl rfl rfl rfl (by decide) (fun f0 i0 => ?_)
 refine mv i0 (fun f0 h0 => ?_)
 refine l_join (fun ga gw => Reg ga 41 [(0, .string s), (2, .bool false), (11, .bool ((decide (((s.size : Nat) : Int) < 1)) || (decide (16 < ((s.size : Nat) : Int))))), (1000000, .bool false)] ∧ St w0 Z none_ gw [] []) 4 ?_ ?_
 ·
  rcases Decidable.em (((s.size : Nat) : Int) < 1) with f0 | f0
  ·
   have i0 := h0.setb (d := 7) (b := true) rfl (decide_eq_true f0)
   refine sps i0 (wff i0) (fun j0 k0 => ?_)
   refine sps k0 (wff k0) (fun j0 i0 => ?_)
   refine sps i0 (wff i0) (fun j0 k0 => ?_)
   refine r_pick_t sv k0 rfl rfl rfl rfl (by decide) (fun j0 i0 => ?_)
   refine wpList_nil ?_
   exact x_then_n ⟨(i0.sub (rc rfl (rc rfl (rc (rb rfl (by first | rfl | (simp only [decide_eq_true f0, if_pos f0, bl]; done) | (simp [f0]; done) | (simp [f0]; omega))) (rc rfl rnl))))), b0⟩
  ·
   have i0 := h0.setb (d := 7) (b := false) rfl (decide_eq_false f0)
   refine r_move (st_listV_w (wt i0)) i0 rfl rfl rfl (by decide) (fun h0 j0 => ?_)
   refine r_lenS (st_listV_w (wt j0)) j0 rfl rfl rfl rfl Tryd.underlying9 (by decide) (fun h0 i0 => ?_)
   refine r_gtr (st_listV_w (wt i0)) i0 rfl rfl rfl rfl (by decide) (fun h0 j0 => ?_)
   refine r_pick_f sv j0 rfl rfl rfl rfl (by decide) (fun h0 i0 => ?_)
   refine wpList_nil ?_
   exact x_then_n ⟨(i0.sub (rc rfl (rc rfl (rc (rb rfl (by first | rfl | (simp only [decide_eq_false f0, if_neg f0, bl]; done) | (simp [f0]; done) | (simp [f0]; omega))) (rc rfl rnl))))), b0⟩
 rintro i0 f0 ⟨b0, h0⟩
 refine mv b0 (fun f0 i0 => ?_)
 refine l_join (fun ga gw => Reg ga 41 [(0, .string s), (2, .bool false), (17, .bool (((decide (((s.size : Nat) : Int) < 1)) || (decide (16 < ((s.size : Nat) : Int)))) || (!(letN (byteAt s 0))))), (1000000, .bool false)] ∧ St w0 Z none_ gw [] []) 5 ?_ ?_
 ·
  rcases Bool.eq_false_or_eq_true (((decide (((s.size : Nat) : Int) < 1)) || (decide (16 < ((s.size : Nat) : Int))))) with f0 | f0
  ·
   have b0 := f0
   try simp only [Bool.or_eq_true, Bool.and_eq_true, Bool.not_eq_true', Bool.not_eq_false', decide_eq_true_eq, decide_eq_false_iff_not, Bool.or_eq_false_iff, Bool.and_eq_false_iff] at b0
   have b0 := i0.setb (d := 12) (b := true) rfl f0
   refine sps b0 (wff b0) (fun j0 k0 => ?_)
   refine sps k0 (wff k0) (fun j0 b0 => ?_)
   refine sps b0 (wff b0) (fun j0 k0 => ?_)
   refine sps k0 (wff k0) (fun j0 b0 => ?_)
   refine r_pick_t sv b0 rfl rfl rfl rfl (by decide) (fun j0 k0 => ?_)
   refine wpList_nil ?_
   exact x_then_n ⟨(k0.sub (rc rfl (rc rfl (rc (rb rfl (by first | rfl | (simp only [f0, bl]; done) | (simp [f0]; done) | (simp [f0]; omega))) (rc rfl rnl))))), h0⟩
  ·
   have k0 := or_fl f0
   have j0 := of_decide_eq_false k0
   have j0 := or_fr f0
   have k0 := of_decide_eq_false j0
   have k0 := i0.setb (d := 12) (b := false) rfl f0
   refine r_move (st_listV_w (wt k0)) k0 rfl rfl rfl (by decide) (fun i0 j0 => ?_)
   refine r_byte (i := 0) (st_listV_w (wt j0)) j0 rfl rfl rfl rfl Tryd.underlying9 (by omega) (by omega) (by decide) (fun i0 k0 => ?_)
   have i0 := h0.nf
   refine k_call (xs := [.tmp 14]) (st_list_w (wt k0)) k0 rfl rfl rfl (by decide) ok48 (rletter_calls _ _ i0.il (byteAt s 0)) ?_
   rintro k0 h0 ⟨rfl, j0⟩
   have h0 := i0.below j0.below
   refine ⟨_, rfl, fun j0 i0 => ?_⟩
   refine r_not (st_listV_w (wt i0)) i0 rfl rfl rfl (by decide) (fun j0 k0 => ?_)
   refine r_pick_f sv k0 rfl rfl rfl rfl (by decide) (fun j0 i0 => ?_)
   refine wpList_nil ?_
   exact x_then_n ⟨(i0.sub (rc rfl (rc rfl (rc (rb rfl (by first | rfl | (simp only [f0, bl]; done) | (simp [f0]; done) | (simp [f0]; omega))) (rc rfl rnl))))), h0⟩
 rintro i0 h0 ⟨f0, j0⟩
 refine wpList_nil (x_then_n (d0 _ _ ?_))
 rcases Bool.eq_false_or_eq_true ((((decide (((s.size : Nat) : Int) < 1)) || (decide (16 < ((s.size : Nat) : Int)))) || (!(letN (byteAt s 0))))) with d0 | d0
 ·
  have h0 := d0
  try simp only [Bool.or_eq_true, Bool.and_eq_true, Bool.not_eq_true', Bool.not_eq_false', decide_eq_true_eq, decide_eq_false_iff_not, Bool.or_eq_false_iff, Bool.and_eq_false_iff] at h0
  have i0 := f0.setb (d := 17) (b := true) rfl d0
  refine wp_cond_true (i0.ev rfl) ?_
  refine wsc (fun k0 b0 => ?_)
  refine asg i0 (fun k0 m0 => ?_)
  refine wpList_nil (x_then_n (b0 _ _ ?_))
  refine wp_ret ?_
  refine x_then_r ?_
  refine e_ret1 m0 rfl rfl rfl ?_
  refine ⟨?_, j0.fr⟩
  exact congrArg Ending.returned (ret_b (by first | exact (rname_bad (k := k) (by omega) (by assumption) (by omega)).symm | exact (rname_bad0 (by rcases h0 with h | h; exact .inl (by omega); exact .inr h)).symm))
 ·
  have h0 := or_fl d0
  have m0 := or_fl h0
  have b0 := of_decide_eq_false m0
  have b0 := or_fr h0
  have h0 := of_decide_eq_false b0
  have h0 := or_fr d0
  have b0 := not_f h0
  have b0 := f0.setb (d := 17) (b := false) rfl d0
  refine wp_cond_false (b0.ev rfl) ?_
  refine wp_skip ?_
  refine x_then_n (c0 _ _ ?_)
  refine wp_seq_k (fun c0 d0 => ?_)
  refine wsc (fun c0 f0 => ?_)
  refine asg b0 (fun c0 h0 => ?_)
  refine wpList_nil (x_then_n (f0 _ _ ?_))
  refine wp_block ?_
  refine wp_loop_ghost (fun gn ga gw => ∃ k : Nat, (Reg ga 41 [(0, .string s), (1000000, .bool false), (3, .int .i64 ((k : Nat) : Int))]) ∧ (St w0 Z none_ gw [] []) ∧ (k ≤ s.size) ∧ (nameTo s k) ∧ (s.size - k) = gn) _ ⟨0, (h0.sub (rc rfl (rc rfl (rc rfl rnl)))), j0, by omega, nameTo_zero s, rfl⟩ ?_
  rintro h0 j0 f0 ⟨k, c0, b0, hk, hi, m0⟩
  refine wp_seq_k (fun m0 f0 => ?_)
  refine wsc (fun m0 j0 => ?_)
  refine mv c0 (fun m0 h0 => ?_)
  refine mv h0 (fun m0 c0 => ?_)
  refine r_lenS sv c0 rfl rfl rfl rfl Tryd.underlying9 (by decide) (fun m0 h0 => ?_)
  refine r_lss sv h0 rfl rfl rfl rfl (by decide) (fun m0 c0 => ?_)
  refine wpList_nil (x_then_n (j0 _ _ ?_))
  rcases Decidable.em (((k : Nat) : Int) < ((s.size : Nat) : Int)) with j0 | j0
  ·
   have m0 := c0.setb (d := 21) (b := true) rfl (decide_eq_true j0)
   refine wp_cond_true (m0.ev rfl) ?_
   refine wp_skip ?_
   refine x_then_n (f0 _ _ ?_)
   refine wp_seq_k (fun f0 h0 => ?_)
   refine wp_block ?_
   refine wsc (fun f0 k0 => ?_)
   refine mv m0 (fun f0 i0 => ?_)
   refine mv i0 (fun f0 m0 => ?_)
   refine r_byte (i := k) sv m0 rfl rfl rfl rfl Tryd.underlying9 (by omega) (by omega) (by decide) (fun f0 i0 => ?_)
   have f0 := b0.nf
   refine k_call (xs := [.tmp 26]) se i0 rfl rfl rfl (by decide) ok48 (rletter_calls _ _ f0.il (byteAt s k)) ?_
   rintro i0 m0 ⟨rfl, n0⟩
   have m0 := f0.below n0.below
   refine ⟨_, rfl, fun n0 f0 => ?_⟩
   refine r_not sv f0 rfl rfl rfl (by decide) (fun n0 i0 => ?_)
   refine mv i0 (fun n0 f0 => ?_)
   refine l_join (fun ga gw => Reg ga 41 [(0, .string s), (3, .int .i64 ((k : Nat) : Int)), (40, .bool ((!(letN (byteAt s k))) && ((decide (((byteAt s k : Nat) : Int) < 48)) || (decide (57 < ((byteAt s k : Nat) : Int)))))), (1000000, .bool false)] ∧ St w0 Z none_ gw [] []) 11 ?_ ?_
   ·
    rcases Bool.eq_false_or_eq_true (letN (byteAt s k)) with n0 | n0
    ·
     have i0 := f0.setb (d := 29) (b := false) rfl (by rw [n0]; rfl)
     refine sps i0 (wff i0) (fun o0 p0 => ?_)
     refine sps p0 (wff p0) (fun o0 i0 => ?_)
     refine sps i0 (wff i0) (fun o0 p0 => ?_)
     refine sps p0 (wff p0) (fun o0 i0 => ?_)
     refine sps i0 (wff i0) (fun o0 p0 => ?_)
     refine sps p0 (wu p0) (fun o0 i0 => ?_)
     refine sps i0 (wu i0) (fun o0 p0 => ?_)
     refine sps p0 (wu p0) (fun o0 i0 => ?_)
     refine sps i0 (wu i0) (fun o0 p0 => ?_)
     refine sps p0 (wff p0) (fun o0 i0 => ?_)
     refine r_pick_f sv i0 rfl rfl rfl rfl (by decide) (fun o0 p0 => ?_)
     refine wpList_nil ?_
     exact x_then_n ⟨(p0.sub (rc rfl (rc rfl (rc (rb rfl (by first | rfl | (simp only [n0, bl]; done) | (simp [n0]; done) | (simp [n0]; omega))) (rc rfl rnl))))), m0⟩
    ·
     have p0 := f0.setb (d := 29) (b := true) rfl (by rw [n0]; rfl)
     refine r_move (st_listV_w (wt p0)) p0 rfl rfl rfl (by decide) (fun f0 o0 => ?_)
     refine r_move (st_listV_w (wt o0)) o0 rfl rfl rfl (by decide) (fun f0 p0 => ?_)
     refine r_byte (i := k) (st_listV_w (wt p0)) p0 rfl rfl rfl rfl Tryd.underlying9 (by omega) (by omega) (by decide) (fun f0 o0 => ?_)
     refine r_lss (st_listV_w (wt o0)) o0 rfl rfl rfl rfl (by decide) (fun f0 p0 => ?_)
     refine r_move (st_listV_w (wt p0)) p0 rfl rfl rfl (by decide) (fun f0 o0 => ?_)
     rcases Decidable.em (((byteAt s k : Nat) : Int) < 48) with f0 | f0
     ·
      have p0 := o0.setb (d := 34) (b := true) rfl (decide_eq_true f0)
      refine sps p0 (wff p0) (fun i0 q0 => ?_)
      refine sps q0 (wff q0) (fun i0 p0 => ?_)
      refine sps p0 (wff p0) (fun i0 q0 => ?_)
      refine sps q0 (wff q0) (fun i0 p0 => ?_)
      refine r_pick_t (st_listV_w (wt p0)) p0 rfl rfl rfl rfl (by decide) (fun i0 q0 => ?_)
      refine r_pick_t sv q0 rfl rfl rfl rfl (by decide) (fun i0 p0 => ?_)
      refine wpList_nil ?_
      exact x_then_n ⟨(p0.sub (rc rfl (rc rfl (rc (rb rfl (by first | rfl | (simp only [n0, decide_eq_true f0, if_pos f0, bl]; done) | (simp [n0, f0]; done) | (simp [n0, f0]; omega))) (rc rfl rnl))))), m0⟩
     ·
      have p0 := o0.setb (d := 34) (b := false) rfl (decide_eq_false f0)
      refine r_move (st_listV_w (wt p0)) p0 rfl rfl rfl (by decide) (fun o0 i0 => ?_)
      refine r_move (st_listV_w (wt i0)) i0 rfl rfl rfl (by decide) (fun o0 p0 => ?_)
      refine r_byte (i := k) (st_listV_w (wt p0)) p0 rfl rfl rfl rfl Tryd.underlying9 (by omega) (by omega) (by decide) (fun o0 i0 => ?_)
      refine r_gtr (st_listV_w (wt i0)) i0 rfl rfl rfl rfl (by decide) (fun o0 p0 => ?_)
      refine r_pick_f (st_listV_w (wt p0)) p0 rfl rfl rfl rfl (by decide) (fun o0 i0 => ?_)
      refine r_pick_t sv i0 rfl rfl rfl rfl (by decide) (fun o0 p0 => ?_)
      refine wpList_nil ?_
      exact x_then_n ⟨(p0.sub (rc rfl (rc rfl (rc (rb rfl (by first | rfl | (simp only [n0, decide_eq_false f0, if_neg f0, bl]; done) | (simp [n0, f0]; done) | (simp [n0, f0]; omega))) (rc rfl rnl))))), m0⟩
   rintro p0 f0 ⟨n0, m0⟩
   refine wpList_nil (x_then_n (k0 _ _ ?_))
   rcases Bool.eq_false_or_eq_true (((!(letN (byteAt s k))) && ((decide (((byteAt s k : Nat) : Int) < 48)) || (decide (57 < ((byteAt s k : Nat) : Int)))))) with k0 | k0
   ·
    have f0 := and_tl k0
    have p0 := not_t f0
    have p0 := and_tr k0
    have f0 := p0
    try simp only [Bool.or_eq_true, Bool.and_eq_true, Bool.not_eq_true', Bool.not_eq_false', decide_eq_true_eq, decide_eq_false_iff_not, Bool.or_eq_false_iff, Bool.and_eq_false_iff] at f0
    have p0 := n0.setb (d := 40) (b := true) rfl k0
    refine wp_cond_true (p0.ev rfl) ?_
    refine wsc (fun o0 i0 => ?_)
    refine asg p0 (fun o0 q0 => ?_)
    refine wpList_nil (x_then_n (i0 _ _ ?_))
    refine wp_ret ?_
    refine x_block_r ?_
    refine x_then_r ?_
    refine x_then_r ?_
    refine x_block_r ?_
    refine x_then_r ?_
    refine e_ret1 q0 rfl rfl rfl ?_
    refine ⟨?_, m0.fr⟩
    exact congrArg Ending.returned (ret_b (by first | exact (rname_bad (k := k) (by omega) (by assumption) (by omega)).symm | exact (rname_bad0 (by rcases f0 with h | h; exact .inl (by omega); exact .inr h)).symm))
   ·
    have f0 := k0
    try simp only [Bool.or_eq_true, Bool.and_eq_true, Bool.not_eq_true', Bool.not_eq_false', decide_eq_true_eq, decide_eq_false_iff_not, Bool.or_eq_false_iff, Bool.and_eq_false_iff] at f0
    have q0 := n0.setb (d := 40) (b := false) rfl k0
    refine wp_cond_false (q0.ev rfl) ?_
    refine wp_skip ?_
    refine x_block_n ?_
    refine x_then_n (h0 _ _ ?_)
    refine c_region ?_
    refine mv q0 (fun h0 k0 => ?_)
    refine r_add (z := ((k + 1 : Nat) : Int)) sv k0 rfl rfl rfl rfl (by decide) (by omega) (by omega) (by omega) (fun h0 q0 => ?_)
    refine asg q0 (fun h0 k0 => ?_)
    refine wpList_nil ?_
    exact ⟨_, by omega, k + 1, (k0.sub (rc rfl (rc rfl (rc rfl rnl)))), m0, by omega, nameTo_step hi (rname_step (by assumption) (by rcases f0 with h | h; exact .inl h; exact .inr (by omega))), rfl⟩
  ·
   have k0 := c0.setb (d := 21) (b := false) rfl (decide_eq_false j0)
   refine wp_cond_false (k0.ev rfl) ?_
   refine wp_exit ?_
   refine x_then_e ?_
   refine x_then_e ?_
   refine x_block_eq ?_
   refine x_then_n (d0 _ _ ?_)
   refine wsc (fun d0 j0 => ?_)
   refine asg k0 (fun d0 c0 => ?_)
   refine wpList_nil (x_then_n (j0 _ _ ?_))
   refine wp_ret ?_
   refine e_ret1 c0 rfl rfl rfl ?_
   refine ⟨?_, b0.fr⟩
   exact congrArg Ending.returned (ret_b (by exact (rname_end hi (by omega) (by omega) (by omega)).symm))
set_option maxRecDepth 100000 in
set_option maxHeartbeats 1000000 in
theorem rplain_calls (w0 : World) (Z : Nat → Prop) (hZ : ∀ k, Z k → k < w0.heap.size) (n : Nd)  :
    Calls Tryd.prog 84 [.agg #[.int .i64 (n.K), .int .i64 (n.N), .int .i64 (n.M), .string n.S]].toArray w0 (fun e w' => e = .returned (.bool (plainB n)) ∧ Fr none_ w0 w') := by
 have b0 := s0 (M := none_) hZ zn
 refine c_enter Tryd.func84 rfl Tryd.ntmps84 rfl (fun c0 d0 => ?_)
 refine wsc (fun c0 f0 => ?_)
 refine m_box (cs := [.int .i64 (n.K), .int .i64 (n.N), .int .i64 (n.M), .string n.S]) sv d0 b0 rfl rfl rfl rfl (by decide) (fun c0 h0 i0 j0 k0 => ?_)
 refine asg j0 (fun h0 c0 => ?_)
 refine wpList_nil (x_then_n (f0 _ _ ?_))
 refine wsc (fun f0 h0 => ?_)
 refine m_field (j' := 1) sv c0 rfl rfl rfl Tryd.underlying39 rfl sz3 rfl rfl (by decide) (fun f0 j0 => ?_)
 refine m_load (i := 0) sv j0 k0 rfl rfl rfl rfl rfl Tryd.underlying3 rfl (by decide) (fun f0 c0 => ?_)
 refine r_eql sv c0 rfl rfl rfl rfl (by decide) (fun f0 j0 => ?_)
 refine mv j0 (fun f0 c0 => ?_)
 refine l_join (fun ga gw => Reg ga 16 [(1, .pointer (some ⟨i0, 0, none⟩)), (2, .bool false), (10, .bool ((decide ((n.N) = 0)) && (decide ((n.M) = 0)))), (1000000, .bool false)] ∧ St w0 Z none_ gw [.box i0 39 [.int .i64 (n.K), .int .i64 (n.N), .int .i64 (n.M), .string n.S]] []) 4 ?_ ?_
 ·
  rcases Decidable.em ((n.N) = 0) with f0 | f0
  ·
   have j0 := c0.setb (d := 6) (b := true) rfl (decide_eq_true f0)
   refine m_field (j' := 2) (st_listV_w (wt j0)) j0 rfl rfl rfl Tryd.underlying39 rfl sz3 rfl rfl (by decide) (fun d0 b0 => ?_)
   refine m_load (i := 0) (st_listV_w (wt b0)) b0 k0 rfl rfl rfl rfl rfl Tryd.underlying3 rfl (by decide) (fun d0 j0 => ?_)
   refine r_eql (st_listV_w (wt j0)) j0 rfl rfl rfl rfl (by decide) (fun d0 b0 => ?_)
   refine r_pick_t sv b0 rfl rfl rfl rfl (by decide) (fun d0 j0 => ?_)
   refine wpList_nil ?_
   exact x_then_n ⟨(j0.sub (rc rfl (rc rfl (rc (rb rfl (by first | rfl | (simp only [decide_eq_true f0, if_pos f0, bl]; done) | (simp [f0]; done) | (simp [f0]; omega))) (rc rfl rnl))))), k0⟩
  ·
   have j0 := c0.setb (d := 6) (b := false) rfl (decide_eq_false f0)
   refine sps j0 (wff j0) (fun c0 d0 => ?_)
   refine sps d0 (wff d0) (fun c0 j0 => ?_)
   refine sps j0 (wff j0) (fun c0 d0 => ?_)
   refine r_pick_f sv d0 rfl rfl rfl rfl (by decide) (fun c0 j0 => ?_)
   refine wpList_nil ?_
   exact x_then_n ⟨(j0.sub (rc rfl (rc rfl (rc (rb rfl (by first | rfl | (simp only [decide_eq_false f0, if_neg f0, bl]; done) | (simp [f0]; done) | (simp [f0]; omega))) (rc rfl rnl))))), k0⟩
 rintro j0 f0 ⟨k0, c0⟩
 refine mv k0 (fun f0 j0 => ?_)
 refine l_join (fun ga gw => Reg ga 16 [(2, .bool false), (15, .bool (((decide ((n.N) = 0)) && (decide ((n.M) = 0))) && (decide (n.S = (⟨#[]⟩ : ByteArray))))), (1000000, .bool false)] ∧ St w0 Z none_ gw [.box i0 39 [.int .i64 (n.K), .int .i64 (n.N), .int .i64 (n.M), .string n.S]] []) 4 ?_ ?_
 ·
  rcases Bool.eq_false_or_eq_true (((decide ((n.N) = 0)) && (decide ((n.M) = 0)))) with i0 | i0
  ·
   have f0 := and_tl i0
   have k0 := of_decide_eq_true f0
   have k0 := and_tr i0
   have f0 := of_decide_eq_true k0
   have f0 := j0.setb (d := 11) (b := true) rfl i0
   refine m_field (j' := 3) (st_listV_w (wt f0)) f0 rfl rfl rfl Tryd.underlying39 rfl sz9 rfl rfl (by decide) (fun k0 d0 => ?_)
   refine m_load (i := 0) (st_listV_w (wt d0)) d0 c0 rfl rfl rfl rfl rfl Tryd.underlying9 rfl (by decide) (fun k0 f0 => ?_)
   refine r_eqlS (st_listV_w (wt f0)) f0 rfl rfl rfl rfl (by decide) (fun k0 d0 => ?_)
   refine r_pick_t sv d0 rfl rfl rfl rfl (by decide) (fun k0 f0 => ?_)
   refine wpList_nil ?_
   exact x_then_n ⟨(f0.sub (rc rfl (rc (rb rfl (by first | rfl | (simp only [i0, bl]; done) | (simp [i0]; done) | (simp [i0]; omega))) (rc rfl rnl)))), c0⟩
  ·
   have f0 := i0
   try simp only [Bool.or_eq_true, Bool.and_eq_true, Bool.not_eq_true', Bool.not_eq_false', decide_eq_true_eq, decide_eq_false_iff_not, Bool.or_eq_false_iff, Bool.and_eq_false_iff] at f0
   have f0 := j0.setb (d := 11) (b := false) rfl i0
   refine sps f0 (wff f0) (fun j0 k0 => ?_)
   refine sps k0 (wff k0) (fun j0 f0 => ?_)
   refine sps f0 (wff f0) (fun j0 k0 => ?_)
   refine r_pick_f sv k0 rfl rfl rfl rfl (by decide) (fun j0 f0 => ?_)
   refine wpList_nil ?_
   exact x_then_n ⟨(f0.sub (rc rfl (rc (rb rfl (by first | rfl | (simp only [i0, bl]; done) | (simp [i0]; done) | (simp [i0]; omega))) (rc rfl rnl)))), c0⟩
 rintro f0 i0 ⟨c0, j0⟩
 refine asg c0 (fun i0 f0 => ?_)
 refine wpList_nil (x_then_n (h0 _ _ ?_))
 refine wp_ret ?_
 refine e_ret1 f0 rfl rfl rfl ?_
 refine ⟨?_, j0.fr⟩
 exact congrArg Ending.returned (ret_b (by first | rfl | (unfold plainB; rw [Bool.and_assoc]; done) | ( rw [Bool.eq_iff_iff]; unfold plainB; simp [])))
end Go.Proofs.YtcfponnkfhkbdaaDoor
