import Derived.Test.YtpfmnpaifchleaaGreatDoorYme
namespace Go.Proofs.YtpfmnpaifchleaaGreatDoor
open Go Go.RowKit
set_option linter.unusedSimpArgs false
set_option linter.unusedVariables false
set_option maxRecDepth 100000
set_option maxHeartbeats 1000000
theorem sargs_calls (w0 : World) (Z : Nat → Prop) (hZ : ∀ k, Z k → k < w0.heap.size) (dK : Int) (dL : Int) (dS : ByteArray) (dTA : Option Addr) (dTc : Nat) (dT : List Nd) (dBA : Option Addr) (dBc : Nat) (dB : List Nd) (dCA : Option Addr) (dCc : Nat) (dC : List Tl) (hdT : (dRow 4 dTA dT.length dTc (encNs dT)).φ w0 Z) (hdB : (dRow 4 dBA dB.length dBc (encNs dB)).φ w0 Z) (hdC : (dRow 1 dCA dC.length dCc (encTs dC)).φ w0 Z) (hdCs : (dAllT dC).φ w0 Z) :
    Calls Tryz.prog 50 [.agg #[.int .i64 (dK), .int .i64 (dL), .string dS, .slice dTA dT.length dTc, .slice dBA dB.length dBc, .slice dCA dC.length dCc]].toArray w0 (fun e w' => ∃ q0_0 : Nat, e = .returned (.func (.func 83) #[] #[.pointer (some ⟨q0_0, 0, none⟩)]) ∧ Fr none_ w0 w' ∧ (dBox q0_0 [.int .i64 (dK), .int .i64 (dL), .string dS, .slice dTA dT.length dTc, .slice dBA dB.length dBc, .slice dCA dC.length dCc]).φ w' (nxt Z w0 w')) := by
 have b0 := s0 (M := none_) hZ (zc hdT (zc hdB (zc hdC (zc hdCs zn))))
 refine c_enter Tryz.func50 rfl Tryz.ntmps50 rfl fun c0 d0 => ?_
 refine wsc fun c0 f0 => bxx d0 b0 fun c0 h0 i0 j0 k0 => ?_
 refine aw j0 f0 fun h0 c0 => ?_
 refine wsc fun f0 h0 => r_makeFunc sv c0 rfl rfl rfl (by decide) fun f0 j0 => ?_
 refine aw j0 h0 fun f0 c0 => ?_
 refine wp_ret <| er1 c0 ?_
 obtain ⟨c0, h0⟩ := k0.box_data (i := 0) rfl (fun _ h => h)
 have k0 := c0.data (dBox i0 [.int .i64 (dK), .int .i64 (dL), .string dS, .slice dTA dT.length dTc, .slice dBA dB.length dBc, .slice dCA dC.length dCc]) h0
 refine ⟨i0, ?_, k0.fr, ((k0.get (i := 4) rfl).imp imm_nxt id)⟩
 exact cre rfl
theorem sargs_yields (w0 : World) (Z : Nat → Prop) (dg : Nat) (dK : Int) (dL : Int) (dS : ByteArray) (dTA : Option Addr) (dTc : Nat) (dT : List Nd) (dBA : Option Addr) (dBc : Nat) (dB : List Nd) (dCA : Option Addr) (dCc : Nat) (dC : List Tl) (hdT : (dRow 4 dTA dT.length dTc (encNs dT)).φ w0 Z) (hdB : (dRow 4 dBA dB.length dBc (encNs dB)).φ w0 Z) (hdC : (dRow 1 dCA dC.length dCc (encTs dC)).φ w0 Z) (hdCs : (dAllT dC).φ w0 Z) (hdQ : (dBox dg [.int .i64 (dK), .int .i64 (dL), .string dS, .slice dTA dT.length dTc, .slice dBA dB.length dBc, .slice dCA dC.length dCc]).φ w0 Z) (hl : dC.length ≤ 100) (hb : ∀ s ∈ dC, s.2.2.length ≤ 100) :
    Yields Tryz.prog 83 [.pointer (some ⟨dg, 0, none⟩)].toArray (fun x : Ag => #[.agg #[.int .i64 x.1.1, .int .i64 x.1.2], .slice x.2.1 x.2.2.2.length x.2.2.1]) (agL dC) Z w0 := by
 refine yields_of Tryz.func83 rfl Tryz.ntmps83 rfl [dRow 4 dTA dT.length dTc (encNs dT), dRow 4 dBA dB.length dBc (encNs dB), dRow 1 dCA dC.length dCc (encTs dC), dAllT dC, dBox dg [.int .i64 (dK), .int .i64 (dL), .string dS, .slice dTA dT.length dTc, .slice dBA dB.length dBc, .slice dCA dC.length dCc]] (by
  intro d hd
  simp only [List.mem_cons, List.not_mem_nil, or_false] at hd
  rcases hd with rfl | rfl | rfl | rfl | rfl
  · exact hdT
  · exact hdB
  · exact hdC
  · exact hdCs
  · exact hdQ
  ) (fun lp jf jx w0 C0 M0 hY hds b0 c0 d0 => ?_)
 refine wsc fun b0 f0 => lR c0 fun b0 h0 => ?_
 refine m_loadC sv h0 rfl rfl rfl (dbox_cell (d0.get (i := 5) rfl) rfl) Tryz.underlying23 rfl (by decide) fun b0 c0 => ?_
 refine lR c0 fun b0 h0 => ?_
 refine wn f0 <| wp_block ?_
 refine wp_loop_ghost (fun gn ga gw => ∃ i : Nat, (Reg ga 31 [(1000000, .bool false), (0, .func (.yield lp) #[] #[]), (8, .slice dCA dC.length dCc), (9, .int .i64 ((dC.length : Nat) : Int)), (10, .int .i64 ((i : Nat) : Int))]) ∧ (St w0 (oldB w0) M0 gw [] [dJ jf (agP dC i) C0 M0 w0.heap.size, dRow 4 dTA dT.length dTc (encNs dT), dRow 4 dBA dB.length dBc (encNs dB), dRow 1 dCA dC.length dCc (encTs dC), dAllT dC, dBox dg [.int .i64 (dK), .int .i64 (dL), .string dS, .slice dTA dT.length dTc, .slice dBA dB.length dBc, .slice dCA dC.length dCc]]) ∧ (i ≤ dC.length) ∧ (dC.length - i) = gn) _ ⟨0, (h0.sub (rc4 (rc rfl rnl))), d0, by omega, rfl⟩ ?_
 rintro h0 d0 f0 ⟨i, b0, c0, hi, i0⟩
 have i0 : i < dC.length → (nthT dC i).2.2.length ≤ 100 := fun h => hb _ (nthT_mem h)
 refine wsc fun i0 f0 => lR b0 fun i0 d0 => ?_
 refine wn f0 <| wp_seq_k fun f0 i0 => ?_
 rcases Decidable.em (((i : Nat) : Int) < ((dC.length : Nat) : Int)) with f0 | f0
 ·
  refine wct d0 (decide_eq_true f0) fun b0 => ?_
  refine wp_skip <| xn i0 <| wp_seq_k fun i0 h0 => wp_block ?_
  refine wsc fun i0 j0 => mv b0 fun i0 k0 => ?_
  refine ix i (i * 1) k0 (ts_elem (t := dC) (k := i) (c0.row (i := 3) rfl).2 (by omega)).some_ fun i0 b0 => ?_
  refine lde 0 (i * 1) b0 (ts_elem (t := dC) (k := i) (c0.row (i := 3) rfl).2 (by omega)) fun i0 k0 => ?_
  have i0 := c0.elT 4 i
  have b0 := i0.elA 4 i
  refine lR k0 fun i0 m0 => ?_
  refine wn j0 <| wsc fun j0 i0 => lR m0 fun j0 k0 => ?_
  refine wn i0 <| wp_block ?_
  have i0 := b0.forget 7
  have b0 := i0.forget 6
  refine wp_loop_ghost (fun gn ga gw => ∃ j : Nat, (Reg ga 31 [(1000000, .bool false), (0, .func (.yield lp) #[] #[]), (8, .slice dCA dC.length dCc), (9, .int .i64 ((dC.length : Nat) : Int)), (10, .int .i64 ((i : Nat) : Int)), (3, .int .i64 ((i : Nat) : Int)), (16, .int .i64 (((nthT dC i).2.2.length : Nat) : Int)), (17, .int .i64 ((j : Nat) : Int)), (15, .slice ((nthT dC i).1) ((nthT dC i).2.2.length) ((nthT dC i).2.1))]) ∧ (St w0 (oldB w0) M0 gw [] [dJ jf (agQ (agP dC i) dC i j) C0 M0 w0.heap.size, dRow 4 dTA dT.length dTc (encNs dT), dRow 4 dBA dB.length dBc (encNs dB), dRow 1 dCA dC.length dCc (encTs dC), dAllT dC, dBox dg [.int .i64 (dK), .int .i64 (dL), .string dS, .slice dTA dT.length dTc, .slice dBA dB.length dBc, .slice dCA dC.length dCc]]) ∧ (j ≤ (nthT dC i).2.2.length) ∧ ((nthT dC i).2.2.length - j) = gn) _ ⟨0, (k0.sub (rc4 (rc4 (rc rfl rnl)))), b0, by omega, rfl⟩ ?_
  rintro b0 k0 i0 ⟨j, j0, m0, hj, n0⟩
  have n0 := m0.data (dRow 1 ((nthT dC i).1) ((nthT dC i).2.2.length) ((nthT dC i).2.1) (encSs ((nthT dC i).2.2))) (allT_at (m0.get (i := 4) rfl) (show i < dC.length by omega)).1
  have m0 := n0.data (dAll ((nthT dC i).2.2)) (allT_at (n0.get (i := 4) rfl) (show i < dC.length by omega)).2
  refine wsc fun n0 i0 => lR j0 fun n0 k0 => ?_
  refine wn i0 <| wp_seq_k fun i0 n0 => ?_
  rcases Decidable.em (((j : Nat) : Int) < (((nthT dC i).2.2.length : Nat) : Int)) with i0 | i0
  ·
   refine wct k0 (decide_eq_true i0) fun j0 => ?_
   refine wp_skip <| xn n0 <| wp_seq_k fun n0 b0 => wp_block ?_
   refine wsc fun n0 o0 => mv j0 fun n0 p0 => ?_
   refine ix j (j * 1) p0 (ss_elem (t := (nthT dC i).2.2) (k := j) (m0.row (i := 6) rfl).2 (by omega)).some_ fun n0 j0 => ?_
   refine lde 0 (j * 1) j0 (ss_elem (t := (nthT dC i).2.2) (k := j) (m0.row (i := 6) rfl).2 (by omega)) fun n0 p0 => ?_
   have n0 := m0.el 7 j
   refine lR p0 fun j0 q0 => ?_
   refine wn o0 <| wp_seq_k fun o0 j0 => cy_region ?_
   refine r_move (st_listInV rfl rfl) q0 rfl rfl rfl (by decide) fun o0 p0 => ?_
   refine r_move (st_listInV rfl rfl) p0 rfl rfl rfl (by decide) fun o0 q0 => ?_
   refine r_move (st_listInV rfl rfl) q0 rfl rfl rfl (by decide) fun o0 p0 => ?_
   refine m_build (ps := [(0, .tmp 23), (1, .tmp 24)]) (v := .agg #[.int .i64 ((i : Nat) : Int), .int .i64 ((j : Nat) : Int)]) (st_listInV rfl rfl) p0 rfl rfl rfl (fun _ => by kernel_rfl) (by decide) fun o0 q0 => ?_
   refine r_move (st_listInV rfl rfl) q0 rfl rfl rfl (by decide) fun o0 p0 => ?_
   have o0 := n0.nf
   refine y_call (t := .tmp 22) (xs := [.tmp 25, .tmp 26]) (pre := agQ (agP dC i) dC i j) (i := 0) (ds0 := [dRow 4 dTA dT.length dTc (encNs dT), dRow 4 dBA dB.length dBc (encNs dB), dRow 1 dCA dC.length dCc (encTs dC), dAllT dC, dBox dg [.int .i64 (dK), .int .i64 (dL), .string dS, .slice dTA dT.length dTc, .slice dBA dB.length dBc, .slice dCA dC.length dCc]]) hY rfl p0 o0 rfl rfl rfl rfl (by decide) (agX dC i j) rfl rfl (ag_pre (i := i) (j := j) (by omega) (by omega)) hds (fun n0 q0 s0 t0 => ?_) fun n0 q0 s0 t0 => ?_
   ·
    refine r_not (st_listInV rfl rfl) s0 rfl rfl rfl (by decide) fun q0 n0 => ?_
    refine li_nil ?_
    refine xn j0 <| wp_cond_false (n0.ev rfl) ?_
    refine wp_skip <| x_block_n <| xn b0 <| c_region ?_
    refine adi ((j + 1 : Nat) : Int) n0 fun b0 q0 => ?_
    refine mv q0 fun b0 n0 => ?_
    refine wpList_nil ?_
    have b0 : agQ (agP dC i) dC i j ++ [(agX dC i j)] = agQ (agP dC i) dC i (j + 1) := rfl
    have q0 := t0
    rw [b0] at q0
    exact ⟨_, by omega, j + 1, (n0.sub (rc4 (rc4 (rc rfl rnl)))), q0, by omega, rfl⟩
   refine r_not (st_listInV rfl rfl) s0 rfl rfl rfl (by decide) fun q0 n0 => ?_
   refine li_nil ?_
   refine xn j0 <| wp_cond_true (n0.ev rfl) ?_
   refine wp_ret <| x_block_r <| x_then_r <| x_then_r <| x_block_r <| x_block_r <| x_then_r <| x_then_r <| x_block_r <| e_ret0 n0 rfl rfl ?_
   exact it_stop t0 (i := 0) rfl (ag_pre (i := i) (j := j) (by omega) (by omega))
  refine wcf k0 (decide_eq_false i0) fun t0 => ?_
  refine wp_exit ?_
  refine x_then_e ?_
  refine x_then_e ?_
  refine x_block_eq ?_
  refine x_block_n <| xn h0 <| c_region ?_
  refine adi ((i + 1 : Nat) : Int) t0 fun h0 i0 => ?_
  refine mv i0 fun h0 t0 => ?_
  refine wpList_nil ?_
  have h0 : agQ (agP dC i) dC i j = agP dC (i + 1) := by rw [show j = (nthT dC i).2.2.length by omega]; rfl
  have i0 := m0
  rw [h0] at i0
  have h0 := i0.forget 7
  have i0 := h0.forget 6
  exact ⟨_, by omega, i + 1, (t0.sub (rc4 (rc rfl rnl))), i0, by omega, rfl⟩
 refine wcf d0 (decide_eq_false f0) fun i0 => ?_
 refine wp_exit ?_
 refine x_then_e ?_
 refine x_then_e ?_
 refine x_block_eq ?_
 refine e_end0 i0 rfl rfl ?_
 exact it_all c0 (i := 0) rfl (by rw [show i = dC.length by omega]; rfl)
theorem scheck_calls (w0 : World) (Z : Nat → Prop) (hZ : ∀ k, Z k → k < w0.heap.size) (dK : Int) (dL : Int) (dS : ByteArray) (dTA : Option Addr) (dTc : Nat) (dT : List Nd) (dBA : Option Addr) (dBc : Nat) (dB : List Nd) (dCA : Option Addr) (dCc : Nat) (dC : List Tl) (hShp : Shapes w0 Z) (hdT : (dRow 4 dTA dT.length dTc (encNs dT)).φ w0 Z) (hdB : (dRow 4 dBA dB.length dBc (encNs dB)).φ w0 Z) (hdC : (dRow 1 dCA dC.length dCc (encTs dC)).φ w0 Z) (hdCs : (dAllT dC).φ w0 Z) (hl : dC.length ≤ 100 := by first | assumption | omega | (simp <;> omega)) (hb : ∀ s ∈ dC, s.2.2.length ≤ 100 := by first | assumption | omega | (simp <;> omega)) (hall : ∀ x ∈ tmD dK dT dB (lstsT dC), sml x ∧ x.length ≤ 1000000 := by first | assumption | omega | (simp <;> omega)) (hsS : dS.size < 1000000 := by first | assumption | omega | (simp <;> omega)) :
    Calls Tryz.prog 19 [.agg #[.int .i64 (dK), .int .i64 (dL), .string dS, .slice dTA dT.length dTc, .slice dBA dB.length dBc, .slice dCA dC.length dCc]].toArray w0 (fun e w' => e = .returned (.int .i64 (scE dK dL dS dT dB dC)) ∧ Fr none_ w0 w') := by
 have b0 := s0 (M := none_) hZ (zc (d := dShapes) hShp (zc hdT (zc hdB (zc hdC (zc hdCs zn)))))
 refine c_enterM Tryz.func19 rfl Tryz.ntmps19 rfl fun c0 d0 => ?_
 refine wsc fun c0 f0 => bxx d0 b0 fun c0 h0 i0 j0 k0 => ?_
 refine alc j0 k0 fun h0 c0 d0 b0 m0 => ?_
 refine wn f0 <| wp_seq_k fun f0 c0 => wsc fun f0 h0 => lR b0 fun f0 k0 => ?_
 have f0 := m0.nf
 refine kcl k0 ok49 (dcheck_calls _ _ f0.il (dK) (dL) dS _ _ _ _ _ _ _ _ _ (f0.g 0) (f0.g 1) (f0.g 2) (f0.g 3) (f0.g 4)) ?_
 rintro k0 m0 ⟨rfl, b0⟩
 have m0 := f0.below b0.below
 refine ⟨_, rfl, fun b0 f0 => ?_⟩
 refine aw f0 h0 fun b0 k0 => ?_
 refine wsc fun h0 b0 => lR k0 fun h0 f0 => ?_
 refine wn b0 ?_
 rcases Decidable.em (((dkE (dK) (dL) dS dT dB dC)) = 0) with b0 | b0
 ·
  refine wcfb f0 rfl (by rw [(decide_eq_true b0)]; rfl) fun h0 => ?_
  refine wp_skip <| xn c0 <| wp_seq_k fun c0 k0 => wsc fun c0 j0 => lR h0 fun c0 n0 => ?_
  refine wn j0 ?_
  rcases Decidable.em ((dK) = 3) with j0 | j0
  ·
   refine wcfb n0 rfl (by rw [(decide_eq_true j0)]; rfl) fun c0 => ?_
   refine wp_skip <| xn k0 <| wp_seq_k fun k0 h0 => wsc fun k0 o0 => lR c0 fun k0 p0 => ?_
   have k0 := m0.nf
   refine kcl p0 ok50 (sargs_calls _ _ k0.il (dK) (dL) dS _ _ _ _ _ _ _ _ _ (k0.g 1) (k0.g 2) (k0.g 3) (k0.g 4)) ?_
   rintro p0 c0 ⟨q0, rfl, t0, u0⟩
   have c0 := k0.below t0.below
   have t0 := k0.dN c0 u0
   refine ⟨_, rfl, fun c0 u0 => ?_⟩
   refine wn o0 <| wp_block ?_
   have o0 := t0.nf
   have t0 : Reg c0 26 [(1000000, .bool false), (1, .pointer (some ⟨i0, 0, none⟩)), (2, .pointer (some ⟨d0, 0, none⟩)), (16, .func (.func 83) #[] #[.pointer (some ⟨q0, 0, none⟩)])] := (u0.sub (rc2 (rc rfl (rc rfl rnl))))
   refine w_range (xs := agL dC) (encs := (fun x : Ag => #[.agg #[.int .i64 x.1.1, .int .i64 x.1.2], .slice x.2.1 x.2.2.2.length x.2.2.1])) (t0.ev rfl) ok83 (sargs_yields _ (imm Z w0 [.box i0 25 [.int .i64 (dK), .int .i64 (dL), .string dS, .slice dTA dT.length dTc, .slice dBA dB.length dBc, .slice dCA dC.length dCc], .box d0 31 [.int .i64 0]] _) q0 (((dK))) (((dL))) dS _ _ _ _ _ _ _ _ _ (o0.get (i := 1) rfl) (o0.get (i := 2) rfl) (o0.get (i := 3) rfl) (o0.get (i := 4) rfl) (o0.get (i := 5) rfl) (by assumption) (by assumption)) (fun _ => rfl) o0 (fun _ h => h) (fun (pre : List (Ag)) (mm : List Res) => ∃ ev : Int, mm = [.box i0 25 [.int .i64 (dK), .int .i64 (dL), .string dS, .slice dTA dT.length dTc, .slice dBA dB.length dBc, .slice dCA dC.length dCc], .box d0 31 [.int .i64 (ev)]] ∧ (ev = 0) ∧ (∀ y ∈ pre, poP dS y.2.2.2 = 0)) (fun cc (pre : List (Ag)) (mm : List Res) => cc = Code.ret ∧ ∃ ev : Int, mm = [.box i0 25 [.int .i64 (dK), .int .i64 (dL), .string dS, .slice dTA dT.length dTc, .slice dBA dB.length dBc, .slice dCA dC.length dCc], .box d0 31 [.int .i64 (ev)]] ∧ (frE ((agL dC).map fun y => poP dS y.2.2.2) = ev)) ⟨0, rfl, rfl, (fun _ h => by cases h)⟩ ?_ ?_ ?_
   ·
    rintro o0 pre x u0 m1 hp ⟨ev, rfl, hev, hz⟩ c0
    obtain ⟨ia, ib, hia, hib, rfl⟩ := ag_at hp
    have hxa : (agX dC ia ib).2.2.2 ∈ tmD dK dT dB (lstsT dC) := by unfold tmD; rw [if_neg (by omega), if_neg (by omega), if_pos (by omega)]; exact ag_in hia hib
    obtain ⟨hxs, hxl⟩ := hall _ hxa
    refine (?_ : ∀ k0, Reg k0 26 [(18, .slice ((agX dC ia ib).2.1) ((agX dC ia ib).2.2.2.length) ((agX dC ia ib).2.2.1)), (17, .agg #[.int .i64 (((agX dC ia ib).1.1)), .int .i64 (((agX dC ia ib).1.2))]), (1000000, .bool false), (1, .pointer (some ⟨i0, 0, none⟩)), (2, .pointer (some ⟨d0, 0, none⟩)), (16, .func (.func 83) #[] #[.pointer (some ⟨q0, 0, none⟩)])] → Code.wpIn (rI o0) 0 _ _ _ k0 u0) _ (Reg.round2n t0 (by decide) (by decide) rfl)
    intro k0 u0
    refine ci_region (by kernel_rfl) (out_then (fun _ _ h => h)) ?_
    refine asg u0 fun k0 o0 => ?_
    refine wpList_nil ?_
    have k0 := c0.nf
    refine x_then_n ⟨_, _, 6, k0, rfl, (fun _ h => False.elim h), (fun _ h => False.elim h), fun c0 u0 => ?_⟩
    have c0 := u0.data (dRow 4 ((agX dC ia ib).2.1) ((agX dC ia ib).2.2.2.length) ((agX dC ia ib).2.2.1) (encNs ((agX dC ia ib).2.2.2))) (all_at (allT_at (u0.get (i := 4) rfl) hia).2 hib)
    refine wpIn_block ?_
    refine wpIn_seq_k fun u0 k0 => ?_
    refine ci_region (by kernel_rfl) (out_then (out_block out_rPost)) ?_
    refine lR o0 fun u0 q0 => ?_
    have u0 := c0.nf
    refine kcl q0 ok51 (positive_calls _ _ u0.il dS _ _ ((agX dC ia ib).2.2.2) (u0.g 0) (u0.g 7)) ?_
    rintro q0 c0 ⟨rfl, o0⟩
    have c0 := u0.below o0.below
    refine ⟨_, rfl, fun o0 u0 => ?_⟩
    refine aw u0 k0 fun o0 q0 => ?_
    refine wpIn_seq_k fun k0 o0 => ?_
    refine ci_region (by kernel_rfl) (out_then (out_block out_rPost)) ?_
    refine lR q0 fun k0 u0 => ?_
    refine wn o0 ?_
    rcases Decidable.em (((poP dS ((agX dC ia ib).2.2.2))) = 0) with o0 | o0
    ·
     have k0 := u0.setb (d := 24) (b := false) rfl (by rw [(decide_eq_true o0)]; rfl)
     refine wpIn_cond_false (k0.ev rfl) ?_
     refine wpIn_skip ?_
     refine x_block_n ?_
     have k0 := c0.nf
     exact ⟨_, _, 6, k0, rfl, _, rfl, hev, snoc_all hz (by assumption)⟩
    have k0 := u0.setb (d := 24) (b := true) rfl (by rw [(decide_eq_false o0)]; rfl)
    refine wpIn_cond_true (k0.ev rfl) ?_
    refine wpIn_seq_k fun o0 u0 => ?_
    refine ci_region (by kernel_rfl) (out_then (out_block out_rPost)) ?_
    refine mv k0 fun o0 q0 => ?_
    refine sto 1 q0 c0 fun o0 k0 d0 i0 => ?_
    refine wn u0 <| wpIn_ret ?_
    refine x_block_r ?_
    have u0 := i0.nf
    exact ⟨_, _, 6, u0, rfl, rfl, _, rfl, frE_pre (f := fun y : Ag => poP dS y.2.2.2) hp hz (by assumption)⟩
   ·
    rintro u0 m1 i0 ⟨ev, rfl, hev, hz⟩ d0
    have i0 := Reg.marked t0 u0
    refine x_block_n <| xn h0 <| wsc fun h0 u0 => sto 1 i0 d0 fun h0 k0 o0 q0 => ?_
    refine wn u0 <| wp_ret ?_
    have u0 := q0.nf
    obtain ⟨q0, k0⟩ := u0.shut (i := 6) rfl [] (fun _ h => by cases h)
    refine m_mark (.inl rfl) o0 rfl q0 (res1c o0 rfl rfl (box_cell (k0.res (i := 1) rfl) rfl) Tryz.underlying31 rfl) ?_
    refine ⟨?_, k0.fr⟩
    exact cre (ret_i (by (unfold scE; first | (rw [if_pos (by assumption)]; done) | (rw [if_neg (not_not_intro (by omega)), if_pos (by assumption)]; done) | (rw [if_neg (not_not_intro (by omega)), if_neg (not_not_intro (by omega))]; first | exact hr.symm | exact (frE_zero hz).symm | (rw [hr]; done)))))
   rintro k0 cc pre m1 q0 hpre ⟨rfl, ev, rfl, hr⟩ o0
   have q0 := Reg.marked t0 k0
   refine wp_ret <| x_block_r <| x_then_r ?_
   have k0 := o0.nf
   obtain ⟨o0, t0⟩ := k0.shut (i := 6) rfl [] (fun _ h => by cases h)
   refine m_mark (.inl rfl) q0 rfl o0 (res1c q0 rfl rfl (box_cell (t0.res (i := 1) rfl) rfl) Tryz.underlying31 rfl) ?_
   refine ⟨?_, t0.fr⟩
   exact cre (ret_i (by (unfold scE; first | (rw [if_pos (by assumption)]; done) | (rw [if_neg (not_not_intro (by omega)), if_pos (by assumption)]; done) | (rw [if_neg (not_not_intro (by omega)), if_neg (not_not_intro (by omega))]; first | exact hr.symm | exact (frE_zero hz).symm | (rw [hr]; done)))))
  refine wctb n0 rfl (by rw [(decide_eq_false j0)]; rfl) fun t0 => ?_
  refine wsc fun j0 n0 => sto 1 t0 m0 fun j0 o0 q0 k0 => ?_
  refine wn n0 <| wp_ret <| x_then_r <| m_none (.inl rfl) q0 rfl (res1c q0 rfl rfl (box_cell (k0.res (i := 1) rfl) rfl) Tryz.underlying31 rfl) ?_
  refine ⟨?_, k0.fr⟩
  exact cre (ret_i (by (unfold scE; first | (rw [if_pos (by assumption)]; done) | (rw [if_neg (not_not_intro (by omega)), if_pos (by assumption)]; done) | (rw [if_neg (not_not_intro (by omega)), if_neg (not_not_intro (by omega))]; first | exact hr.symm | exact (frE_zero hz).symm | (rw [hr]; done)))))
 refine wctb f0 rfl (by rw [(decide_eq_false b0)]; rfl) fun k0 => ?_
 refine wsc fun b0 f0 => mv k0 fun b0 q0 => ?_
 refine sto 1 q0 m0 fun b0 k0 n0 o0 => ?_
 refine wn f0 <| wp_ret <| x_then_r <| m_none (.inl rfl) n0 rfl (res1c n0 rfl rfl (box_cell (o0.res (i := 1) rfl) rfl) Tryz.underlying31 rfl) ?_
 refine ⟨?_, o0.fr⟩
 exact cre (ret_i (by (unfold scE; first | (rw [if_pos (by assumption)]; done) | (rw [if_neg (not_not_intro (by omega)), if_pos (by assumption)]; done) | (rw [if_neg (not_not_intro (by omega)), if_neg (not_not_intro (by omega))]; first | exact hr.symm | exact (frE_zero hz).symm | (rw [hr]; done)))))
theorem clamp_calls (w0 : World) (Z : Nat → Prop) (hZ : ∀ k, Z k → k < w0.heap.size) (n : Int)  :
    Calls Tryz.prog 153 [.int .i64 n].toArray w0 (fun e w' => e = .returned (.int .i64 (clamp n)) ∧ Fr none_ w0 w') := by
 have b0 := s0 (M := none_) hZ zn
 refine c_enter Tryz.func153 rfl Tryz.ntmps153 rfl fun c0 d0 => ?_
 refine wsc fun c0 f0 => aw d0 f0 fun c0 h0 => ?_
 refine wsc fun f0 c0 => mv h0 fun f0 d0 => ?_
 refine r_min sv d0 rfl rfl rfl rfl rfl (by decide) fun f0 h0 => ?_
 refine r_max sv h0 rfl rfl rfl rfl rfl (by decide) fun f0 d0 => ?_
 refine aw d0 c0 fun f0 h0 => ?_
 refine wp_ret <| er1 h0 ?_
 refine ⟨?_, b0.fr⟩
 exact cre (ret_i (by unfold clamp; omega))
theorem shift_calls (w0 : World) (Z : Nat → Prop) (hZ : ∀ k, Z k → k < w0.heap.size) (tA : Option Addr) (tc : Nat) (t : List Nd) (b : Int) (fr : Int) (hShp : Shapes w0 Z) (ht : (dRow 4 tA t.length tc (encNs t)).φ w0 Z) (hsm : sml t := by first | assumption | omega | (simp <;> omega)) (hl : t.length ≤ 1000000 := by first | assumption | omega | (simp <;> omega)) :
    Calls Tryz.prog 137 [.slice tA t.length tc, .int .i64 b, .int .i64 fr].toArray w0 (fun e w' => ∃ (rA0 : Option Addr) (rc0 : Nat), e = .returned (.tuple #[.slice rA0 (sfA t b fr).length rc0, .int .i64 (sfE t b fr)]) ∧ Fr none_ w0 w' ∧ (Res.row rA0 (sfA t b fr).length rc0 30 4 (encNs (sfA t b fr))).holds w' ∧ (∀ k, (Res.row rA0 (sfA t b fr).length rc0 30 4 (encNs (sfA t b fr))).blk = some k → w0.heap.size ≤ k)) := by
 have b0 := s0 (M := none_) hZ (zc (d := dShapes) hShp (zc ht zn))
 refine c_enterM Tryz.func137 rfl Tryz.ntmps137 rfl fun c0 d0 => ?_
 refine wsc fun c0 f0 => bxx d0 b0 fun c0 h0 i0 j0 k0 => ?_
 refine bxx j0 k0 fun h0 c0 d0 b0 m0 => ?_
 refine lR b0 fun h0 k0 => ?_
 refine wn f0 <| wsc fun f0 h0 => mv k0 fun f0 b0 => ?_
 have f0 : St w0 Z none_ c0 [.box i0 3 [.int .i64 (b)], .box d0 3 [.int .i64 (fr)]] [dShapes, dRow 4 tA t.length tc (encNs t)] := m0
 refine kcl b0 ok20 (check_calls _ _ f0.il _ _ _ (f0.g 0) (f0.g 1)) ?_
 rintro b0 m0 ⟨rfl, c0⟩
 have m0 := f0.below c0.below
 refine ⟨_, rfl, fun c0 f0 => ?_⟩
 refine alc f0 m0 fun c0 b0 k0 j0 n0 => ?_
 refine sto 2 j0 n0 fun b0 c0 f0 m0 => ?_
 refine wn h0 <| wp_seq_k fun h0 b0 => wsc fun h0 n0 => lR f0 fun h0 j0 => ?_
 refine wn n0 ?_
 rcases Decidable.em (((chk t)) = 0) with n0 | n0
 ·
  have hc := n0
  refine wcfb j0 rfl (by rw [(decide_eq_true n0)]; rfl) fun h0 => ?_
  refine wp_skip <| xn b0 <| wp_seq_k fun b0 f0 => ?_
  obtain ⟨b0, o0, p0⟩ := m0.agree
  refine dl_region2 (S := (sW c0 b0 [cel d0 0 (.int .i64 (fr))])) (n := 7) [6] mixed rfl p0 (pan_then pan_bodyM) fun o0 q0 t0 u0 v0 => ?_
  have o0 := sWI v0 2 (pc 1 0 pn)
  refine dlt 2 rfl q0 h0 (want_n rfl) (fun x hx => m_loadC (sy h0) h0 rfl rfl rfl (hx.c 0) Tryz.underlying3 rfl (by decide) gt) o0 fun p0 x0 => ?_
  refine dl_one (i := 0) (by kernel_rfl) ?_
  refine m_load (i := 0) (st_opV rfl (want_n rfl)) x0 v0 rfl rfl rfl rfl rfl Tryz.underlying3 rfl (by decide) fun p0 o0 => ?_
  have p0 := sWI v0 2 (pc 1 0 pn)
  refine ⟨fun _ _ => p0, ?_⟩
  refine dl_one (i := 1) (by kernel_rfl) ?_
  have p0 : St w0 Z none_ u0 [.box i0 3 [.int .i64 (b)], .box d0 3 [.int .i64 (fr)], .box k0 31 [.int .i64 ((chk t))]] [dShapes, dRow 4 tA t.length tc (encNs t), dAg c0 b0] := v0
  refine kcl o0 ok153 (clamp_calls _ _ p0.il (b)) ?_
  rintro o0 v0 ⟨rfl, u0⟩
  have o0 := p0.below u0.below
  refine ⟨_, rfl, fun u0 p0 => ?_⟩
  have u0 := sWI o0 2 (pc 1 0 pn)
  refine ⟨fun _ _ => u0, ?_⟩
  refine dl_one (i := 3) (by kernel_rfl) ?_
  have u0 : St w0 Z none_ v0 [.box i0 3 [.int .i64 (b)], .box d0 3 [.int .i64 (fr)], .box k0 31 [.int .i64 ((chk t))]] [dShapes, dRow 4 tA t.length tc (encNs t), dAg c0 b0] := o0
  refine kcl p0 ok153 (clamp_calls _ _ u0.il (fr)) ?_
  rintro p0 o0 ⟨rfl, v0⟩
  have o0 := u0.below v0.below
  refine ⟨_, rfl, fun v0 u0 => ?_⟩
  have v0 := sWI o0 2 (pc 1 0 pn)
  refine ⟨fun _ _ => v0, ?_⟩
  refine dta 4 rfl q0 u0 (want_n rfl) (fun x => r_max (sy u0) u0 rfl rfl rfl rfl rfl (by decide) gt) fun v0 p0 => ?_
  refine dl_one (i := 5) (by kernel_rfl) ?_
  refine sto 0 p0 o0 fun v0 u0 q0 x0 => ?_
  have u0 := sWI x0 2 (pc 1 0 pn)
  refine ⟨fun _ _ => u0, ?_⟩
  refine dl_one (i := 6) (by kernel_rfl) ?_
  refine sto 1 q0 x0 fun u0 v0 p0 o0 => ?_
  refine ⟨fun h => absurd h (by decide), ?_⟩
  refine dl_done (by kernel_rfl) (t0 _ _ ?_) _
  refine xn f0 <| wsc fun f0 t0 => mv p0 fun f0 v0 => ?_
  have f0 := o0.nilrow 30 4
  refine m_appendF (f := encN) (i := 3) ([]) (t) sv v0 f0 rfl rfl rfl rfl rfl encN_len (encN_one _) Tryz.underlying22 zi30 rfl rfl (f0.row (i := 1) rfl).2.news rfl (by (simp only [List.length_cons, List.length_nil]; omega)) (by decide) fun o0 p0 u0 x0 q0 h0 y0 => ?_
  have q0 : (([]) ++ t : List Nd).length = t.length := by (simp only [List.length_append, List.length_take, List.length_cons, List.length_nil]; omega)
  refine alc h0 y0 fun q0 p0 o0 f0 v0 => ?_
  refine sto 4 f0 v0 fun p0 q0 y0 h0 => ?_
  refine wn t0 <| wp_seq_k fun t0 p0 => wsc fun t0 v0 => mv y0 fun t0 f0 => ?_
  have t0 : St w0 Z none_ q0 [.box i0 3 [.int .i64 ((clamp (b)))], .box d0 3 [.int .i64 ((max 0 ((clamp (fr)))))], .box k0 31 [.int .i64 ((chk t))], .row u0 ((([]) ++ t : List Nd).length) x0 30 4 (encNs (([]) ++ t)), .box o0 22 [.slice u0 ((([]) ++ t : List Nd).length) x0]] [dShapes, dRow 4 tA t.length tc (encNs t), dAg c0 b0] := h0
  refine kcl f0 ok154 (nodesMk_calls _ _ t0.il _ _ _ (t0.g 1)) ?_
  rintro f0 h0 ⟨q0, rfl, y0, z0⟩
  have f0 := t0.below y0.below
  have y0 := t0.dN f0 z0
  refine ⟨_, rfl, fun f0 z0 => ?_⟩
  refine wn v0 <| wp_block ?_
  have v0 : St w0 Z none_ h0 [.box i0 3 [.int .i64 ((clamp (b)))], .box d0 3 [.int .i64 ((max 0 ((clamp (fr)))))], .box k0 31 [.int .i64 ((chk t))], .row u0 ((([]) ++ t : List Nd).length) x0 30 4 (encNs (([]) ++ t)), .box o0 22 [.slice u0 ((([]) ++ t : List Nd).length) x0]] [dShapes, dRow 4 tA t.length tc (encNs t), dAg c0 b0, dBox q0 [.slice tA t.length tc]] := y0
  have y0 : Reg f0 74 [(1000000, .bool false), (4, .pointer (some ⟨i0, 0, none⟩)), (5, .pointer (some ⟨d0, 0, none⟩)), (6, .slice none 0 0), (7, .int .i64 0), (8, .pointer (some ⟨k0, 0, none⟩)), (9, .pointer (some ⟨o0, 0, none⟩)), (26, .func (.func 161) #[] #[.pointer (some ⟨q0, 0, none⟩)])] := (z0.sub (rc4 (rc2 (rc rfl (rc rfl rnl)))))
  refine w_range (xs := nodesL t) (encs := (fun x : Int × Int => #[.int .i64 x.1, .int .i64 x.2])) (y0.ev rfl) ok161 (nodes_yields _ (imm Z w0 [.box i0 3 [.int .i64 ((clamp (b)))], .box d0 3 [.int .i64 ((max 0 ((clamp (fr)))))], .box k0 31 [.int .i64 ((chk t))], .row u0 ((([]) ++ t : List Nd).length) x0 30 4 (encNs (([]) ++ t)), .box o0 22 [.slice u0 ((([]) ++ t : List Nd).length) x0]] _) q0 tA tc t (v0.get (i := 0) rfl) (v0.get (i := 1) rfl) (v0.get (i := 3) rfl) (by assumption) (by assumption) (by assumption)) (fun _ => rfl) v0 (fun _ h => h) (fun (pre : List (Int × Int)) (mm : List Res) => ∃ Ao : Option Addr, ∃ co : Nat, mm = [.box i0 3 [.int .i64 ((clamp (b)))], .box d0 3 [.int .i64 ((max 0 ((clamp (fr)))))], .box k0 31 [.int .i64 (((foldS (clamp b) (max 0 (clamp fr)) (t, chk t) pre).2))], .row Ao (((foldS (clamp b) (max 0 (clamp fr)) (t, chk t) pre).1).length) co 30 4 (encNs ((foldS (clamp b) (max 0 (clamp fr)) (t, chk t) pre).1)), .box o0 22 [.slice Ao (((foldS (clamp b) (max 0 (clamp fr)) (t, chk t) pre).1).length) co]]) (fun _ _ _ => False) ⟨u0, x0, rfl⟩ ?_ ?_ ?_
  ·
   rintro v0 pre x x0 m1 hp ⟨Ao, co, rfl⟩ u0
   obtain ⟨xi, xj, rfl, hxi, hxj⟩ := nodesL_nat hc hp
   refine (?_ : ∀ z0, Reg z0 74 [(28, .int .i64 ((xj : Nat) : Int)), (27, .int .i64 ((xi : Nat) : Int)), (1000000, .bool false), (4, .pointer (some ⟨i0, 0, none⟩)), (5, .pointer (some ⟨d0, 0, none⟩)), (6, .slice none 0 0), (7, .int .i64 0), (8, .pointer (some ⟨k0, 0, none⟩)), (9, .pointer (some ⟨o0, 0, none⟩)), (26, .func (.func 161) #[] #[.pointer (some ⟨q0, 0, none⟩)])] → Code.wpIn (rI v0) 0 _ _ _ z0 x0) _ (Reg.round2n y0 (by decide) (by decide) rfl)
   intro z0 v0
   have hfl : (foldS (clamp b) (max 0 (clamp fr)) (t, chk t) pre).1.length = t.length := foldS_len (clamp b) (max 0 (clamp fr)) (t, chk t) pre
   have hcb : -1000 ≤ clamp b ∧ clamp b ≤ 1000 := by unfold clamp; omega
   have hcf : -1000 ≤ clamp fr ∧ clamp fr ≤ 1000 := by unfold clamp; omega
   have hfN := fold_N (f := max 0 (clamp fr)) (e := chk t) hc hcb (List.IsPrefix.trans (List.prefix_append _ _) hp) xi
   refine wpIn_seq_k fun z0 f0 => ?_
   refine ci_region (by kernel_rfl) (out_then (out_then (fun _ _ h => h))) ?_
   refine aw v0 f0 fun z0 h0 => ?_
   refine ci_region (by kernel_rfl) (out_then (fun _ _ h => h)) ?_
   refine asg h0 fun f0 z0 => ?_
   refine wpList_nil ?_
   have f0 : St w0 Z none_ x0 [.box i0 3 [.int .i64 ((clamp (b)))], .box d0 3 [.int .i64 ((max 0 ((clamp (fr)))))], .box k0 31 [.int .i64 (((foldS (clamp b) (max 0 (clamp fr)) (t, chk t) pre).2))], .row Ao (((foldS (clamp b) (max 0 (clamp fr)) (t, chk t) pre).1).length) co 30 4 (encNs ((foldS (clamp b) (max 0 (clamp fr)) (t, chk t) pre).1)), .box o0 22 [.slice Ao (((foldS (clamp b) (max 0 (clamp fr)) (t, chk t) pre).1).length) co]] [dShapes, dRow 4 tA t.length tc (encNs t), dAg c0 b0, dBox q0 [.slice tA t.length tc], dAg x0 (imm Z w0 [.box i0 3 [.int .i64 ((clamp (b)))], .box d0 3 [.int .i64 ((max 0 ((clamp (fr)))))], .box k0 31 [.int .i64 (((foldS (clamp b) (max 0 (clamp fr)) (t, chk t) pre).2))], .row Ao (((foldS (clamp b) (max 0 (clamp fr)) (t, chk t) pre).1).length) co 30 4 (encNs ((foldS (clamp b) (max 0 (clamp fr)) (t, chk t) pre).1)), .box o0 22 [.slice Ao (((foldS (clamp b) (max 0 (clamp fr)) (t, chk t) pre).1).length) co]] x0)] := u0
   refine x_then_n ⟨_, _, 4, f0, rfl, (fun _ h => False.elim h), (fun _ h => False.elim h), fun u0 x0 => ?_⟩
   refine wpIn_block ?_
   refine wpIn_seq_k fun f0 h0 => ?_
   refine ci_region (by kernel_rfl) (out_then (out_block out_rPost)) ?_
   refine lR z0 fun f0 v0 => ?_
   refine ix xi (xi * 4) v0 (own_nds (t := (foldS (clamp b) (max 0 (clamp fr)) (t, chk t) pre).1) (k := xi) (x0.res (i := 3) rfl) (by omega)).some_ fun f0 z0 => ?_
   refine aw z0 h0 fun f0 v0 => ?_
   refine wpIn_seq_k fun h0 f0 => ?_
   refine wpIn_seq_k fun h0 z0 => ?_
   obtain ⟨h0, t0, b1⟩ := x0.agree
   refine di_region2 (S := (sW u0 h0 [cel d0 0 (.int .i64 ((max 0 ((clamp (fr)))))), (Res.row Ao (((foldS (clamp b) (max 0 (clamp fr)) (t, chk t) pre).1).length) co 30 4 (encNs ((foldS (clamp b) (max 0 (clamp fr)) (t, chk t) pre).1))).holds])) (k := 15) mixed rfl (by kernel_rfl) b1 (pan_then (pan_then (pan_block pan_rPost))) (out_then (out_then (out_block out_rPost))) fun t0 x0 c1 d1 f1 => ?_
   have t0 := sWI f1 5 (pc 1 0 (pr 3 pn))
   refine dR [0] v0 fun b1 h1 => ?_
   refine dt 1 rfl x0 h1 (want_n rfl) (fun x hx => r_nilCheckE (sy h1) h1 rfl rfl rfl (own_nds (t := (foldS (clamp b) (max 0 (clamp fr)) (t, chk t) pre).1) (k := xi) (f1.res (i := 3) rfl) (by omega)).some_ (by decide) gt) t0 fun b1 v0 => ?_
   refine dt 2 rfl x0 v0 (want_n rfl) (fun x hx => m_fieldE (j' := xi * 4) (sy v0) v0 rfl rfl rfl (own_nds (t := (foldS (clamp b) (max 0 (clamp fr)) (t, chk t) pre).1) (k := xi) (f1.res (i := 3) rfl) (by omega)).some_ Tryz.underlying30 rfl sz3 rfl rfl (by decide) gt) t0 fun b1 h1 => ?_
   refine dle 3 0 (xi * 4) h1 (fun x hx => own_nds (t := (foldS (clamp b) (max 0 (clamp fr)) (t, chk t) pre).1) (k := xi) (hx.r 1) (by omega)) fun b1 v0 => ?_
   refine dR [4, 5] v0 fun b1 h1 => ?_
   refine d_or 6 [7, 8, 9, 10, 11, 12, 13] 14 (decide ((((nth ((foldS (clamp b) (max 0 (clamp fr)) (t, chk t) pre).1) xi).N) - ((xj : Nat) : Int)) < ((max 0 ((clamp (fr))))))) x0 h1 t0 (fun b1 v0 i1 => ?_) fun j1 k1 => ?_
   ·
    have j1 := not_f b1
    have b1 := of_decide_eq_true j1
    refine dR [6] v0 fun b1 j1 => ?_
    refine dt 7 rfl x0 j1 (wt j1) (fun x hx => r_nilCheckE (sy j1) j1 rfl rfl rfl (own_nds (t := (foldS (clamp b) (max 0 (clamp fr)) (t, chk t) pre).1) (k := xi) (f1.res (i := 3) rfl) (by omega)).some_ (by decide) gt) t0 fun b1 v0 => ?_
    refine dt 8 rfl x0 v0 (wt v0) (fun x hx => m_fieldE (j' := xi * 4 + 1) (sy v0) v0 rfl rfl rfl (own_nds (t := (foldS (clamp b) (max 0 (clamp fr)) (t, chk t) pre).1) (k := xi) (f1.res (i := 3) rfl) (by omega)).some_ Tryz.underlying30 rfl sz3 rfl rfl (by decide) gt) t0 fun b1 j1 => ?_
    refine dle 9 1 (xi * 4) j1 (fun x hx => own_nds (t := (foldS (clamp b) (max 0 (clamp fr)) (t, chk t) pre).1) (k := xi) (hx.r 1) (by omega)) fun b1 v0 => ?_
    refine dR [10] v0 fun b1 j1 => ?_
    refine dt 11 rfl x0 j1 (wt j1) (fun x hx => r_sub (z := (((nth ((foldS (clamp b) (max 0 (clamp fr)) (t, chk t) pre).1) xi).N) - ((xj : Nat) : Int))) (sy j1) j1 rfl rfl rfl rfl (by decide) (by omega) (by omega) (by omega) gt) t0 fun b1 v0 => ?_
    refine dR [12, 13, 14] v0 fun b1 j1 => ?_
    exact i1.fin j1
   refine wpAnyH_done (by kernel_rfl) (c1 _ _ ?_) _
   refine xn z0 ?_
   rcases Bool.eq_false_or_eq_true (((!(decide ((((nth ((foldS (clamp b) (max 0 (clamp fr)) (t, chk t) pre).1) xi).K)) = 0))) || (decide ((((nth ((foldS (clamp b) (max 0 (clamp fr)) (t, chk t) pre).1) xi).N) - ((xj : Nat) : Int)) < ((max 0 ((clamp (fr))))))))) with z0 | z0
   ·
    have c1 := z0
    try simp only [bz] at c1
    have c1 := k1.setb (d := 46) (b := true) rfl z0
    refine wpIn_cond_true (c1.ev rfl) ?_
    refine wpIn_exit ?_
    refine x_then_e ?_
    refine x_block_eq ?_
    have c1 : St w0 Z none_ d1 [.box i0 3 [.int .i64 ((clamp (b)))], .box d0 3 [.int .i64 ((max 0 ((clamp (fr)))))], .box k0 31 [.int .i64 (((foldS (clamp b) (max 0 (clamp fr)) (t, chk t) pre).2))], .row Ao (((foldS (clamp b) (max 0 (clamp fr)) (t, chk t) pre).1).length) co 30 4 (encNs ((foldS (clamp b) (max 0 (clamp fr)) (t, chk t) pre).1)), .box o0 22 [.slice Ao (((foldS (clamp b) (max 0 (clamp fr)) (t, chk t) pre).1).length) co]] [dShapes, dRow 4 tA t.length tc (encNs t), dAg c0 b0, dBox q0 [.slice tA t.length tc], dAg u0 (imm Z w0 [.box i0 3 [.int .i64 ((clamp (b)))], .box d0 3 [.int .i64 ((max 0 ((clamp (fr)))))], .box k0 31 [.int .i64 (((foldS (clamp b) (max 0 (clamp fr)) (t, chk t) pre).2))], .row Ao (((foldS (clamp b) (max 0 (clamp fr)) (t, chk t) pre).1).length) co 30 4 (encNs ((foldS (clamp b) (max 0 (clamp fr)) (t, chk t) pre).1)), .box o0 22 [.slice Ao (((foldS (clamp b) (max 0 (clamp fr)) (t, chk t) pre).1).length) co]] u0), dAg u0 h0] := f1
    exact ⟨_, _, 4, c1, rfl, _, _, (by rw [foldS_snoc, step_no (by omega)])⟩
   have c1 := or_fl z0
   have j1 := not_f c1
   have c1 := of_decide_eq_true j1
   have c1 := or_fr z0
   have j1 := of_decide_eq_false c1
   have j1 := k1.setb (d := 46) (b := false) rfl z0
   refine wpIn_cond_false (j1.ev rfl) ?_
   refine wpIn_skip ?_
   refine xn f0 <| wpIn_seq_k fun f0 z0 => ?_
   obtain ⟨f0, k1, c1⟩ := f1.agree
   refine dli_region2 (S := (sW d1 f0 [cel i0 0 (.int .i64 ((clamp (b)))), (Res.row Ao (((foldS (clamp b) (max 0 (clamp fr)) (t, chk t) pre).1).length) co 30 4 (encNs ((foldS (clamp b) (max 0 (clamp fr)) (t, chk t) pre).1))).holds])) (k := 9) [8] mixed rfl (by kernel_rfl) c1 (pan_then (pan_block pan_rPost)) (out_then (out_block out_rPost)) fun k1 f1 i1 b1 v0 => ?_
   have b1 := sWI v0 6 (pc 0 0 (pr 3 pn))
   refine dtv 0 f1 j1 fun k1 c1 => ?_
   refine dta 1 rfl f1 c1 (want_n rfl) (fun x => r_nilCheckE (sy c1) c1 rfl rfl rfl (own_nds (t := (foldS (clamp b) (max 0 (clamp fr)) (t, chk t) pre).1) (k := xi) (v0.res (i := 3) rfl) (by omega)).some_ (by decide) gt) fun k1 j1 => ?_
   refine dta 2 rfl f1 j1 (want_n rfl) (fun x => m_fieldE (j' := xi * 4 + 1) (sy j1) j1 rfl rfl rfl (own_nds (t := (foldS (clamp b) (max 0 (clamp fr)) (t, chk t) pre).1) (k := xi) (v0.res (i := 3) rfl) (by omega)).some_ Tryz.underlying30 rfl sz3 rfl rfl (by decide) gt) fun k1 c1 => ?_
   refine dlt 3 rfl f1 c1 (want_n rfl) (fun x hx => m_loadE (sy c1) c1 rfl rfl rfl 1 (xi * 4) (own_nds (t := (foldS (clamp b) (max 0 (clamp fr)) (t, chk t) pre).1) (k := xi) (hx.r 1) (by omega)) rfl rfl Tryz.underlying3 rfl (by decide) gt) b1 fun k1 j1 => ?_
   refine dlt 4 rfl f1 j1 (want_n rfl) (fun x hx => m_loadC (sy j1) j1 rfl rfl rfl (hx.c 0) Tryz.underlying3 rfl (by decide) gt) b1 fun k1 c1 => ?_
   refine dta 5 rfl f1 c1 (want_n rfl) (fun x => r_add (z := (((nth ((foldS (clamp b) (max 0 (clamp fr)) (t, chk t) pre).1) xi).N) + (clamp (b)))) (sy c1) c1 rfl rfl rfl rfl (by decide) (by omega) (by omega) (by omega) gt) fun k1 j1 => ?_
   refine dta 6 rfl f1 j1 (want_n rfl) (fun x => r_nilCheckE (sy j1) j1 rfl rfl rfl (own_nds (t := (foldS (clamp b) (max 0 (clamp fr)) (t, chk t) pre).1) (k := xi) (v0.res (i := 3) rfl) (by omega)).some_ (by decide) gt) fun k1 c1 => ?_
   refine dta 7 rfl f1 c1 (want_n rfl) (fun x => m_fieldE (j' := xi * 4 + 1) (sy c1) c1 rfl rfl rfl (own_nds (t := (foldS (clamp b) (max 0 (clamp fr)) (t, chk t) pre).1) (k := xi) (v0.res (i := 3) rfl) (by omega)).some_ Tryz.underlying30 rfl sz3 rfl rfl (by decide) gt) fun k1 j1 => ?_
   refine dl_one (i := 8) (by kernel_rfl) ?_
   refine m_storeF (i := 3) (k := xi) (off := 1) (L := ((foldS (clamp b) (max 0 (clamp fr)) (t, chk t) pre).1)) (z := (⟨(nth ((foldS (clamp b) (max 0 (clamp fr)) (t, chk t) pre).1) xi).K, (((nth ((foldS (clamp b) (max 0 (clamp fr)) (t, chk t) pre).1) xi).N) + (clamp (b))), (nth ((foldS (clamp b) (max 0 (clamp fr)) (t, chk t) pre).1) xi).M, (nth ((foldS (clamp b) (max 0 (clamp fr)) (t, chk t) pre).1) xi).S⟩ : Nd)) (st_op rfl (want_n rfl)) j1 v0 rfl rfl rfl rfl rfl (by omega) (by omega) (by decide) rfl rfl rfl sz3 fun k1 c1 f1 b1 => ?_
   have k1 : (((foldS (clamp b) (max 0 (clamp fr)) (t, chk t) pre).1).set (xi) (⟨(nth ((foldS (clamp b) (max 0 (clamp fr)) (t, chk t) pre).1) xi).K, (((nth ((foldS (clamp b) (max 0 (clamp fr)) (t, chk t) pre).1) xi).N) + (clamp (b))), (nth ((foldS (clamp b) (max 0 (clamp fr)) (t, chk t) pre).1) xi).M, (nth ((foldS (clamp b) (max 0 (clamp fr)) (t, chk t) pre).1) xi).S⟩ : Nd)).length = ((foldS (clamp b) (max 0 (clamp fr)) (t, chk t) pre).1).length := by simp
   have k1 : nth (((foldS (clamp b) (max 0 (clamp fr)) (t, chk t) pre).1).set (xi) (⟨(nth ((foldS (clamp b) (max 0 (clamp fr)) (t, chk t) pre).1) xi).K, (((nth ((foldS (clamp b) (max 0 (clamp fr)) (t, chk t) pre).1) xi).N) + (clamp (b))), (nth ((foldS (clamp b) (max 0 (clamp fr)) (t, chk t) pre).1) xi).M, (nth ((foldS (clamp b) (max 0 (clamp fr)) (t, chk t) pre).1) xi).S⟩ : Nd)) (xi) = (⟨(nth ((foldS (clamp b) (max 0 (clamp fr)) (t, chk t) pre).1) xi).K, (((nth ((foldS (clamp b) (max 0 (clamp fr)) (t, chk t) pre).1) xi).N) + (clamp (b))), (nth ((foldS (clamp b) (max 0 (clamp fr)) (t, chk t) pre).1) xi).M, (nth ((foldS (clamp b) (max 0 (clamp fr)) (t, chk t) pre).1) xi).S⟩ : Nd) := nth_set_self (by omega)
   have j1 : (nth (((foldS (clamp b) (max 0 (clamp fr)) (t, chk t) pre).1).set (xi) (⟨(nth ((foldS (clamp b) (max 0 (clamp fr)) (t, chk t) pre).1) xi).K, (((nth ((foldS (clamp b) (max 0 (clamp fr)) (t, chk t) pre).1) xi).N) + (clamp (b))), (nth ((foldS (clamp b) (max 0 (clamp fr)) (t, chk t) pre).1) xi).M, (nth ((foldS (clamp b) (max 0 (clamp fr)) (t, chk t) pre).1) xi).S⟩ : Nd)) (xi)).N = (((nth ((foldS (clamp b) (max 0 (clamp fr)) (t, chk t) pre).1) xi).N) + (clamp (b))) := by rw [k1]
   refine ⟨fun h => absurd h (by decide), ?_⟩
   refine dl_done (by kernel_rfl) (i1 _ _ ?_) _
   refine xn z0 <| wpIn_block ?_
   refine wpIn_seq_k fun z0 i1 => ?_
   obtain ⟨z0, j1, k1⟩ := b1.agree
   refine di_region2 (S := (sW c1 z0 [cel d0 0 (.int .i64 ((max 0 ((clamp (fr)))))), (Res.row Ao ((((foldS (clamp b) (max 0 (clamp fr)) (t, chk t) pre).1).set (xi) (⟨(nth ((foldS (clamp b) (max 0 (clamp fr)) (t, chk t) pre).1) xi).K, (((nth ((foldS (clamp b) (max 0 (clamp fr)) (t, chk t) pre).1) xi).N) + (clamp (b))), (nth ((foldS (clamp b) (max 0 (clamp fr)) (t, chk t) pre).1) xi).M, (nth ((foldS (clamp b) (max 0 (clamp fr)) (t, chk t) pre).1) xi).S⟩ : Nd)).length) co 30 4 (encNs (((foldS (clamp b) (max 0 (clamp fr)) (t, chk t) pre).1).set (xi) (⟨(nth ((foldS (clamp b) (max 0 (clamp fr)) (t, chk t) pre).1) xi).K, (((nth ((foldS (clamp b) (max 0 (clamp fr)) (t, chk t) pre).1) xi).N) + (clamp (b))), (nth ((foldS (clamp b) (max 0 (clamp fr)) (t, chk t) pre).1) xi).M, (nth ((foldS (clamp b) (max 0 (clamp fr)) (t, chk t) pre).1) xi).S⟩ : Nd)))).holds])) (k := 9) mixed rfl (by kernel_rfl) k1 (pan_then (pan_block (pan_block pan_rPost))) (out_then (out_block (out_block out_rPost))) fun j1 b1 v0 t0 x0 => ?_
   have j1 := sWI x0 7 (pc 1 0 (pr 3 pn))
   refine dR [0] f1 fun k1 h1 => ?_
   refine dt 1 rfl b1 h1 (want_n rfl) (fun x hx => r_nilCheckE (sy h1) h1 rfl rfl rfl (own_nds (t := ((foldS (clamp b) (max 0 (clamp fr)) (t, chk t) pre).1).set (xi) (⟨(nth ((foldS (clamp b) (max 0 (clamp fr)) (t, chk t) pre).1) xi).K, (((nth ((foldS (clamp b) (max 0 (clamp fr)) (t, chk t) pre).1) xi).N) + (clamp (b))), (nth ((foldS (clamp b) (max 0 (clamp fr)) (t, chk t) pre).1) xi).M, (nth ((foldS (clamp b) (max 0 (clamp fr)) (t, chk t) pre).1) xi).S⟩ : Nd)) (k := xi) (x0.res (i := 3) rfl) (by omega)).some_ (by decide) gt) j1 fun k1 f1 => ?_
   refine dt 2 rfl b1 f1 (want_n rfl) (fun x hx => m_fieldE (j' := xi * 4 + 1) (sy f1) f1 rfl rfl rfl (own_nds (t := ((foldS (clamp b) (max 0 (clamp fr)) (t, chk t) pre).1).set (xi) (⟨(nth ((foldS (clamp b) (max 0 (clamp fr)) (t, chk t) pre).1) xi).K, (((nth ((foldS (clamp b) (max 0 (clamp fr)) (t, chk t) pre).1) xi).N) + (clamp (b))), (nth ((foldS (clamp b) (max 0 (clamp fr)) (t, chk t) pre).1) xi).M, (nth ((foldS (clamp b) (max 0 (clamp fr)) (t, chk t) pre).1) xi).S⟩ : Nd)) (k := xi) (x0.res (i := 3) rfl) (by omega)).some_ Tryz.underlying30 rfl sz3 rfl rfl (by decide) gt) j1 fun k1 h1 => ?_
   refine dle 3 1 (xi * 4) h1 (fun x hx => own_nds (t := ((foldS (clamp b) (max 0 (clamp fr)) (t, chk t) pre).1).set (xi) (⟨(nth ((foldS (clamp b) (max 0 (clamp fr)) (t, chk t) pre).1) xi).K, (((nth ((foldS (clamp b) (max 0 (clamp fr)) (t, chk t) pre).1) xi).N) + (clamp (b))), (nth ((foldS (clamp b) (max 0 (clamp fr)) (t, chk t) pre).1) xi).M, (nth ((foldS (clamp b) (max 0 (clamp fr)) (t, chk t) pre).1) xi).S⟩ : Nd)) (k := xi) (hx.r 1) (by omega)) fun k1 f1 => ?_
   refine dR [4] f1 fun k1 h1 => ?_
   refine dt 5 rfl b1 h1 (want_n rfl) (fun x hx => r_sub (z := (((nth (((foldS (clamp b) (max 0 (clamp fr)) (t, chk t) pre).1).set (xi) (⟨(nth ((foldS (clamp b) (max 0 (clamp fr)) (t, chk t) pre).1) xi).K, (((nth ((foldS (clamp b) (max 0 (clamp fr)) (t, chk t) pre).1) xi).N) + (clamp (b))), (nth ((foldS (clamp b) (max 0 (clamp fr)) (t, chk t) pre).1) xi).M, (nth ((foldS (clamp b) (max 0 (clamp fr)) (t, chk t) pre).1) xi).S⟩ : Nd)) xi).N) - ((xj : Nat) : Int))) (sy h1) h1 rfl rfl rfl rfl (by decide) (by omega) (by omega) (by omega) gt) j1 fun k1 f1 => ?_
   refine dR [6, 7, 8] f1 fun k1 h1 => ?_
   refine wpAnyH_done (by kernel_rfl) (v0 _ _ ?_) _
   refine xn i1 ?_
   rcases Decidable.em ((((nth (((foldS (clamp b) (max 0 (clamp fr)) (t, chk t) pre).1).set (xi) (⟨(nth ((foldS (clamp b) (max 0 (clamp fr)) (t, chk t) pre).1) xi).K, (((nth ((foldS (clamp b) (max 0 (clamp fr)) (t, chk t) pre).1) xi).N) + (clamp (b))), (nth ((foldS (clamp b) (max 0 (clamp fr)) (t, chk t) pre).1) xi).M, (nth ((foldS (clamp b) (max 0 (clamp fr)) (t, chk t) pre).1) xi).S⟩ : Nd)) xi).N) - ((xj : Nat) : Int)) < ((max 0 ((clamp (fr)))))) with i1 | i1
   ·
    have v0 := h1.setb (d := 55) (b := true) rfl (decide_eq_true i1)
    refine wpIn_cond_true (v0.ev rfl) ?_
    refine ci_region (by kernel_rfl) (out_block (out_block out_rPost)) ?_
    refine sto 2 v0 x0 fun k1 f1 j1 b1 => ?_
    refine wpList_nil ?_
    refine x_block_n <| x_block_n ?_
    have j1 : St w0 Z none_ f1 [.box i0 3 [.int .i64 ((clamp (b)))], .box d0 3 [.int .i64 ((max 0 ((clamp (fr)))))], .box k0 31 [.int .i64 30], .row Ao ((((foldS (clamp b) (max 0 (clamp fr)) (t, chk t) pre).1).set (xi) (⟨(nth ((foldS (clamp b) (max 0 (clamp fr)) (t, chk t) pre).1) xi).K, (((nth ((foldS (clamp b) (max 0 (clamp fr)) (t, chk t) pre).1) xi).N) + (clamp (b))), (nth ((foldS (clamp b) (max 0 (clamp fr)) (t, chk t) pre).1) xi).M, (nth ((foldS (clamp b) (max 0 (clamp fr)) (t, chk t) pre).1) xi).S⟩ : Nd)).length) co 30 4 (encNs (((foldS (clamp b) (max 0 (clamp fr)) (t, chk t) pre).1).set (xi) (⟨(nth ((foldS (clamp b) (max 0 (clamp fr)) (t, chk t) pre).1) xi).K, (((nth ((foldS (clamp b) (max 0 (clamp fr)) (t, chk t) pre).1) xi).N) + (clamp (b))), (nth ((foldS (clamp b) (max 0 (clamp fr)) (t, chk t) pre).1) xi).M, (nth ((foldS (clamp b) (max 0 (clamp fr)) (t, chk t) pre).1) xi).S⟩ : Nd))), .box o0 22 [.slice Ao (((foldS (clamp b) (max 0 (clamp fr)) (t, chk t) pre).1).length) co]] [dShapes, dRow 4 tA t.length tc (encNs t), dAg c0 b0, dBox q0 [.slice tA t.length tc], dAg u0 (imm Z w0 [.box i0 3 [.int .i64 ((clamp (b)))], .box d0 3 [.int .i64 ((max 0 ((clamp (fr)))))], .box k0 31 [.int .i64 (((foldS (clamp b) (max 0 (clamp fr)) (t, chk t) pre).2))], .row Ao (((foldS (clamp b) (max 0 (clamp fr)) (t, chk t) pre).1).length) co 30 4 (encNs ((foldS (clamp b) (max 0 (clamp fr)) (t, chk t) pre).1)), .box o0 22 [.slice Ao (((foldS (clamp b) (max 0 (clamp fr)) (t, chk t) pre).1).length) co]] u0), dAg u0 h0, dAg d1 f0, dAg c1 z0] := b1
    exact ⟨_, _, 4, j1, rfl, _, _, (by rw [foldS_snoc, step_yes (by omega) (by omega)]; simp only [List.length_set]; (repeat' split) <;> first | rfl | (exfalso; omega))⟩
   have j1 := h1.setb (d := 55) (b := false) rfl (decide_eq_false i1)
   refine wpIn_cond_false (j1.ev rfl) ?_
   refine wpIn_seq_k fun i1 h1 => ?_
   refine ci_region (by kernel_rfl) (out_then (out_block (out_block out_rPost))) ?_
   refine mv j1 fun i1 b1 => ?_
   refine r_nilCheckE sv b1 rfl rfl rfl (own_nds (t := ((foldS (clamp b) (max 0 (clamp fr)) (t, chk t) pre).1).set (xi) (⟨(nth ((foldS (clamp b) (max 0 (clamp fr)) (t, chk t) pre).1) xi).K, (((nth ((foldS (clamp b) (max 0 (clamp fr)) (t, chk t) pre).1) xi).N) + (clamp (b))), (nth ((foldS (clamp b) (max 0 (clamp fr)) (t, chk t) pre).1) xi).M, (nth ((foldS (clamp b) (max 0 (clamp fr)) (t, chk t) pre).1) xi).S⟩ : Nd)) (k := xi) (x0.res (i := 3) rfl) (by omega)).some_ (by decide) fun i1 j1 => ?_
   refine m_fieldE (j' := xi * 4 + 1) sv j1 rfl rfl rfl (own_nds (t := ((foldS (clamp b) (max 0 (clamp fr)) (t, chk t) pre).1).set (xi) (⟨(nth ((foldS (clamp b) (max 0 (clamp fr)) (t, chk t) pre).1) xi).K, (((nth ((foldS (clamp b) (max 0 (clamp fr)) (t, chk t) pre).1) xi).N) + (clamp (b))), (nth ((foldS (clamp b) (max 0 (clamp fr)) (t, chk t) pre).1) xi).M, (nth ((foldS (clamp b) (max 0 (clamp fr)) (t, chk t) pre).1) xi).S⟩ : Nd)) (k := xi) (x0.res (i := 3) rfl) (by omega)).some_ Tryz.underlying30 rfl sz3 rfl rfl (by decide) fun i1 b1 => ?_
   refine lde 1 (xi * 4) b1 (own_nds (t := ((foldS (clamp b) (max 0 (clamp fr)) (t, chk t) pre).1).set (xi) (⟨(nth ((foldS (clamp b) (max 0 (clamp fr)) (t, chk t) pre).1) xi).K, (((nth ((foldS (clamp b) (max 0 (clamp fr)) (t, chk t) pre).1) xi).N) + (clamp (b))), (nth ((foldS (clamp b) (max 0 (clamp fr)) (t, chk t) pre).1) xi).M, (nth ((foldS (clamp b) (max 0 (clamp fr)) (t, chk t) pre).1) xi).S⟩ : Nd)) (k := xi) (x0.res (i := 3) rfl) (by omega)) fun i1 j1 => ?_
   refine lR j1 fun i1 b1 => ?_
   refine wn h1 ?_
   rcases Decidable.em (99 < (((nth (((foldS (clamp b) (max 0 (clamp fr)) (t, chk t) pre).1).set (xi) (⟨(nth ((foldS (clamp b) (max 0 (clamp fr)) (t, chk t) pre).1) xi).K, (((nth ((foldS (clamp b) (max 0 (clamp fr)) (t, chk t) pre).1) xi).N) + (clamp (b))), (nth ((foldS (clamp b) (max 0 (clamp fr)) (t, chk t) pre).1) xi).M, (nth ((foldS (clamp b) (max 0 (clamp fr)) (t, chk t) pre).1) xi).S⟩ : Nd)) xi).N))) with h1 | h1
   ·
    have i1 := b1.setb (d := 64) (b := true) rfl (decide_eq_true h1)
    refine wpIn_cond_true (i1.ev rfl) ?_
    refine ci_region (by kernel_rfl) (out_block (out_block out_rPost)) ?_
    refine sto 2 i1 x0 fun j1 f1 k1 v0 => ?_
    refine wpList_nil ?_
    refine x_block_n <| x_block_n ?_
    have k1 : St w0 Z none_ f1 [.box i0 3 [.int .i64 ((clamp (b)))], .box d0 3 [.int .i64 ((max 0 ((clamp (fr)))))], .box k0 31 [.int .i64 2], .row Ao ((((foldS (clamp b) (max 0 (clamp fr)) (t, chk t) pre).1).set (xi) (⟨(nth ((foldS (clamp b) (max 0 (clamp fr)) (t, chk t) pre).1) xi).K, (((nth ((foldS (clamp b) (max 0 (clamp fr)) (t, chk t) pre).1) xi).N) + (clamp (b))), (nth ((foldS (clamp b) (max 0 (clamp fr)) (t, chk t) pre).1) xi).M, (nth ((foldS (clamp b) (max 0 (clamp fr)) (t, chk t) pre).1) xi).S⟩ : Nd)).length) co 30 4 (encNs (((foldS (clamp b) (max 0 (clamp fr)) (t, chk t) pre).1).set (xi) (⟨(nth ((foldS (clamp b) (max 0 (clamp fr)) (t, chk t) pre).1) xi).K, (((nth ((foldS (clamp b) (max 0 (clamp fr)) (t, chk t) pre).1) xi).N) + (clamp (b))), (nth ((foldS (clamp b) (max 0 (clamp fr)) (t, chk t) pre).1) xi).M, (nth ((foldS (clamp b) (max 0 (clamp fr)) (t, chk t) pre).1) xi).S⟩ : Nd))), .box o0 22 [.slice Ao (((foldS (clamp b) (max 0 (clamp fr)) (t, chk t) pre).1).length) co]] [dShapes, dRow 4 tA t.length tc (encNs t), dAg c0 b0, dBox q0 [.slice tA t.length tc], dAg u0 (imm Z w0 [.box i0 3 [.int .i64 ((clamp (b)))], .box d0 3 [.int .i64 ((max 0 ((clamp (fr)))))], .box k0 31 [.int .i64 (((foldS (clamp b) (max 0 (clamp fr)) (t, chk t) pre).2))], .row Ao (((foldS (clamp b) (max 0 (clamp fr)) (t, chk t) pre).1).length) co 30 4 (encNs ((foldS (clamp b) (max 0 (clamp fr)) (t, chk t) pre).1)), .box o0 22 [.slice Ao (((foldS (clamp b) (max 0 (clamp fr)) (t, chk t) pre).1).length) co]] u0), dAg u0 h0, dAg d1 f0, dAg c1 z0] := v0
    exact ⟨_, _, 4, k1, rfl, _, _, (by rw [foldS_snoc, step_yes (by omega) (by omega)]; simp only [List.length_set]; (repeat' split) <;> first | rfl | (exfalso; omega))⟩
   have k1 := b1.setb (d := 64) (b := false) rfl (decide_eq_false h1)
   refine wpIn_cond_false (k1.ev rfl) ?_
   refine wpIn_skip ?_
   refine x_block_n <| x_block_n ?_
   have k1 : St w0 Z none_ t0 [.box i0 3 [.int .i64 ((clamp (b)))], .box d0 3 [.int .i64 ((max 0 ((clamp (fr)))))], .box k0 31 [.int .i64 (((foldS (clamp b) (max 0 (clamp fr)) (t, chk t) pre).2))], .row Ao ((((foldS (clamp b) (max 0 (clamp fr)) (t, chk t) pre).1).set (xi) (⟨(nth ((foldS (clamp b) (max 0 (clamp fr)) (t, chk t) pre).1) xi).K, (((nth ((foldS (clamp b) (max 0 (clamp fr)) (t, chk t) pre).1) xi).N) + (clamp (b))), (nth ((foldS (clamp b) (max 0 (clamp fr)) (t, chk t) pre).1) xi).M, (nth ((foldS (clamp b) (max 0 (clamp fr)) (t, chk t) pre).1) xi).S⟩ : Nd)).length) co 30 4 (encNs (((foldS (clamp b) (max 0 (clamp fr)) (t, chk t) pre).1).set (xi) (⟨(nth ((foldS (clamp b) (max 0 (clamp fr)) (t, chk t) pre).1) xi).K, (((nth ((foldS (clamp b) (max 0 (clamp fr)) (t, chk t) pre).1) xi).N) + (clamp (b))), (nth ((foldS (clamp b) (max 0 (clamp fr)) (t, chk t) pre).1) xi).M, (nth ((foldS (clamp b) (max 0 (clamp fr)) (t, chk t) pre).1) xi).S⟩ : Nd))), .box o0 22 [.slice Ao (((foldS (clamp b) (max 0 (clamp fr)) (t, chk t) pre).1).length) co]] [dShapes, dRow 4 tA t.length tc (encNs t), dAg c0 b0, dBox q0 [.slice tA t.length tc], dAg u0 (imm Z w0 [.box i0 3 [.int .i64 ((clamp (b)))], .box d0 3 [.int .i64 ((max 0 ((clamp (fr)))))], .box k0 31 [.int .i64 (((foldS (clamp b) (max 0 (clamp fr)) (t, chk t) pre).2))], .row Ao (((foldS (clamp b) (max 0 (clamp fr)) (t, chk t) pre).1).length) co 30 4 (encNs ((foldS (clamp b) (max 0 (clamp fr)) (t, chk t) pre).1)), .box o0 22 [.slice Ao (((foldS (clamp b) (max 0 (clamp fr)) (t, chk t) pre).1).length) co]] u0), dAg u0 h0, dAg d1 f0, dAg c1 z0] := x0
   exact ⟨_, _, 4, k1, rfl, _, _, (by rw [foldS_snoc, step_yes (by omega) (by omega)]; simp only [List.length_set]; (repeat' split) <;> first | rfl | (exfalso; omega))⟩
  ·
   rintro k1 m1 x0 ⟨Ao, co, rfl⟩ t0
   have z0 := Reg.marked y0 k1
   refine x_block_n <| xn p0 <| wp_seq_k fun p0 y0 => wsc fun p0 c1 => lR z0 fun p0 f0 => ?_
   refine wn c1 ?_
   rcases Decidable.em (((((foldS (clamp b) (max 0 (clamp fr)) (t, chk t) (nodesL t)).2))) = 0) with c1 | c1
   ·
    refine wcfb f0 rfl (by rw [(decide_eq_true c1)]; rfl) fun p0 => ?_
    refine wp_skip <| xn y0 <| wsc fun y0 z0 => lR p0 fun y0 d1 => ?_
    refine wn z0 <| wp_ret ?_
    have z0 : St w0 Z none_ x0 [.box i0 3 [.int .i64 ((clamp (b)))], .box d0 3 [.int .i64 ((max 0 ((clamp (fr)))))], .box k0 31 [.int .i64 ((((foldS (clamp b) (max 0 (clamp fr)) (t, chk t) (nodesL t)).2)))], .row Ao (((foldS (clamp b) (max 0 (clamp fr)) (t, chk t) (nodesL t)).1).length) co 30 4 (encNs ((foldS (clamp b) (max 0 (clamp fr)) (t, chk t) (nodesL t)).1)), .box o0 22 [.slice Ao (((foldS (clamp b) (max 0 (clamp fr)) (t, chk t) (nodesL t)).1).length) co]] [dShapes, dRow 4 tA t.length tc (encNs t), dAg c0 b0, dBox q0 [.slice tA t.length tc], dMark w0.heap.size k1] := t0
    obtain ⟨y0, p0⟩ := z0.shut (i := 4) rfl [] (fun _ h => by cases h)
    refine m_mark (.inl rfl) d1 rfl y0 (res2 d1 rfl rfl rfl _) ?_
    have y0 : sfA t b fr = (foldS (clamp b) (max 0 (clamp fr)) (t, chk t) (nodesL t)).1 := (sfE_prog hc).2 (by rw [(sfE_prog hc).1]; assumption)
    rw [y0]
    refine ⟨Ao, co, ?_, p0.fr, (p0.res (i := 3) rfl), (p0.fresh (i := 3) rfl)⟩
    exact ret_t2 rfl (ret_i (by first | exact (sfE_prog hc).1.symm | (rw [(sfE_prog hc).1]; symm; assumption)))
   refine wctb f0 rfl (by rw [(decide_eq_false c1)]; rfl) fun p0 => ?_
   refine wp_seq_k fun c1 f0 => ?_
   obtain ⟨c1, y0, d1⟩ := t0.agree
   refine d_reg3 (n := 3) d1 5 (pc 2 0 pn) (pan_then (pan_then pan_bodyM)) fun y0 t0 z0 h0 u0 h1 => ?_
   refine dR [0, 1, 2] p0 fun h1 t0 => ?_
   refine wpAnyH_done (by kernel_rfl) (z0 _ _ ?_) _
   refine xn f0 <| wp_ret <| x_then_r ?_
   have f0 : St w0 Z none_ h0 [.box i0 3 [.int .i64 ((clamp (b)))], .box d0 3 [.int .i64 ((max 0 ((clamp (fr)))))], .box k0 31 [.int .i64 ((((foldS (clamp b) (max 0 (clamp fr)) (t, chk t) (nodesL t)).2)))], .row Ao (((foldS (clamp b) (max 0 (clamp fr)) (t, chk t) (nodesL t)).1).length) co 30 4 (encNs ((foldS (clamp b) (max 0 (clamp fr)) (t, chk t) (nodesL t)).1)), .box o0 22 [.slice Ao (((foldS (clamp b) (max 0 (clamp fr)) (t, chk t) (nodesL t)).1).length) co]] [dShapes, dRow 4 tA t.length tc (encNs t), dAg c0 b0, dBox q0 [.slice tA t.length tc], dMark w0.heap.size k1, dAg x0 c1] := u0
   obtain ⟨u0, h0⟩ := f0.shut (i := 4) rfl [] (fun _ h => by cases h)
   refine m_mark (.inl rfl) t0 rfl u0 (res2 t0 rfl rfl rfl _) ?_
   have u0 : sfA t b fr = [] := sf_bad (by rw [(sfE_prog hc).1]; assumption)
   rw [u0]
   refine ⟨none, 0, ?_, h0.fr, nil_row1, nil_row2⟩
   exact ret_t2 rfl (ret_i (by first | exact (sfE_prog hc).1.symm | (rw [(sfE_prog hc).1]; symm; assumption)))
  rintro _ _ _ _ _ _ h _
  exact h.elim
 refine wctb j0 rfl (by rw [(decide_eq_false n0)]; rfl) fun h0 => ?_
 refine wp_seq_k fun n0 j0 => ?_
 obtain ⟨n0, u0, t0⟩ := m0.agree
 refine d_reg3 (n := 3) t0 2 (pc 2 0 pn) (pan_then (pan_then pan_bodyM)) fun u0 n0 m0 f0 c1 x0 => ?_
 refine dR [0, 1, 2] h0 fun x0 f0 => ?_
 refine wpAnyH_done (by kernel_rfl) (m0 _ _ ?_) _
 refine xn j0 <| wp_ret <| x_then_r <| m_none (.inl rfl) f0 rfl (res2 f0 rfl rfl rfl _) ?_
 have f0 : sfA t b fr = [] := (sfE_no (by assumption)).2
 rw [f0]
 refine ⟨none, 0, ?_, c1.fr, nil_row1, nil_row2⟩
 exact ret_t2 rfl (ret_i (by exact (sfE_no (by assumption)).1.symm))
theorem backwardMk_calls (w0 : World) (Z : Nat → Prop) (hZ : ∀ k, Z k → k < w0.heap.size) (tA : Option Addr) (tc : Nat) (t : List Nd) (ht : (dRow 4 tA t.length tc (encNs t)).φ w0 Z) (hl : t.length ≤ 1000000 := by first | assumption | omega | (simp <;> omega)) :
    Calls Tryz.prog 163 [.slice tA t.length tc].toArray w0 (fun e w' => ∃ q0 : Nat, e = .returned (.func (.func 166) #[] #[.pointer (some ⟨q0, 0, none⟩)]) ∧ Fr none_ w0 w' ∧ (Res.box q0 22 [.slice tA t.length tc]).holds w' ∧ (∀ k, (Res.box q0 22 [.slice tA t.length tc]).blk = some k → w0.heap.size ≤ k)) := by
 have b0 := s0 (M := none_) hZ (zc ht zn)
 refine c_enter Tryz.func163 rfl Tryz.ntmps163 rfl fun c0 d0 => ?_
 refine wsc fun c0 f0 => bxx d0 b0 fun c0 h0 i0 j0 k0 => ?_
 refine aw j0 f0 fun h0 c0 => ?_
 refine wsc fun f0 h0 => r_makeFunc sv c0 rfl rfl rfl (by decide) fun f0 j0 => ?_
 refine aw j0 h0 fun f0 c0 => ?_
 refine wp_ret <| er1 c0 ?_
 refine ⟨i0, ?_, k0.fr, (k0.res (i := 0) rfl), (k0.fresh (i := 0) rfl)⟩
 exact cre rfl
theorem snodes_yields (w0 : World) (Z : Nat → Prop) (tg : Nat) (tA : Option Addr) (tc : Nat) (t : List Nd) (hShp : Shapes w0 Z) (ht : (dRow 4 tA t.length tc (encNs t)).φ w0 Z) (htb : (dBox tg [.slice tA t.length tc]).φ w0 Z) (hl : t.length ≤ 1000000) (hsm : sml t) (hc : chk t = 0) :
    Yields Tryz.prog 162 [.pointer (some ⟨tg, 0, none⟩)].toArray (fun x : Nd × Int => #[.agg (encN x.1).toArray, .int .i64 x.2]) (nodesN t) Z w0 := by
 refine yields_ofM Tryz.func162 rfl Tryz.ntmps162 rfl [dShapes, dRow 4 tA t.length tc (encNs t), dBox tg [.slice tA t.length tc]] (by
  intro d hd
  simp only [List.mem_cons, List.not_mem_nil, or_false] at hd
  rcases hd with rfl | rfl | rfl
  · exact hShp
  · exact ht
  · exact htb
  ) (fun lp jf jx w0 C0 M0 hY hds b0 c0 d0 => ?_)
 refine wsc fun b0 f0 => bxx c0 d0 fun b0 h0 i0 j0 k0 => ?_
 refine wn f0 <| wsc fun f0 h0 => bsl j0 k0 fun f0 b0 d0 c0 m0 => ?_
 refine alc c0 m0 fun b0 f0 k0 j0 n0 => ?_
 refine sto 2 j0 n0 fun f0 b0 m0 c0 => ?_
 refine wn h0 <| wsc fun h0 b0 => m_loadC sv m0 rfl rfl rfl (dbox_cell (c0.get (i := 3) rfl) rfl) Tryz.underlying22 rfl (by decide) fun h0 f0 => ?_
 have h0 := c0.nf
 refine kcl f0 ok163 (backwardMk_calls _ _ h0.il _ _ _ (h0.g 2)) ?_
 rintro f0 c0 ⟨m0, rfl, n0, j0, o0⟩
 have c0 := h0.callO n0 j0 o0
 refine ⟨_, rfl, fun o0 j0 => ?_⟩
 refine wn b0 <| wp_block ?_
 have b0 := c0.nf
 have c0 : Reg o0 50 [(1000000, .bool false), (2, .pointer (some ⟨i0, 0, none⟩)), (3, .pointer (some ⟨k0, 0, none⟩)), (13, .func (.func 166) #[] #[.pointer (some ⟨m0, 0, none⟩)])] := (j0.sub (rc2 (rc rfl (rc rfl rnl))))
 refine w_rangeP (jx := jx) (xs := bwL t) (encs := (fun x : Int × Nd => #[.int .i64 x.1, .agg (encN x.2).toArray])) (i := 0) (ds0 := [dShapes, dRow 4 tA t.length tc (encNs t), dBox tg [.slice tA t.length tc]]) (c0.ev rfl) ok166 (backward_pure m0 tA tc t (by omega)) (fun _ => rfl) b0 rfl hY.zd hds (fun (pre : List (Int × Nd)) (sb : List (Nd × Int)) (mm : List Res) => ∃ k : Nat, ∃ Ts : List T, ∃ us : List Int, ∃ Ao : Option Addr, ∃ co : Nat, mm = [.box i0 194 [.func (.yield lp) #[] #[]], .row Ao ((us).length) co 3 1 (encIs us), .box k0 57 [.slice Ao ((us).length) co], .box m0 22 [.slice tA t.length tc]] ∧ sb = (nodesN t).take k ∧ pre = (bwL t).take k ∧ (k ≤ t.length) ∧ (VInv t k Ts us)) (fun cc (sb : List (Nd × Int)) (mm : List Res) => cc = Code.ret ∧ sb <+: nodesN t) ⟨0, [treeOf t], [0], (some ⟨d0, 0, none⟩), 1, rfl, rfl, rfl, by omega, VInv.zero hc⟩ ?_ ?_ ?_ ?_
 ·
  rintro _ _ _ W ⟨k, Ts, us, Ao, co, rfl, rfl, rfl, hk, hv⟩ hm hd
  exact ⟨box_cell (hm _ (List.mem_of_getElem? (i := 3) rfl)) rfl, fun k hk => nds_elem (hd _ (List.mem_of_getElem? (i := 1) rfl)).2 hk⟩
 ·
  rintro b0 d0 j0 pre x sb o0 m1 hp ⟨k, Ts, us, Ao, co, rfl, rfl, rfl, hk, hv⟩ n0
  obtain ⟨hkl, rfl, hbs⟩ := bwL_next hk hp
  obtain ⟨hvr, hu0, hul, hub, hpre, Ts', hv'⟩ := hv.step hkl
  have hpn := nodesN_step (n := t.length - (k + 1)) hpre (by omega)
  refine (?_ : ∀ j0, Reg j0 50 [(15, .agg #[.int .i64 (((nth t (t.length - (k + 1))).K)), .int .i64 (((nth t (t.length - (k + 1))).N)), .int .i64 (((nth t (t.length - (k + 1))).M)), .string ((nth t (t.length - (k + 1))).S)]), (14, .int .i64 ((t.length - (k + 1) : Nat) : Int)), (1000000, .bool false), (2, .pointer (some ⟨i0, 0, none⟩)), (3, .pointer (some ⟨k0, 0, none⟩)), (13, .func (.func 166) #[] #[.pointer (some ⟨m0, 0, none⟩)])] → Code.wpIn (rI b0) 0 _ _ _ j0 o0) _ (Reg.round2n c0 (by decide) (by decide) rfl)
  intro j0 o0
  refine ci_region (by kernel_rfl) (out_then (fun _ _ h => h)) ?_
  refine alc o0 n0 fun j0 h0 f0 p0 q0 => ?_
  refine sto 4 p0 q0 fun h0 j0 o0 n0 => ?_
  refine wpList_nil ?_
  have j0 := n0.nf
  refine x_then_n ⟨_, _, j0, fun n0 h0 q0 => ?_⟩
  refine wpIn_block ?_
  refine wpIn_seq_k fun h0 j0 => ?_
  refine ci_region (by kernel_rfl) (out_then (out_block out_rPostP)) ?_
  refine lR o0 fun h0 p0 => ?_
  refine sbi ((((us).length : Nat) : Int) - 1) p0 fun h0 o0 => ?_
  refine ix (((us).length) - (1)) ((((us).length) - (1)) * 1) o0 (own_ints (t := us) (k := ((us).length) - (1)) (q0.res (i := 1) rfl) (by omega)).some_ fun h0 p0 => ?_
  refine lde 0 ((((us).length) - (1)) * 1) p0 (own_ints (t := us) (k := ((us).length) - (1)) (q0.res (i := 1) rfl) (by omega)) fun h0 o0 => ?_
  refine aw o0 j0 fun h0 p0 => ?_
  refine wpIn_seq_k fun j0 h0 => ?_
  refine ci_region (by kernel_rfl) (out_then (out_block out_rPostP)) ?_
  refine lR p0 fun j0 o0 => ?_
  refine sbi ((((us).length : Nat) : Int) - 1) o0 fun j0 p0 => ?_
  have j0 := own_cap (q0.res (i := 1) rfl)
  refine m_sliceP (q := ((us).length) - (1)) sv p0 rfl rfl rfl rfl (by omega) Tryz.underlying57 sz3 (by omega) (by decide) fun j0 o0 => ?_
  have j0 := q0.trim encI_len (i := 1) (L := us) rfl (((us).length) - (1)) (by omega)
  have q0 := Reg.cons o0 o0 (rs (i := 26) (n' := ((us).take (((us).length) - (1))).length) rfl (by rw [List.length_take]; omega))
  refine sto 2 q0 j0 fun o0 p0 s0 t0 => ?_
  refine wn h0 <| wpIn_seq_k fun h0 p0 => ?_
  refine wpIn_seq_k fun h0 o0 => ?_
  refine cyi_region ?_
  refine m_load (i := 0) (st_listInV rfl rfl) s0 t0 rfl rfl rfl rfl rfl Tryz.underlying194 rfl (by decide) fun h0 q0 => ?_
  refine m_loadN (i := 4) (vs := [.int .i64 (((nth t (t.length - (k + 1))).K)), .int .i64 (((nth t (t.length - (k + 1))).N)), .int .i64 (((nth t (t.length - (k + 1))).M)), .string ((nth t (t.length - (k + 1))).S)]) (st_listInV rfl rfl) q0 t0 rfl rfl rfl rfl rfl Tryz.underlying30 rfl sz30 (by decide) fun h0 s0 => ?_
  refine r_move (st_listInV rfl rfl) s0 rfl rfl rfl (by decide) fun h0 q0 => ?_
  have h0 := t0.nf
  refine y_callX (t := .tmp 27) (xs := [.tmp 28, .tmp 29]) (pre := (nodesN t).take k) (i := 0) (ds0 := [dShapes, dRow 4 tA t.length tc (encNs t), dBox tg [.slice tA t.length tc]]) hY rfl q0 h0 rfl rfl rfl rfl (by decide) ((((nth t (t.length - (k + 1))), ((nthI us (((us).length) - (1))))) : Nd × Int)) rfl rfl (nodesN_pre hpn) hds (fun t0 s0 j0 u0 => ?_) fun t0 s0 j0 u0 => ?_
  ·
   refine r_not (st_listInV rfl rfl) j0 rfl rfl rfl (by decide) fun s0 t0 => ?_
   refine li_nil ?_
   refine xn o0 <| wpIn_cond_false (t0.ev rfl) ?_
   refine wpIn_skip ?_
   refine xn p0 <| wpIn_seq_k fun p0 s0 => ?_
   refine ci_region (by kernel_rfl) (out_then (out_block out_rPostP)) ?_
   refine lR t0 fun p0 h0 => ?_
   have p0 := u0.nf
   refine kcl h0 ok89 (binds_calls _ _ p0.il (nth t (t.length - (k + 1))) (p0.g 1) (hs := (hsm _ (by omega)))) ?_
   rintro h0 t0 ⟨q0, v0, rfl, x0, y0⟩
   have t0 := p0.below x0.below
   have x0 := p0.dN t0 y0
   refine ⟨_, rfl, fun t0 y0 => ?_⟩
   refine lR y0 fun t0 p0 => ?_
   refine wn s0 <| wpIn_seq_k fun s0 t0 => ?_
   refine ci_region (by kernel_rfl) (out_then (out_block out_rPostP)) ?_
   refine lR p0 fun s0 y0 => ?_
   refine wn t0 <| wpIn_block ?_
   have t0 : (us).take (((us).length) - (1)) = us.take (us.length - 1) ++ ((bindsR (nth t (t.length - (k + 1)))).take 0).map (nthI us (us.length - 1) + ·) := by simp
   have s0 := x0
   try simp only [List.set_cons_zero, List.set_cons_succ, List.set_nil] at s0
   rw [t0] at s0
   refine wpIn_loop_ghost (fun gn ga gw => ∃ j : Nat, ∃ Al : Option Addr, ∃ cl : Nat, (Reg ga 50 [(3, .pointer (some ⟨k0, 0, none⟩)), (1000000, .bool false), (6, .int .i64 ((nthI us (((us).length) - (1))))), (37, .slice q0 ((bindsR (nth t (t.length - (k + 1)))).length) v0), (38, .int .i64 (((bindsR (nth t (t.length - (k + 1)))).length : Nat) : Int)), (39, .int .i64 ((j : Nat) : Int))]) ∧ (St w0 (oldB w0) M0 gw [.box i0 194 [.func (.yield lp) #[] #[]], .row Al ((us.take (us.length - 1) ++ ((bindsR (nth t (t.length - (k + 1)))).take j).map (nthI us (us.length - 1) + ·)).length) cl 3 1 (encIs (us.take (us.length - 1) ++ ((bindsR (nth t (t.length - (k + 1)))).take j).map (nthI us (us.length - 1) + ·))), .box k0 57 [.slice Al ((us.take (us.length - 1) ++ ((bindsR (nth t (t.length - (k + 1)))).take j).map (nthI us (us.length - 1) + ·)).length) cl], .box m0 22 [.slice tA t.length tc], .box f0 30 [.int .i64 (((nth t (t.length - (k + 1))).K)), .int .i64 (((nth t (t.length - (k + 1))).N)), .int .i64 (((nth t (t.length - (k + 1))).M)), .string ((nth t (t.length - (k + 1))).S)]] [dJX jf ((nodesN t).take k ++ [((((nth t (t.length - (k + 1))), ((nthI us (((us).length) - (1))))) : Nd × Int))]) C0 M0 w0.heap.size b0 d0 n0, dShapes, dRow 4 tA t.length tc (encNs t), dBox tg [.slice tA t.length tc], dRow 1 q0 ((bindsR (nth t (t.length - (k + 1)))).length) v0 (encIs (bindsR (nth t (t.length - (k + 1)))))]) ∧ (j ≤ (bindsR (nth t (t.length - (k + 1)))).length) ∧ ((bindsR (nth t (t.length - (k + 1)))).length - j) = gn) _ ⟨0, Ao, co, (y0.sub (rc4 (rc rfl (rc rfl rnl)))), s0, by omega, rfl⟩ ?_
   rintro s0 y0 v0 ⟨j, Al, cl, q0, n0, hj, f0⟩
   have hbl := bindsR_le (nth t (t.length - (k + 1)))
   have hbj := bindsR_nth (n := nth t (t.length - (k + 1))) j
   have hjl : (us.take (us.length - 1) ++ ((bindsR (nth t (t.length - (k + 1)))).take j).map (nthI us (us.length - 1) + ·)).length ≤ t.length + 8 := by have := bindsR_le (nth t (t.length - (k + 1))); rw [List.length_append, List.length_take, List.length_map, List.length_take]; omega
   refine wpIn_seq_k fun f0 v0 => ?_
   refine ci_region (by kernel_rfl) (out_then (out_then (out_block (out_block out_rPostP)))) ?_
   refine lR q0 fun f0 y0 => ?_
   refine wn v0 <| wpIn_seq_k fun v0 f0 => ?_
   rcases Decidable.em (((j : Nat) : Int) < (((bindsR (nth t (t.length - (k + 1)))).length : Nat) : Int)) with v0 | v0
   ·
    have q0 := y0.setb (d := 40) (b := true) rfl (decide_eq_true v0)
    refine wpIn_cond_true (q0.ev rfl) ?_
    refine wpIn_skip ?_
    refine xn f0 <| wpIn_seq_k fun f0 s0 => ?_
    refine wpIn_block ?_
    refine wpIn_seq_k fun f0 d0 => ?_
    refine ci_region (by kernel_rfl) (out_then (out_block (out_then (out_then (out_block (out_block out_rPostP)))))) ?_
    refine ix j (j * 1) q0 (ints_elem (t := bindsR (nth t (t.length - (k + 1)))) (k := j) (n0.row (i := 4) rfl).2 (by omega)).some_ fun f0 b0 => ?_
    refine lde 0 (j * 1) b0 (ints_elem (t := bindsR (nth t (t.length - (k + 1)))) (k := j) (n0.row (i := 4) rfl).2 (by omega)) fun f0 q0 => ?_
    refine aw q0 d0 fun f0 b0 => ?_
    refine ci_region (by kernel_rfl) (out_block (out_then (out_then (out_block (out_block out_rPostP))))) ?_
    refine lR b0 fun d0 f0 => ?_
    refine adi ((nthI us (((us).length) - (1))) + (nthI (bindsR (nth t (t.length - (k + 1)))) j)) f0 fun d0 b0 => ?_
    refine bsl b0 n0 fun d0 f0 q0 m0 k0 => ?_
    refine m_appendF (f := encI) (i := 1) (us.take (us.length - 1) ++ ((bindsR (nth t (t.length - (k + 1)))).take j).map (nthI us (us.length - 1) + ·)) ([((nthI us (((us).length) - (1))) + (nthI (bindsR (nth t (t.length - (k + 1)))) j))]) sv m0 k0 rfl rfl rfl rfl rfl encI_len (encI_one _) Tryz.underlying57 zi3 rfl rfl (own_lnews (f := encI) (k0.res (i := 5) rfl)) rfl (by (simp only [List.length_cons, List.length_nil]; omega)) (by decide) fun q0 f0 d0 b0 i0 t0 x0 => ?_
    have i0 : ((us.take (us.length - 1) ++ ((bindsR (nth t (t.length - (k + 1)))).take j).map (nthI us (us.length - 1) + ·)) ++ ([((nthI us (((us).length) - (1))) + (nthI (bindsR (nth t (t.length - (k + 1)))) j))]) : List Int).length = (us.take (us.length - 1) ++ ((bindsR (nth t (t.length - (k + 1)))).take j).map (nthI us (us.length - 1) + ·)).length + 1 := by (simp only [List.length_append, List.length_take, List.length_cons, List.length_nil]; done)
    have i0 := x0.erase 5
    refine sto 2 t0 i0 fun x0 f0 q0 k0 => ?_
    refine wpList_nil ?_
    refine x_block_n <| xn s0 <| ci_region (by kernel_rfl) (out_then (out_block (out_block out_rPostP))) ?_
    refine adi ((j + 1 : Nat) : Int) q0 fun s0 f0 => ?_
    refine mv f0 fun s0 q0 => ?_
    refine wpList_nil ?_
    have s0 : (us.take (us.length - 1) ++ ((bindsR (nth t (t.length - (k + 1)))).take j).map (nthI us (us.length - 1) + ·)) ++ ([((nthI us (((us).length) - (1))) + (nthI (bindsR (nth t (t.length - (k + 1)))) j))]) = us.take (us.length - 1) ++ ((bindsR (nth t (t.length - (k + 1)))).take (j + 1)).map (nthI us (us.length - 1) + ·) := by rw [map_step (by omega), ← List.append_assoc]
    have f0 := k0
    rw [s0] at f0
    exact ⟨_, by omega, j + 1, d0, b0, (q0.sub (rc4 (rc rfl (rc rfl rnl)))), f0, by omega, rfl⟩
   have f0 := y0.setb (d := 40) (b := false) rfl (decide_eq_false v0)
   refine wpIn_cond_false (f0.ev rfl) ?_
   refine wpIn_exit ?_
   refine x_then_e ?_
   refine x_then_e ?_
   refine x_block_eq ?_
   refine x_block_n ?_
   have f0 := n0.nf
   have n0 := f0.erase 4
   have f0 : us.take (us.length - 1) ++ ((bindsR (nth t (t.length - (k + 1)))).take j).map (nthI us (us.length - 1) + ·) = us.take (us.length - 1) ++ (bindsR (nth t (t.length - (k + 1)))).map (nthI us (us.length - 1) + ·) := by rw [show j = (bindsR (nth t (t.length - (k + 1)))).length by omega, List.take_length]
   have v0 := n0
   rw [f0] at v0
   exact ⟨_, _, _, v0, k + 1, Ts', _, _, _, rfl, hpn, hbs, by omega, hv'⟩
  refine r_not (st_listInV rfl rfl) j0 rfl rfl rfl (by decide) fun v0 f0 => ?_
  refine li_nil ?_
  refine xn o0 <| wpIn_cond_true (f0.ev rfl) ?_
  refine wpIn_ret ?_
  refine x_then_r <| x_block_r ?_
  have f0 := u0.nf
  exact ⟨_, _, _, f0, rfl, nodesN_pre hpn⟩
 ·
  rintro f0 u0 o0 sb m1 v0 hDn ⟨k, Ts, us, Ao, co, rfl, rfl, hpe, hk, hv⟩ j0
  have v0 := Reg.marked c0 u0
  have hkf := bwL_full hk hpe
  refine x_block_n ?_
  have u0 := j0.nf
  exact m_allX (.inr rfl) v0 rfl rfl u0 hDn (nodesN_all (hv.all (by omega)))
 rintro u0 v0 j0 cc sb m1 o0 hDn ⟨rfl, hsp⟩ f0
 have o0 := Reg.marked c0 v0
 refine wp_ret <| x_block_r ?_
 exact m_stopX (.inl rfl) o0 rfl rfl f0 hDn (hsp)
theorem snodesMk_calls (w0 : World) (Z : Nat → Prop) (hZ : ∀ k, Z k → k < w0.heap.size) (tA : Option Addr) (tc : Nat) (t : List Nd) (ht : (dRow 4 tA t.length tc (encNs t)).φ w0 Z) (hl : t.length ≤ 1000000 := by first | assumption | omega | (simp <;> omega)) :
    Calls Tryz.prog 155 [.slice tA t.length tc].toArray w0 (fun e w' => ∃ q0_0 : Nat, e = .returned (.func (.func 162) #[] #[.pointer (some ⟨q0_0, 0, none⟩)]) ∧ Fr none_ w0 w' ∧ (dBox q0_0 [.slice tA t.length tc]).φ w' (nxt Z w0 w')) := by
 have b0 := s0 (M := none_) hZ (zc ht zn)
 refine c_enter Tryz.func155 rfl Tryz.ntmps155 rfl fun c0 d0 => ?_
 refine wsc fun c0 f0 => bxx d0 b0 fun c0 h0 i0 j0 k0 => ?_
 refine aw j0 f0 fun h0 c0 => ?_
 refine wsc fun f0 h0 => r_makeFunc sv c0 rfl rfl rfl (by decide) fun f0 j0 => ?_
 refine aw j0 h0 fun f0 c0 => ?_
 refine wp_ret <| er1 c0 ?_
 obtain ⟨c0, h0⟩ := k0.box_data (i := 0) rfl (fun _ h => h)
 have k0 := c0.data (dBox i0 [.slice tA t.length tc]) h0
 refine ⟨i0, ?_, k0.fr, ((k0.get (i := 1) rfl).imp imm_nxt id)⟩
 exact cre rfl
theorem revN_calls (w0 : World) (Z : Nat → Prop) (hZ : ∀ k, Z k → k < w0.heap.size) (tA : Option Addr) (tc : Nat) (t : List Nd) (ht : (Res.row tA (t).length tc 30 4 (encNs t)).holds w0) (htz : ∀ k, rM tA k → ¬ Z k) (hl : t.length ≤ 1000000 := by first | assumption | omega | (simp <;> omega)) :
    Calls Tryz.prog 149 [.slice tA t.length tc].toArray w0 (fun e w' => e = .returned (.tuple #[]) ∧ Fr (rM tA) w0 w' ∧ (Res.row tA (t.reverse).length tc 30 4 (encNs t.reverse)).holds w') := by
 have hstart : ∀ k, Z k → imm Z w0 [.row tA ((t).length) tc 30 4 (encNs t)] w0 k ∧ w0.heap[k]? = w0.heap[k]? := fun k hk => imm_startR hZ htz hk
 have b0 : St w0 Z (rM tA) w0 [.row tA ((t).length) tc 30 4 (encNs t)] [] := St.startR w0 Z _ _ _ _ _ _ _ ht (by
  intro d hd
  cases hd
  )
 refine c_enter Tryz.func149 rfl Tryz.ntmps149 rfl fun c0 d0 => ?_
 refine wsc fun c0 f0 => lR d0 fun c0 h0 => ?_
 refine sbi (((t.length : Nat) : Int) - 1) h0 fun c0 d0 => ?_
 refine lR d0 fun c0 h0 => ?_
 refine wn f0 <| wp_block ?_
 refine wp_loop_ghost (fun gn ga gw => ∃ k : Nat, ∃ R : List Nd, (Reg ga 28 [(1000000, .bool false), (0, .slice tA t.length tc), (2, .int .i64 ((k : Nat) : Int)), (3, .int .i64 (((t.length : Nat) : Int) - ((k : Nat) : Int) - 1))]) ∧ (St w0 Z (rM tA) gw [.row tA ((R).length) tc 30 4 (encNs R)] []) ∧ (RevN t R k) ∧ (2 * k ≤ t.length + 1) ∧ (t.length - k) = gn) _ ⟨0, t, (h0.sub (rc2 (rc rfl (rc rfl rnl)))), b0, RevN.zero t, by omega, rfl⟩ ?_
 rintro h0 b0 f0 ⟨k, R, c0, d0, hr, hkn, i0⟩
 have hrl := hr.len
 refine wp_seq_k fun i0 b0 => wsc fun i0 h0 => lR c0 fun i0 j0 => ?_
 refine wn h0 ?_
 rcases Decidable.em (((k : Nat) : Int) < (((t.length : Nat) : Int) - ((k : Nat) : Int) - 1)) with h0 | h0
 ·
  refine wct j0 (decide_eq_true h0) fun i0 => ?_
  refine wp_skip <| xn b0 <| wp_seq_k fun b0 c0 => wp_block ?_
  obtain ⟨b0, k0, m0⟩ := d0.agree
  refine dl_region2 (S := (sW f0 b0 [(Res.row tA ((R).length) tc 30 4 (encNs R)).holds])) (n := 16) [13, 14, 15] mixed rfl m0 (pan_block (pan_then (pan_then (pan_block pan_body)))) fun k0 n0 o0 p0 q0 => ?_
  have p0 := sWI q0 0 (pr 0 pn)
  refine dtv 0 n0 i0 fun k0 m0 => ?_
  refine dtv 1 n0 m0 fun k0 i0 => ?_
  refine dtv 2 n0 i0 fun k0 m0 => ?_
  refine dtv 3 n0 m0 fun k0 i0 => ?_
  refine dtv 4 n0 i0 fun k0 m0 => ?_
  refine dtv 5 n0 m0 fun k0 i0 => ?_
  refine dta 6 rfl n0 i0 (want_n rfl) (fun x => m_index (i := (t.length) - (k + 1)) (j := ((t.length) - (k + 1)) * 4) (sy i0) i0 rfl rfl rfl rfl Tryz.underlying22 sz30 (by omega) (by omega) (own_nds (t := R) (k := (t.length) - (k + 1)) (q0.res (i := 0) rfl) (by omega)).some_ rfl (by decide) gt) fun k0 m0 => ?_
  refine dlt 7 rfl n0 m0 (want_n rfl) (fun x hx => m_loadEN (sy m0) m0 rfl rfl rfl (own_nds (t := R) (k := (t.length) - (k + 1)) (hx.r 0) (by omega)) Tryz.underlying30 rfl sz30 (by decide) gt) p0 fun k0 i0 => ?_
  refine dtv 8 n0 i0 fun k0 m0 => ?_
  refine dtv 9 n0 m0 fun k0 i0 => ?_
  refine dta 10 rfl n0 i0 (want_n rfl) (fun x => m_index (i := k) (j := k * 4) (sy i0) i0 rfl rfl rfl rfl Tryz.underlying22 sz30 (by omega) (by omega) (own_nds (t := R) (k := k) (q0.res (i := 0) rfl) (by omega)).some_ rfl (by decide) gt) fun k0 m0 => ?_
  refine dlt 11 rfl n0 m0 (want_n rfl) (fun x hx => m_loadEN (sy m0) m0 rfl rfl rfl (own_nds (t := R) (k := k) (hx.r 0) (by omega)) Tryz.underlying30 rfl sz30 (by decide) gt) p0 fun k0 i0 => ?_
  refine dta 12 rfl n0 i0 (want_n rfl) (fun x => m_index (i := k) (j := k * 4) (sy i0) i0 rfl rfl rfl rfl Tryz.underlying22 sz30 (by omega) (by omega) (own_nds (t := R) (k := k) (q0.res (i := 0) rfl) (by omega)).some_ rfl (by decide) gt) fun k0 m0 => ?_
  refine dl_one (i := 13) (by kernel_rfl) ?_
  refine m_storeE (f := encN) (i := 0) (k := k) (L := R) (z := (nth R ((t.length) - (k + 1)))) (st_op rfl (want_n rfl)) m0 q0 rfl rfl rfl rfl rfl rfl (by omega) encN_len (one1 (f := encN) encN_one) rfl sz30 fun k0 i0 p0 b0 => ?_
  have i0 : (R.set (k) (nth R ((t.length) - (k + 1)))).length = (R).length := by simp
  refine ⟨fun h => absurd h (by decide), ?_⟩
  refine dta 14 rfl n0 p0 (want_n rfl) (fun x => m_index (i := (t.length) - (k + 1)) (j := ((t.length) - (k + 1)) * 4) (sy p0) p0 rfl rfl rfl rfl Tryz.underlying22 sz30 (by omega) (by omega) (own_nds (t := R.set (k) (nth R ((t.length) - (k + 1)))) (k := (t.length) - (k + 1)) (b0.res (i := 0) rfl) (by omega)).some_ rfl (by decide) gt) fun i0 k0 => ?_
  refine dl_one (i := 15) (by kernel_rfl) ?_
  refine m_storeE (f := encN) (i := 0) (k := (t.length) - (k + 1)) (L := (R.set (k) (nth R ((t.length) - (k + 1))))) (z := (nth R k)) (st_op rfl (want_n rfl)) k0 b0 rfl rfl rfl rfl rfl rfl (by omega) encN_len (one1 (f := encN) encN_one) rfl sz30 fun i0 p0 n0 m0 => ?_
  have p0 : ((R.set (k) (nth R ((t.length) - (k + 1)))).set ((t.length) - (k + 1)) (nth R k)).length = (R.set (k) (nth R ((t.length) - (k + 1)))).length := by simp
  refine ⟨fun h => absurd h (by decide), ?_⟩
  refine dl_done (by kernel_rfl) (o0 _ _ ?_) _
  refine x_block_n <| xn c0 <| c_region ?_
  refine mv n0 fun c0 o0 => ?_
  refine adi ((k + 1 : Nat) : Int) o0 fun c0 n0 => ?_
  refine mv n0 fun c0 o0 => ?_
  refine sbi (((t.length : Nat) : Int) - ((k : Nat) : Int) - 2) o0 fun c0 n0 => ?_
  refine lR n0 fun c0 o0 => ?_
  refine wpList_nil ?_
  have c0 := m0.forget 0
  exact ⟨_, by omega, k + 1, (R.set (k) (nth R ((t.length) - (k + 1)))).set ((t.length) - (k + 1)) (nth R k), (o0.sub (rc2 (rc rfl (rc (ri rfl (by omega)) rnl)))), c0, RevN.step hr (by omega) (by omega) rfl rfl, by omega, rfl⟩
 refine wcf j0 (decide_eq_false h0) fun c0 => ?_
 refine wp_exit ?_
 refine x_then_e ?_
 refine x_then_e ?_
 refine x_block_eq ?_
 refine e_end0 c0 rfl rfl ?_
 have c0 : R = t.reverse := hr.done (by omega)
 have h0 := d0
 rw [c0] at h0
 refine ⟨?_, h0.fr, h0.res (i := 0) rfl⟩
 rfl
theorem instP_calls (w0 : World) (Z : Nat → Prop) (hZ : ∀ k, Z k → k < w0.heap.size) (v : Int) (u : Int) (psg : Nat) (psA : Option Addr) (psc : Nat) (ps : List Sl) (hps : (dRow 1 psA ps.length psc (encSs ps)).φ w0 Z) (hpss : (dAll ps).φ w0 Z) (hpsb : (dBox psg [.slice psA ps.length psc]).φ w0 Z) (hv : 0 ≤ v := by first | assumption | omega | (simp <;> omega)) (hl0 : ps.length ≤ 1000 := by first | assumption | omega | (simp <;> omega)) (hne : ∀ s ∈ ps, s.2.2 ≠ [] := by first | assumption | omega | (simp <;> omega)) :
    Calls Tryz.prog 139 [.int .i64 v, .int .i64 u, .pointer (some ⟨psg, 0, none⟩)].toArray w0 (fun e w' => ∃ (rA0 : Option Addr) (rc0 : Nat), e = .returned (.tuple #[.slice rA0 ((if v < ps.length then (nthS ps v.toNat).2.2 else [])).length rc0, .int .i64 ((if v < ps.length then u else ps.length))]) ∧ Fr none_ w0 w' ∧ (dRow 4 rA0 (((if v < ps.length then (nthS ps v.toNat).2.2 else [])).length) rc0 (encNs (if v < ps.length then (nthS ps v.toNat).2.2 else []))).φ w' (nxt Z w0 w') ∧ ((if v < ps.length then (nthS ps v.toNat).2.2 else []) = [] → rA0 = none)) := by
 have b0 := s0 (M := none_) hZ (zc hps (zc hpss (zc hpsb zn)))
 refine c_enter Tryz.func139 rfl Tryz.ntmps139 rfl fun c0 d0 => ?_
 refine wsc fun c0 f0 => lR d0 fun c0 h0 => ?_
 refine wn f0 <| wp_seq_k fun f0 c0 => wsc fun f0 d0 => mv h0 fun f0 i0 => ?_
 refine m_loadC sv i0 rfl rfl rfl (dbox_cell (b0.get (i := 2) rfl) rfl) Tryz.underlying37 rfl (by decide) fun f0 h0 => ?_
 refine lR h0 fun f0 i0 => ?_
 refine wn d0 ?_
 rcases Decidable.em ((v) < ((ps.length : Nat) : Int)) with d0 | d0
 ·
  refine wct i0 (decide_eq_true d0) fun f0 => ?_
  refine wsc fun h0 j0 => m_loadC sv f0 rfl rfl rfl (dbox_cell (b0.get (i := 2) rfl) rfl) Tryz.underlying37 rfl (by decide) fun h0 k0 => ?_
  refine mv k0 fun h0 f0 => ?_
  refine ix (((v)).toNat) ((((v)).toNat) * 1) f0 (ss_elem (t := ps) (k := ((v)).toNat) (b0.row (i := 0) rfl).2 (by omega)).some_ fun h0 k0 => ?_
  refine lde 0 ((((v)).toNat) * 1) k0 (ss_elem (t := ps) (k := ((v)).toNat) (b0.row (i := 0) rfl).2 (by omega)) fun h0 f0 => ?_
  have h0 := b0.el 1 (((v)).toNat)
  refine lR f0 fun k0 m0 => ?_
  refine wn j0 <| wp_ret <| x_then_r <| er2 m0 ?_
  have m0 : (if v < ps.length then (nthS ps v.toNat).2.2 else []) = (nthS ps (((v)).toNat)).2.2 := if_pos (by omega)
  rw [m0]
  refine ⟨((nthS ps (((v)).toNat)).1), ((nthS ps (((v)).toNat)).2.1), ?_, h0.fr, h0.rx 3, (fun h => absurd h (hne _ (nthS_mem (by omega))))⟩
  exact ret_t2 rfl (ret_i (by first | exact (if_pos (by omega)).symm | exact (if_neg (by omega)).symm))
 refine wcf i0 (decide_eq_false d0) fun h0 => ?_
 refine wp_skip <| xn c0 <| wp_seq_k fun c0 d0 => ?_
 obtain ⟨c0, i0, m0⟩ := b0.agree
 refine d_reg3 (n := 4) m0 3 pn (pan_then pan_body) fun c0 b0 j0 k0 f0 n0 => ?_
 refine dt 0 rfl b0 h0 (want_n rfl) (fun x hx => m_loadC (sy h0) h0 rfl rfl rfl (dbox_cell (sdat (i0 2 _ rfl) hx.ag) rfl) Tryz.underlying37 rfl (by decide) gt) n0 fun k0 c0 => ?_
 refine dR [1, 2, 3] c0 fun k0 n0 => ?_
 refine wpAnyH_done (by kernel_rfl) (j0 _ _ ?_) _
 refine xn d0 <| wp_ret <| er2 n0 ?_
 have n0 : (if v < ps.length then (nthS ps v.toNat).2.2 else []) = [] := if_neg (by omega)
 rw [n0]
 refine ⟨none, 0, ?_, f0.fr, ⟨Nat.le_refl _, RowI.nil _ _ _ _⟩, (fun _ => rfl)⟩
 exact ret_t2 rfl (ret_i (by first | exact (if_pos (by omega)).symm | exact (if_neg (by omega)).symm))
theorem put_calls (w0 : World) (Z : Nat → Prop) (hZ : ∀ k, Z k → k < w0.heap.size) (tA : Option Addr) (tc : Nat) (t : List Nd) (psg : Nat) (psA : Option Addr) (psc : Nat) (ps : List Sl) (hShp : Shapes w0 Z) (ht : (dRow 4 tA t.length tc (encNs t)).φ w0 Z) (hps : (dRow 1 psA ps.length psc (encSs ps)).φ w0 Z) (hpss : (dAll ps).φ w0 Z) (hpsb : (dBox psg [.slice psA ps.length psc]).φ w0 Z) (hsm : sml t := by first | assumption | omega | (simp <;> omega)) (hl : t.length ≤ 1000000 := by first | assumption | omega | (simp <;> omega)) (hc : chk t = 0 := by first | assumption | omega | (simp <;> omega)) (hok : oks (lsts ps) := by first | assumption | omega | (simp <;> omega)) (hls : ∀ x ∈ lsts ps, sml x := by first | assumption | omega | (simp <;> omega)) (hl0 : ps.length ≤ 1000 := by first | assumption | omega | (simp <;> omega)) :
    Calls Tryz.prog 138 [.slice tA t.length tc, .func (.func 139) #[] #[.pointer (some ⟨psg, 0, none⟩)]].toArray w0 (fun e w' => ∃ (rA0 : Option Addr) (rc0 : Nat), e = .returned (.tuple #[.slice rA0 (poA t 0 (lsts ps)).length rc0, .int .i64 (poE t 0 (lsts ps))]) ∧ Fr none_ w0 w' ∧ (dRow 4 rA0 ((poA t 0 (lsts ps)).length) rc0 (encNs (poA t 0 (lsts ps)))).φ w' (nxt Z w0 w')) := by
 have b0 := s0 (M := none_) hZ (zc (d := dShapes) hShp (zc ht (zc hps (zc hpss (zc hpsb zn)))))
 have hne : ∀ s ∈ ps, s.2.2 ≠ [] := fun s hs e => by have c0 := hok s.2.2 (List.mem_map_of_mem hs); rw [e] at c0; have := chk_pos c0; simp at this
 refine c_enterM Tryz.func138 rfl Tryz.ntmps138 rfl fun c0 d0 => ?_
 refine wsc fun c0 f0 => bxx d0 b0 fun c0 h0 i0 j0 k0 => ?_
 refine alc j0 k0 fun h0 c0 d0 b0 m0 => ?_
 refine alc b0 m0 fun c0 h0 k0 j0 n0 => ?_
 refine wn f0 <| wsc fun f0 h0 => alc j0 n0 fun f0 c0 m0 b0 o0 => ?_
 refine wn h0 <| wp_seq_k fun h0 c0 => wsc fun h0 f0 => mv b0 fun h0 n0 => ?_
 have h0 := o0.nf
 refine kcl n0 ok155 (snodesMk_calls _ _ h0.il _ _ _ (h0.g 1)) ?_
 rintro n0 o0 ⟨b0, rfl, j0, p0⟩
 have o0 := h0.below j0.below
 have j0 := h0.dN o0 p0
 refine ⟨_, rfl, fun o0 p0 => ?_⟩
 refine wn f0 <| wp_block ?_
 have f0 := j0.nf
 have j0 := f0.nilrow 30 4
 have f0 := j0.nf
 have j0 : Reg o0 82 [(1000000, .bool false), (3, .pointer (some ⟨i0, 0, none⟩)), (4, .pointer (some ⟨d0, 0, none⟩)), (5, .pointer (some ⟨k0, 0, none⟩)), (6, .pointer (some ⟨m0, 0, none⟩)), (15, .func (.func 162) #[] #[.pointer (some ⟨b0, 0, none⟩)])] := (p0.sub (rc4 (rc rfl (rc rfl rnl))))
 refine w_range (xs := nodesN t) (encs := (fun x : Nd × Int => #[.agg (encN x.1).toArray, .int .i64 x.2])) (j0.ev rfl) ok162 (snodes_yields _ (imm Z w0 [.box i0 159 [.func (.func 139) #[] #[.pointer (some ⟨psg, 0, none⟩)]], .box d0 22 [.slice none 0 0], .box k0 31 [.int .i64 0], .box m0 22 [.slice none 0 0], .row none 0 0 30 4 (encNs ([]))] _) b0 tA tc t (f0.get (i := 0) rfl) (f0.get (i := 1) rfl) (f0.get (i := 5) rfl) (by assumption) (by assumption) (by assumption)) (fun _ => rfl) f0 (fun _ h => h) (fun (pre : List (Nd × Int)) (mm : List Res) => ∃ O : List Nd, ∃ ev : Int, ∃ Ao : Option Addr, ∃ co : Nat, mm = [.box i0 159 [.func (.func 139) #[] #[.pointer (some ⟨psg, 0, none⟩)]], .box d0 22 [.slice none 0 0], .box k0 31 [.int .i64 (ev)], .box m0 22 [.slice Ao ((O).length) co], .row Ao ((O).length) co 30 4 (encNs O)] ∧ (OutI (lsts ps) pre O) ∧ (ev = 0)) (fun cc (pre : List (Nd × Int)) (mm : List Res) => cc = Code.ret ∧ ∃ O : List Nd, ∃ ev : Int, ∃ Ao : Option Addr, ∃ co : Nat, mm = [.box i0 159 [.func (.func 139) #[] #[.pointer (some ⟨psg, 0, none⟩)]], .box d0 22 [.slice none 0 0], .box k0 31 [.int .i64 (ev)], .box m0 22 [.slice Ao ((O).length) co], .row Ao ((O).length) co 30 4 (encNs O)] ∧ (poE t 0 (lsts ps) = ev ∧ poA t 0 (lsts ps) = [])) ⟨[], 0, none, 0, rfl, OutI.nil _, rfl⟩ ?_ ?_ ?_
 ·
  rintro f0 pre x p0 m1 hp ⟨O, ev, Ao, co, rfl, hO, hev⟩ o0
  obtain ⟨hxm, hxr, hx0, hx1, hx2, hx3, hx4⟩ := nodesN_at hc hp
  have hOl := hO.len hc (List.IsPrefix.trans (List.prefix_append _ _) hp)
  have hct := (treeOf_ok hc).2.2.2
  refine (?_ : ∀ h0, Reg h0 82 [(17, .int .i64 (x.2)), (16, .agg #[.int .i64 (x.1.K), .int .i64 (x.1.N), .int .i64 (x.1.M), .string x.1.S]), (1000000, .bool false), (3, .pointer (some ⟨i0, 0, none⟩)), (4, .pointer (some ⟨d0, 0, none⟩)), (5, .pointer (some ⟨k0, 0, none⟩)), (6, .pointer (some ⟨m0, 0, none⟩)), (15, .func (.func 162) #[] #[.pointer (some ⟨b0, 0, none⟩)])] → Code.wpIn (rI f0) 0 _ _ _ h0 p0) _ (Reg.round2n j0 (by decide) (by decide) rfl)
  intro h0 p0
  refine wpIn_seq_k fun h0 f0 => ?_
  refine ci_region (by kernel_rfl) (out_then (out_then (fun _ _ h => h))) ?_
  refine alc p0 o0 fun h0 b0 n0 q0 t0 => ?_
  refine sto 5 q0 t0 fun n0 b0 h0 p0 => ?_
  refine wn f0 <| ci_region (by kernel_rfl) (out_then (fun _ _ h => h)) ?_
  refine asg h0 fun f0 b0 => ?_
  refine wpList_nil ?_
  have f0 := p0.nf
  refine x_then_n ⟨_, _, 6, f0, rfl, (fun _ h => False.elim h), (fun _ h => False.elim h), fun p0 h0 => ?_⟩
  refine wpIn_block ?_
  refine wpIn_seq_k fun p0 f0 => ?_
  refine wpIn_seq_k fun p0 n0 => ?_
  refine ci_region (by kernel_rfl) (out_then (out_then (out_block out_rPost))) ?_
  refine lR b0 fun p0 t0 => ?_
  refine lOr 4 (decide ((x.1.N) < (x.2))) t0 fun p0 b0 => ?_
  refine wn n0 ?_
  rcases Bool.eq_false_or_eq_true (((!(decide ((x.1.K) = 0))) || (decide ((x.1.N) < (x.2))))) with n0 | n0
  ·
   have p0 := n0
   try simp only [bz] at p0
   have p0 := b0.setb (d := 26) (b := true) rfl n0
   refine wpIn_cond_true (p0.ev rfl) ?_
   refine wpIn_seq_k fun t0 q0 => ?_
   refine ci_region (by kernel_rfl) (out_then (out_then (out_block out_rPost))) ?_
   refine lR p0 fun t0 o0 => ?_
   refine bsl o0 h0 fun t0 p0 u0 v0 x0 => ?_
   refine m_appendF (f := encN) (i := 4) (O) ([x.1]) sv v0 x0 rfl rfl rfl rfl rfl encN_len (encN_one _) Tryz.underlying22 zi30 rfl rfl (own_lnews (f := encN) (x0.res (i := 6) rfl)) rfl (by (simp only [List.length_cons, List.length_nil]; omega)) (by decide) fun u0 p0 t0 o0 y0 z0 b1 => ?_
   have y0 : (O ++ ([x.1]) : List Nd).length = (O).length + 1 := by (simp only [List.length_append, List.length_take, List.length_cons, List.length_nil]; done)
   have y0 := b1.erase 6
   refine sto 3 z0 y0 fun b1 o0 t0 p0 => ?_
   refine wn q0 <| wpIn_exit ?_
   refine x_then_e ?_
   refine x_block_eq ?_
   have q0 := p0.nf
   have p0 := q0.erase 5
   exact ⟨_, _, 6, p0, rfl, O ++ ([x.1]), _, _, _, rfl, hO.step (x := x) (re_keep (by omega)).1 (re_keep (by omega)).2 (.inr rfl), hev⟩
  have p0 := or_fl n0
  have q0 := not_f p0
  have p0 := of_decide_eq_true q0
  have p0 := or_fr n0
  have q0 := of_decide_eq_false p0
  have q0 := b0.setb (d := 26) (b := false) rfl n0
  refine wpIn_cond_false (q0.ev rfl) ?_
  refine wpIn_skip ?_
  refine xn f0 <| wpIn_seq_k fun f0 n0 => ?_
  refine ci_region (by kernel_rfl) (out_then (out_block out_rPost)) ?_
  refine lR q0 fun f0 b0 => ?_
  refine sbi (x.1.N - x.2) b0 fun f0 q0 => ?_
  refine mv q0 fun f0 b0 => ?_
  have f0 := h0.nf
  refine k_callV (xs := [.tmp 36, .tmp 37]) se b0 rfl rfl rfl rfl (by decide) ok139 (instP_calls _ _ f0.il (x.1.N - x.2) (x.2) psg psA psc ps (f0.g 2) (f0.g 3) (f0.g 4) (hv := (by omega)) (hl0 := hl0) (hne := hne)) ?_
  rintro b0 h0 ⟨q0, p0, rfl, t0, o0, b1⟩
  have p0 := f0.below t0.below
  have t0 := f0.dN p0 o0
  refine ⟨_, rfl, fun p0 o0 => ?_⟩
  refine lR o0 fun p0 f0 => ?_
  refine wn n0 <| wpIn_seq_k fun n0 p0 => ?_
  refine wpIn_seq_k fun n0 o0 => ?_
  refine ci_region (by kernel_rfl) (out_then (out_then (out_block out_rPost))) ?_
  refine mv f0 fun n0 h0 => ?_
  refine r_eqlNil sv h0 rfl rfl rfl rfl Tryz.underlying22 (by decide) fun n0 f0 => ?_
  refine wn o0 ?_
  rcases Bool.eq_false_or_eq_true (Option.isNone q0) with o0 | o0
  ·
   have hz : (if x.1.N - x.2 < (ps.length : Int) then (nthS ps (x.1.N - x.2).toNat).2.2 else []).length = 0 := nil_len (t0.get (i := 7) rfl) o0
   have hvl : ¬ x.1.N - x.2 < (ps.length : Int) := fun q => by rw [if_pos q] at hz; have := hne _ (nthS_mem (t := ps) (k := (x.1.N - x.2).toNat) (by omega)); exact this (List.eq_nil_of_length_eq_zero hz)
   have hlv : (if x.1.N - x.2 < (ps.length : Int) then x.2 else (ps.length : Int)) = ps.length := if_neg hvl
   have q0 := f0.setb (d := 42) (b := true) rfl o0
   refine wpIn_cond_true (q0.ev rfl) ?_
   refine wpIn_seq_k fun n0 h0 => ?_
   refine ci_region (by kernel_rfl) (out_then (out_then (out_block out_rPost))) ?_
   refine lR q0 fun n0 b0 => ?_
   refine sbi (x.1.N - (if (x.1.N - x.2) < ps.length then (x.2) else ps.length)) b0 fun n0 q0 => ?_
   refine lR q0 fun n0 b0 => ?_
   refine sto 5 b0 t0 fun n0 q0 y0 z0 => ?_
   refine wn h0 <| wpIn_seq_k fun h0 q0 => ?_
   refine ci_region (by kernel_rfl) (out_then (out_then (out_block out_rPost))) ?_
   refine lR y0 fun h0 n0 => ?_
   refine bsl n0 z0 fun h0 y0 b0 u0 x0 => ?_
   refine m_appendF (f := encN) (i := 4) (O) ([(⟨(x.1.K), (x.1.N - (if (x.1.N - x.2) < ps.length then (x.2) else ps.length)), (x.1.M), x.1.S⟩ : Nd)]) sv u0 x0 rfl rfl rfl rfl rfl encN_len (encN_one _) Tryz.underlying22 zi30 rfl rfl (own_lnews (f := encN) (x0.res (i := 6) rfl)) rfl (by (simp only [List.length_cons, List.length_nil]; omega)) (by decide) fun b0 y0 h0 n0 z0 v0 c1 => ?_
   have z0 : (O ++ ([(⟨(x.1.K), (x.1.N - (if (x.1.N - x.2) < ps.length then (x.2) else ps.length)), (x.1.M), x.1.S⟩ : Nd)]) : List Nd).length = (O).length + 1 := by (simp only [List.length_append, List.length_take, List.length_cons, List.length_nil]; done)
   have z0 := c1.erase 6
   refine sto 3 v0 z0 fun c1 n0 h0 y0 => ?_
   refine wn q0 <| wpIn_exit ?_
   refine x_then_e ?_
   refine x_block_eq ?_
   have q0 := y0.nf
   have y0 := q0.erase 5
   exact ⟨_, _, 6, y0, rfl, O ++ ([(⟨(x.1.K), (x.1.N - (if (x.1.N - x.2) < ps.length then (x.2) else ps.length)), (x.1.M), x.1.S⟩ : Nd)]), _, _, _, rfl, hO.step (x := x) (re_out hxr (by omega) (by omega) (by rw [lsts_len]; exact hvl)).1 (by rw [show reL (lsts ps) x = _ from (re_out hxr (by omega) (by omega) (by rw [lsts_len]; exact hvl)).2, lsts_len, hlv]; rfl) (.inr rfl), hev⟩
  have hvl : x.1.N - x.2 < (ps.length : Int) := Decidable.byContradiction fun q => by have := b1 (if_neg q); rw [this] at o0; cases o0
  have hle : (if x.1.N - x.2 < (ps.length : Int) then (nthS ps (x.1.N - x.2).toNat).2.2 else []) = nthL (lsts ps) (x.1.N - x.2).toNat := by rw [if_pos hvl, lsts_nth]
  have hlu : (if x.1.N - x.2 < (ps.length : Int) then x.2 else (ps.length : Int)) = x.2 := if_pos hvl
  have hlm : nthL (lsts ps) (x.1.N - x.2).toNat ∈ lsts ps := nthL_mem (by rw [lsts_len]; omega)
  have hlc := hok _ hlm
  have hlb := (treeOf_ok hlc).2.2.2
  obtain ⟨hre, hrl⟩ := re_in (l := lsts ps) (n := x.1) (u := x.2) (by omega) (by omega) (by rw [lsts_len]; omega)
  have b1 := f0.setb (d := 42) (b := false) rfl o0
  refine wpIn_cond_false (b1.ev rfl) ?_
  refine wpIn_skip ?_
  refine xn p0 <| wpIn_seq_k fun p0 o0 => ?_
  refine ci_region (by kernel_rfl) (out_then (out_block out_rPost)) ?_
  refine lR b1 fun p0 f0 => ?_
  have p0 := t0.nf
  refine kcl f0 ok137 (shift_calls _ _ p0.il _ _ (if (x.1.N - x.2) < ps.length then (nthS ps (x.1.N - x.2).toNat).2.2 else []) ((if (x.1.N - x.2) < ps.length then (x.2) else ps.length)) 0 (p0.g 0) (p0.g 7) (hsm := (by rw [hle]; exact hls _ hlm)) (hl := (by rw [hle]; omega))) ?_
  rintro f0 t0 ⟨b1, y0, rfl, q0, h0, n0⟩
  have t0 := p0.callO q0 h0 n0
  refine ⟨_, rfl, fun n0 h0 => ?_⟩
  refine lR h0 fun n0 q0 => ?_
  refine wn o0 <| wpIn_seq_k fun o0 n0 => ?_
  refine wpIn_seq_k fun o0 h0 => ?_
  refine ci_region (by kernel_rfl) (out_then (out_then (out_block out_rPost))) ?_
  refine lR q0 fun o0 p0 => ?_
  refine wn h0 ?_
  rcases Decidable.em (((sfE (if (x.1.N - x.2) < ps.length then (nthS ps (x.1.N - x.2).toNat).2.2 else []) ((if (x.1.N - x.2) < ps.length then (x.2) else ps.length)) 0)) = 0) with h0 | h0
  ·
   have hse0 := h0
   rw [hle, hlu] at hse0
   have hre0 : reE (lsts ps) x = 0 := (show reE (lsts ps) x = _ from hre).trans hse0
   have hSe := hrl hse0
   have hSe2 : (sfA (if x.1.N - x.2 < (ps.length : Int) then (nthS ps (x.1.N - x.2).toNat).2.2 else []) (if x.1.N - x.2 < (ps.length : Int) then x.2 else (ps.length : Int)) 0).reverse = (reL (lsts ps) x).reverse := by rw [show reL (lsts ps) x = _ from hSe, hle, hlu]
   have hsl : (sfA (if x.1.N - x.2 < (ps.length : Int) then (nthS ps (x.1.N - x.2).toNat).2.2 else []) (if x.1.N - x.2 < (ps.length : Int) then x.2 else (ps.length : Int)) 0).reverse.length ≤ 4000 := by rw [List.length_reverse]; exact Nat.le_trans (sfA_len _ _ _) (by rw [hle]; omega)
   have hsl2 : (sfA (if x.1.N - x.2 < (ps.length : Int) then (nthS ps (x.1.N - x.2).toNat).2.2 else []) (if x.1.N - x.2 < (ps.length : Int) then x.2 else (ps.length : Int)) 0).length ≤ 4000 := Nat.le_trans (sfA_len _ _ _) (by rw [hle]; omega)
   have o0 := p0.setb (d := 59) (b := false) rfl (by rw [(decide_eq_true h0)]; rfl)
   refine wpIn_cond_false (o0.ev rfl) ?_
   refine wpIn_skip ?_
   refine xn n0 <| wpIn_seq_k fun n0 q0 => ?_
   refine ci_region (by kernel_rfl) (out_then (out_block out_rPost)) ?_
   refine mv o0 fun n0 f0 => ?_
   have n0 := t0.nf
   refine kcl f0 ok149 (revN_calls _ _ n0.il b1 y0 (sfA (if (x.1.N - x.2) < ps.length then (nthS ps (x.1.N - x.2).toNat).2.2 else []) ((if (x.1.N - x.2) < ps.length then (x.2) else ps.length)) 0) (n0.z 6) (imm_row (i := 6) rfl)) ?_
   rintro f0 y0 ⟨rfl, b1, o0⟩
   have y0 := n0.callR (i := 6) rfl b1 o0
   refine ⟨_, rfl, fun o0 b1 => ?_⟩
   have o0 := (Reg.cons b1 (Reg.cons b1 (Reg.cons b1 b1 (rs (i := 56) (n' := ((sfA (if (x.1.N - x.2) < ps.length then (nthS ps (x.1.N - x.2).toNat).2.2 else []) ((if (x.1.N - x.2) < ps.length then (x.2) else ps.length)) 0).reverse).length) rfl (by simp only [List.length_reverse, List.set_cons_succ, List.set_cons_zero]))) (rs (i := 11) (n' := ((sfA (if (x.1.N - x.2) < ps.length then (nthS ps (x.1.N - x.2).toNat).2.2 else []) ((if (x.1.N - x.2) < ps.length then (x.2) else ps.length)) 0).reverse).length) rfl (by simp only [List.length_reverse, List.set_cons_succ, List.set_cons_zero]))) (rs (i := 61) (n' := ((sfA (if (x.1.N - x.2) < ps.length then (nthS ps (x.1.N - x.2).toNat).2.2 else []) ((if (x.1.N - x.2) < ps.length then (x.2) else ps.length)) 0).reverse).length) rfl (by simp only [List.length_reverse, List.set_cons_succ, List.set_cons_zero])))
   refine wn q0 <| wpIn_seq_k fun q0 b1 => ?_
   refine ci_region (by kernel_rfl) (out_then (out_block out_rPost)) ?_
   refine lR o0 fun q0 n0 => ?_
   refine m_appendF (f := encN) (i := 4) (O) ((sfA (if (x.1.N - x.2) < ps.length then (nthS ps (x.1.N - x.2).toNat).2.2 else []) ((if (x.1.N - x.2) < ps.length then (x.2) else ps.length)) 0).reverse) sv n0 y0 rfl rfl rfl rfl rfl encN_len (encN_one _) Tryz.underlying22 zi30 rfl rfl (own_lnews (f := encN) (y0.res (i := 6) rfl)) rfl (by omega) (by decide) fun q0 o0 f0 c1 z0 v0 b0 => ?_
   have z0 : (O ++ ((sfA (if (x.1.N - x.2) < ps.length then (nthS ps (x.1.N - x.2).toNat).2.2 else []) ((if (x.1.N - x.2) < ps.length then (x.2) else ps.length)) 0).reverse) : List Nd).length = (O).length + ((sfA (if (x.1.N - x.2) < ps.length then (nthS ps (x.1.N - x.2).toNat).2.2 else []) ((if (x.1.N - x.2) < ps.length then (x.2) else ps.length)) 0).reverse).length := by (simp only [List.length_append, List.length_take, List.length_cons, List.length_nil]; done)
   have z0 := b0.erase 6
   refine sto 3 v0 z0 fun b0 c1 f0 o0 => ?_
   refine wn b1 <| wpIn_seq_k fun b1 c1 => ?_
   refine ci_region (by kernel_rfl) (out_then (out_block out_rPost)) ?_
   refine lR f0 fun b1 b0 => ?_
   refine wn c1 ?_
   rcases Decidable.em (16000 < (((O ++ ((sfA (if (x.1.N - x.2) < ps.length then (nthS ps (x.1.N - x.2).toNat).2.2 else []) ((if (x.1.N - x.2) < ps.length then (x.2) else ps.length)) 0).reverse) : List Nd).length : Nat) : Int)) with c1 | c1
   ·
    have b1 := b0.setb (d := 68) (b := true) rfl (decide_eq_true c1)
    refine wpIn_cond_true (b1.ev rfl) ?_
    refine ci_region (by kernel_rfl) (out_block out_rPost) ?_
    refine lR b1 fun f0 z0 => ?_
    have f0 := own_cap (o0.res (i := 4) rfl)
    refine m_sliceP (q := 8000) sv z0 rfl rfl rfl rfl (by omega) Tryz.underlying22 sz30 (by omega) (by decide) fun f0 b1 => ?_
    have f0 := o0.trim encN_len (i := 4) (L := (O ++ ((sfA (if (x.1.N - x.2) < ps.length then (nthS ps (x.1.N - x.2).toNat).2.2 else []) ((if (x.1.N - x.2) < ps.length then (x.2) else ps.length)) 0).reverse))) rfl (8000) (by omega)
    have z0 := Reg.cons b1 b1 (rs (i := 70) (n' := ((O ++ ((sfA (if (x.1.N - x.2) < ps.length then (nthS ps (x.1.N - x.2).toNat).2.2 else []) ((if (x.1.N - x.2) < ps.length then (x.2) else ps.length)) 0).reverse)).take (8000)).length) rfl (by rw [List.length_take]; omega))
    refine sto 3 z0 f0 fun b1 v0 q0 n0 => ?_
    refine wpList_nil ?_
    refine x_block_n ?_
    have q0 := n0.nf
    have n0 := q0.erase 5
    exact ⟨_, _, 6, n0, rfl, (O ++ ((sfA (if (x.1.N - x.2) < ps.length then (nthS ps (x.1.N - x.2).toNat).2.2 else []) ((if (x.1.N - x.2) < ps.length then (x.2) else ps.length)) 0).reverse)).take (8000), _, _, _, rfl, hO.cut (x := x) hre0 hSe2 (by omega), hev⟩
   have n0 := b0.setb (d := 68) (b := false) rfl (decide_eq_false c1)
   refine wpIn_cond_false (n0.ev rfl) ?_
   refine wpIn_skip ?_
   refine x_block_n ?_
   have n0 := o0.nf
   have o0 := n0.erase 5
   exact ⟨_, _, 6, o0, rfl, O ++ ((sfA (if (x.1.N - x.2) < ps.length then (nthS ps (x.1.N - x.2).toNat).2.2 else []) ((if (x.1.N - x.2) < ps.length then (x.2) else ps.length)) 0).reverse), _, _, _, rfl, hO.step (x := x) hre0 hSe2 (.inl (by omega)), hev⟩
  have hpe0 := h0
  rw [hle, hlu] at hpe0
  have hpe := poE_err hc hok hxm (fun q => hpe0 ((show reE (lsts ps) x = _ from hre).symm.trans q))
  have o0 : sfE (if x.1.N - x.2 < (ps.length : Int) then (nthS ps (x.1.N - x.2).toNat).2.2 else []) (if x.1.N - x.2 < (ps.length : Int) then x.2 else (ps.length : Int)) 0 = 2 := by rw [hle, hlu]; exact (sf_max hlc hx0).resolve_left hpe0
  have n0 := p0.setb (d := 59) (b := true) rfl (by rw [(decide_eq_false h0)]; rfl)
  refine wpIn_cond_true (n0.ev rfl) ?_
  refine wpIn_seq_k fun h0 p0 => ?_
  refine ci_region (by kernel_rfl) (out_then (out_then (out_block out_rPost))) ?_
  refine mv n0 fun h0 c1 => ?_
  refine sto 1 c1 t0 fun h0 n0 b0 q0 => ?_
  refine sto 2 b0 q0 fun n0 h0 c1 t0 => ?_
  refine wn p0 <| wpIn_ret ?_
  refine x_then_r <| x_block_r ?_
  have p0 := t0.nf
  have t0 := p0.erase 6
  have p0 := t0.erase 5
  exact ⟨_, _, 6, p0, rfl, rfl, _, _, _, _, rfl, ⟨hpe.1.trans o0.symm, hpe.2⟩⟩
 ·
  rintro p0 m1 o0 ⟨O, ev, Ao, co, rfl, hO, hev⟩ t0
  have o0 := Reg.marked j0 p0
  have hOl := hO.len hc (List.prefix_refl _)
  refine x_block_n <| xn c0 <| wp_seq_k fun c0 p0 => wsc fun c0 c1 => lR o0 fun c0 h0 => ?_
  refine wn c1 ?_
  rcases Decidable.em (4000 < (((O).length : Nat) : Int)) with c1 | c1
  ·
   obtain ⟨c0, o0⟩ := put_big hc hO (by omega)
   refine wct h0 (decide_eq_true c1) fun n0 => ?_
   refine wsc fun q0 b0 => sto 1 n0 t0 fun q0 v0 b1 z0 => ?_
   refine sto 2 b1 z0 fun v0 q0 n0 f0 => ?_
   refine wn b0 <| wp_ret <| x_then_r ?_
   have b0 := f0.nf
   obtain ⟨f0, q0⟩ := b0.shut (i := 6) rfl [] (fun _ h => by cases h)
   refine m_mark (.inl rfl) n0 rfl f0 (res2c n0 rfl rfl rfl (box_cell (q0.res (i := 1) rfl) rfl) (box_cell (q0.res (i := 2) rfl) rfl) Tryz.underlying22 rfl Tryz.underlying31 rfl) ?_
   have f0 : poA t 0 (lsts ps) = [] := by exact o0
   rw [f0]
   refine ⟨none, 0, ?_, q0.fr, ⟨Nat.le_refl _, RowI.nil _ _ _ _⟩⟩
   exact ret_t2 rfl (ret_i (by exact c0.symm))
  obtain ⟨c0, o0⟩ := put_all hc hO (by omega)
  have hrs := put_sml hc hsm hls hO (by omega)
  have hrl : O.reverse.length = O.length := List.length_reverse
  refine wcf h0 (decide_eq_false c1) fun q0 => ?_
  refine wp_skip <| xn p0 <| wsc fun p0 c1 => lR q0 fun p0 h0 => ?_
  have p0 := t0.nf
  refine kcl h0 ok149 (revN_calls _ _ p0.il Ao co O (p0.z 4) (imm_row (i := 4) rfl)) ?_
  rintro h0 t0 ⟨rfl, q0, f0⟩
  have t0 := p0.callR (i := 4) rfl q0 f0
  have f0 := St.cast (m' := [.box i0 159 [.func (.func 139) #[] #[.pointer (some ⟨psg, 0, none⟩)]], .box d0 22 [.slice none 0 0], .box k0 31 [.int .i64 (ev)], .box m0 22 [.slice Ao ((O.reverse).length) co], .row Ao ((O.reverse).length) co 30 4 (encNs O.reverse)]) t0 (by simp only [List.length_reverse, List.set_cons_succ, List.set_cons_zero])
  refine ⟨_, rfl, fun t0 m0 => ?_⟩
  have t0 := (Reg.cons m0 (Reg.cons m0 m0 (rs (i := 71) (n' := (O.reverse).length) rfl (by simp only [List.length_reverse, List.set_cons_succ, List.set_cons_zero]))) (rs (i := 74) (n' := (O.reverse).length) rfl (by simp only [List.length_reverse, List.set_cons_succ, List.set_cons_zero])))
  refine wn c1 <| wp_seq_k fun c1 m0 => wsc fun c1 k0 => lR t0 fun c1 d0 => ?_
  have c1 := f0.nf
  have f0 := c1.pub 4 (dRow 4 Ao ((O.reverse).length) co (encNs O.reverse))
  refine kcl d0 ok20 (check_calls _ _ f0.il _ _ _ (f0.g 0) (f0.g 7) (hsm := hrs) (hl := (by omega))) ?_
  rintro d0 c1 ⟨rfl, t0⟩
  have c1 := f0.below t0.below
  refine ⟨_, rfl, fun t0 f0 => ?_⟩
  refine aw f0 k0 fun t0 d0 => ?_
  refine wsc fun k0 t0 => lR d0 fun k0 f0 => ?_
  refine wn t0 ?_
  rcases Decidable.em (((chk O.reverse)) = 0) with t0 | t0
  ·
   refine wcfb f0 rfl (by rw [(decide_eq_true t0)]; rfl) fun k0 => ?_
   refine wp_skip <| xn m0 <| wsc fun m0 d0 => lR k0 fun m0 i0 => ?_
   refine sto 1 i0 c1 fun m0 k0 q0 p0 => ?_
   refine sto 2 q0 p0 fun k0 m0 i0 h0 => ?_
   refine wn d0 <| wp_ret ?_
   have d0 := h0.nf
   obtain ⟨h0, m0⟩ := d0.shut (i := 6) rfl [dRow 4 Ao ((O.reverse).length) co (encNs O.reverse)] (by intro d hd; simp only [List.mem_cons, List.not_mem_nil, or_false] at hd; rcases hd with rfl; exact ⟨List.mem_of_getElem? (i := 7) rfl, datC_row (by decide) _ _ _ _⟩)
   refine m_mark (.inl rfl) i0 rfl h0 (res2c i0 rfl rfl rfl (box_cell (m0.res (i := 1) rfl) rfl) (box_cell (m0.res (i := 2) rfl) rfl) Tryz.underlying22 rfl Tryz.underlying31 rfl) ?_
   have h0 : poA t 0 (lsts ps) = O.reverse := by rw [o0, if_pos (by assumption)]
   rw [h0]
   refine ⟨Ao, co, ?_, m0.fr, m0.rx 0⟩
   exact ret_t2 rfl (ret_i (by first | exact c0.symm | (rw [c0]; symm; assumption)))
  refine wctb f0 rfl (by rw [(decide_eq_false t0)]; rfl) fun m0 => ?_
  refine wsc fun t0 f0 => mv m0 fun t0 h0 => ?_
  refine sto 1 h0 c1 fun t0 m0 i0 d0 => ?_
  refine sto 2 i0 d0 fun m0 t0 h0 c1 => ?_
  refine wn f0 <| wp_ret <| x_then_r ?_
  have f0 := c1.nf
  obtain ⟨c1, t0⟩ := f0.shut (i := 6) rfl [] (fun _ h => by cases h)
  refine m_mark (.inl rfl) h0 rfl c1 (res2c h0 rfl rfl rfl (box_cell (t0.res (i := 1) rfl) rfl) (box_cell (t0.res (i := 2) rfl) rfl) Tryz.underlying22 rfl Tryz.underlying31 rfl) ?_
  have c1 : poA t 0 (lsts ps) = [] := by (rw [o0, if_neg (by assumption)])
  rw [c1]
  refine ⟨none, 0, ?_, t0.fr, ⟨Nat.le_refl _, RowI.nil _ _ _ _⟩⟩
  exact ret_t2 rfl (ret_i (by first | exact c0.symm | (rw [c0]; symm; assumption)))
 rintro c0 cc pre m1 t0 hpre ⟨rfl, O, ev, Ao, co, rfl, hev⟩ c1
 have t0 := Reg.marked j0 c0
 refine wp_ret <| x_block_r <| x_then_r ?_
 have c0 := c1.nf
 obtain ⟨c1, j0⟩ := c0.shut (i := 6) rfl [] (fun _ h => by cases h)
 refine m_mark (.inl rfl) t0 rfl c1 (res2c t0 rfl rfl rfl (box_cell (j0.res (i := 1) rfl) rfl) (box_cell (j0.res (i := 2) rfl) rfl) Tryz.underlying22 rfl Tryz.underlying31 rfl) ?_
 have c1 : poA t 0 (lsts ps) = [] := by exact hev.2
 rw [c1]
 refine ⟨none, 0, ?_, j0.fr, ⟨Nat.le_refl _, RowI.nil _ _ _ _⟩⟩
 exact ret_t2 rfl (ret_i (by exact hev.1.symm))
theorem inst_calls (w0 : World) (Z : Nat → Prop) (hZ : ∀ k, Z k → k < w0.heap.size) (tA : Option Addr) (tc : Nat) (t : List Nd) (psA : Option Addr) (psc : Nat) (ps : List Sl) (hShp : Shapes w0 Z) (ht : (dRow 4 tA t.length tc (encNs t)).φ w0 Z) (hps : (dRow 1 psA ps.length psc (encSs ps)).φ w0 Z) (hpss : (dAll ps).φ w0 Z) (hsm : sml t := by first | assumption | omega | (simp <;> omega)) (hl : t.length ≤ 1000000 := by first | assumption | omega | (simp <;> omega)) (hls : ∀ x ∈ lsts ps, sml x := by first | assumption | omega | (simp <;> omega)) (hlb : ∀ x ∈ lsts ps, x.length ≤ 1000000 := by first | assumption | omega | (simp <;> omega)) (hl0 : ps.length ≤ 1000 := by first | assumption | omega | (simp <;> omega)) :
    Calls Tryz.prog 110 [.slice tA t.length tc, .slice psA ps.length psc].toArray w0 (fun e w' => ∃ (rA0 : Option Addr) (rc0 : Nat), e = .returned (.tuple #[.slice rA0 (inA t (lsts ps)).length rc0, .int .i64 (inE t (lsts ps))]) ∧ Fr none_ w0 w' ∧ (dRow 4 rA0 ((inA t (lsts ps)).length) rc0 (encNs (inA t (lsts ps)))).φ w' (nxt Z w0 w')) := by
 have b0 := s0 (M := none_) hZ (zc (d := dShapes) hShp (zc ht (zc hps (zc hpss zn))))
 refine c_enter Tryz.func110 rfl Tryz.ntmps110 rfl fun c0 d0 => ?_
 refine wsc fun c0 f0 => bxx d0 b0 fun c0 h0 i0 j0 k0 => ?_
 refine lR j0 fun h0 c0 => ?_
 refine wn f0 <| wp_seq_k fun f0 h0 => wsc fun f0 j0 => mv c0 fun f0 d0 => ?_
 have f0 := k0.data (dAll [((tA, tc, t) : Sl)]) (all_cons (k0.get (i := 1) rfl) all_nil)
 refine bsl d0 f0 fun k0 c0 b0 m0 n0 => ?_
 refine lR m0 fun b0 c0 => ?_
 refine m_appendF (f := encS) (i := 1) ([((tA, tc, t) : Sl)]) (ps) sv c0 n0 rfl rfl rfl rfl rfl encS_len (encS_one _) Tryz.underlying37 zi22 rfl rfl (n0.row (i := 2) rfl).2.news rfl (by (simp only [List.length_cons, List.length_nil]; omega)) (by decide) fun b0 m0 k0 f0 d0 o0 p0 => ?_
 have d0 : (([((tA, tc, t) : Sl)]) ++ ps : List Sl).length = ps.length + 1 := by (simp only [List.length_append, List.length_take, List.length_cons, List.length_nil]; omega)
 have d0 := p0.data (dAll (([((tA, tc, t) : Sl)]) ++ ps)) (all_append (p0.get (i := 4) rfl) (p0.get (i := 3) rfl))
 refine lR o0 fun p0 m0 => ?_
 refine wn j0 <| wp_block ?_
 refine wp_loop_ghost (fun gn ga gw => ∃ k : Nat, (Reg ga 29 [(1000000, .bool false), (0, .slice tA t.length tc), (3, .pointer (some ⟨i0, 0, none⟩)), (12, .slice k0 ((([((tA, tc, t) : Sl)]) ++ ps : List Sl).length) f0), (13, .int .i64 (((([((tA, tc, t) : Sl)]) ++ ps : List Sl).length : Nat) : Int)), (14, .int .i64 ((k : Nat) : Int))]) ∧ (St w0 Z none_ gw [.box i0 37 [.slice psA ps.length psc], .row k0 ((([((tA, tc, t) : Sl)]) ++ ps : List Sl).length) f0 22 1 (encSs (([((tA, tc, t) : Sl)]) ++ ps))] [dShapes, dRow 4 tA t.length tc (encNs t), dRow 1 psA ps.length psc (encSs ps), dAll ps, dAll [((tA, tc, t) : Sl)], dAll (([((tA, tc, t) : Sl)]) ++ ps)]) ∧ (k ≤ ps.length + 1) ∧ (∀ i, i < k → chk (nthL (t :: lsts ps) i) = 0) ∧ (ps.length + 1 - k) = gn) _ ⟨0, (m0.sub (rc4 (rc rfl (rc rfl rnl)))), d0, by omega, (fun _ h => by omega), rfl⟩ ?_
 rintro m0 d0 f0 ⟨k, k0, j0, hk, hck, p0⟩
 have hLl : (t :: lsts ps).length = ps.length + 1 := by rw [List.length_cons, lsts_len]
 refine wsc fun p0 f0 => lR k0 fun p0 d0 => ?_
 refine wn f0 <| wp_seq_k fun f0 p0 => ?_
 rcases Decidable.em (((k : Nat) : Int) < (((([((tA, tc, t) : Sl)]) ++ ps : List Sl).length : Nat) : Int)) with f0 | f0
 ·
  have hne : (nthS ([((tA, tc, t) : Sl)] ++ ps) k).2.2 = nthL (t :: lsts ps) k := nthS_cons _ _ _
  have hmm : nthL (t :: lsts ps) k = t ∨ nthL (t :: lsts ps) k ∈ lsts ps := by have := nthL_mem (l := t :: lsts ps) (k := k) (by rw [List.length_cons, lsts_len]; omega); simpa using this
  have hms : sml (nthS ([((tA, tc, t) : Sl)] ++ ps) k).2.2 := by rw [hne]; rcases hmm with q | q; rw [q]; exact hsm; exact hls _ q
  have hml : (nthS ([((tA, tc, t) : Sl)] ++ ps) k).2.2.length ≤ 1000000 := by rw [hne]; rcases hmm with q | q; rw [q]; exact hl; exact hlb _ q
  refine wct d0 (decide_eq_true f0) fun k0 => ?_
  refine wp_skip <| xn p0 <| wp_seq_k fun p0 m0 => wp_block ?_
  refine wsc fun p0 o0 => ix k (k * 1) k0 (own_ss (t := ([((tA, tc, t) : Sl)]) ++ ps) (k := k) (j0.res (i := 1) rfl) (by omega)).some_ fun p0 b0 => ?_
  refine lde 0 (k * 1) b0 (own_ss (t := ([((tA, tc, t) : Sl)]) ++ ps) (k := k) (j0.res (i := 1) rfl) (by omega)) fun p0 k0 => ?_
  have p0 := j0.el 5 k
  refine aw k0 o0 fun b0 c0 => ?_
  refine wsc fun o0 b0 => mv c0 fun o0 k0 => ?_
  have o0 := p0.nf
  refine kcl k0 ok20 (check_calls _ _ o0.il _ _ ((nthS (([((tA, tc, t) : Sl)]) ++ ps) k).2.2) (o0.g 0) (o0.g 6)) ?_
  rintro k0 p0 ⟨rfl, c0⟩
  have p0 := o0.below c0.below
  refine ⟨_, rfl, fun c0 o0 => ?_⟩
  refine aw o0 b0 fun c0 k0 => ?_
  refine wsc fun b0 c0 => lR k0 fun b0 o0 => ?_
  refine wn c0 ?_
  rcases Decidable.em (((chk ((nthS (([((tA, tc, t) : Sl)]) ++ ps) k).2.2))) = 0) with c0 | c0
  ·
   refine wcfb o0 rfl (by rw [(decide_eq_true c0)]; rfl) fun b0 => ?_
   refine wp_skip <| x_block_n <| xn m0 <| c_region ?_
   refine adi ((k + 1 : Nat) : Int) b0 fun m0 k0 => ?_
   refine mv k0 fun m0 b0 => ?_
   refine wpList_nil ?_
   have m0 := p0.forget 6
   exact ⟨_, by omega, k + 1, (b0.sub (rc4 (rc rfl (rc rfl rnl)))), m0, by omega, hyp_step hck (by rw [← hne]; assumption), rfl⟩
  refine wctb o0 rfl (by rw [(decide_eq_false c0)]; rfl) fun m0 => ?_
  refine wsc fun c0 o0 => lR m0 fun c0 b0 => ?_
  refine wn o0 <| wp_ret <| x_block_r <| x_then_r <| x_then_r <| x_block_r <| x_then_r <| er2 b0 ?_
  have b0 : inA t (lsts ps) = [] := (in_err (by rw [ckE_at hck (by rw [List.length_cons, lsts_len]; omega) (by rw [← hne]; assumption), ← hne]; assumption)).2
  rw [b0]
  refine ⟨none, 0, ?_, p0.fr, ⟨Nat.le_refl _, RowI.nil _ _ _ _⟩⟩
  exact ret_t2 rfl (ret_i (by (rw [(in_err (by rw [ckE_at hck (by rw [List.length_cons, lsts_len]; omega) (by rw [← hne]; assumption), ← hne]; assumption)).1, ckE_at hck (by rw [List.length_cons, lsts_len]; omega) (by rw [← hne]; assumption), hne]; done)))
 obtain ⟨hca, hco⟩ := ckE_all hck (by rw [List.length_cons, lsts_len]; omega)
 have hct : chk t = 0 := hco t (by simp)
 have hol : oks (lsts ps) := fun p hp => hco p (by simp [hp])
 refine wcf d0 (decide_eq_false f0) fun p0 => ?_
 refine wp_exit ?_
 refine x_then_e ?_
 refine x_then_e ?_
 refine x_block_eq ?_
 refine xn h0 <| wsc fun h0 f0 => mv p0 fun h0 d0 => ?_
 refine r_makeFunc sv d0 rfl rfl rfl (by decide) fun h0 p0 => ?_
 have h0 := j0.nf
 obtain ⟨j0, d0⟩ := h0.box_data (i := 0) rfl (fun _ h => h)
 have h0 := j0.data (dBox i0 [.slice psA ps.length psc]) d0
 refine kcl p0 ok138 (put_calls _ _ h0.il _ _ _ i0 psA psc ps (h0.g 0) (h0.g 1) (h0.g 2) (h0.g 3) (h0.g 6) (hsm := hsm) (hl := hl) (hc := hct) (hok := hol) (hls := hls) (hl0 := hl0)) ?_
 rintro p0 i0 ⟨d0, j0, rfl, b0, o0⟩
 have i0 := h0.below b0.below
 have b0 := h0.dN i0 o0
 refine ⟨_, rfl, fun i0 o0 => ?_⟩
 refine lR o0 fun i0 h0 => ?_
 refine wn f0 <| wp_ret <| er2 h0 ?_
 have h0 : inA t (lsts ps) = poA t 0 (lsts ps) := (in_ok hca).2
 rw [h0]
 refine ⟨d0, j0, ?_, b0.fr, b0.rx 7⟩
 exact ret_t2 rfl (ret_i (by exact (in_ok hca).1.symm))
theorem done_calls (w0 : World) (Z : Nat → Prop) (hZ : ∀ k, Z k → k < w0.heap.size) (mg : Nat) (mt : TypeId) (me : Int) (mr : List Value) (tA : Option Addr) (tc : Nat) (t : List Nd) (hShp : Shapes w0 Z) (hm : (Res.box mg mt (.int .i64 me :: mr)).holds w0) (hmz : ¬ Z mg) (ht : (dRow 4 tA t.length tc (encNs t)).φ w0 Z) (hsm : sml t := by first | assumption | omega | (simp <;> omega)) (hl : t.length ≤ 1000000 := by first | assumption | omega | (simp <;> omega)) :
    Calls Tryz.prog 22 [.pointer (some ⟨mg, 0, none⟩), .slice tA t.length tc].toArray w0 (fun e w' => ∃ (rA0 : Option Addr) (rc0 : Nat), e = .returned (.tuple #[.slice rA0 ((if (if me = 0 then chk t else me) = 0 then t else [])).length rc0, .int .i64 ((if me = 0 then chk t else me))]) ∧ Fr (· = mg) w0 w' ∧ (Res.box mg mt (.int .i64 (if me = 0 then chk t else me) :: mr)).holds w' ∧ (dRow 4 rA0 (((if (if me = 0 then chk t else me) = 0 then t else [])).length) rc0 (encNs (if (if me = 0 then chk t else me) = 0 then t else []))).φ w' (nxt Z w0 w')) := by
 have b0 := sM hm hmz hZ (zc (d := dShapes) hShp (zc ht zn))
 refine c_enter Tryz.func22 rfl Tryz.ntmps22 rfl fun c0 d0 => ?_
 refine wsc fun c0 f0 => lR d0 fun c0 h0 => ?_
 refine wn f0 <| c_join (fun ga gw => Reg ga 26 [(0, .pointer (some ⟨mg, 0, none⟩)), (1, .slice tA t.length tc), (4, .slice none 0 0), (5, .int .i64 0), (1000000, .bool false)] ∧ St w0 Z (· = mg) gw [.box mg mt (.int .i64 ((if ((me) = 0) then ((chk t)) else (me))) :: mr)] [dShapes, dRow 4 tA t.length tc (encNs t)]) ?_ ?_
 ·
  refine wsc fun f0 c0 => lR h0 fun f0 d0 => ?_
  refine wn c0 ?_
  rcases Decidable.em ((me) = 0) with c0 | c0
  ·
   refine wct d0 (decide_eq_true c0) fun f0 => ?_
   refine c_region ?_
   refine lR f0 fun h0 i0 => ?_
   have h0 := b0.nf
   refine kcl i0 ok20 (check_calls _ _ h0.il _ _ _ (h0.g 0) (h0.g 1)) ?_
   rintro i0 f0 ⟨rfl, j0⟩
   have f0 := h0.below j0.below
   refine ⟨_, rfl, fun j0 h0 => ?_⟩
   refine lR h0 fun j0 i0 => ?_
   refine sto 0 i0 f0 fun j0 h0 k0 m0 => ?_
   refine wpList_nil ?_
   have hSj := m0
   exact x_then_n ⟨(k0.sub (rc4 (rc rfl rnl))), by rw [(show (((if ((me) = 0) then ((chk t)) else (me))) : Int) = ((chk t)) by (simp only [decide_eq_true c0, if_pos c0, bl]; done))]; exact hSj⟩
  refine wcf d0 (decide_eq_false c0) fun k0 => ?_
  refine wp_skip ?_
  have hSj := b0
  exact x_then_n ⟨(k0.sub (rc4 (rc rfl rnl))), by rw [(show (((if ((me) = 0) then ((chk t)) else (me))) : Int) = (me) by (simp only [decide_eq_false c0, if_neg c0, bl]; done))]; exact hSj⟩
 rintro k0 c0 ⟨b0, d0⟩
 refine wp_seq_k fun c0 k0 => wsc fun c0 m0 => lR b0 fun c0 h0 => ?_
 refine wn m0 ?_
 rcases Decidable.em (((if ((me) = 0) then ((chk t)) else (me))) = 0) with m0 | m0
 ·
  refine wcfb h0 rfl (by rw [(decide_eq_true m0)]; rfl) fun c0 => ?_
  refine wp_skip <| xn k0 <| wsc fun k0 b0 => lR c0 fun k0 j0 => ?_
  refine wn b0 <| wp_ret <| er2 j0 ?_
  have j0 : (if (if me = 0 then chk t else me) = 0 then t else []) = t := by simp [m0]
  rw [j0]
  refine ⟨tA, tc, ?_, d0.fr, (by rw [show (if me = 0 then chk t else me : Int) = ((if ((me) = 0) then ((chk t)) else (me))) by (simp [m0]; done)]; exact d0.res (i := 0) rfl), d0.rx 1⟩
  exact ret_t2 rfl (ret_i (by (simp [m0]; done)))
 refine wctb h0 rfl (by rw [(decide_eq_false m0)]; rfl) fun j0 => ?_
 refine wp_seq_k fun h0 b0 => ?_
 obtain ⟨h0, k0, c0⟩ := d0.agree
 refine d_reg3 (n := 6) c0 2 (pc 0 0 pn) (pan_then (pan_then pan_body)) fun k0 h0 d0 i0 f0 n0 => ?_
 refine dR [0, 1, 2, 3, 4, 5] j0 fun n0 i0 => ?_
 refine wpAnyH_done (by kernel_rfl) (d0 _ _ ?_) _
 refine xn b0 <| wp_ret <| x_then_r <| er2 i0 ?_
 have i0 : (if (if me = 0 then chk t else me) = 0 then t else []) = [] := by simp [m0]
 rw [i0]
 refine ⟨none, 0, ?_, f0.fr, (by rw [show (if me = 0 then chk t else me : Int) = ((if ((me) = 0) then ((chk t)) else (me))) by (simp [m0]; done)]; exact f0.res (i := 0) rfl), ⟨Nat.le_refl _, RowI.nil _ _ _ _⟩⟩
 exact ret_t2 rfl (ret_i (by (simp [m0]; done)))
theorem node_calls (w0 : World) (Z : Nat → Prop) (hZ : ∀ k, Z k → k < w0.heap.size) (mg : Nat) (mt : TypeId) (me : Int) (mr : List Value) (n : Nd) (pA : Option Addr) (pc : Nat) (p : List Sl) (hm : (Res.box mg mt (.int .i64 me :: mr)).holds w0) (hmz : ¬ Z mg) (hp : (dRow 1 pA p.length pc (encSs p)).φ w0 Z) (hps : (dAll p).φ w0 Z) (hl : p.length ≤ 100 := by first | assumption | omega | (simp <;> omega)) (hb : ∀ s ∈ p, s.2.2.length ≤ 100000 := by first | assumption | omega | (simp <;> omega)) :
    Calls Tryz.prog 96 [.pointer (some ⟨mg, 0, none⟩), .agg #[.int .i64 (n.K), .int .i64 (n.N), .int .i64 (n.M), .string n.S], .slice pA p.length pc].toArray w0 (fun e w' => ∃ (rA0 : Option Addr) (rc0 : Nat) (rL0 : List Nd), e = .returned (.slice rA0 rL0.length rc0) ∧ Fr (· = mg) w0 w' ∧ (Res.box mg mt (.int .i64 (me) :: mr)).holds w' ∧ (dRow 4 rA0 rL0.length rc0 (encNs rL0)).φ w' (nxt Z w0 w') ∧ rL0 = noL me n (lsts p)) := by
 have b0 := sM hm hmz hZ (zc hp (zc hps zn))
 refine c_enter Tryz.func96 rfl Tryz.ntmps96 rfl fun c0 d0 => ?_
 refine wsc fun c0 f0 => bxx d0 b0 fun c0 h0 i0 j0 k0 => ?_
 refine aw j0 f0 fun h0 c0 => ?_
 refine wp_seq_k fun f0 h0 => wsc fun f0 j0 => lR c0 fun f0 d0 => ?_
 refine wn j0 ?_
 rcases Decidable.em ((me) = 0) with j0 | j0
 ·
  refine wcfb d0 rfl (by rw [(decide_eq_true j0)]; rfl) fun f0 => ?_
  refine wp_skip <| xn h0 <| wsc fun h0 c0 => aw f0 c0 fun h0 b0 => ?_
  refine wp_seq_k fun c0 h0 => wsc fun c0 f0 => lR b0 fun c0 m0 => ?_
  refine wn f0 <| wp_block ?_
  have f0 := k0.nilrow 30 4
  refine wp_loop_ghost (fun gn ga gw => ∃ k : Nat, ∃ Ao : Option Addr, ∃ co : Nat, (Reg ga 29 [(1000000, .bool false), (4, .pointer (some ⟨i0, 0, none⟩)), (6, .slice none 0 0), (15, .slice pA p.length pc), (16, .int .i64 ((p.length : Nat) : Int)), (17, .int .i64 ((k : Nat) : Int)), (7, .slice Ao (((lsts (p.take k)).flatten).length) co)]) ∧ (St w0 Z (· = mg) gw [.box mg mt (.int .i64 (me) :: mr), .box i0 30 [.int .i64 (n.K), .int .i64 (n.N), .int .i64 (n.M), .string n.S], .row Ao (((lsts (p.take k)).flatten).length) co 30 4 (encNs ((lsts (p.take k)).flatten))] [dRow 1 pA p.length pc (encSs p), dAll p]) ∧ (k ≤ p.length) ∧ (p.length - k) = gn) _ ⟨0, none, 0, (m0.sub (rc4 (rc2 (rc rfl rnl)))), f0, by omega, rfl⟩ ?_
  rintro f0 m0 i0 ⟨k, Ao, co, c0, b0, hk, n0⟩
  have hfl := flat_le hb hk
  refine wsc fun n0 i0 => lR c0 fun n0 m0 => ?_
  refine wn i0 <| wp_seq_k fun i0 n0 => ?_
  rcases Decidable.em (((k : Nat) : Int) < ((p.length : Nat) : Int)) with i0 | i0
  ·
   refine wct m0 (decide_eq_true i0) fun c0 => ?_
   refine wp_skip <| xn n0 <| wp_seq_k fun n0 f0 => wp_block ?_
   refine wsc fun n0 o0 => ix k (k * 1) c0 (ss_elem (t := p) (k := k) (b0.row (i := 0) rfl).2 (by omega)).some_ fun n0 p0 => ?_
   refine lde 0 (k * 1) p0 (ss_elem (t := p) (k := k) (b0.row (i := 0) rfl).2 (by omega)) fun n0 c0 => ?_
   have n0 := b0.el 1 k
   refine asg c0 fun p0 q0 => ?_
   refine wpList_nil (x_then_n (o0 _ _ (c_region ?_)))
   refine lR q0 fun o0 p0 => ?_
   refine m_appendF (f := encN) (i := 2) ((lsts (p.take k)).flatten) ((nthS p k).2.2) sv p0 n0 rfl rfl rfl rfl rfl encN_len (encN_one _) Tryz.underlying22 zi30 rfl rfl (n0.row (i := 2) rfl).2.news rfl (by omega) (by decide) fun o0 q0 c0 s0 t0 u0 v0 => ?_
   have t0 : (((lsts (p.take k)).flatten) ++ ((nthS p k).2.2)).length = ((lsts (p.take k)).flatten).length + (nthS p k).2.2.length := by (simp only [List.length_append, List.length_take, List.length_cons, List.length_nil]; done)
   refine asg u0 fun t0 q0 => ?_
   refine wpList_nil ?_
   refine x_block_n <| xn f0 <| c_region ?_
   refine adi ((k + 1 : Nat) : Int) q0 fun f0 t0 => ?_
   refine mv t0 fun f0 q0 => ?_
   refine wpList_nil ?_
   have f0 : ((lsts (p.take k)).flatten) ++ ((nthS p k).2.2) = (lsts (p.take (k + 1))).flatten := (flat_step (by omega)).symm
   have t0 := q0
   have q0 := v0
   rw [f0] at t0 q0
   have f0 := q0.forget 2
   exact ⟨_, by omega, k + 1, c0, s0, (t0.sub (rc4 (rc2 (rc rfl rnl)))), f0, by omega, rfl⟩
  refine wcf m0 (decide_eq_false i0) fun f0 => ?_
  refine wp_exit ?_
  refine x_then_e ?_
  refine x_then_e ?_
  refine x_block_eq ?_
  refine xn h0 <| wsc fun h0 i0 => lR f0 fun h0 m0 => ?_
  refine bsl m0 b0 fun h0 f0 t0 s0 c0 => ?_
  refine m_appendF (f := encN) (i := 2) ((lsts (p.take k)).flatten) ([n]) sv s0 c0 rfl rfl rfl rfl rfl encN_len (encN_one _) Tryz.underlying22 zi30 rfl rfl (own_lnews (f := encN) (c0.res (i := 3) rfl)) rfl (by (simp only [List.length_cons, List.length_nil]; omega)) (by decide) fun t0 f0 h0 m0 b0 q0 v0 => ?_
  have b0 : (((lsts (p.take k)).flatten) ++ ([n]) : List Nd).length = ((lsts (p.take k)).flatten).length + 1 := by (simp only [List.length_append, List.length_take, List.length_cons, List.length_nil]; done)
  have b0 := v0.erase 3
  refine aw q0 i0 fun v0 f0 => ?_
  refine wp_ret <| er1 f0 ?_
  have f0 := own_cap (b0.res (i := 2) rfl)
  obtain ⟨i0, v0⟩ := b0.row_dataM (i := 2) rfl (j := 0) rfl (by decide)
  have b0 := i0.data (dRow 4 h0 ((((lsts (p.take k)).flatten) ++ ([n]) : List Nd).length) m0 (encNs (((lsts (p.take k)).flatten) ++ ([n])))) ⟨f0, v0⟩
  refine ⟨h0, m0, (((lsts (p.take k)).flatten) ++ ([n])), ?_, b0.fr, b0.res (i := 0) rfl, b0.rx 2, (by unfold noL; rw [if_pos (by assumption), List.take_of_length_le (by omega)])⟩
  exact cre (ret_s (by rfl))
 refine wctb d0 rfl (by rw [(decide_eq_false j0)]; rfl) fun b0 => ?_
 refine wsc fun j0 d0 => aw b0 d0 fun j0 m0 => ?_
 refine wp_ret <| x_then_r <| er1 m0 ?_
 refine ⟨none, 0, [], ?_, k0.fr, k0.res (i := 0) rfl, ⟨Nat.le_refl _, RowI.nil _ _ _ _⟩, (by unfold noL; rw [if_neg (by assumption)])⟩
 exact cre (ret_s (by rfl))
theorem tick_calls (w0 : World) (Z : Nat → Prop) (hZ : ∀ k, Z k → k < w0.heap.size) (mg : Nat) (mt : TypeId) (me : Int) (mr : List Value) (hm : (Res.box mg mt (.int .i64 me :: mr)).holds w0) (hmz : ¬ Z mg) :
    Calls Tryz.prog 129 [.pointer (some ⟨mg, 0, none⟩)].toArray w0 (fun e w' => ∃ (rA0 : Option Addr) (rc0 : Nat) (rL0 : List Nd), e = .returned (.slice rA0 rL0.length rc0) ∧ Fr (· = mg) w0 w' ∧ (Res.box mg mt (.int .i64 (me) :: mr)).holds w' ∧ (dRow 4 rA0 rL0.length rc0 (encNs rL0)).φ w' (nxt Z w0 w') ∧ rL0 = noL me ⟨29, 0, 0, ⟨#[]⟩⟩ []) := by
 have b0 := sM hm hmz hZ zn
 refine c_enter Tryz.func129 rfl Tryz.ntmps129 rfl fun c0 d0 => ?_
 refine wsc fun c0 f0 => aw d0 f0 fun c0 h0 => ?_
 refine wsc fun f0 c0 => mv h0 fun f0 d0 => ?_
 refine bld d0 fun f0 h0 => ?_
 have f0 := b0.nf
 refine kcl h0 ok96 (node_calls _ _ f0.il _ _ _ _ (⟨29, 0, 0, (⟨#[]⟩ : ByteArray)⟩ : Nd) none 0 [] (f0.z 0) (imm_box (i := 0) rfl) ⟨Nat.le_refl _, RowI.nil _ _ _ _⟩ all_nil) ?_
 rintro h0 b0 ⟨d0, i0, j0, rfl, k0, m0, n0, o0⟩
 have b0 := f0.callM (i := 0) rfl k0 m0
 have m0 := f0.dM 0 b0 n0
 refine ⟨_, rfl, fun b0 n0 => ?_⟩
 refine aw n0 c0 fun b0 f0 => ?_
 refine wp_ret <| er1 f0 ?_
 refine ⟨d0, i0, j0, ?_, m0.fr, m0.res (i := 0) rfl, m0.rx 0, (by exact o0)⟩
 exact cre (ret_s (by rfl))
theorem fail_calls (w0 : World) (Z : Nat → Prop) (hZ : ∀ k, Z k → k < w0.heap.size) (mg : Nat) (mt : TypeId) (me : Int) (mr : List Value) (ee : Int) (hm : (Res.box mg mt (.int .i64 me :: mr)).holds w0) (hmz : ¬ Z mg) :
    Calls Tryz.prog 111 [.pointer (some ⟨mg, 0, none⟩), .int .i64 ee].toArray w0 (fun e w' => ∃ (rA0 : Option Addr) (rc0 : Nat), e = .returned (.slice rA0 (([] : List Nd)).length rc0) ∧ Fr (· = mg) w0 w' ∧ (Res.box mg mt (.int .i64 (if me = 0 then ee else me) :: mr)).holds w' ∧ (dRow 4 rA0 ((([] : List Nd)).length) rc0 (encNs ([] : List Nd))).φ w' (nxt Z w0 w')) := by
 have b0 := sM hm hmz hZ zn
 refine c_enter Tryz.func111 rfl Tryz.ntmps111 rfl fun c0 d0 => ?_
 refine wsc fun c0 f0 => aw d0 f0 fun c0 h0 => ?_
 refine wp_seq_k fun f0 c0 => wsc fun f0 d0 => lR h0 fun f0 i0 => ?_
 refine wn d0 ?_
 rcases Decidable.em ((me) = 0) with d0 | d0
 ·
  refine wct i0 (decide_eq_true d0) fun f0 => ?_
  refine c_region ?_
  refine lR f0 fun h0 j0 => ?_
  refine sto 0 j0 b0 fun h0 f0 k0 m0 => ?_
  refine wn c0 <| wsc fun f0 h0 => aw k0 h0 fun f0 j0 => ?_
  refine wp_ret <| er1 j0 ?_
  have j0 : ([] : List Nd) = [] := rfl
  rw [j0]
  refine ⟨none, 0, ?_, m0.fr, (by rw [show (if me = 0 then ee else me : Int) = (ee) by omega]; exact m0.res (i := 0) rfl), ⟨Nat.le_refl _, RowI.nil _ _ _ _⟩⟩
  exact cre rfl
 refine wcf i0 (decide_eq_false d0) fun m0 => ?_
 refine wp_skip <| xn c0 <| wsc fun c0 d0 => aw m0 d0 fun c0 i0 => ?_
 refine wp_ret <| er1 i0 ?_
 have i0 : ([] : List Nd) = [] := rfl
 rw [i0]
 refine ⟨none, 0, ?_, b0.fr, (by rw [show (if me = 0 then ee else me : Int) = (me) by omega]; exact b0.res (i := 0) rfl), ⟨Nat.le_refl _, RowI.nil _ _ _ _⟩⟩
 exact cre rfl
theorem up_calls (w0 : World) (Z : Nat → Prop) (hZ : ∀ k, Z k → k < w0.heap.size) (mg : Nat) (mt : TypeId) (me : Int) (mr : List Value) (tA : Option Addr) (tc : Nat) (t : List Nd) (n : Int) (k : Int) (hShp : Shapes w0 Z) (hm : (Res.box mg mt (.int .i64 me :: mr)).holds w0) (hmz : ¬ Z mg) (ht : (dRow 4 tA t.length tc (encNs t)).φ w0 Z) (hsm : sml t := by first | assumption | omega | (simp <;> omega)) (hl : t.length ≤ 1000000 := by first | assumption | omega | (simp <;> omega)) :
    Calls Tryz.prog 109 [.pointer (some ⟨mg, 0, none⟩), .slice tA t.length tc, .int .i64 n, .int .i64 k].toArray w0 (fun e w' => ∃ (rA0 : Option Addr) (rc0 : Nat) (rL0 : List Nd), e = .returned (.slice rA0 rL0.length rc0) ∧ Fr (· = mg) w0 w' ∧ (Res.box mg mt (.int .i64 (upE me t n k) :: mr)).holds w' ∧ (dRow 4 rA0 rL0.length rc0 (encNs rL0)).φ w' (nxt Z w0 w') ∧ rL0 = upL me t n k) := by
 have b0 := sM hm hmz hZ (zc (d := dShapes) hShp (zc ht zn))
 refine c_enter Tryz.func109 rfl Tryz.ntmps109 rfl fun c0 d0 => ?_
 refine wsc fun c0 f0 => aw d0 f0 fun c0 h0 => ?_
 refine wp_seq_k fun f0 c0 => wsc fun f0 d0 => lR h0 fun f0 i0 => ?_
 refine wn d0 ?_
 rcases Decidable.em ((me) = 0) with d0 | d0
 ·
  refine wcfb i0 rfl (by rw [(decide_eq_true d0)]; rfl) fun f0 => ?_
  refine wp_skip <| xn c0 <| wsc fun c0 h0 => lR f0 fun c0 j0 => ?_
  have c0 := b0.nf
  refine kcl j0 ok137 (shift_calls _ _ c0.il _ _ _ (n) (k) (c0.g 0) (c0.g 1)) ?_
  rintro j0 f0 ⟨k0, m0, rfl, n0, o0, p0⟩
  have f0 := c0.callO n0 o0 p0
  refine ⟨_, rfl, fun p0 o0 => ?_⟩
  refine lR o0 fun p0 n0 => ?_
  refine wn h0 <| wp_seq_k fun h0 p0 => wsc fun h0 o0 => lR n0 fun h0 c0 => ?_
  refine wn o0 ?_
  rcases Decidable.em (((sfE t (n) (k))) = 0) with o0 | o0
  ·
   refine wcfb c0 rfl (by rw [(decide_eq_true o0)]; rfl) fun h0 => ?_
   refine wp_skip <| xn p0 <| wsc fun p0 n0 => lR h0 fun p0 j0 => ?_
   refine wn n0 <| wp_ret <| er1 j0 ?_
   have j0 := own_cap (f0.res (i := 1) rfl)
   obtain ⟨n0, p0⟩ := f0.row_dataM (i := 1) rfl (j := 0) rfl (by decide)
   have h0 := n0.data (dRow 4 k0 ((sfA t (n) (k)).length) m0 (encNs (sfA t (n) (k)))) ⟨j0, p0⟩
   refine ⟨k0, m0, (sfA t (n) (k)), ?_, h0.fr, (by rw [show (upE me t n k : Int) = (me) by (simp [upE, inQ, d0, o0]; done)]; exact h0.res (i := 0) rfl), h0.rx 2, (by unfold upL; rw [if_pos (by assumption)])⟩
   exact cre (ret_s (by rfl))
  refine wctb c0 rfl (by rw [(decide_eq_false o0)]; rfl) fun h0 => ?_
  refine wsc fun c0 m0 => lR h0 fun c0 k0 => ?_
  have c0 := f0.nf
  refine kcl k0 ok111 (fail_calls _ _ c0.il _ _ _ _ ((sfE t (n) (k))) (c0.z 0) (imm_box (i := 0) rfl)) ?_
  rintro k0 f0 ⟨h0, p0, rfl, n0, j0, q0⟩
  have f0 := c0.callM (i := 0) rfl n0 j0
  have j0 := c0.dM 0 f0 q0
  refine ⟨_, rfl, fun f0 q0 => ?_⟩
  refine aw q0 m0 fun f0 c0 => ?_
  refine wp_ret <| x_then_r <| er1 c0 ?_
  refine ⟨h0, p0, ([] : List Nd), ?_, j0.fr, (by rw [show (upE me t n k : Int) = ((if (me) = 0 then ((sfE t (n) (k))) else (me))) by (simp [upE, inQ, d0, o0]; done)]; exact j0.res (i := 0) rfl), j0.rx 2, (by unfold upL; first | (rw [if_neg (by assumption)]; done) | (rw [if_pos (by assumption), sf_bad (by assumption)]; done))⟩
  exact cre (ret_s (by rfl))
 refine wctb i0 rfl (by rw [(decide_eq_false d0)]; rfl) fun j0 => ?_
 refine wsc fun i0 p0 => aw j0 p0 fun i0 h0 => ?_
 refine wp_ret <| x_then_r <| er1 h0 ?_
 refine ⟨none, 0, [], ?_, b0.fr, (by rw [show (upE me t n k : Int) = (me) by (simp [upE, inQ, d0]; done)]; exact b0.res (i := 0) rfl), ⟨Nat.le_refl _, RowI.nil _ _ _ _⟩, (by unfold upL; first | (rw [if_neg (by assumption)]; done) | (rw [if_pos (by assumption), sf_bad (by assumption)]; done))⟩
 exact cre (ret_s (by rfl))
theorem minst_calls (w0 : World) (Z : Nat → Prop) (hZ : ∀ k, Z k → k < w0.heap.size) (mg : Nat) (mt : TypeId) (me : Int) (mr : List Value) (tA : Option Addr) (tc : Nat) (t : List Nd) (psA : Option Addr) (psc : Nat) (ps : List Sl) (hShp : Shapes w0 Z) (hm : (Res.box mg mt (.int .i64 me :: mr)).holds w0) (hmz : ¬ Z mg) (ht : (dRow 4 tA t.length tc (encNs t)).φ w0 Z) (hps : (dRow 1 psA ps.length psc (encSs ps)).φ w0 Z) (hpss : (dAll ps).φ w0 Z) (hsm : sml t := by first | assumption | omega | (simp <;> omega)) (hl : t.length ≤ 1000000 := by first | assumption | omega | (simp <;> omega)) (hls : ∀ x ∈ lsts ps, sml x := by first | assumption | omega | (simp <;> omega)) (hlb : ∀ x ∈ lsts ps, x.length ≤ 1000000 := by first | assumption | omega | (simp <;> omega)) (hl0 : ps.length ≤ 1000 := by first | assumption | omega | (simp <;> omega)) :
    Calls Tryz.prog 75 [.pointer (some ⟨mg, 0, none⟩), .slice tA t.length tc, .slice psA ps.length psc].toArray w0 (fun e w' => ∃ (rA0 : Option Addr) (rc0 : Nat) (rL0 : List Nd), e = .returned (.slice rA0 rL0.length rc0) ∧ Fr (· = mg) w0 w' ∧ (Res.box mg mt (.int .i64 (inQ me t (lsts ps)) :: mr)).holds w' ∧ (dRow 4 rA0 rL0.length rc0 (encNs rL0)).φ w' (nxt Z w0 w') ∧ rL0 = inL me t (lsts ps)) := by
 have b0 := sM hm hmz hZ (zc (d := dShapes) hShp (zc ht (zc hps (zc hpss zn))))
 refine c_enter Tryz.func75 rfl Tryz.ntmps75 rfl fun c0 d0 => ?_
 refine wsc fun c0 f0 => aw d0 f0 fun c0 h0 => ?_
 refine wp_seq_k fun f0 c0 => wsc fun f0 d0 => lR h0 fun f0 i0 => ?_
 refine wn d0 ?_
 rcases Decidable.em ((me) = 0) with d0 | d0
 ·
  refine wcfb i0 rfl (by rw [(decide_eq_true d0)]; rfl) fun f0 => ?_
  refine wp_skip <| xn c0 <| wsc fun c0 h0 => lR f0 fun c0 j0 => ?_
  have c0 := b0.nf
  refine kcl j0 ok110 (inst_calls _ _ c0.il _ _ _ _ _ _ (c0.g 0) (c0.g 1) (c0.g 2) (c0.g 3)) ?_
  rintro j0 f0 ⟨k0, m0, rfl, n0, o0⟩
  have f0 := c0.below n0.below
  have n0 := c0.dN f0 o0
  refine ⟨_, rfl, fun f0 o0 => ?_⟩
  refine lR o0 fun f0 c0 => ?_
  refine wn h0 <| wp_seq_k fun h0 f0 => wsc fun h0 o0 => lR c0 fun h0 j0 => ?_
  refine wn o0 ?_
  rcases Decidable.em (((inE t (lsts ps))) = 0) with o0 | o0
  ·
   refine wcfb j0 rfl (by rw [(decide_eq_true o0)]; rfl) fun h0 => ?_
   refine wp_skip <| xn f0 <| wsc fun f0 c0 => lR h0 fun f0 p0 => ?_
   refine wn c0 <| wp_ret <| er1 p0 ?_
   refine ⟨k0, m0, (inA t (lsts ps)), ?_, n0.fr, (by rw [show (inQ me t (lsts ps) : Int) = (me) by (simp [upE, inQ, d0, o0]; done)]; exact n0.res (i := 0) rfl), n0.rx 4, (by unfold inL; rw [if_pos (by assumption)])⟩
   exact cre (ret_s (by rfl))
  refine wctb j0 rfl (by rw [(decide_eq_false o0)]; rfl) fun m0 => ?_
  refine wsc fun j0 k0 => lR m0 fun j0 p0 => ?_
  have j0 := n0.nf
  refine kcl p0 ok111 (fail_calls _ _ j0.il _ _ _ _ ((inE t (lsts ps))) (j0.z 0) (imm_box (i := 0) rfl)) ?_
  rintro p0 n0 ⟨m0, c0, rfl, f0, h0, q0⟩
  have n0 := j0.callM (i := 0) rfl f0 h0
  have h0 := j0.dM 0 n0 q0
  refine ⟨_, rfl, fun n0 q0 => ?_⟩
  refine aw q0 k0 fun n0 j0 => ?_
  refine wp_ret <| x_then_r <| er1 j0 ?_
  refine ⟨m0, c0, ([] : List Nd), ?_, h0.fr, (by rw [show (inQ me t (lsts ps) : Int) = ((if (me) = 0 then ((inE t (lsts ps))) else (me))) by (simp [upE, inQ, d0, o0]; done)]; exact h0.res (i := 0) rfl), h0.rx 5, (by unfold inL; first | (rw [if_neg (by assumption)]; done) | (rw [if_pos (by assumption), in_bad (by assumption)]; done))⟩
  exact cre (ret_s (by rfl))
 refine wctb i0 rfl (by rw [(decide_eq_false d0)]; rfl) fun h0 => ?_
 refine wsc fun i0 c0 => aw h0 c0 fun i0 m0 => ?_
 refine wp_ret <| x_then_r <| er1 m0 ?_
 refine ⟨none, 0, [], ?_, b0.fr, (by rw [show (inQ me t (lsts ps) : Int) = (me) by (simp [upE, inQ, d0]; done)]; exact b0.res (i := 0) rfl), ⟨Nat.le_refl _, RowI.nil _ _ _ _⟩, (by unfold inL; first | (rw [if_neg (by assumption)]; done) | (rw [if_pos (by assumption), in_bad (by assumption)]; done))⟩
 exact cre (ret_s (by rfl))
theorem var_calls (w0 : World) (Z : Nat → Prop) (hZ : ∀ k, Z k → k < w0.heap.size) (mg : Nat) (mt : TypeId) (me : Int) (mr : List Value) (n : Int) (hm : (Res.box mg mt (.int .i64 me :: mr)).holds w0) (hmz : ¬ Z mg) :
    Calls Tryz.prog 112 [.pointer (some ⟨mg, 0, none⟩), .int .i64 n].toArray w0 (fun e w' => ∃ (rA0 : Option Addr) (rc0 : Nat) (rL0 : List Nd), e = .returned (.slice rA0 rL0.length rc0) ∧ Fr (· = mg) w0 w' ∧ (Res.box mg mt (.int .i64 (me) :: mr)).holds w' ∧ (dRow 4 rA0 rL0.length rc0 (encNs rL0)).φ w' (nxt Z w0 w') ∧ rL0 = noL me ⟨0, n, 0, ⟨#[]⟩⟩ []) := by
 have b0 := sM hm hmz hZ zn
 refine c_enter Tryz.func112 rfl Tryz.ntmps112 rfl fun c0 d0 => ?_
 refine wsc fun c0 f0 => aw d0 f0 fun c0 h0 => ?_
 refine wsc fun f0 c0 => lR h0 fun f0 d0 => ?_
 refine bld d0 fun f0 h0 => ?_
 have f0 := b0.nf
 refine kcl h0 ok96 (node_calls _ _ f0.il _ _ _ _ (⟨0, (n), 0, (⟨#[]⟩ : ByteArray)⟩ : Nd) none 0 [] (f0.z 0) (imm_box (i := 0) rfl) ⟨Nat.le_refl _, RowI.nil _ _ _ _⟩ all_nil) ?_
 rintro h0 b0 ⟨d0, i0, j0, rfl, k0, m0, n0, o0⟩
 have b0 := f0.callM (i := 0) rfl k0 m0
 have m0 := f0.dM 0 b0 n0
 refine ⟨_, rfl, fun b0 n0 => ?_⟩
 refine aw n0 c0 fun b0 f0 => ?_
 refine wp_ret <| er1 f0 ?_
 refine ⟨d0, i0, j0, ?_, m0.fr, m0.res (i := 0) rfl, m0.rx 0, (by exact o0)⟩
 exact cre (ret_s (by rfl))
theorem place_calls (w0 : World) (Z : Nat → Prop) (hZ : ∀ k, Z k → k < w0.heap.size) (mg : Nat) (mt : TypeId) (me : Int) (mr : List Value) (n : Int) (tA : Option Addr) (tc : Nat) (t : List Nd) (hm : (Res.box mg mt (.int .i64 me :: mr)).holds w0) (hmz : ¬ Z mg) (ht : (dRow 4 tA t.length tc (encNs t)).φ w0 Z) (h0 : 0 ≤ n := by first | assumption | omega | (simp <;> omega)) (hn : n < 1000 := by first | assumption | omega | (simp <;> omega)) :
    Calls Tryz.prog 134 [.pointer (some ⟨mg, 0, none⟩), .int .i64 n, .slice tA t.length tc].toArray w0 (fun e w' => ∃ (rA0 : Option Addr) (rc0 : Nat) (rL0 : List Nd), e = .returned (.slice rA0 rL0.length rc0) ∧ Fr (· = mg) w0 w' ∧ (Res.box mg mt (.int .i64 (me) :: mr)).holds w' ∧ (dRow 4 rA0 rL0.length rc0 (encNs rL0)).φ w' (nxt Z w0 w') ∧ rL0 = plL me n t) := by
 have b0 := sM hm hmz hZ (zc ht zn)
 refine c_enter Tryz.func134 rfl Tryz.ntmps134 rfl fun c0 d0 => ?_
 refine wsc fun c0 f0 => aw d0 f0 fun c0 i0 => ?_
 refine wp_seq_k fun f0 c0 => wsc fun f0 d0 => mv i0 fun f0 j0 => ?_
 refine r_int (v := .int .i64 ((bandI (n) 2))) sv j0 rfl rfl rfl rfl (by decide) (run_andI (b := 2) (by omega) (by omega) (by decide)) fun f0 i0 => ?_
 refine lR i0 fun f0 j0 => ?_
 refine wn d0 ?_
 rcases Decidable.em (0 < ((bandI (n) 2))) with d0 | d0
 ·
  refine wct j0 (decide_eq_true d0) fun f0 => ?_
  refine wsc fun i0 k0 => mv f0 fun i0 m0 => ?_
  have i0 := b0.nf
  refine kcl m0 ok129 (tick_calls _ _ i0.il _ _ _ _ (i0.z 0) (imm_box (i := 0) rfl)) ?_
  rintro m0 f0 ⟨n0, o0, p0, rfl, q0, s0, t0, u0⟩
  have u0 := i0.callM (i := 0) rfl q0 s0
  have s0 := i0.dM 0 u0 t0
  refine ⟨_, rfl, fun u0 t0 => ?_⟩
  refine aw t0 k0 fun u0 i0 => ?_
  refine wp_ret <| x_then_r <| er1 i0 ?_
  refine ⟨n0, o0, p0, ?_, s0.fr, s0.res (i := 0) rfl, s0.rx 1, (by unfold plL; first | (rw [if_neg (by assumption)]; done) | (rw [if_pos (by assumption)]; assumption))⟩
  exact cre (ret_s (by rfl))
 refine wcf j0 (decide_eq_false d0) fun s0 => ?_
 refine wp_skip <| xn c0 <| wsc fun c0 d0 => lR s0 fun c0 j0 => ?_
 refine wn d0 <| wp_ret <| er1 j0 ?_
 refine ⟨tA, tc, t, ?_, b0.fr, b0.res (i := 0) rfl, b0.rx 0, (by unfold plL; first | (rw [if_neg (by assumption)]; done) | (rw [if_pos (by assumption)]; assumption))⟩
 exact cre (ret_s (by rfl))
theorem parts_calls (w0 : World) (Z : Nat → Prop) (hZ : ∀ k, Z k → k < w0.heap.size) (mg : Nat) (mt : TypeId) (me : Int) (mr : List Value) (tA : Option Addr) (tc : Nat) (t : List Nd) (hShp : Shapes w0 Z) (hm : (Res.box mg mt (.int .i64 me :: mr)).holds w0) (hmz : ¬ Z mg) (ht : (dRow 4 tA t.length tc (encNs t)).φ w0 Z) (hsm : sml t := by first | assumption | omega | (simp <;> omega)) (hl : t.length ≤ 1000000 := by first | assumption | omega | (simp <;> omega)) (hc : chk t = 0 := by first | assumption | omega | (simp <;> omega)) :
    Calls Tryz.prog 132 [.pointer (some ⟨mg, 0, none⟩), .slice tA t.length tc].toArray w0 (fun e w' => ∃ (rA0 : Option Addr) (rc0 : Nat) (rL0 : List Sl), e = .returned (.slice rA0 rL0.length rc0) ∧ Fr (· = mg) w0 w' ∧ (Res.box mg mt (.int .i64 (me) :: mr)).holds w' ∧ (dRow 1 rA0 rL0.length rc0 (encSs rL0)).φ w' (nxt Z w0 w') ∧ (dAll rL0).φ w' (nxt Z w0 w') ∧ lsts rL0 = agA t) := by
 have b0 := sM hm hmz hZ (zc (d := dShapes) hShp (zc ht zn))
 refine c_enter Tryz.func132 rfl Tryz.ntmps132 rfl fun c0 d0 => ?_
 refine wsc fun c0 f0 => aw d0 f0 fun c0 h0 => ?_
 refine wsc fun f0 c0 => mv h0 fun f0 d0 => ?_
 have f0 := b0.nf
 refine kcl d0 ok84 (args_calls _ _ f0.il _ _ _ (f0.g 0) (f0.g 1)) ?_
 rintro d0 b0 ⟨h0, i0, j0, rfl, k0, m0, n0, o0⟩
 have b0 := f0.below k0.below
 have k0 := f0.dN b0 m0
 have b0 := f0.dN k0 n0
 refine ⟨_, rfl, fun k0 n0 => ?_⟩
 refine lR n0 fun k0 f0 => ?_
 refine wn c0 <| wp_seq_k fun c0 k0 => wsc fun c0 n0 => lR f0 fun c0 m0 => ?_
 refine wn n0 ?_
 have n0 : ((chk t)) = 0 := hc
 refine wcfb m0 rfl (by rw [(decide_eq_true n0)]; rfl) fun c0 => ?_
 refine wp_skip <| xn k0 <| wsc fun k0 n0 => lR c0 fun k0 m0 => ?_
 refine wn n0 <| wp_ret <| er1 m0 ?_
 refine ⟨h0, i0, j0, ?_, b0.fr, b0.res (i := 0) rfl, b0.rx 2, b0.rx 3, o0⟩
 exact cre (ret_s (by rfl))
theorem at_calls (w0 : World) (Z : Nat → Prop) (hZ : ∀ k, Z k → k < w0.heap.size) (mg : Nat) (mt : TypeId) (me ma : Int) (mr : List Value) (p : Int) (hm : (Res.box mg mt (.int .i64 me :: .int .i64 ma :: mr)).holds w0) (hmz : ¬ Z mg) (hma : -1000 ≤ ma ∧ ma ≤ 1000 := by first | assumption | omega | (simp <;> omega)) (hp : -1000 ≤ p ∧ p ≤ 1000 := by first | assumption | omega | (simp <;> omega)) :
    Calls Tryz.prog 76 [.pointer (some ⟨mg, 0, none⟩), .int .i64 p].toArray w0 (fun e w' => ∃ (rA0 : Option Addr) (rc0 : Nat) (rL0 : List Nd), e = .returned (.slice rA0 rL0.length rc0) ∧ Fr (· = mg) w0 w' ∧ (Res.box mg mt (.int .i64 (me) :: .int .i64 (ma) :: mr)).holds w' ∧ (dRow 4 rA0 rL0.length rc0 (encNs rL0)).φ w' (nxt Z w0 w') ∧ rL0 = atL me ma p) := by
 have b0 := sM hm hmz hZ zn
 refine c_enter Tryz.func76 rfl Tryz.ntmps76 rfl fun c0 d0 => ?_
 refine wsc fun c0 f0 => aw d0 f0 fun c0 h0 => ?_
 refine wp_seq_k fun f0 c0 => ?_
 obtain ⟨f0, d0, i0⟩ := b0.agree
 refine d_reg3 (n := 11) i0 0 (pc 0 0 (pc 0 1 pn)) (pan_then pan_body) fun d0 f0 b0 j0 k0 m0 => ?_
 refine dR [0, 1, 2, 3, 4, 5, 6, 7] h0 fun j0 d0 => ?_
 refine dt 8 rfl f0 d0 (want_n rfl) (fun x hx => r_sub (z := (ma - p)) (sy d0) d0 rfl rfl rfl rfl (by decide) (by omega) (by omega) (by omega) gt) m0 fun j0 h0 => ?_
 refine d1 9 ?_
 have j0 := k0.nf
 refine kcl h0 ok112 (var_calls _ _ j0.il _ _ _ _ (ma - p) (j0.z 0) (imm_box (i := 0) rfl)) ?_
 rintro h0 k0 ⟨d0, m0, f0, rfl, i0, n0, o0, p0⟩
 have k0 := j0.callM (i := 0) rfl i0 n0
 have n0 := j0.dM 0 k0 o0
 refine ⟨_, rfl, fun k0 o0 => ?_⟩
 have k0 := sWI n0 0 (pc 0 0 (pc 0 1 pn))
 refine ⟨k0, ?_⟩
 refine dR [10] o0 fun k0 j0 => ?_
 refine wpAnyH_done (by kernel_rfl) (b0 _ _ ?_) _
 refine xn c0 <| wp_ret <| er1 j0 ?_
 refine ⟨d0, m0, f0, ?_, n0.fr, n0.res (i := 0) rfl, n0.rx 1, (by exact p0)⟩
 exact cre (ret_s (by rfl))
theorem here_calls (w0 : World) (Z : Nat → Prop) (hZ : ∀ k, Z k → k < w0.heap.size) (mg : Nat) (mt : TypeId) (me ma : Int) (mr : List Value) (tA : Option Addr) (tc : Nat) (t : List Nd) (k : Int) (hShp : Shapes w0 Z) (hm : (Res.box mg mt (.int .i64 me :: .int .i64 ma :: mr)).holds w0) (hmz : ¬ Z mg) (ht : (dRow 4 tA t.length tc (encNs t)).φ w0 Z) (hsm : sml t := by first | assumption | omega | (simp <;> omega)) (hl : t.length ≤ 1000000 := by first | assumption | omega | (simp <;> omega)) :
    Calls Tryz.prog 73 [.pointer (some ⟨mg, 0, none⟩), .slice tA t.length tc, .int .i64 k].toArray w0 (fun e w' => ∃ (rA0 : Option Addr) (rc0 : Nat) (rL0 : List Nd), e = .returned (.slice rA0 rL0.length rc0) ∧ Fr (· = mg) w0 w' ∧ (Res.box mg mt (.int .i64 (upE me t ma k) :: .int .i64 (ma) :: mr)).holds w' ∧ (dRow 4 rA0 rL0.length rc0 (encNs rL0)).φ w' (nxt Z w0 w') ∧ rL0 = upL me t ma k) := by
 have b0 := sM hm hmz hZ (zc (d := dShapes) hShp (zc ht zn))
 refine c_enter Tryz.func73 rfl Tryz.ntmps73 rfl fun c0 d0 => ?_
 refine wsc fun c0 f0 => aw d0 f0 fun c0 h0 => ?_
 refine wp_seq_k fun f0 c0 => ?_
 obtain ⟨f0, d0, i0⟩ := b0.agree
 refine d_reg3 (n := 11) i0 2 (pc 0 1 pn) (pan_then pan_body) fun d0 f0 b0 j0 k0 m0 => ?_
 refine dR [0, 1, 2, 3, 4, 5, 6, 7, 8] h0 fun m0 j0 => ?_
 refine d1 9 ?_
 have m0 := k0.nf
 refine kcl j0 ok109 (up_calls _ _ m0.il _ _ _ _ _ _ _ (ma) (k) (m0.g 0) (m0.z 0) (imm_box (i := 0) rfl) (m0.g 1)) ?_
 rintro j0 k0 ⟨h0, f0, d0, rfl, i0, n0, o0, p0⟩
 have k0 := m0.callM (i := 0) rfl i0 n0
 have n0 := m0.dM 0 k0 o0
 refine ⟨_, rfl, fun k0 o0 => ?_⟩
 have k0 := sWI n0 2 (pc 0 1 pn)
 refine ⟨k0, ?_⟩
 refine dR [10] o0 fun k0 m0 => ?_
 refine wpAnyH_done (by kernel_rfl) (b0 _ _ ?_) _
 refine xn c0 <| wp_ret <| er1 m0 ?_
 refine ⟨h0, f0, d0, ?_, n0.fr, (by rw [show (upE me t ma k : Int) = ((upE (me) t (ma) (k))) by rfl]; exact n0.res (i := 0) rfl), n0.rx 3, (by exact p0)⟩
 exact cre (ret_s (by rfl))
theorem of_calls (w0 : World) (Z : Nat → Prop) (hZ : ∀ k, Z k → k < w0.heap.size) (cg : Nat) (ce : Int) (cn : Int) (cAA : Option Addr) (cAc : Nat) (cA : List Nd) (crA : Option Addr) (crc : Nat) (cr : List Nd) (x : Int) (y : Int) (hShp : Shapes w0 Z) (hc : (Res.box cg 110 [.int .i64 (ce), .int .i64 (cn), .slice cAA cA.length cAc, .slice crA cr.length crc]).holds w0) (hcz : ¬ Z cg) (hcA : (dRow 4 cAA cA.length cAc (encNs cA)).φ w0 Z) (hcr : (dRow 4 crA cr.length crc (encNs cr)).φ w0 Z) (hsr : sml cr := by first | assumption | omega | (simp <;> omega)) (hlr : cr.length ≤ 5000 := by first | assumption | omega | (simp <;> omega)) (hbcn : -100 ≤ cn ∧ cn ≤ 100 := by first | assumption | omega | (simp <;> omega)) (hbx : -100 ≤ x ∧ x ≤ 100 := by first | assumption | omega | (simp <;> omega)) (hby : -100 ≤ y ∧ y ≤ 100 := by first | assumption | omega | (simp <;> omega)) :
    Calls Tryz.prog 48 [.pointer (some ⟨cg, 0, none⟩), .int .i64 x, .int .i64 y].toArray w0 (fun e w' => ∃ (rA0 : Option Addr) (rc0 : Nat) (rL0 : List Nd), e = .returned (.slice rA0 rL0.length rc0) ∧ Fr (· = cg) w0 w' ∧ (Res.box cg 110 [.int .i64 ((relE ce cn cr x y)), .int .i64 (cn), .slice cAA cA.length cAc, .slice crA cr.length crc]).holds w' ∧ (dRow 4 rA0 rL0.length rc0 (encNs rL0)).φ w' (nxt Z w0 w') ∧ rL0 = relL ce cn cr x y) := by
 have b0 := sM hc hcz hZ (zc (d := dShapes) hShp (zc hcA (zc hcr zn)))
 refine c_enter Tryz.func48 rfl Tryz.ntmps48 rfl fun c0 d0 => ?_
 refine wsc fun c0 f0 => aw d0 f0 fun c0 h0 => ?_
 refine wp_seq_k fun f0 c0 => ?_
 obtain ⟨f0, d0, i0⟩ := b0.agree
 refine d_reg3 (n := 25) i0 3 (pB 0 1 pn) (pan_then pan_body) fun d0 f0 b0 j0 k0 m0 => ?_
 refine dR [0, 1, 2, 3, 4, 5, 6, 7, 8, 9, 10, 12, 13, 14, 15, 17, 18, 19, 20] h0 fun m0 j0 => ?_
 refine d1 11 ?_
 have m0 := k0.nf
 refine kcl j0 ok73 (here_calls _ _ m0.il _ _ _ _ _ _ _ _ 2 (m0.g 0) (m0.z 0) (imm_box (i := 0) rfl) (m0.g 2)) ?_
 rintro j0 k0 ⟨h0, f0, d0, rfl, i0, n0, o0, p0⟩
 have f0 := m0.callM (i := 0) rfl i0 n0
 have n0 := m0.dM 0 f0 o0
 refine ⟨_, rfl, fun f0 o0 => ?_⟩
 obtain ⟨f0, m0⟩ := upZ p0 (by assumption)
 have m0 := sWI n0 3 (pB 0 1 pn)
 refine ⟨m0, ?_⟩
 refine d1 16 ?_
 have m0 := n0.nf
 refine kcl o0 ok76 (at_calls _ _ m0.il _ _ _ _ _ (y) (m0.z 0) (imm_box (i := 0) rfl)) ?_
 rintro o0 n0 ⟨f0, p0, i0, rfl, h0, k0, j0, q0⟩
 have n0 := m0.callM (i := 0) rfl h0 k0
 have k0 := m0.dM 0 n0 j0
 refine ⟨_, rfl, fun n0 j0 => ?_⟩
 obtain ⟨n0, m0⟩ : i0.length ≤ 1 ∧ sml i0 := by rw [q0]; exact ⟨atL_len, atL_sml⟩
 have m0 := sWI k0 3 (pB 0 1 pn)
 refine ⟨m0, ?_⟩
 refine d1 21 ?_
 have m0 := k0.nf
 refine kcl j0 ok76 (at_calls _ _ m0.il _ _ _ _ _ (x) (m0.z 0) (imm_box (i := 0) rfl)) ?_
 rintro j0 k0 ⟨n0, q0, h0, rfl, o0, s0, t0, u0⟩
 have k0 := m0.callM (i := 0) rfl o0 s0
 have s0 := m0.dM 0 k0 t0
 refine ⟨_, rfl, fun k0 t0 => ?_⟩
 obtain ⟨k0, m0⟩ : h0.length ≤ 1 ∧ sml h0 := by rw [u0]; exact ⟨atL_len, atL_sml⟩
 have m0 := sWI s0 3 (pB 0 1 pn)
 refine ⟨m0, ?_⟩
 refine d1 22 ?_
 have m0 := s0.data (dAll [((f0, p0, i0) : Sl), ((n0, q0, h0) : Sl)]) (all_cons (s0.get (i := 5) rfl) (all_cons (s0.get (i := 6) rfl) all_nil))
 refine bsl t0 m0 fun s0 k0 u0 o0 j0 => ?_
 have k0 := sWI j0 3 (pB 0 1 pn)
 refine ⟨k0, ?_⟩
 refine d1 23 ?_
 have k0 := j0.nf
 have j0 := own_cap (k0.res (i := 1) rfl)
 obtain ⟨s0, m0⟩ := k0.row_dataM (i := 1) rfl (j := 0) rfl (by decide)
 have k0 := s0.data (dRow 1 (some ⟨u0, 0, none⟩) 2 2 (encSs ([((f0, p0, i0) : Sl), ((n0, q0, h0) : Sl)]))) ⟨j0, m0⟩
 refine kcl o0 ok75 (minst_calls _ _ k0.il _ _ _ _ _ _ _ _ _ ([((f0, p0, i0) : Sl), ((n0, q0, h0) : Sl)]) (k0.g 0) (k0.z 0) (imm_box (i := 0) rfl) (k0.g 4) (k0.g 8) (k0.g 7) (hsm := (by assumption)) (hl := (by omega)) (hls := (by simp only [lsts, List.map_cons, List.map_nil, List.mem_cons, List.not_mem_nil, or_false, forall_eq_or_imp, forall_eq]; first | assumption | omega | (and_intros <;> first | assumption | omega))) (hlb := (by simp only [lsts, List.map_cons, List.map_nil, List.mem_cons, List.not_mem_nil, or_false, forall_eq_or_imp, forall_eq]; first | assumption | omega | (and_intros <;> first | assumption | omega))) (hl0 := (by simp))) ?_
 rintro o0 m0 ⟨s0, j0, u0, rfl, t0, v0, x0, y0⟩
 have m0 := k0.callM (i := 0) rfl t0 v0
 have v0 := k0.dM 0 m0 x0
 refine ⟨_, rfl, fun m0 x0 => ?_⟩
 obtain ⟨m0, k0⟩ := inZ y0 (by assumption) (by simp only [lsts, List.map_cons, List.map_nil, List.mem_cons, List.not_mem_nil, or_false, forall_eq_or_imp, forall_eq]; first | assumption | (and_intros <;> assumption))
 have k0 := sWI v0 3 (pB 0 1 pn)
 refine ⟨k0, ?_⟩
 refine dR [24] x0 fun k0 m0 => ?_
 refine wpAnyH_done (by kernel_rfl) (b0 _ _ ?_) _
 refine xn c0 <| wp_ret <| er1 m0 ?_
 refine ⟨s0, j0, u0, ?_, v0.fr, (by rw [show (relE ce cn cr x y : Int) = ((inQ ((((upE (ce) cr (cn) 2)))) d0 (lsts ([((f0, p0, i0) : Sl), ((n0, q0, h0) : Sl)])))) by (first | rfl | (simp only [lsts_nth, *]; done) | (simp only [lsts_nth, *]; rfl))]; exact v0.res (i := 0) rfl), v0.rx 9, (by (simp only [lsts_nth, *]; rfl))⟩
 exact cre (ret_s (by rfl))
end Go.Proofs.YtpfmnpaifchleaaGreatDoor
