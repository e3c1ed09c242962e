import Derived.Test.YtpfmnpaifchleaaDoorYmg
import Derived.Test.YtpfmnpaifchleaaDoorCards
import Derived.Test.YtpfmnpaifchleaaDoorTie
import Derived.ProofKit
import Derived.OpenShut
import Derived.ReadAgain
import Derived.Deep.DeepHandedRow
import Derived.Deep.Slices
import Derived.Lib.LaidTab
namespace Go.Proofs.YtpfmnpaifchleaaDoor
open Go Go.RowKit
set_option linter.unusedSimpArgs false
set_option linter.unusedVariables false
set_option maxRecDepth 100000
set_option maxHeartbeats 1000000
set_option maxHeartbeats 6000000 in
theorem hyp_yields (w0 : World) (Z : Nat → Prop) (rg bg : Nat) (re : Int) (rn rx : Nd) (rpA : Option Addr) (rpc : Nat) (rp : List Sl) (rqA : Option Addr) (rqc : Nat) (rq : List Sl) (rkA : Option Addr) (rkc : Nat) (rk : List Tl) (hShp : (dShapes).φ w0 Z) (hrp : (dRow 1 rpA rp.length rpc (encSs rp)).φ w0 Z) (hrps : (dAll rp).φ w0 Z) (hrq : (dRow 1 rqA rq.length rqc (encSs rq)).φ w0 Z) (hrqs : (dAll rq).φ w0 Z) (hrk : (dRow 1 rkA rk.length rkc (encTs rk)).φ w0 Z) (hrks : (dAllT rk).φ w0 Z) (hb : (dBox bg [.pointer (some ⟨rg, 0, none⟩)]).φ w0 Z) (hp4 : rp.length ≤ 9) (hq4 : rq.length ≤ 9) (hps : ∀ x ∈ lsts rp, sml x ∧ x.length ≤ 4000) (hqs : ∀ x ∈ lsts rq, sml x ∧ x.length ≤ 4000) (hcs : ∀ l ∈ lstsT rk, ∀ y ∈ l, sml y ∧ y.length ≤ 4000) (hc4 : rk.length ≤ 1000) (hN0 : 0 ≤ rx.N) (hN1 : rx.N < ((rk.length : Nat) : Int)) (hNq : (nthT rk rx.N.toNat).2.2.length = rq.length) (hlp0 : 0 < rp.length) (hsn : rn.S.size < 1000000) :
    YieldsN Tryd.prog 71 [.pointer (some ⟨bg, 0, none⟩)].toArray (⟨39, 4, encNs⟩ : Hnd Nd) (hyP rn (lsts rp) (lsts (nthT rk rx.N.toNat).2.2) (lsts rq) re rq.length) Z w0 rg 50 [.int .i64 (re), .int .i64 rn.K, .int .i64 rn.N, .int .i64 rn.M, .string rn.S, .int .i64 rx.K, .int .i64 rx.N, .int .i64 rx.M, .string rx.S, .slice rpA rp.length rpc, .slice rqA rq.length rqc, .slice rkA rk.length rkc] (fun pre => [.int .i64 (hyAt rn (lsts rp) (lsts (nthT rk rx.N.toNat).2.2) (lsts rq) re pre.length), .int .i64 rn.K, .int .i64 rn.N, .int .i64 rn.M, .string rn.S, .int .i64 rx.K, .int .i64 rx.N, .int .i64 rx.M, .string rx.S, .slice rpA rp.length rpc, .slice rqA rq.length rqc, .slice rkA rk.length rkc]) [.int .i64 (hyE rn (lsts rp) (lsts (nthT rk rx.N.toNat).2.2) (lsts rq) re rq.length), .int .i64 rn.K, .int .i64 rn.N, .int .i64 rn.M, .string rn.S, .int .i64 rx.K, .int .i64 rx.N, .int .i64 rx.M, .string rx.S, .slice rpA rp.length rpc, .slice rqA rq.length rqc, .slice rkA rk.length rkc] := by
 refine yieldsN_of Tryd.func71 rfl Tryd.ntmps71 rfl [dShapes, dRow 1 rpA rp.length rpc (encSs rp), dAll rp, dRow 1 rqA rq.length rqc (encSs rq), dAll rq, dRow 1 rkA rk.length rkc (encTs rk), dAllT rk, dBox bg [.pointer (some ⟨rg, 0, none⟩)]] (by
  intro d hd
  simp only [List.mem_cons, List.not_mem_nil, or_false] at hd
  rcases hd with rfl | rfl | rfl | rfl | rfl | rfl | rfl | rfl
  · exact hShp
  · exact hrp
  · exact hrps
  · exact hrq
  · exact hrqs
  · exact hrk
  · exact hrks
  · exact hb
  ) (fun lp jf jx w0 C0 M0 hY hds b0 c0 d0 => ?_)
 have hqm : ∀ k, k < rq.length → sml (nthS rq k).2.2 ∧ (nthS rq k).2.2.length ≤ 4000 := fun k hk => hqs _ (nthS_in hk)
 refine wsc fun b0 f0 => m_loadC sv c0 rfl rfl rfl (dbox_cell (d0.get (i := 8) rfl) rfl) Tryd.underlying45 rfl (by decide) fun b0 h0 => ?_
 refine lR h0 fun b0 c0 => ?_
 refine wn f0 <| wp_block ?_
 refine wp_loop_ghost (fun gn ga gw => ∃ k : Nat, (Reg ga 56 [(0, .func (.yield lp) #[] #[]), (1, .pointer (some ⟨bg, 0, none⟩)), (1000000, .bool false), (10, .slice rqA rq.length rqc), (11, .int .i64 ((rq.length : Nat) : Int)), (12, .int .i64 ((k : Nat) : Int))]) ∧ (St w0 (oldB w0) M0 gw [.box rg 50 [.int .i64 ((hyE rn (lsts rp) (lsts (nthT rk rx.N.toNat).2.2) (lsts rq) re k)), .int .i64 (rn.K), .int .i64 (rn.N), .int .i64 (rn.M), .string rn.S, .int .i64 (rx.K), .int .i64 (rx.N), .int .i64 (rx.M), .string rx.S, .slice rpA rp.length rpc, .slice rqA rq.length rqc, .slice rkA rk.length rkc]] [dJ jf (hyP rn (lsts rp) (lsts (nthT rk rx.N.toNat).2.2) (lsts rq) re k) C0 M0 w0.heap.size, dShapes, dRow 1 rpA rp.length rpc (encSs rp), dAll rp, dRow 1 rqA rq.length rqc (encSs rq), dAll rq, dRow 1 rkA rk.length rkc (encTs rk), dAllT rk, dBox bg [.pointer (some ⟨rg, 0, none⟩)]]) ∧ (k ≤ rq.length) ∧ (rq.length - k) = gn) _ ⟨0, (c0.sub (rc4 (rc rfl (rc rfl rnl)))), d0, by omega, rfl⟩ ?_
 rintro c0 d0 f0 ⟨k, b0, h0, hk, i0⟩
 refine wsc fun i0 d0 => lR b0 fun i0 c0 => ?_
 refine wn d0 <| wp_seq_k fun d0 i0 => ?_
 rcases Decidable.em (((k : Nat) : Int) < ((rq.length : Nat) : Int)) with d0 | d0
 ·
  have hkq : k < rq.length := by omega
  obtain ⟨hty, htl⟩ := cons_at hcs (N := rx.N.toNat) (k := k) (by omega) (by omega)
  refine wct c0 (decide_eq_true d0) fun b0 => ?_
  refine wp_skip <| xn i0 <| wp_seq_k fun i0 j0 => wp_block ?_
  refine wsc fun i0 k0 => mv b0 fun i0 m0 => ?_
  refine ix k (k * 1) m0 (ss_elem (t := rq) (k := k) (h0.row (i := 4) rfl).2 (by omega)).some_ fun i0 b0 => ?_
  refine lde 0 (k * 1) b0 (ss_elem (t := rq) (k := k) (h0.row (i := 4) rfl).2 (by omega)) fun i0 m0 => ?_
  have i0 := h0.el 5 k
  refine lR m0 fun b0 n0 => ?_
  refine wn k0 <| wp_seq_k fun k0 b0 => ?_
  obtain ⟨k0, m0, o0⟩ := i0.agree
  refine d_reg3 (n := 15) o0 10 (pB 0 1 pn) (pan_then (pan_block (pan_then (pan_then (pan_block pan_body))))) fun i0 p0 q0 s0 t0 u0 => ?_
  refine dt 0 rfl p0 n0 (want_n rfl) (fun x hx => m_loadC (sy n0) n0 rfl rfl rfl (dbox_cell (sdat (m0 8 _ rfl) hx.ag) rfl) Tryd.underlying45 rfl (by decide) gt) u0 fun i0 o0 => ?_
  refine dR [1, 2, 3] o0 fun i0 n0 => ?_
  refine dt 4 rfl p0 n0 (want_n rfl) (fun x hx => m_loadC (sy n0) n0 rfl rfl rfl (dbox_cell (sdat (m0 8 _ rfl) hx.ag) rfl) Tryd.underlying45 rfl (by decide) gt) u0 fun i0 o0 => ?_
  refine dR [5, 6, 7, 8] o0 fun i0 n0 => ?_
  refine dix 9 (((rx.N)).toNat) ((((rx.N)).toNat) * 1) n0 (fun x hx => (ts_elem (t := rk) (k := ((rx.N)).toNat) (sdat (m0 6 _ rfl) hx.ag).2 (by omega)).some_) fun i0 o0 => ?_
  refine dle 10 0 ((((rx.N)).toNat) * 1) o0 (fun x hx => ts_elem (t := rk) (k := ((rx.N)).toNat) (sdat (m0 6 _ rfl) hx.ag).2 (by omega)) fun i0 n0 => ?_
  have i0 := t0.elT 7 (((rx.N)).toNat)
  have t0 := i0.elA 7 (((rx.N)).toNat)
  refine dR [11] n0 fun i0 o0 => ?_
  obtain ⟨i0, n0, m0⟩ := t0.agree
  refine d_more (n0 10 _ rfl) ?_
  have t0 := sWI m0 13 (pB 0 1 pn)
  refine dix 12 k (k * 1) o0 (fun x hx => (ss_elem (t := (nthT rk (((rx.N)).toNat)).2.2) (k := k) (sdat (n0 11 _ rfl) hx.ag).2 (by omega)).some_) fun t0 u0 => ?_
  refine dle 13 0 (k * 1) u0 (fun x hx => ss_elem (t := (nthT rk (((rx.N)).toNat)).2.2) (k := k) (sdat (n0 11 _ rfl) hx.ag).2 (by omega)) fun t0 o0 => ?_
  have t0 := m0.el 12 k
  refine dR [14] o0 fun m0 u0 => ?_
  refine wpAnyH_done (by kernel_rfl) (q0 _ _ ?_) _
  refine xn b0 <| wsc fun b0 q0 => aw u0 q0 fun b0 m0 => ?_
  refine wp_seq_k fun q0 b0 => wsc fun q0 u0 => m_loadC sv m0 rfl rfl rfl (dbox_cell (t0.get (i := 8) rfl) rfl) Tryd.underlying45 rfl (by decide) fun q0 o0 => ?_
  refine lR o0 fun q0 m0 => ?_
  have q0 := t0.nf
  refine kcl m0 ok14 (ukind_calls _ _ q0.il rn.S _ _ ((nthS ((nthT rk (((rx.N)).toNat)).2.2) k).2.2) (q0.g 1) (q0.g 14) (hsm := hty) (hl := (by omega))) ?_
  rintro m0 t0 ⟨rfl, o0⟩
  have m0 := q0.below o0.below
  refine ⟨_, rfl, fun o0 q0 => ?_⟩
  refine wn u0 <| wp_block ?_
  refine wsc fun u0 o0 => lR q0 fun u0 n0 => ?_
  refine wn o0 ?_
  rcases Decidable.em (((kdA rn.S ((nthS ((nthT rk (((rx.N)).toNat)).2.2) k).2.2))) = 0) with o0 | o0
  ·
   refine wct n0 (decide_eq_true o0) fun u0 => ?_
   refine wp_exit ?_
   refine x_block_e rfl ?_
   refine x_then_e ?_
   refine x_block_eq ?_
   refine xn j0 <| c_region ?_
   refine adi ((k + 1 : Nat) : Int) u0 fun q0 p0 => ?_
   refine mv p0 fun q0 u0 => ?_
   refine wpList_nil ?_
   have q0 := m0.nf
   have p0 : (((hyE rn (lsts rp) (lsts (nthT rk rx.N.toNat).2.2) (lsts rq) re k)) : Int) = hyE rn (lsts rp) (lsts (nthT rk rx.N.toNat).2.2) (lsts rq) re (k + 1) := (hy_none (by rw [← lsts_nth]; exact o0)).1.symm
   have v0 : St w0 (oldB w0) M0 t0 [.box rg 50 [.int .i64 ((hyE rn (lsts rp) (lsts (nthT rk rx.N.toNat).2.2) (lsts rq) re (k + 1))), .int .i64 (rn.K), .int .i64 (rn.N), .int .i64 (rn.M), .string rn.S, .int .i64 (rx.K), .int .i64 (rx.N), .int .i64 (rx.M), .string rx.S, .slice rpA rp.length rpc, .slice rqA rq.length rqc, .slice rkA rk.length rkc]] [dJ jf (hyP rn (lsts rp) (lsts (nthT rk rx.N.toNat).2.2) (lsts rq) re k) C0 M0 w0.heap.size, dShapes, dRow 1 rpA rp.length rpc (encSs rp), dAll rp, dRow 1 rqA rq.length rqc (encSs rq), dAll rq, dRow 1 rkA rk.length rkc (encTs rk), dAllT rk, dBox bg [.pointer (some ⟨rg, 0, none⟩)], dRow 4 ((nthS rq k).1) ((nthS rq k).2.2.length) ((nthS rq k).2.1) (encNs ((nthS rq k).2.2)), dAg f0 k0, dRow 1 ((nthT rk (((rx.N)).toNat)).1) ((nthT rk (((rx.N)).toNat)).2.2.length) ((nthT rk (((rx.N)).toNat)).2.1) (encSs ((nthT rk (((rx.N)).toNat)).2.2)), dAll ((nthT rk (((rx.N)).toNat)).2.2), dAg s0 i0, dRow 4 ((nthS ((nthT rk (((rx.N)).toNat)).2.2) k).1) ((nthS ((nthT rk (((rx.N)).toNat)).2.2) k).2.2.length) ((nthS ((nthT rk (((rx.N)).toNat)).2.2) k).2.1) (encNs ((nthS ((nthT rk (((rx.N)).toNat)).2.2) k).2.2))] := by rw [← p0]; exact q0
   have p0 : hyP rn (lsts rp) (lsts (nthT rk rx.N.toNat).2.2) (lsts rq) re k = hyP rn (lsts rp) (lsts (nthT rk rx.N.toNat).2.2) (lsts rq) re (k + 1) := (hy_none (by rw [← lsts_nth]; exact o0)).2.symm
   have q0 := v0
   rw [p0] at q0
   have p0 := q0.forget 14
   have q0 := p0.forget 13
   have p0 := q0.forget 12
   have q0 := p0.forget 11
   have p0 := q0.forget 10
   have q0 := p0.forget 9
   exact ⟨_, by omega, k + 1, (u0.sub (rc4 (rc rfl (rc rfl rnl)))), q0, by omega, rfl⟩
  refine wcf n0 (decide_eq_false o0) fun q0 => ?_
  refine wsc fun n0 u0 => lR q0 fun n0 p0 => ?_
  refine wn u0 ?_
  rcases Decidable.em (((kdA rn.S ((nthS ((nthT rk (((rx.N)).toNat)).2.2) k).2.2))) = 1) with u0 | u0
  ·
   refine wct p0 (decide_eq_true u0) fun n0 => ?_
   refine c_region ?_
   refine m_loadC sv n0 rfl rfl rfl (dbox_cell (m0.get (i := 8) rfl) rfl) Tryd.underlying45 rfl (by decide) fun q0 v0 => ?_
   refine mv v0 fun q0 n0 => ?_
   have q0 := m0.nf
   refine kcl n0 ok40 (uagainO_calls _ _ q0.il _ _ rn rx _ _ _ _ _ _ _ _ _ _ _ ((nthS rq k).2.2) (q0.z 0) (imm_box (i := 0) rfl) (q0.g 2) (q0.g 3) (q0.g 4) (q0.g 5) (q0.g 6) (q0.g 7) (q0.g 9) (hp4 := hp4) (hq4 := hq4) (hps := hps) (hqs := hqs) (h0p := hlp0) (hsn := hsn) (hst := (hqm k hkq).1) (hlt := (hqm k hkq).2)) ?_
   rintro n0 v0 ⟨t0, x0, rfl, y0, z0, b1, c1⟩
   have n0 := q0.callMO (i := 0) rfl y0 z0 b1 c1
   refine ⟨_, rfl, fun c1 b1 => ?_⟩
   refine asg b1 fun c1 z0 => ?_
   refine wpList_nil ?_
   refine x_block_n <| xn b0 <| wp_seq_k fun c1 b1 => cy_region ?_
   refine r_move (st_listInV rfl rfl) z0 rfl rfl rfl (by decide) fun c1 y0 => ?_
   refine r_move (st_listInV rfl rfl) y0 rfl rfl rfl (by decide) fun c1 z0 => ?_
   have c1 := n0.nf
   obtain ⟨hys1, hys2, hys3, hys4⟩ := hy_some (n := rn) (p := lsts rp) (T := lsts (nthT rk rx.N.toNat).2.2) (Q := lsts rq) (e := re) (k := k) (x := noL ((hyE rn (lsts rp) (lsts (nthT rk rx.N.toNat).2.2) (lsts rq) re k)) rn ((lsts rp).set ((lsts rp).length - 1) ((nthS rq k).2.2))) (e' := (((hyE rn (lsts rp) (lsts (nthT rk rx.N.toNat).2.2) (lsts rq) re k)))) (by rw [lsts_len]; exact hkq) (by rw [← lsts_nth, ← lsts_nth]; exact hyK_one u0)
   have n0 : ((((hyE rn (lsts rp) (lsts (nthT rk rx.N.toNat).2.2) (lsts rq) re k))) : Int) = hyAt rn (lsts rp) (lsts (nthT rk rx.N.toNat).2.2) (lsts rq) re (hyP rn (lsts rp) (lsts (nthT rk rx.N.toNat).2.2) (lsts rq) re k).length := hys3
   have y0 : St w0 (oldB w0) M0 v0 [.box rg 50 [.int .i64 ((hyAt rn (lsts rp) (lsts (nthT rk rx.N.toNat).2.2) (lsts rq) re (hyP rn (lsts rp) (lsts (nthT rk rx.N.toNat).2.2) (lsts rq) re k).length)), .int .i64 (rn.K), .int .i64 (rn.N), .int .i64 (rn.M), .string rn.S, .int .i64 (rx.K), .int .i64 (rx.N), .int .i64 (rx.M), .string rx.S, .slice rpA rp.length rpc, .slice rqA rq.length rqc, .slice rkA rk.length rkc], .row t0 ((noL ((hyE rn (lsts rp) (lsts (nthT rk rx.N.toNat).2.2) (lsts rq) re k)) rn ((lsts rp).set ((lsts rp).length - 1) ((nthS rq k).2.2))).length) x0 39 4 (encNs (noL ((hyE rn (lsts rp) (lsts (nthT rk rx.N.toNat).2.2) (lsts rq) re k)) rn ((lsts rp).set ((lsts rp).length - 1) ((nthS rq k).2.2))))] [dJ jf (hyP rn (lsts rp) (lsts (nthT rk rx.N.toNat).2.2) (lsts rq) re k) C0 M0 w0.heap.size, dShapes, dRow 1 rpA rp.length rpc (encSs rp), dAll rp, dRow 1 rqA rq.length rqc (encSs rq), dAll rq, dRow 1 rkA rk.length rkc (encTs rk), dAllT rk, dBox bg [.pointer (some ⟨rg, 0, none⟩)], dRow 4 ((nthS rq k).1) ((nthS rq k).2.2.length) ((nthS rq k).2.1) (encNs ((nthS rq k).2.2)), dAg f0 k0, dRow 1 ((nthT rk (((rx.N)).toNat)).1) ((nthT rk (((rx.N)).toNat)).2.2.length) ((nthT rk (((rx.N)).toNat)).2.1) (encSs ((nthT rk (((rx.N)).toNat)).2.2)), dAll ((nthT rk (((rx.N)).toNat)).2.2), dAg s0 i0, dRow 4 ((nthS ((nthT rk (((rx.N)).toNat)).2.2) k).1) ((nthS ((nthT rk (((rx.N)).toNat)).2.2) k).2.2.length) ((nthS ((nthT rk (((rx.N)).toNat)).2.2) k).2.1) (encNs ((nthS ((nthT rk (((rx.N)).toNat)).2.2) k).2.2))] := by rw [← n0]; exact c1
   have n0 := y0.nf
   refine y_callN (tt := .tmp 51) (pre := hyP rn (lsts rp) (lsts (nthT rk rx.N.toNat).2.2) (lsts rq) re k) (bi := 0) (ri := 1) hY rfl z0 n0 rfl rfl rfl (noL ((hyE rn (lsts rp) (lsts (nthT rk rx.N.toNat).2.2) (lsts rq) re k)) rn ((lsts rp).set ((lsts rp).length - 1) ((nthS rq k).2.2))) rfl (by decide) rfl rfl rfl (by decide) (lsts_len rq ▸ hys4) hds (fun y0 c1 v0 q0 => ?_) fun y0 c1 v0 q0 => ?_
   ·
    refine r_not (st_listInV rfl rfl) v0 rfl rfl rfl (by decide) fun y0 n0 => ?_
    refine li_nil ?_
    refine xn b1 <| wp_cond_false (n0.ev rfl) ?_
    refine wp_skip <| x_block_n <| xn j0 <| c_region ?_
    refine adi ((k + 1 : Nat) : Int) n0 fun y0 z0 => ?_
    refine mv z0 fun y0 n0 => ?_
    refine wpList_nil ?_
    have y0 := q0.nf
    have z0 : (((hyAt rn (lsts rp) (lsts (nthT rk rx.N.toNat).2.2) (lsts rq) re (hyP rn (lsts rp) (lsts (nthT rk rx.N.toNat).2.2) (lsts rq) re k).length)) : Int) = hyE rn (lsts rp) (lsts (nthT rk rx.N.toNat).2.2) (lsts rq) re (k + 1) := hys3.symm.trans hys2
    have d1 : St w0 (oldB w0) M0 c1 [.box rg 50 [.int .i64 ((hyE rn (lsts rp) (lsts (nthT rk rx.N.toNat).2.2) (lsts rq) re (k + 1))), .int .i64 (rn.K), .int .i64 (rn.N), .int .i64 (rn.M), .string rn.S, .int .i64 (rx.K), .int .i64 (rx.N), .int .i64 (rx.M), .string rx.S, .slice rpA rp.length rpc, .slice rqA rq.length rqc, .slice rkA rk.length rkc], .row t0 ((noL ((hyE rn (lsts rp) (lsts (nthT rk rx.N.toNat).2.2) (lsts rq) re k)) rn ((lsts rp).set ((lsts rp).length - 1) ((nthS rq k).2.2))).length) x0 39 4 (encNs (noL ((hyE rn (lsts rp) (lsts (nthT rk rx.N.toNat).2.2) (lsts rq) re k)) rn ((lsts rp).set ((lsts rp).length - 1) ((nthS rq k).2.2))))] [dJ jf (hyP rn (lsts rp) (lsts (nthT rk rx.N.toNat).2.2) (lsts rq) re k ++ [noL ((hyE rn (lsts rp) (lsts (nthT rk rx.N.toNat).2.2) (lsts rq) re k)) rn ((lsts rp).set ((lsts rp).length - 1) ((nthS rq k).2.2))]) C0 M0 w0.heap.size, dShapes, dRow 1 rpA rp.length rpc (encSs rp), dAll rp, dRow 1 rqA rq.length rqc (encSs rq), dAll rq, dRow 1 rkA rk.length rkc (encTs rk), dAllT rk, dBox bg [.pointer (some ⟨rg, 0, none⟩)]] := by rw [← z0]; exact y0
    have z0 : hyP rn (lsts rp) (lsts (nthT rk rx.N.toNat).2.2) (lsts rq) re k ++ [noL ((hyE rn (lsts rp) (lsts (nthT rk rx.N.toNat).2.2) (lsts rq) re k)) rn ((lsts rp).set ((lsts rp).length - 1) ((nthS rq k).2.2))] = hyP rn (lsts rp) (lsts (nthT rk rx.N.toNat).2.2) (lsts rq) re (k + 1) := hys1
    have y0 := d1
    rw [z0] at y0
    have z0 := y0.erase 1
    exact ⟨_, by omega, k + 1, (n0.sub (rc4 (rc rfl (rc rfl rnl)))), z0, by omega, rfl⟩
   refine r_not (st_listInV rfl rfl) v0 rfl rfl rfl (by decide) fun z0 n0 => ?_
   refine li_nil ?_
   refine xn b1 <| wp_cond_true (n0.ev rfl) ?_
   refine wp_ret <| x_block_r <| x_then_r <| x_then_r <| x_block_r <| e_ret0 n0 rfl rfl ?_
   have n0 := q0.nf
   exact it_stopN n0 rfl (lsts_len rq ▸ hys4)
  obtain ⟨n0, hkc, hk3⟩ := kd_two o0 u0
  refine wcf p0 (decide_eq_false u0) fun q0 => ?_
  refine wsc fun p0 b1 => lR q0 fun p0 z0 => ?_
  refine wn b1 ?_
  have b1 : ((kdA rn.S ((nthS ((nthT rk (((rx.N)).toNat)).2.2) k).2.2))) = 2 := n0
  refine wct z0 (decide_eq_true b1) fun n0 => ?_
  refine c_region ?_
  refine m_loadC sv n0 rfl rfl rfl (dbox_cell (m0.get (i := 8) rfl) rfl) Tryd.underlying45 rfl (by decide) fun b1 z0 => ?_
  refine lR z0 fun b1 n0 => ?_
  have b1 := m0.nf
  refine kcl n0 ok72 (uunder_calls _ _ b1.il _ _ rn rx _ _ _ _ _ _ _ _ _ _ _ ((nthS ((nthT rk (((rx.N)).toNat)).2.2) k).2.2) _ _ ((nthS rq k).2.2) (b1.g 1) (b1.z 0) (imm_box (i := 0) rfl) (b1.g 2) (b1.g 3) (b1.g 4) (b1.g 5) (b1.g 6) (b1.g 7) (b1.g 14) (b1.g 9) (hp4 := hp4) (hq4 := hq4) (hps := hps) (hqs := hqs) (h0p := hlp0) (hsn := hsn) (hst := hty) (hlt := htl) (hct := hkc) (hk3 := hk3) (hsa := (hqm k hkq).1) (hla := (hqm k hkq).2)) ?_
  rintro n0 m0 ⟨z0, p0, rfl, q0, v0, y0, d1⟩
  have n0 := b1.callMO (i := 0) rfl q0 v0 y0 d1
  refine ⟨_, rfl, fun d1 y0 => ?_⟩
  refine asg y0 fun d1 v0 => ?_
  refine wpList_nil ?_
  refine x_block_n <| xn b0 <| wp_seq_k fun b0 d1 => cy_region ?_
  refine r_move (st_listInV rfl rfl) v0 rfl rfl rfl (by decide) fun b0 y0 => ?_
  refine r_move (st_listInV rfl rfl) y0 rfl rfl rfl (by decide) fun b0 v0 => ?_
  have b0 := n0.nf
  obtain ⟨hys1, hys2, hys3, hys4⟩ := hy_some (n := rn) (p := lsts rp) (T := lsts (nthT rk rx.N.toNat).2.2) (Q := lsts rq) (e := re) (k := k) (x := unL ((hyE rn (lsts rp) (lsts (nthT rk rx.N.toNat).2.2) (lsts rq) re k)) rn (lsts rp) ((nthS ((nthT rk (((rx.N)).toNat)).2.2) k).2.2) ((nthS rq k).2.2)) (e' := ((unA ((hyE rn (lsts rp) (lsts (nthT rk rx.N.toNat).2.2) (lsts rq) re k)) (lsts rp) ((nthS rq k).2.2)))) (by rw [lsts_len]; exact hkq) (by rw [← lsts_nth, ← lsts_nth]; exact hyK_two o0 u0)
  have u0 : (((unA ((hyE rn (lsts rp) (lsts (nthT rk rx.N.toNat).2.2) (lsts rq) re k)) (lsts rp) ((nthS rq k).2.2))) : Int) = hyAt rn (lsts rp) (lsts (nthT rk rx.N.toNat).2.2) (lsts rq) re (hyP rn (lsts rp) (lsts (nthT rk rx.N.toNat).2.2) (lsts rq) re k).length := hys3
  have o0 : St w0 (oldB w0) M0 m0 [.box rg 50 [.int .i64 ((hyAt rn (lsts rp) (lsts (nthT rk rx.N.toNat).2.2) (lsts rq) re (hyP rn (lsts rp) (lsts (nthT rk rx.N.toNat).2.2) (lsts rq) re k).length)), .int .i64 (rn.K), .int .i64 (rn.N), .int .i64 (rn.M), .string rn.S, .int .i64 (rx.K), .int .i64 (rx.N), .int .i64 (rx.M), .string rx.S, .slice rpA rp.length rpc, .slice rqA rq.length rqc, .slice rkA rk.length rkc], .row z0 ((unL ((hyE rn (lsts rp) (lsts (nthT rk rx.N.toNat).2.2) (lsts rq) re k)) rn (lsts rp) ((nthS ((nthT rk (((rx.N)).toNat)).2.2) k).2.2) ((nthS rq k).2.2)).length) p0 39 4 (encNs (unL ((hyE rn (lsts rp) (lsts (nthT rk rx.N.toNat).2.2) (lsts rq) re k)) rn (lsts rp) ((nthS ((nthT rk (((rx.N)).toNat)).2.2) k).2.2) ((nthS rq k).2.2)))] [dJ jf (hyP rn (lsts rp) (lsts (nthT rk rx.N.toNat).2.2) (lsts rq) re k) C0 M0 w0.heap.size, dShapes, dRow 1 rpA rp.length rpc (encSs rp), dAll rp, dRow 1 rqA rq.length rqc (encSs rq), dAll rq, dRow 1 rkA rk.length rkc (encTs rk), dAllT rk, dBox bg [.pointer (some ⟨rg, 0, none⟩)], dRow 4 ((nthS rq k).1) ((nthS rq k).2.2.length) ((nthS rq k).2.1) (encNs ((nthS rq k).2.2)), dAg f0 k0, dRow 1 ((nthT rk (((rx.N)).toNat)).1) ((nthT rk (((rx.N)).toNat)).2.2.length) ((nthT rk (((rx.N)).toNat)).2.1) (encSs ((nthT rk (((rx.N)).toNat)).2.2)), dAll ((nthT rk (((rx.N)).toNat)).2.2), dAg s0 i0, dRow 4 ((nthS ((nthT rk (((rx.N)).toNat)).2.2) k).1) ((nthS ((nthT rk (((rx.N)).toNat)).2.2) k).2.2.length) ((nthS ((nthT rk (((rx.N)).toNat)).2.2) k).2.1) (encNs ((nthS ((nthT rk (((rx.N)).toNat)).2.2) k).2.2))] := by rw [← u0]; exact b0
  have u0 := o0.nf
  refine y_callN (tt := .tmp 51) (pre := hyP rn (lsts rp) (lsts (nthT rk rx.N.toNat).2.2) (lsts rq) re k) (bi := 0) (ri := 1) hY rfl v0 u0 rfl rfl rfl (unL ((hyE rn (lsts rp) (lsts (nthT rk rx.N.toNat).2.2) (lsts rq) re k)) rn (lsts rp) ((nthS ((nthT rk (((rx.N)).toNat)).2.2) k).2.2) ((nthS rq k).2.2)) rfl (by decide) rfl rfl rfl (by decide) (lsts_len rq ▸ hys4) hds (fun o0 b0 m0 i0 => ?_) fun o0 b0 m0 i0 => ?_
  ·
   refine r_not (st_listInV rfl rfl) m0 rfl rfl rfl (by decide) fun o0 u0 => ?_
   refine li_nil ?_
   refine xn d1 <| wp_cond_false (u0.ev rfl) ?_
   refine wp_skip <| x_block_n <| xn j0 <| c_region ?_
   refine adi ((k + 1 : Nat) : Int) u0 fun j0 o0 => ?_
   refine mv o0 fun j0 u0 => ?_
   refine wpList_nil ?_
   have j0 := i0.nf
   have o0 : (((hyAt rn (lsts rp) (lsts (nthT rk rx.N.toNat).2.2) (lsts rq) re (hyP rn (lsts rp) (lsts (nthT rk rx.N.toNat).2.2) (lsts rq) re k).length)) : Int) = hyE rn (lsts rp) (lsts (nthT rk rx.N.toNat).2.2) (lsts rq) re (k + 1) := hys3.symm.trans hys2
   have v0 : St w0 (oldB w0) M0 b0 [.box rg 50 [.int .i64 ((hyE rn (lsts rp) (lsts (nthT rk rx.N.toNat).2.2) (lsts rq) re (k + 1))), .int .i64 (rn.K), .int .i64 (rn.N), .int .i64 (rn.M), .string rn.S, .int .i64 (rx.K), .int .i64 (rx.N), .int .i64 (rx.M), .string rx.S, .slice rpA rp.length rpc, .slice rqA rq.length rqc, .slice rkA rk.length rkc], .row z0 ((unL ((hyE rn (lsts rp) (lsts (nthT rk rx.N.toNat).2.2) (lsts rq) re k)) rn (lsts rp) ((nthS ((nthT rk (((rx.N)).toNat)).2.2) k).2.2) ((nthS rq k).2.2)).length) p0 39 4 (encNs (unL ((hyE rn (lsts rp) (lsts (nthT rk rx.N.toNat).2.2) (lsts rq) re k)) rn (lsts rp) ((nthS ((nthT rk (((rx.N)).toNat)).2.2) k).2.2) ((nthS rq k).2.2)))] [dJ jf (hyP rn (lsts rp) (lsts (nthT rk rx.N.toNat).2.2) (lsts rq) re k ++ [unL ((hyE rn (lsts rp) (lsts (nthT rk rx.N.toNat).2.2) (lsts rq) re k)) rn (lsts rp) ((nthS ((nthT rk (((rx.N)).toNat)).2.2) k).2.2) ((nthS rq k).2.2)]) C0 M0 w0.heap.size, dShapes, dRow 1 rpA rp.length rpc (encSs rp), dAll rp, dRow 1 rqA rq.length rqc (encSs rq), dAll rq, dRow 1 rkA rk.length rkc (encTs rk), dAllT rk, dBox bg [.pointer (some ⟨rg, 0, none⟩)]] := by rw [← o0]; exact j0
   have o0 : hyP rn (lsts rp) (lsts (nthT rk rx.N.toNat).2.2) (lsts rq) re k ++ [unL ((hyE rn (lsts rp) (lsts (nthT rk rx.N.toNat).2.2) (lsts rq) re k)) rn (lsts rp) ((nthS ((nthT rk (((rx.N)).toNat)).2.2) k).2.2) ((nthS rq k).2.2)] = hyP rn (lsts rp) (lsts (nthT rk rx.N.toNat).2.2) (lsts rq) re (k + 1) := hys1
   have j0 := v0
   rw [o0] at j0
   have o0 := j0.erase 1
   exact ⟨_, by omega, k + 1, (u0.sub (rc4 (rc rfl (rc rfl rnl)))), o0, by omega, rfl⟩
  refine r_not (st_listInV rfl rfl) m0 rfl rfl rfl (by decide) fun o0 u0 => ?_
  refine li_nil ?_
  refine xn d1 <| wp_cond_true (u0.ev rfl) ?_
  refine wp_ret <| x_block_r <| x_then_r <| x_then_r <| x_block_r <| e_ret0 u0 rfl rfl ?_
  have u0 := i0.nf
  exact it_stopN u0 rfl (lsts_len rq ▸ hys4)
 refine wcf c0 (decide_eq_false d0) fun u0 => ?_
 refine wp_exit ?_
 refine x_then_e ?_
 refine x_then_e ?_
 refine x_block_eq ?_
 refine e_end0 u0 rfl rfl ?_
 have u0 := h0.nf
 have h0 : (((hyE rn (lsts rp) (lsts (nthT rk rx.N.toNat).2.2) (lsts rq) re k)) : Int) = hyE rn (lsts rp) (lsts (nthT rk rx.N.toNat).2.2) (lsts rq) re rq.length := by rw [show k = rq.length by omega]
 have d0 : St w0 (oldB w0) M0 f0 [.box rg 50 [.int .i64 ((hyE rn (lsts rp) (lsts (nthT rk rx.N.toNat).2.2) (lsts rq) re rq.length)), .int .i64 (rn.K), .int .i64 (rn.N), .int .i64 (rn.M), .string rn.S, .int .i64 (rx.K), .int .i64 (rx.N), .int .i64 (rx.M), .string rx.S, .slice rpA rp.length rpc, .slice rqA rq.length rqc, .slice rkA rk.length rkc]] [dJ jf (hyP rn (lsts rp) (lsts (nthT rk rx.N.toNat).2.2) (lsts rq) re k) C0 M0 w0.heap.size, dShapes, dRow 1 rpA rp.length rpc (encSs rp), dAll rp, dRow 1 rqA rq.length rqc (encSs rq), dAll rq, dRow 1 rkA rk.length rkc (encTs rk), dAllT rk, dBox bg [.pointer (some ⟨rg, 0, none⟩)]] := by rw [← h0]; exact u0
 have h0 := d0.nf
 exact it_allN h0 rfl (j := 0) rfl (by rw [show k = rq.length by omega])
set_option maxHeartbeats 8000000 in
theorem uelimG_calls (w0 : World) (Z : Nat → Prop) (hZ : ∀ k, Z k → k < w0.heap.size) (rg : Nat) (re : Int) (rn : Nd) (rx : Nd) (rpA : Option Addr) (rpc : Nat) (rp : List Sl) (rqA : Option Addr) (rqc : Nat) (rq : List Sl) (rkA : Option Addr) (rkc : Nat) (rk : List Tl) (hShp : Shapes w0 Z) (hr : (Res.box rg 50 [.int .i64 (re), .int .i64 (rn.K), .int .i64 (rn.N), .int .i64 (rn.M), .string rn.S, .int .i64 (rx.K), .int .i64 (rx.N), .int .i64 (rx.M), .string rx.S, .slice rpA rp.length rpc, .slice rqA rq.length rqc, .slice rkA rk.length rkc]).holds w0) (hrz : ¬ Z rg) (hrp : (dRow 1 rpA rp.length rpc (encSs rp)).φ w0 Z) (hrps : (dAll rp).φ w0 Z) (hrq : (dRow 1 rqA rq.length rqc (encSs rq)).φ w0 Z) (hrqs : (dAll rq).φ w0 Z) (hrk : (dRow 1 rkA rk.length rkc (encTs rk)).φ w0 Z) (hrks : (dAllT rk).φ w0 Z) (hp4 : rp.length ≤ 9 := by first | assumption | omega | (simp <;> omega)) (hq4 : rq.length ≤ 9 := by first | assumption | omega | (simp <;> omega)) (hps : ∀ x ∈ lsts rp, sml x ∧ x.length ≤ 4000 := by first | assumption | omega | (simp <;> omega)) (hqs : ∀ x ∈ lsts rq, sml x ∧ x.length ≤ 4000 := by first | assumption | omega | (simp <;> omega)) (hcs : ∀ l ∈ lstsT rk, ∀ y ∈ l, sml y ∧ y.length ≤ 4000 := by first | assumption | omega | (simp <;> omega)) (hc4 : rk.length ≤ 1000 := by first | assumption | omega | (simp <;> omega)) (hN0 : 0 ≤ rx.N := by first | assumption | omega | (simp <;> omega)) (hlp : rp.length = many rn := by first | assumption | omega | (simp <;> omega)) (hlq : rq.length = many rx := by first | assumption | omega | (simp <;> omega)) (hsn : rn.S.size < 1000000 := by first | assumption | omega | (simp <;> omega)) (he : re = 0 := by first | assumption | omega | (simp <;> omega)) (h27 : rn.K = 27 := by first | assumption | omega | (simp <;> omega)) (h26 : rx.K = 26 := by first | assumption | omega | (simp <;> omega)) (hM0 : 0 ≤ rx.M := by first | assumption | omega | (simp <;> omega)) :
    Calls Tryd.prog 41 [.pointer (some ⟨rg, 0, none⟩)].toArray w0 (fun e w' => ∃ (rA0 : Option Addr) (rc0 : Nat) (rL0 : List Nd), e = .returned (.slice rA0 rL0.length rc0) ∧ Fr (· = rg) w0 w' ∧ (Res.box rg 50 [.int .i64 (((elG rn rx (lsts rp) (lsts rq) (lstsT rk)).2)), .int .i64 (rn.K), .int .i64 (rn.N), .int .i64 (rn.M), .string rn.S, .int .i64 (rx.K), .int .i64 (rx.N), .int .i64 (rx.M), .string rx.S, .slice rpA rp.length rpc, .slice rqA rq.length rqc, .slice rkA rk.length rkc]).holds w' ∧ (dRow 4 rA0 rL0.length rc0 (encNs rL0)).φ w' (nxt Z w0 w') ∧ rL0 = (elG rn rx (lsts rp) (lsts rq) (lstsT rk)).1) := by
 have b0 := sM hr hrz hZ (zc (d := dShapes) hShp (zc hrp (zc hrps (zc hrq (zc hrqs (zc hrk (zc hrks zn)))))))
 have hpm : ∀ k, k < rp.length → sml (nthS rp k).2.2 ∧ (nthS rp k).2.2.length ≤ 4000 := fun k hk => hps _ (nthS_in hk)
 have hqm : ∀ k, k < rq.length → sml (nthS rq k).2.2 ∧ (nthS rq k).2.2.length ≤ 4000 := fun k hk => hqs _ (nthS_in hk)
 have hcl : (nthLL (lstsT rk) rx.N.toNat).length = (nthT rk rx.N.toNat).2.2.length := by rw [← lstsT_nth, lsts_len]
 have hm27 := many_27 h27
 have hm26 := many_26 h26
 have hctl := lstsT_len rk
 refine c_enterM Tryd.func41 rfl Tryd.ntmps41 rfl fun c0 d0 => ?_
 refine wsc fun c0 f0 => bxx d0 b0 fun c0 h0 i0 j0 k0 => ?_
 refine aw j0 f0 fun c0 d0 => ?_
 refine wp_seq_k fun f0 c0 => wp_seq_k fun f0 j0 => ?_
 obtain ⟨f0, b0, m0⟩ := k0.agree
 refine d_reg3 (n := 57) m0 7 (pB 0 1 (pc 1 0 pn)) (pan_then (pan_then pan_bodyM)) fun k0 n0 o0 p0 q0 s0 => ?_
 refine dR [0, 1, 2, 3, 4, 5, 6, 7, 8, 9, 10, 11] d0 fun k0 m0 => ?_
 refine dOr 12 [13, 14, 15, 16, 17, 18, 19, 20, 21, 22] 23 (!(decide ((rn.M) = ((rk.length : Nat) : Int)))) m0 fun k0 d0 => ?_
 refine dR [24] d0 fun k0 m0 => ?_
 refine dOr 25 [26, 27, 28, 29, 30, 31, 32, 33, 34, 35] 36 (decide (((rk.length : Nat) : Int) ≤ (rx.N))) m0 fun k0 d0 => ?_
 refine dR [37] d0 fun k0 m0 => ?_
 refine d_or 38 [39, 40, 41, 42, 43, 44, 45, 46, 47, 48, 49, 50, 51, 52, 53, 54, 55] 56 (!(decide ((((nthT rk (((rx.N)).toNat)).2.2.length : Nat) : Int) = (rx.M)))) n0 m0 s0 (fun k0 d0 t0 => ?_) fun u0 v0 => ?_
 ·
  have u0 := or_fl k0
  have m0 := or_fl u0
  have s0 := not_f m0
  have m0 := of_decide_eq_true s0
  have m0 := or_fr u0
  have u0 := not_f m0
  have m0 := of_decide_eq_true u0
  have m0 := or_fr k0
  have k0 := of_decide_eq_false m0
  have k0 : rx.N < ((rk.length : Nat) : Int) := by omega
  have hpn : (rx.N + 1).toNat < rp.length := by omega
  refine dR [38, 39, 40, 41, 42, 43, 44, 45, 46] d0 fun m0 u0 => ?_
  refine dix 47 (((rx.N)).toNat) ((((rx.N)).toNat) * 1) u0 (fun x hx => (ts_elem (t := rk) (k := ((rx.N)).toNat) (sdat (b0 5 _ rfl) hx.ag).2 (by omega)).some_) fun m0 d0 => ?_
  refine dle 48 0 ((((rx.N)).toNat) * 1) d0 (fun x hx => ts_elem (t := rk) (k := ((rx.N)).toNat) (sdat (b0 5 _ rfl) hx.ag).2 (by omega)) fun m0 u0 => ?_
  have m0 := q0.elT 6 (((rx.N)).toNat)
  have d0 := m0.elA 6 (((rx.N)).toNat)
  refine dR [49, 50, 51, 52, 53, 54, 55, 56] u0 fun d0 m0 => ?_
  exact t0.fin m0
 refine wpAnyH_done (by kernel_rfl) (o0 _ _ ?_) _
 refine xn j0 ?_
 rcases Bool.eq_false_or_eq_true (((((!(decide (rx.S = rn.S))) || (!(decide ((rn.M) = ((rk.length : Nat) : Int))))) || (decide (((rk.length : Nat) : Int) ≤ (rx.N)))) || (!(decide ((((nthT rk (((rx.N)).toNat)).2.2.length : Nat) : Int) = (rx.M)))))) with j0 | j0
 ·
  have o0 := j0
  try simp only [bz] at o0
  refine wct v0 j0 fun m0 => ?_
  refine wsc fun t0 d0 => lR m0 fun t0 u0 => ?_
  have t0 := q0.nf
  refine kcl u0 ok42 (stuck_calls _ _ t0.il _ _ _ _ (t0.z 0) (imm_box (i := 0) rfl)) ?_
  rintro u0 m0 ⟨b0, s0, rfl, n0, x0, y0⟩
  have m0 := t0.callM (i := 0) rfl n0 x0
  have x0 := t0.dM 0 m0 y0
  refine ⟨_, rfl, fun m0 y0 => ?_⟩
  refine aw y0 d0 fun m0 t0 => ?_
  refine wp_ret <| x_then_r <| m_none (.inl rfl) t0 rfl (res1 t0 rfl rfl _) ?_
  refine ⟨b0, s0, ([] : List Nd), ?_, x0.fr, (by rw [show ((elG rn rx (lsts rp) (lsts rq) (lstsT rk)).2 : Int) = ((if (re) = 0 then 120 else (re))) by (unfold elG; rw [if_neg (by rintro ⟨t0, d0, m0, y0⟩; rcases o0 with ((z | z) | z) | z <;> first | contradiction | omega)]; simp [he])]; exact x0.res (i := 0) rfl), x0.rx 8, (by unfold elG; rw [if_neg (by rintro ⟨t0, d0, m0, y0⟩; rcases o0 with ((z | z) | z) | z <;> first | contradiction | omega)])⟩
  exact cr (ret_s (by rfl))
 have y0 := or_fl j0
 have m0 := or_fl y0
 have d0 := or_fl m0
 have t0 := not_f d0
 have d0 := of_decide_eq_true t0
 have d0 := or_fr m0
 have m0 := not_f d0
 have d0 := of_decide_eq_true m0
 have d0 := or_fr y0
 have y0 := of_decide_eq_false d0
 have k0 : rx.N < ((rk.length : Nat) : Int) := by omega
 have hpn : (rx.N + 1).toNat < rp.length := by omega
 have y0 := or_fr j0
 have d0 := not_f y0
 have y0 := of_decide_eq_true d0
 refine wcf v0 j0 fun y0 => ?_
 refine wp_skip <| xn c0 <| wp_seq_k fun c0 j0 => ?_
 obtain ⟨c0, v0, d0⟩ := q0.agree
 refine d_reg3 (n := 14) d0 8 (pB 0 1 (pc 1 0 pn)) (pan_then pan_bodyM) fun q0 m0 t0 x0 s0 b0 => ?_
 refine dR [0, 1, 2, 3, 4, 5, 6, 7, 8] y0 fun x0 q0 => ?_
 refine dt 9 rfl m0 q0 (want_n rfl) (fun x hx => r_add (z := (rx.N + 1)) (sy q0) q0 rfl rfl rfl rfl (by decide) (by omega) (by omega) (by omega) gt) b0 fun x0 y0 => ?_
 refine dix 10 (((rx.N + 1)).toNat) ((((rx.N + 1)).toNat) * 1) y0 (fun x hx => (ss_elem (t := rp) (k := ((rx.N + 1)).toNat) (sdat (v0 1 _ rfl) hx.ag).2 (by omega)).some_) fun x0 q0 => ?_
 refine dle 11 0 ((((rx.N + 1)).toNat) * 1) q0 (fun x hx => ss_elem (t := rp) (k := ((rx.N + 1)).toNat) (sdat (v0 1 _ rfl) hx.ag).2 (by omega)) fun x0 y0 => ?_
 have x0 := s0.el 2 (((rx.N + 1)).toNat)
 refine d1 12 ?_
 refine alc y0 x0 fun s0 q0 v0 b0 m0 => ?_
 have q0 := sWI m0 8 (pB 0 1 (pc 1 0 pn))
 refine ⟨q0, ?_⟩
 refine d1 13 ?_
 refine sto 2 b0 m0 fun q0 s0 x0 y0 => ?_
 have s0 := sWI y0 8 (pB 0 1 (pc 1 0 pn))
 refine ⟨s0, ?_⟩
 refine wpAnyH_done (by kernel_rfl) (t0 _ _ ?_) _
 refine xn j0 <| wsc fun j0 t0 => r_makeFunc sv x0 rfl rfl rfl (by decide) fun j0 s0 => ?_
 refine alc s0 y0 fun j0 x0 q0 m0 b0 => ?_
 refine sto 3 m0 b0 fun x0 j0 s0 y0 => ?_
 refine wn t0 <| wp_seq_k fun t0 j0 => wsc fun t0 x0 => lR s0 fun t0 b0 => ?_
 refine wn x0 <| wp_block ?_
 have x0 : (nthS rp (((rx.N + 1)).toNat)).2.2 = apK (nthS rp (rx.N + 1).toNat).2.2 (lsts rq) 0 := rfl
 have t0 := b0
 have b0 := y0
 (try rw [x0] at t0); rw [x0] at b0
 refine wp_loop_ghost (fun gn ga gw => ∃ k : Nat, ∃ oA : Option Addr, ∃ oc : Nat, (Reg ga 102 [(1000000, .bool false), (1, .pointer (some ⟨i0, 0, none⟩)), (2, .slice none 0 0), (3, .pointer (some ⟨v0, 0, none⟩)), (4, .pointer (some ⟨q0, 0, none⟩)), (85, .slice rqA rq.length rqc), (86, .int .i64 ((rq.length : Nat) : Int)), (87, .int .i64 ((k : Nat) : Int))]) ∧ (St w0 Z (· = rg) gw [.box rg 50 [.int .i64 (re), .int .i64 (rn.K), .int .i64 (rn.N), .int .i64 (rn.M), .string rn.S, .int .i64 (rx.K), .int .i64 (rx.N), .int .i64 (rx.M), .string rx.S, .slice rpA rp.length rpc, .slice rqA rq.length rqc, .slice rkA rk.length rkc], .box i0 45 [.pointer (some ⟨rg, 0, none⟩)], .box v0 22 [.slice oA ((apK (nthS rp (rx.N + 1).toNat).2.2 (lsts rq) k).length) oc], .box q0 99 [.func (.func 60) #[] #[.pointer (some ⟨i0, 0, none⟩), .pointer (some ⟨v0, 0, none⟩)]]] [dShapes, dRow 1 rpA rp.length rpc (encSs rp), dAll rp, dRow 1 rqA rq.length rqc (encSs rq), dAll rq, dRow 1 rkA rk.length rkc (encTs rk), dAllT rk, dAg h0 f0, dAg p0 c0, dRow 4 oA ((apK (nthS rp (rx.N + 1).toNat).2.2 (lsts rq) k).length) oc (encNs (apK (nthS rp (rx.N + 1).toNat).2.2 (lsts rq) k))]) ∧ (k ≤ rq.length) ∧ (rq.length - k) = gn) _ ⟨0, (nthS rp (((rx.N + 1)).toNat)).1, (nthS rp (((rx.N + 1)).toNat)).2.1, (t0.sub (rc4 (rc2 (rc rfl (rc rfl rnl))))), b0, by omega, rfl⟩ ?_
 rintro b0 t0 c0 ⟨k, oA, oc, p0, f0, hk, h0⟩
 have hol := apK_len (o := (nthS rp (rx.N + 1).toNat).2.2) (q := lsts rq) (hpm _ (by omega)).2 (fun y hy => (hqs y hy).2) k (by rw [lsts_len]; omega)
 refine wsc fun h0 t0 => lR p0 fun h0 b0 => ?_
 refine wn t0 <| wp_seq_k fun t0 h0 => ?_
 rcases Decidable.em (((k : Nat) : Int) < ((rq.length : Nat) : Int)) with t0 | t0
 ·
  refine wct b0 (decide_eq_true t0) fun p0 => ?_
  refine wp_skip <| xn h0 <| wp_seq_k fun h0 x0 => wp_block ?_
  refine wsc fun h0 y0 => ix k (k * 1) p0 (ss_elem (t := rq) (k := k) (f0.row (i := 3) rfl).2 (by omega)).some_ fun h0 s0 => ?_
  refine lde 0 (k * 1) s0 (ss_elem (t := rq) (k := k) (f0.row (i := 3) rfl).2 (by omega)) fun h0 p0 => ?_
  have h0 := f0.el 4 k
  refine asg p0 fun s0 m0 => ?_
  refine wpList_nil (x_then_n (y0 _ _ (c_region ?_)))
  refine lR m0 fun y0 s0 => ?_
  refine k_inlV (cs := [.pointer (some ⟨i0, 0, none⟩), .pointer (some ⟨v0, 0, none⟩)]) (xs := [.tmp 92]) (xv := [.slice ((nthS rq k).1) ((nthS rq k).2.2.length) ((nthS rq k).2.1), .pointer (some ⟨i0, 0, none⟩), .pointer (some ⟨v0, 0, none⟩)]) se s0 rfl rfl rfl rfl (by decide) ok60 rfl ?_
  refine c_enter (vs := [.slice ((nthS rq k).1) ((nthS rq k).2.2.length) ((nthS rq k).2.1), .pointer (some ⟨i0, 0, none⟩), .pointer (some ⟨v0, 0, none⟩)]) Tryd.func60 rfl Tryd.ntmps60 rfl fun s0 y0 => ?_
  obtain ⟨s0, m0, p0⟩ := h0.agree
  refine dl_region2 (S := (sW c0 s0 [cel rg 1 (.int .i64 (rn.K)), cel rg 2 (.int .i64 (rn.N)), cel rg 3 (.int .i64 (rn.M)), cel rg 4 (.string rn.S), cel rg 5 (.int .i64 (rx.K)), cel rg 6 (.int .i64 (rx.N)), cel rg 7 (.int .i64 (rx.M)), cel rg 8 (.string rx.S), cel rg 9 (.slice rpA rp.length rpc), cel rg 10 (.slice rqA rq.length rqc), cel rg 11 (.slice rkA rk.length rkc), cel i0 0 (.pointer (some ⟨rg, 0, none⟩)), cel v0 0 (.slice oA ((apK (nthS rp (rx.N + 1).toNat).2.2 (lsts rq) k).length) oc)])) (n := 9) [8] mixed rfl p0 pan_body fun m0 h0 d0 o0 n0 => ?_
  have o0 := sWI n0 11 (pc 0 1 (pc 0 2 (pc 0 3 (pc 0 4 (pc 0 5 (pc 0 6 (pc 0 7 (pc 0 8 (pc 0 9 (pc 0 10 (pc 0 11 (pc 1 0 (pc 2 0 pn)))))))))))))
  refine dlt 0 rfl h0 y0 (want_n rfl) (fun x hx => m_loadC (sy y0) y0 rfl rfl rfl (hx.c 11) Tryd.underlying45 rfl (by decide) gt) o0 fun m0 p0 => ?_
  refine dtv 1 h0 p0 fun m0 y0 => ?_
  refine dta 2 rfl h0 y0 (want_n rfl) (fun x => m_field (j' := 0) (sy y0) y0 rfl rfl rfl Tryd.underlying50 rfl sz48 rfl rfl (by decide) gt) fun m0 p0 => ?_
  refine dta 3 rfl h0 p0 (want_n rfl) (fun x => bldY p0) fun m0 y0 => ?_
  refine dlt 4 rfl h0 y0 (want_n rfl) (fun x hx => m_loadC (sy y0) y0 rfl rfl rfl (hx.c 12) Tryd.underlying22 rfl (by decide) gt) o0 fun m0 p0 => ?_
  refine dtv 5 h0 p0 fun m0 y0 => ?_
  refine dl_one (i := 6) (by kernel_rfl) ?_
  have m0 := n0.data (dAll [((oA, oc, apK (nthS rp (rx.N + 1).toNat).2.2 (lsts rq) k) : Sl), (((nthS rq k).1, (nthS rq k).2.1, (nthS rq k).2.2) : Sl)]) (all_cons (n0.get (i := 9) rfl) (all_cons (n0.get (i := 10) rfl) all_nil))
  refine bsl y0 m0 fun n0 p0 h0 o0 s0 => ?_
  have p0 := sWI s0 11 (pc 0 1 (pc 0 2 (pc 0 3 (pc 0 4 (pc 0 5 (pc 0 6 (pc 0 7 (pc 0 8 (pc 0 9 (pc 0 10 (pc 0 11 (pc 1 0 (pc 2 0 pn)))))))))))))
  refine ⟨fun _ _ => p0, ?_⟩
  refine dl_one (i := 7) (by kernel_rfl) ?_
  have p0 := s0.nf
  have s0 := own_cap (p0.res (i := 4) rfl)
  obtain ⟨n0, m0⟩ := p0.row_dataM (i := 4) rfl (j := 0) rfl (by decide)
  have p0 := n0.data (dRow 1 (some ⟨h0, 0, none⟩) 2 2 (encSs ([((oA, oc, apK (nthS rp (rx.N + 1).toNat).2.2 (lsts rq) k) : Sl), (((nthS rq k).1, (nthS rq k).2.1, (nthS rq k).2.2) : Sl)]))) ⟨s0, m0⟩
  refine kcl o0 ok59 (nodeO_calls _ _ p0.il _ _ _ _ (⟨5, 0, 0, (⟨#[]⟩ : ByteArray)⟩ : Nd) _ _ ([((oA, oc, apK (nthS rp (rx.N + 1).toNat).2.2 (lsts rq) k) : Sl), (((nthS rq k).1, (nthS rq k).2.1, (nthS rq k).2.2) : Sl)]) (p0.z 0) (imm_box (i := 0) rfl) (p0.g 13) (p0.g 12) (hl := (by simp)) (hb := (by intro x hx; simp only [List.mem_cons, List.not_mem_nil, or_false] at hx; rcases hx with rfl | rfl; first | omega | (simp only []; omega); first | exact Nat.le_trans (hqm k (by omega)).2 (by decide) | omega | (simp only []; omega)))) ?_
  rintro o0 m0 ⟨n0, s0, rfl, h0, y0, c0, u0⟩
  have m0 := p0.callMO (i := 0) rfl h0 y0 c0 u0
  refine ⟨_, rfl, fun u0 c0 => ?_⟩
  have u0 := sWI m0 11 (pc 0 1 (pc 0 2 (pc 0 3 (pc 0 4 (pc 0 5 (pc 0 6 (pc 0 7 (pc 0 8 (pc 0 9 (pc 0 10 (pc 0 11 (pc 1 0 (pc 2 0 pn)))))))))))))
  refine ⟨fun _ _ => u0, ?_⟩
  refine dl_one (i := 8) (by kernel_rfl) ?_
  refine sto 2 c0 m0 fun u0 y0 h0 p0 => ?_
  refine ⟨fun h => absurd h (by decide), ?_⟩
  refine dl_done (by kernel_rfl) (d0 _ _ ?_) _
  refine e_end0 h0 rfl rfl ?_
  refine ⟨_, rfl, fun h0 d0 => ?_⟩
  refine wpList_nil ?_
  refine x_block_n <| xn x0 <| c_region ?_
  refine adi ((k + 1 : Nat) : Int) d0 fun x0 h0 => ?_
  refine mv h0 fun x0 d0 => ?_
  refine wpList_nil ?_
  have x0 := own_cap (p0.res (i := 4) rfl)
  obtain ⟨h0, y0⟩ := p0.row_dataM (i := 4) rfl (j := 0) rfl (by decide)
  have p0 := h0.data (dRow 4 n0 ((noL (re) (⟨5, 0, 0, (⟨#[]⟩ : ByteArray)⟩ : Nd) (lsts ([((oA, oc, apK (nthS rp (rx.N + 1).toNat).2.2 (lsts rq) k) : Sl), (((nthS rq k).1, (nthS rq k).2.1, (nthS rq k).2.2) : Sl)]))).length) s0 (encNs (noL (re) (⟨5, 0, 0, (⟨#[]⟩ : ByteArray)⟩ : Nd) (lsts ([((oA, oc, apK (nthS rp (rx.N + 1).toNat).2.2 (lsts rq) k) : Sl), (((nthS rq k).1, (nthS rq k).2.1, (nthS rq k).2.2) : Sl)]))))) ⟨x0, y0⟩
  have y0 : noL (re) (⟨5, 0, 0, (⟨#[]⟩ : ByteArray)⟩ : Nd) (lsts ([((oA, oc, apK (nthS rp (rx.N + 1).toNat).2.2 (lsts rq) k) : Sl), (((nthS rq k).1, (nthS rq k).2.1, (nthS rq k).2.2) : Sl)])) = apK (nthS rp (rx.N + 1).toNat).2.2 (lsts rq) (k + 1) := by rw [apK_succ (by rw [lsts_len]; omega), he]; simp only [lsts_cons1, lsts_nil1, lsts_nth]
  have h0 := d0
  have d0 := p0
  (try rw [y0] at h0); rw [y0] at d0
  have y0 := d0.forget 13
  have d0 := y0.forget 12
  have y0 := d0.forget 11
  have d0 := y0.forget 10
  have y0 := d0.forget 9
  exact ⟨_, by omega, k + 1, n0, s0, (h0.sub (rc4 (rc2 (rc rfl (rc rfl rnl))))), y0, by omega, rfl⟩
 refine wcf b0 (decide_eq_false t0) fun y0 => ?_
 refine wp_exit ?_
 refine x_then_e ?_
 refine x_then_e ?_
 refine x_block_eq ?_
 refine xn j0 <| wp_seq_k fun j0 t0 => wsc fun j0 b0 => lR y0 fun j0 h0 => ?_
 refine k_inl (xs := [.tmp 95]) se h0 rfl rfl rfl (by decide) ok61 ?_
 refine c_enter (vs := [.pointer (some ⟨rg, 0, none⟩)]) Tryd.func61 rfl Tryd.ntmps61 rfl fun h0 j0 => ?_
 refine wsc fun h0 y0 => bxx j0 f0 fun h0 s0 n0 d0 p0 => ?_
 refine aw d0 y0 fun s0 h0 => ?_
 refine wsc fun y0 s0 => r_makeFunc sv h0 rfl rfl rfl (by decide) fun y0 d0 => ?_
 refine aw d0 s0 fun y0 h0 => ?_
 refine wp_ret <| er1 h0 ?_
 refine ⟨_, rfl, fun h0 s0 => ?_⟩
 refine wn b0 <| wp_block ?_
 obtain ⟨b0, y0⟩ := p0.box_dataX (i := 4) rfl (j := 0) rfl (by decide)
 have p0 := b0.data (dBox n0 [.pointer (some ⟨rg, 0, none⟩)]) y0
 have y0 : apK (nthS rp (rx.N + 1).toNat).2.2 (lsts rq) k = apK (nthS rp (rx.N + 1).toNat).2.2 (lsts rq) rq.length := by rw [show k = rq.length by omega]
 have b0 := s0
 have s0 := p0
 (try rw [y0] at b0); rw [y0] at s0
 have hbd := hyR_sz (n := rn) (p := lsts rp) (T := lsts (nthT rk rx.N.toNat).2.2) (Q := lsts rq) (e := re) hsn hps (by rw [lsts_len]; omega) (fun y hy => hcs _ (List.mem_map_of_mem (nthT_mem (by omega))) y hy) hqs (lsts rq).length
 have hoo := hyOut_len (n := rn) (p := lsts rp) (T := lsts (nthT rk rx.N.toNat).2.2) (Q := lsts rq) (e := re) (o := apK (nthS rp (rx.N + 1).toNat).2.2 (lsts rq) rq.length) hbd
 have holq := apK_len (o := (nthS rp (rx.N + 1).toNat).2.2) (q := lsts rq) (hpm _ (by omega)).2 (fun y hy => (hqs y hy).2) rq.length (by rw [lsts_len]; omega)
 have y0 := s0.nf
 have s0 : Reg h0 102 [(1000000, .bool false), (2, .slice none 0 0), (3, .pointer (some ⟨v0, 0, none⟩)), (4, .pointer (some ⟨q0, 0, none⟩)), (96, .func (.func 71) #[] #[.pointer (some ⟨n0, 0, none⟩)])] := (b0.sub (rc4 (rc rfl rnl)))
 refine w_rangeN (s0.ev rfl) ok71 (hyp_yields _ (imm Z w0 [.box rg 50 [.int .i64 (re), .int .i64 (rn.K), .int .i64 (rn.N), .int .i64 (rn.M), .string rn.S, .int .i64 (rx.K), .int .i64 (rx.N), .int .i64 (rx.M), .string rx.S, .slice rpA rp.length rpc, .slice rqA rq.length rqc, .slice rkA rk.length rkc], .box i0 45 [.pointer (some ⟨rg, 0, none⟩)], .box v0 22 [.slice oA ((apK (nthS rp (rx.N + 1).toNat).2.2 (lsts rq) rq.length).length) oc], .box q0 99 [.func (.func 60) #[] #[.pointer (some ⟨i0, 0, none⟩), .pointer (some ⟨v0, 0, none⟩)]]] _) rg n0 re rn rx _ _ rp _ _ rq _ _ rk (y0.get (i := 0) rfl) (y0.get (i := 1) rfl) (y0.get (i := 2) rfl) (y0.get (i := 3) rfl) (y0.get (i := 4) rfl) (y0.get (i := 5) rfl) (y0.get (i := 6) rfl) (y0.get (i := 10) rfl) hp4 hq4 hps hqs hcs hc4 hN0 k0 (by omega) (by omega) hsn) rfl (by decide) y0 (fun _ h => h) (fun (pre : List (List Nd)) (mm : List Res) => (pre = [] ∧ mm = [.box i0 45 [.pointer (some ⟨rg, 0, none⟩)], .box v0 22 [.slice oA ((apK (nthS rp (rx.N + 1).toNat).2.2 (lsts rq) rq.length).length) oc], .box q0 99 [.func (.func 60) #[] #[.pointer (some ⟨i0, 0, none⟩), .pointer (some ⟨v0, 0, none⟩)]]]) ∨ ∃ b0 : Option Addr, ∃ h0 : Nat, mm = [.box i0 45 [.pointer (some ⟨rg, 0, none⟩)], .box v0 22 [.slice b0 ((hyOut rn (lsts rp) (lsts (nthT rk rx.N.toNat).2.2) (lsts rq) re (apK (nthS rp (rx.N + 1).toNat).2.2 (lsts rq) rq.length) pre.length).length) h0], .box q0 99 [.func (.func 60) #[] #[.pointer (some ⟨i0, 0, none⟩), .pointer (some ⟨v0, 0, none⟩)]], .row b0 ((hyOut rn (lsts rp) (lsts (nthT rk rx.N.toNat).2.2) (lsts rq) re (apK (nthS rp (rx.N + 1).toNat).2.2 (lsts rq) rq.length) pre.length).length) h0 39 4 (encNs (hyOut rn (lsts rp) (lsts (nthT rk rx.N.toNat).2.2) (lsts rq) re (apK (nthS rp (rx.N + 1).toNat).2.2 (lsts rq) rq.length) pre.length))]) (.inl ⟨rfl, rfl⟩) ?_ ?_
 ·
  rintro y0 pre x k0 p0 d0 m1 hp j0 f0
  rcases j0 with ⟨rfl, rfl⟩ | ⟨b0, h0, rfl⟩
  ·
   have hxb := hyX_bd (pre := ([] : List (List Nd))) hbd (lsts_len rq ▸ hp)
   have hxl := hxb.2
   have hoj := hoo (([] : List (List Nd))).length
   have hoz : min (([] : List (List Nd))).length (lsts rq).length * 60001 ≤ 9 * 60001 := Nat.mul_le_mul_right _ (by rw [lsts_len]; omega)
   refine (?_ : ∀ j0, Reg j0 102 [(97, .slice k0 x.length p0), (1000000, .bool false), (2, .slice none 0 0), (3, .pointer (some ⟨v0, 0, none⟩)), (4, .pointer (some ⟨q0, 0, none⟩)), (96, .func (.func 71) #[] #[.pointer (some ⟨n0, 0, none⟩)])] → Code.wpIn (rI y0) 0 _ _ _ j0 d0) _ (Reg.round1n s0 (by decide) rfl)
   intro x0 u0
   refine ci_region (by kernel_rfl) (out_then (fun _ _ h => h)) ?_
   refine asg u0 fun x0 c0 => ?_
   refine wpList_nil ?_
   have x0 := f0.nf
   refine x_then_n ⟨_, _, 11, 12, x0, rfl, rfl, (fun _ h => ⟨_, List.mem_cons_self, by rw [h]; rfl⟩), (fun _ h => ⟨_, List.mem_cons_self, by rw [h]; rfl⟩), fun u0 m0 => ?_⟩
   refine wpIn_block ?_
   refine ci_region (by kernel_rfl) (out_block out_nPost) ?_
   refine lR c0 fun x0 o0 => ?_
   refine k_inlV (cs := [.pointer (some ⟨i0, 0, none⟩), .pointer (some ⟨v0, 0, none⟩)]) (xs := [.tmp 99]) (xv := [.slice k0 x.length p0, .pointer (some ⟨i0, 0, none⟩), .pointer (some ⟨v0, 0, none⟩)]) se o0 rfl rfl rfl rfl (by decide) ok60 rfl ?_
   refine c_enter (vs := [.slice k0 x.length p0, .pointer (some ⟨i0, 0, none⟩), .pointer (some ⟨v0, 0, none⟩)]) Tryd.func60 rfl Tryd.ntmps60 rfl fun o0 x0 => ?_
   obtain ⟨o0, c0, z0⟩ := m0.agree
   refine dl_region2 (S := (sW u0 o0 [cel rg 1 (.int .i64 (rn.K)), cel rg 2 (.int .i64 (rn.N)), cel rg 3 (.int .i64 (rn.M)), cel rg 4 (.string rn.S), cel rg 5 (.int .i64 (rx.K)), cel rg 6 (.int .i64 (rx.N)), cel rg 7 (.int .i64 (rx.M)), cel rg 8 (.string rx.S), cel rg 9 (.slice rpA rp.length rpc), cel rg 10 (.slice rqA rq.length rqc), cel rg 11 (.slice rkA rk.length rkc), cel i0 0 (.pointer (some ⟨rg, 0, none⟩)), cel v0 0 (.slice oA ((apK (nthS rp (rx.N + 1).toNat).2.2 (lsts rq) rq.length).length) oc)])) (n := 9) [8] mixed rfl z0 pan_body fun c0 m0 b1 c1 f1 => ?_
   have c1 := sWI f1 13 (pc 0 1 (pc 0 2 (pc 0 3 (pc 0 4 (pc 0 5 (pc 0 6 (pc 0 7 (pc 0 8 (pc 0 9 (pc 0 10 (pc 0 11 (pc 1 0 (pc 2 0 pn)))))))))))))
   refine dlt 0 rfl m0 x0 (want_n rfl) (fun x hx => m_loadC (sy x0) x0 rfl rfl rfl (hx.c 11) Tryd.underlying45 rfl (by decide) gt) c1 fun c0 z0 => ?_
   refine dtv 1 m0 z0 fun c0 x0 => ?_
   refine dta 2 rfl m0 x0 (want_n rfl) (fun x => m_field (j' := 0) (sy x0) x0 rfl rfl rfl Tryd.underlying50 rfl sz48 rfl rfl (by decide) gt) fun c0 z0 => ?_
   refine dta 3 rfl m0 z0 (want_n rfl) (fun x => bldY z0) fun c0 x0 => ?_
   refine dlt 4 rfl m0 x0 (want_n rfl) (fun x hx => m_loadC (sy x0) x0 rfl rfl rfl (hx.c 12) Tryd.underlying22 rfl (by decide) gt) c1 fun c0 z0 => ?_
   refine dtv 5 m0 z0 fun c0 x0 => ?_
   refine dl_one (i := 6) (by kernel_rfl) ?_
   have c0 := f1.data (dAll [((oA, oc, apK (nthS rp (rx.N + 1).toNat).2.2 (lsts rq) rq.length) : Sl), ((k0, p0, x) : Sl)]) (all_cons (f1.get (i := 9) rfl) (all_cons (f1.get (i := 12) rfl) all_nil))
   refine bsl x0 c0 fun f1 z0 m0 c1 o0 => ?_
   have z0 := sWI o0 13 (pc 0 1 (pc 0 2 (pc 0 3 (pc 0 4 (pc 0 5 (pc 0 6 (pc 0 7 (pc 0 8 (pc 0 9 (pc 0 10 (pc 0 11 (pc 1 0 (pc 2 0 pn)))))))))))))
   refine ⟨fun _ _ => z0, ?_⟩
   refine dl_one (i := 7) (by kernel_rfl) ?_
   have z0 := o0.nf
   have o0 := own_cap (z0.res (i := 4) rfl)
   obtain ⟨f1, c0⟩ := z0.row_dataM (i := 4) rfl (j := 0) rfl (by decide)
   have z0 := f1.data (dRow 1 (some ⟨m0, 0, none⟩) 2 2 (encSs ([((oA, oc, apK (nthS rp (rx.N + 1).toNat).2.2 (lsts rq) rq.length) : Sl), ((k0, p0, x) : Sl)]))) ⟨o0, c0⟩
   refine kcl c1 ok59 (nodeO_calls _ _ z0.il _ _ _ _ (⟨5, 0, 0, (⟨#[]⟩ : ByteArray)⟩ : Nd) _ _ ([((oA, oc, apK (nthS rp (rx.N + 1).toNat).2.2 (lsts rq) rq.length) : Sl), ((k0, p0, x) : Sl)]) (z0.z 0) (imm_box (i := 0) rfl) (z0.g 15) (z0.g 14) (hl := (by simp)) (hb := (by intro x hx; simp only [List.mem_cons, List.not_mem_nil, or_false] at hx; rcases hx with rfl | rfl; first | omega | (simp only []; omega); first | exact Nat.le_trans (hqm k (by omega)).2 (by decide) | omega | (simp only []; omega)))) ?_
   rintro c1 c0 ⟨f1, o0, rfl, m0, x0, u0, h1⟩
   have o0 := z0.callMO (i := 0) rfl m0 x0 u0 h1
   refine ⟨_, rfl, fun h1 u0 => ?_⟩
   have h1 := sWI o0 13 (pc 0 1 (pc 0 2 (pc 0 3 (pc 0 4 (pc 0 5 (pc 0 6 (pc 0 7 (pc 0 8 (pc 0 9 (pc 0 10 (pc 0 11 (pc 1 0 (pc 2 0 pn)))))))))))))
   refine ⟨fun _ _ => h1, ?_⟩
   refine dl_one (i := 8) (by kernel_rfl) ?_
   refine sto 2 u0 o0 fun h1 x0 m0 z0 => ?_
   refine ⟨fun h => absurd h (by decide), ?_⟩
   refine dl_done (by kernel_rfl) (b1 _ _ ?_) _
   refine e_end0 m0 rfl rfl ?_
   refine ⟨_, rfl, fun m0 b1 => ?_⟩
   refine wpList_nil ?_
   refine x_block_n ?_
   have b1 := z0.nf
   have z0 := (b1).nf
   have b1 : noL ((hyAt rn (lsts rp) (lsts (nthT rk rx.N.toNat).2.2) (lsts rq) re (([] : List (List Nd))).length)) (⟨5, 0, 0, (⟨#[]⟩ : ByteArray)⟩ : Nd) (lsts ([((oA, oc, apK (nthS rp (rx.N + 1).toNat).2.2 (lsts rq) rq.length) : Sl), ((k0, p0, x) : Sl)])) = hyOut rn (lsts rp) (lsts (nthT rk rx.N.toNat).2.2) (lsts rq) re (apK (nthS rp (rx.N + 1).toNat).2.2 (lsts rq) rq.length) (([] : List (List Nd)) ++ [x]).length := (hyOut_step (pre := ([] : List (List Nd))) (lsts_len rq ▸ hp)).symm
   rw [b1] at z0
   exact ⟨_, _, 11, z0, rfl, .inr ⟨_, _, rfl⟩⟩
  have hxb := hyX_bd (pre := pre) hbd (lsts_len rq ▸ hp)
  have hxl := hxb.2
  have hoj := hoo (pre).length
  have hoz : min (pre).length (lsts rq).length * 60001 ≤ 9 * 60001 := Nat.mul_le_mul_right _ (by rw [lsts_len]; omega)
  refine (?_ : ∀ j0, Reg j0 102 [(97, .slice k0 x.length p0), (1000000, .bool false), (2, .slice none 0 0), (3, .pointer (some ⟨v0, 0, none⟩)), (4, .pointer (some ⟨q0, 0, none⟩)), (96, .func (.func 71) #[] #[.pointer (some ⟨n0, 0, none⟩)])] → Code.wpIn (rI y0) 0 _ _ _ j0 d0) _ (Reg.round1n s0 (by decide) rfl)
  intro j0 d0
  refine ci_region (by kernel_rfl) (out_then (fun _ _ h => h)) ?_
  refine asg d0 fun j0 y0 => ?_
  refine wpList_nil ?_
  have j0 := f0.nf
  refine x_then_n ⟨_, _, 11, 12, j0, rfl, rfl, (fun _ h => ⟨_, List.mem_cons_self, by rw [h]; rfl⟩), (fun _ h => ⟨_, List.mem_cons_self, by rw [h]; rfl⟩), fun f0 d0 => ?_⟩
  have j0 := own_cap (d0.res (i := 4) rfl)
  obtain ⟨n0, q0⟩ := d0.row_dataM (i := 4) rfl (j := 0) rfl (by decide)
  have d0 := n0.data (dRow 4 b0 ((hyOut rn (lsts rp) (lsts (nthT rk rx.N.toNat).2.2) (lsts rq) re (apK (nthS rp (rx.N + 1).toNat).2.2 (lsts rq) rq.length) (pre).length).length) h0 (encNs (hyOut rn (lsts rp) (lsts (nthT rk rx.N.toNat).2.2) (lsts rq) re (apK (nthS rp (rx.N + 1).toNat).2.2 (lsts rq) rq.length) (pre).length))) ⟨j0, q0⟩
  refine wpIn_block ?_
  refine ci_region (by kernel_rfl) (out_block out_nPost) ?_
  refine lR y0 fun q0 n0 => ?_
  refine k_inlV (cs := [.pointer (some ⟨i0, 0, none⟩), .pointer (some ⟨v0, 0, none⟩)]) (xs := [.tmp 99]) (xv := [.slice k0 x.length p0, .pointer (some ⟨i0, 0, none⟩), .pointer (some ⟨v0, 0, none⟩)]) se n0 rfl rfl rfl rfl (by decide) ok60 rfl ?_
  refine c_enter (vs := [.slice k0 x.length p0, .pointer (some ⟨i0, 0, none⟩), .pointer (some ⟨v0, 0, none⟩)]) Tryd.func60 rfl Tryd.ntmps60 rfl fun n0 q0 => ?_
  obtain ⟨n0, y0, j0⟩ := d0.agree
  refine dl_region2 (S := (sW f0 n0 [cel rg 1 (.int .i64 (rn.K)), cel rg 2 (.int .i64 (rn.N)), cel rg 3 (.int .i64 (rn.M)), cel rg 4 (.string rn.S), cel rg 5 (.int .i64 (rx.K)), cel rg 6 (.int .i64 (rx.N)), cel rg 7 (.int .i64 (rx.M)), cel rg 8 (.string rx.S), cel rg 9 (.slice rpA rp.length rpc), cel rg 10 (.slice rqA rq.length rqc), cel rg 11 (.slice rkA rk.length rkc), cel i0 0 (.pointer (some ⟨rg, 0, none⟩)), cel v0 0 (.slice b0 ((hyOut rn (lsts rp) (lsts (nthT rk rx.N.toNat).2.2) (lsts rq) re (apK (nthS rp (rx.N + 1).toNat).2.2 (lsts rq) rq.length) (pre).length).length) h0)])) (n := 9) [8] mixed rfl j0 pan_body fun y0 d0 z0 b1 m0 => ?_
  have b1 := sWI m0 14 (pc 0 1 (pc 0 2 (pc 0 3 (pc 0 4 (pc 0 5 (pc 0 6 (pc 0 7 (pc 0 8 (pc 0 9 (pc 0 10 (pc 0 11 (pc 1 0 (pc 2 0 pn)))))))))))))
  refine dlt 0 rfl d0 q0 (want_n rfl) (fun x hx => m_loadC (sy q0) q0 rfl rfl rfl (hx.c 11) Tryd.underlying45 rfl (by decide) gt) b1 fun y0 j0 => ?_
  refine dtv 1 d0 j0 fun y0 q0 => ?_
  refine dta 2 rfl d0 q0 (want_n rfl) (fun x => m_field (j' := 0) (sy q0) q0 rfl rfl rfl Tryd.underlying50 rfl sz48 rfl rfl (by decide) gt) fun y0 j0 => ?_
  refine dta 3 rfl d0 j0 (want_n rfl) (fun x => bldY j0) fun y0 q0 => ?_
  refine dlt 4 rfl d0 q0 (want_n rfl) (fun x hx => m_loadC (sy q0) q0 rfl rfl rfl (hx.c 12) Tryd.underlying22 rfl (by decide) gt) b1 fun y0 j0 => ?_
  refine dtv 5 d0 j0 fun y0 q0 => ?_
  refine dl_one (i := 6) (by kernel_rfl) ?_
  have y0 := m0.data (dAll [((b0, h0, hyOut rn (lsts rp) (lsts (nthT rk rx.N.toNat).2.2) (lsts rq) re (apK (nthS rp (rx.N + 1).toNat).2.2 (lsts rq) rq.length) (pre).length) : Sl), ((k0, p0, x) : Sl)]) (all_cons (m0.get (i := 13) rfl) (all_cons (m0.get (i := 12) rfl) all_nil))
  refine bsl q0 y0 fun m0 j0 d0 b1 n0 => ?_
  have j0 := sWI n0 14 (pc 0 1 (pc 0 2 (pc 0 3 (pc 0 4 (pc 0 5 (pc 0 6 (pc 0 7 (pc 0 8 (pc 0 9 (pc 0 10 (pc 0 11 (pc 1 0 (pc 2 0 pn)))))))))))))
  refine ⟨fun _ _ => j0, ?_⟩
  refine dl_one (i := 7) (by kernel_rfl) ?_
  have j0 := n0.nf
  have n0 := own_cap (j0.res (i := 4) rfl)
  obtain ⟨m0, y0⟩ := j0.row_dataM (i := 4) rfl (j := 0) rfl (by decide)
  have j0 := m0.data (dRow 1 (some ⟨d0, 0, none⟩) 2 2 (encSs ([((b0, h0, hyOut rn (lsts rp) (lsts (nthT rk rx.N.toNat).2.2) (lsts rq) re (apK (nthS rp (rx.N + 1).toNat).2.2 (lsts rq) rq.length) (pre).length) : Sl), ((k0, p0, x) : Sl)]))) ⟨n0, y0⟩
  refine kcl b1 ok59 (nodeO_calls _ _ j0.il _ _ _ _ (⟨5, 0, 0, (⟨#[]⟩ : ByteArray)⟩ : Nd) _ _ ([((b0, h0, hyOut rn (lsts rp) (lsts (nthT rk rx.N.toNat).2.2) (lsts rq) re (apK (nthS rp (rx.N + 1).toNat).2.2 (lsts rq) rq.length) (pre).length) : Sl), ((k0, p0, x) : Sl)]) (j0.z 0) (imm_box (i := 0) rfl) (j0.g 16) (j0.g 15) (hl := (by simp)) (hb := (by intro x hx; simp only [List.mem_cons, List.not_mem_nil, or_false] at hx; rcases hx with rfl | rfl; first | omega | (simp only []; omega); first | exact Nat.le_trans (hqm k (by omega)).2 (by decide) | omega | (simp only []; omega)))) ?_
  rintro b1 y0 ⟨m0, n0, rfl, d0, q0, f0, v0⟩
  have n0 := j0.callMO (i := 0) rfl d0 q0 f0 v0
  refine ⟨_, rfl, fun v0 f0 => ?_⟩
  have v0 := sWI n0 14 (pc 0 1 (pc 0 2 (pc 0 3 (pc 0 4 (pc 0 5 (pc 0 6 (pc 0 7 (pc 0 8 (pc 0 9 (pc 0 10 (pc 0 11 (pc 1 0 (pc 2 0 pn)))))))))))))
  refine ⟨fun _ _ => v0, ?_⟩
  refine dl_one (i := 8) (by kernel_rfl) ?_
  refine sto 2 f0 n0 fun v0 q0 d0 j0 => ?_
  refine ⟨fun h => absurd h (by decide), ?_⟩
  refine dl_done (by kernel_rfl) (z0 _ _ ?_) _
  refine e_end0 d0 rfl rfl ?_
  refine ⟨_, rfl, fun d0 z0 => ?_⟩
  refine wpList_nil ?_
  refine x_block_n ?_
  have z0 := j0.nf
  have j0 := (z0).nf
  have z0 : noL ((hyAt rn (lsts rp) (lsts (nthT rk rx.N.toNat).2.2) (lsts rq) re (pre).length)) (⟨5, 0, 0, (⟨#[]⟩ : ByteArray)⟩ : Nd) (lsts ([((b0, h0, hyOut rn (lsts rp) (lsts (nthT rk rx.N.toNat).2.2) (lsts rq) re (apK (nthS rp (rx.N + 1).toNat).2.2 (lsts rq) rq.length) (pre).length) : Sl), ((k0, p0, x) : Sl)])) = hyOut rn (lsts rp) (lsts (nthT rk rx.N.toNat).2.2) (lsts rq) re (apK (nthS rp (rx.N + 1).toNat).2.2 (lsts rq) rq.length) (pre ++ [x]).length := (hyOut_step (pre := pre) (lsts_len rq ▸ hp)).symm
  rw [z0] at j0
  exact ⟨_, _, 11, j0, rfl, .inr ⟨_, _, rfl⟩⟩
 rintro j0 m1 z0 p0 k0
 rcases p0 with ⟨hx580, rfl⟩ | ⟨b0, h0, rfl⟩
 ·
  have p0 := Reg.marked s0 j0
  refine x_block_n <| xn t0 <| wsc fun z0 d0 => lR p0 fun z0 q0 => ?_
  refine wn d0 <| wp_ret ?_
  have d0 := k0.nf
  obtain ⟨z0, p0⟩ := d0.shut (i := 11) rfl [dRow 4 oA ((apK (nthS rp (rx.N + 1).toNat).2.2 (lsts rq) rq.length).length) oc (encNs (apK (nthS rp (rx.N + 1).toNat).2.2 (lsts rq) rq.length))] (by intro d hd; simp only [List.mem_cons, List.not_mem_nil, or_false] at hd; rcases hd with rfl; exact ⟨List.mem_of_getElem? (i := 9) rfl, datC_row (by decide) _ _ _ _⟩)
  refine m_mark (.inl rfl) q0 rfl z0 (res1 q0 rfl rfl _) ?_
  refine ⟨oA, oc, (apK (nthS rp (rx.N + 1).toNat).2.2 (lsts rq) rq.length), ?_, p0.fr, (by rw [show ((elG rn rx (lsts rp) (lsts rq) (lstsT rk)).2 : Int) = ((hyE rn (lsts rp) (lsts (nthT rk rx.N.toNat).2.2) (lsts rq) re rq.length)) by (subst he; unfold elG; rw [if_pos (by refine ⟨?_, ?_, ?_, ?_⟩ <;> first | assumption | omega)]; simp only [← lsts_nth, ← lstsT_nth, lsts_len])]; exact p0.res (i := 0) rfl), p0.rx 0, (by subst he; unfold elG; rw [if_pos (by refine ⟨?_, ?_, ?_, ?_⟩ <;> first | assumption | omega)]; simp only [← lsts_nth, ← lstsT_nth, lsts_len]; exact (hyOut_none' hx580).symm)⟩
  exact cr (ret_s (by rfl))
 have p0 := Reg.marked s0 j0
 refine x_block_n <| xn t0 <| wsc fun t0 j0 => lR p0 fun t0 s0 => ?_
 refine wn j0 <| wp_ret ?_
 have j0 := own_cap (k0.res (i := 4) rfl)
 obtain ⟨t0, p0⟩ := k0.row_dataM (i := 4) rfl (j := 0) rfl (by decide)
 have k0 := t0.data (dRow 4 b0 ((hyOut rn (lsts rp) (lsts (nthT rk rx.N.toNat).2.2) (lsts rq) re (apK (nthS rp (rx.N + 1).toNat).2.2 (lsts rq) rq.length) (hyP rn (lsts rp) (lsts (nthT rk rx.N.toNat).2.2) (lsts rq) re rq.length).length).length) h0 (encNs (hyOut rn (lsts rp) (lsts (nthT rk rx.N.toNat).2.2) (lsts rq) re (apK (nthS rp (rx.N + 1).toNat).2.2 (lsts rq) rq.length) (hyP rn (lsts rp) (lsts (nthT rk rx.N.toNat).2.2) (lsts rq) re rq.length).length))) ⟨j0, p0⟩
 have p0 := k0.nf
 obtain ⟨k0, t0⟩ := p0.shut (i := 11) rfl [dRow 4 b0 ((hyOut rn (lsts rp) (lsts (nthT rk rx.N.toNat).2.2) (lsts rq) re (apK (nthS rp (rx.N + 1).toNat).2.2 (lsts rq) rq.length) (hyP rn (lsts rp) (lsts (nthT rk rx.N.toNat).2.2) (lsts rq) re rq.length).length).length) h0 (encNs (hyOut rn (lsts rp) (lsts (nthT rk rx.N.toNat).2.2) (lsts rq) re (apK (nthS rp (rx.N + 1).toNat).2.2 (lsts rq) rq.length) (hyP rn (lsts rp) (lsts (nthT rk rx.N.toNat).2.2) (lsts rq) re rq.length).length))] (by intro d hd; simp only [List.mem_cons, List.not_mem_nil, or_false] at hd; rcases hd with rfl; exact ⟨List.mem_of_getElem? (i := 12) rfl, datC_row (by decide) _ _ _ _⟩)
 refine m_mark (.inl rfl) s0 rfl k0 (res1 s0 rfl rfl _) ?_
 refine ⟨b0, h0, (hyOut rn (lsts rp) (lsts (nthT rk rx.N.toNat).2.2) (lsts rq) re (apK (nthS rp (rx.N + 1).toNat).2.2 (lsts rq) rq.length) (hyP rn (lsts rp) (lsts (nthT rk rx.N.toNat).2.2) (lsts rq) re rq.length).length), ?_, t0.fr, (by rw [show ((elG rn rx (lsts rp) (lsts rq) (lstsT rk)).2 : Int) = ((hyE rn (lsts rp) (lsts (nthT rk rx.N.toNat).2.2) (lsts rq) re rq.length)) by (subst he; unfold elG; rw [if_pos (by refine ⟨?_, ?_, ?_, ?_⟩ <;> first | assumption | omega)]; simp only [← lsts_nth, ← lstsT_nth, lsts_len])]; exact t0.res (i := 0) rfl), t0.rx 0, (by subst he; unfold elG; rw [if_pos (by refine ⟨?_, ?_, ?_, ?_⟩ <;> first | assumption | omega)]; simp only [← lsts_nth, ← lstsT_nth, lsts_len]; exact hyOut_all')⟩
 exact cr (ret_s (by rfl))
set_option maxHeartbeats 6000000 in
theorem uagainT_calls (w0 : World) (Z : Nat → Prop) (hZ : ∀ k, Z k → k < w0.heap.size) (rg : Nat) (re : Int) (rn : Nd) (rx : Nd) (rpA : Option Addr) (rpc : Nat) (rp : List Sl) (rqA : Option Addr) (rqc : Nat) (rq : List Sl) (rkA : Option Addr) (rkc : Nat) (rk : List Tl) (tA : Option Addr) (tc : Nat) (t : List Nd) (hr : (Res.box rg 50 [.int .i64 (re), .int .i64 (rn.K), .int .i64 (rn.N), .int .i64 (rn.M), .string rn.S, .int .i64 (rx.K), .int .i64 (rx.N), .int .i64 (rx.M), .string rx.S, .slice rpA rp.length rpc, .slice rqA rq.length rqc, .slice rkA rk.length rkc]).holds w0) (hrz : ¬ Z rg) (hrp : (dRow 1 rpA rp.length rpc (encSs rp)).φ w0 Z) (hrps : (dAll rp).φ w0 Z) (hrq : (dRow 1 rqA rq.length rqc (encSs rq)).φ w0 Z) (hrqs : (dAll rq).φ w0 Z) (hrk : (dRow 1 rkA rk.length rkc (encTs rk)).φ w0 Z) (hrks : (dAllT rk).φ w0 Z) (ht : (dRow 4 tA t.length tc (encNs t)).φ w0 Z) (hp4 : rp.length ≤ 9 := by first | assumption | omega | (simp <;> omega)) (hq4 : rq.length ≤ 9 := by first | assumption | omega | (simp <;> omega)) (hps : ∀ x ∈ lsts rp, sml x ∧ x.length ≤ 4000 := by first | assumption | omega | (simp <;> omega)) (hqs : ∀ x ∈ lsts rq, sml x ∧ x.length ≤ 4000 := by first | assumption | omega | (simp <;> omega)) (h0p : 0 < rp.length := by first | assumption | omega | (simp <;> omega)) (hsn : rn.S.size < 1000000 := by first | assumption | omega | (simp <;> omega)) (hst : sml t := by first | assumption | omega | (simp <;> omega)) (hlt : t.length ≤ 4000 := by first | assumption | omega | (simp <;> omega)) :
    Calls Tryd.prog 40 [.pointer (some ⟨rg, 0, none⟩), .slice tA t.length tc].toArray w0 (fun e w' => ∃ (rA0 : Option Addr) (rc0 : Nat) (rL0 : List Nd), e = .returned (.slice rA0 rL0.length rc0) ∧ Fr (· = rg) w0 w' ∧ (Res.box rg 50 [.int .i64 (re), .int .i64 (rn.K), .int .i64 (rn.N), .int .i64 (rn.M), .string rn.S, .int .i64 (rx.K), .int .i64 (rx.N), .int .i64 (rx.M), .string rx.S, .slice rpA rp.length rpc, .slice rqA rq.length rqc, .slice rkA rk.length rkc]).holds w' ∧ (dRow 4 rA0 rL0.length rc0 (encNs rL0)).φ w' (nxt Z w0 w') ∧ rL0 = noL re rn ((lsts rp).set ((lsts rp).length - 1) t)) := by
 have b0 := sM hr hrz hZ (zc hrp (zc hrps (zc hrq (zc hrqs (zc hrk (zc hrks (zc ht zn)))))))
 refine c_enter Tryd.func40 rfl Tryd.ntmps40 rfl fun c0 d0 => ?_
 refine wsc fun c0 f0 => aw d0 f0 fun c0 h0 => ?_
 refine wsc fun f0 c0 => lR h0 fun f0 d0 => ?_
 have f0 := b0.nf
 refine kcl d0 ok58 (cloneS_calls _ _ f0.il _ _ _ (f0.g 0) (f0.g 1)) ?_
 rintro d0 b0 ⟨h0, i0, rfl, j0, k0, m0⟩
 have b0 := f0.callO j0 k0 m0
 refine ⟨_, rfl, fun m0 k0 => ?_⟩
 refine aw k0 c0 fun m0 j0 => ?_
 refine wsc fun c0 m0 => lR j0 fun c0 k0 => ?_
 refine sbi (((rp.length : Nat) : Int) - 1) k0 fun c0 j0 => ?_
 refine mv j0 fun c0 k0 => ?_
 refine ix ((rp.length) - (1)) (((rp.length) - (1)) * 1) k0 (own_ss (t := rp) (k := (rp.length) - (1)) (b0.res (i := 1) rfl) (by omega)).some_ fun c0 j0 => ?_
 refine m_storeE (f := encS) (i := 1) (k := (rp.length) - (1)) (L := rp) (z := ((tA, tc, t) : Sl)) se j0 b0 rfl rfl rfl rfl rfl rfl (by omega) encS_len (one1 (f := encS) encS_one) rfl sz22 fun c0 k0 f0 d0 => ?_
 have k0 : (rp.set ((rp.length) - (1)) ((tA, tc, t) : Sl)).length = rp.length := by simp
 have c0 := d0.data (dAll (rp.set ((rp.length) - (1)) ((tA, tc, t) : Sl))) (all_set (k := (rp.length) - (1)) (z := ((tA, tc, t) : Sl)) (d0.get (i := 1) rfl) (d0.get (i := 6) rfl))
 refine wn m0 <| wp_seq_k fun m0 d0 => ?_
 obtain ⟨m0, j0, b0⟩ := c0.agree
 refine d_reg3 (n := 10) b0 8 (pB 0 0 pn) (pan_then pan_body) fun j0 m0 c0 n0 o0 p0 => ?_
 refine dR [0, 1, 2, 3, 4, 5] f0 fun n0 j0 => ?_
 refine dt 6 rfl m0 j0 (want_n rfl) (fun x hx => m_loadCN (sy j0) j0 rfl rfl rfl (CellsAt.cons_ (hx.c 1) (CellsAt.cons_ (hx.c 2) (CellsAt.cons_ (hx.c 3) (CellsAt.cons_ (hx.c 4) (CellsAt.nil _ _))))) Tryd.underlying39 rfl sz39 (by decide) gt) p0 fun n0 f0 => ?_
 refine dR [7] f0 fun n0 j0 => ?_
 refine d1 8 ?_
 have n0 := o0.nf
 have o0 := own_cap (n0.res (i := 1) rfl)
 obtain ⟨f0, p0⟩ := n0.row_dataM (i := 1) rfl (j := 0) rfl (by decide)
 have n0 := j0.conss j0 (i := 10) rfl k0
 have j0 := n0.conss n0 (i := 5) rfl k0
 have n0 := j0.conss j0 (i := 11) rfl k0
 have j0 := n0.conss n0 (i := 12) rfl k0
 have n0 := j0.conss j0 (i := 24) rfl k0
 have j0 := f0.data (dRow 1 h0 ((rp.set ((rp.length) - (1)) ((tA, tc, t) : Sl)).length) i0 (encSs (rp.set ((rp.length) - (1)) ((tA, tc, t) : Sl)))) ⟨o0, p0⟩
 refine kcl n0 ok59 (node_calls _ _ j0.il _ _ _ _ rn _ _ (rp.set ((rp.length) - (1)) ((tA, tc, t) : Sl)) (j0.z 0) (imm_box (i := 0) rfl) (j0.g 9) (j0.g 7) (hl := (by rw [List.length_set]; omega)) (hb := (set_bd hps hlt))) ?_
 rintro n0 p0 ⟨f0, o0, i0, rfl, h0, k0, m0, b0⟩
 have p0 := j0.callM (i := 0) rfl h0 k0
 have k0 := j0.dM 0 p0 m0
 refine ⟨_, rfl, fun p0 m0 => ?_⟩
 have p0 := sWI k0 8 (pB 0 0 pn)
 refine ⟨p0, ?_⟩
 refine dR [9] m0 fun p0 j0 => ?_
 refine wpAnyH_done (by kernel_rfl) (c0 _ _ ?_) _
 refine xn d0 <| wp_ret <| er1 j0 ?_
 refine ⟨f0, o0, i0, ?_, k0.fr, k0.res (i := 0) rfl, k0.rx 10, (by rw [b0, lsts_set, lsts_len])⟩
 exact cr (ret_s (by rfl))
theorem ureductG_calls (w0 : World) (Z : Nat → Prop) (hZ : ∀ k, Z k → k < w0.heap.size) (rg : Nat) (re : Int) (rn : Nd) (rx : Nd) (rpA : Option Addr) (rpc : Nat) (rp : List Sl) (rqA : Option Addr) (rqc : Nat) (rq : List Sl) (rkA : Option Addr) (rkc : Nat) (rk : List Tl) (hShp : Shapes w0 Z) (hr : (Res.box rg 50 [.int .i64 (re), .int .i64 (rn.K), .int .i64 (rn.N), .int .i64 (rn.M), .string rn.S, .int .i64 (rx.K), .int .i64 (rx.N), .int .i64 (rx.M), .string rx.S, .slice rpA rp.length rpc, .slice rqA rq.length rqc, .slice rkA rk.length rkc]).holds w0) (hrz : ¬ Z rg) (hrp : (dRow 1 rpA rp.length rpc (encSs rp)).φ w0 Z) (hrps : (dAll rp).φ w0 Z) (hrq : (dRow 1 rqA rq.length rqc (encSs rq)).φ w0 Z) (hrqs : (dAll rq).φ w0 Z) (hrk : (dRow 1 rkA rk.length rkc (encTs rk)).φ w0 Z) (hrks : (dAllT rk).φ w0 Z) (hp4 : rp.length ≤ 9 := by first | assumption | omega | (simp <;> omega)) (hq4 : rq.length ≤ 9 := by first | assumption | omega | (simp <;> omega)) (hps : ∀ x ∈ lsts rp, sml x ∧ x.length ≤ 4000 := by first | assumption | omega | (simp <;> omega)) (hqs : ∀ x ∈ lsts rq, sml x ∧ x.length ≤ 4000 := by first | assumption | omega | (simp <;> omega)) (hlp : rp.length = many rn := by first | assumption | omega | (simp <;> omega)) (hlq : rq.length = many rx := by first | assumption | omega | (simp <;> omega)) (hsn : rn.S.size < 1000000 := by first | assumption | omega | (simp <;> omega)) (he : re = 0 := by first | assumption | omega | (simp <;> omega)) (hx0 : rx.K = 26 → 0 ≤ rx.N ∧ 0 ≤ rx.M := by first | assumption | omega | (simp <;> omega)) (hcs : ∀ l ∈ lstsT rk, ∀ y ∈ l, sml y ∧ y.length ≤ 4000 := by first | assumption | omega | (simp <;> omega)) (hc4 : rk.length ≤ 1000 := by first | assumption | omega | (simp <;> omega)) :
    Calls Tryd.prog 23 [.pointer (some ⟨rg, 0, none⟩)].toArray w0 (fun e w' => ∃ (rA0 : Option Addr) (rc0 : Nat) (rL0 : List Nd), e = .returned (.slice rA0 rL0.length rc0) ∧ Fr (· = rg) w0 w' ∧ (Res.box rg 50 [.int .i64 (((urG rn rx (lsts rp) (lsts rq) (lstsT rk)).2)), .int .i64 (rn.K), .int .i64 (rn.N), .int .i64 (rn.M), .string rn.S, .int .i64 (rx.K), .int .i64 (rx.N), .int .i64 (rx.M), .string rx.S, .slice rpA rp.length rpc, .slice rqA rq.length rqc, .slice rkA rk.length rkc]).holds w' ∧ (dRow 4 rA0 rL0.length rc0 (encNs rL0)).φ w' (nxt Z w0 w') ∧ rL0 = (urG rn rx (lsts rp) (lsts rq) (lstsT rk)).1) := by
 have b0 := sM hr hrz hZ (zc (d := dShapes) hShp (zc hrp (zc hrps (zc hrq (zc hrqs (zc hrk (zc hrks zn)))))))
 have hpm : ∀ k, k < rp.length → sml (nthS rp k).2.2 ∧ (nthS rp k).2.2.length ≤ 4000 := fun k hk => hps _ (nthS_in hk)
 have hqm : ∀ k, k < rq.length → sml (nthS rq k).2.2 ∧ (nthS rq k).2.2.length ≤ 4000 := fun k hk => hqs _ (nthS_in hk)
 refine c_enter Tryd.func23 rfl Tryd.ntmps23 rfl fun c0 d0 => ?_
 refine wsc fun c0 f0 => aw d0 f0 fun c0 h0 => ?_
 refine wp_seq_k fun f0 c0 => ?_
 obtain ⟨f0, d0, i0⟩ := b0.agree
 refine d_reg3 (n := 13) i0 7 (pB 0 1 pn) (pan_then pan_body) fun d0 f0 b0 j0 k0 m0 => ?_
 refine dR [0, 1, 2, 3, 4, 5, 6, 7, 8, 9] h0 fun j0 d0 => ?_
 refine dt 10 rfl f0 d0 (want_n rfl) (fun x hx => bldY d0) m0 fun j0 h0 => ?_
 refine d1 11 ?_
 refine alc h0 k0 fun j0 d0 m0 f0 i0 => ?_
 have m0 := sWI i0 7 (pB 0 1 pn)
 refine ⟨m0, ?_⟩
 refine d1 12 ?_
 refine sto 1 f0 i0 fun m0 d0 j0 h0 => ?_
 have d0 := sWI h0 7 (pB 0 1 pn)
 refine ⟨d0, ?_⟩
 refine wpAnyH_done (by kernel_rfl) (b0 _ _ ?_) _
 refine xn c0 <| wp_seq_k fun c0 b0 => wp_block ?_
 refine wsc fun c0 d0 => lR j0 fun c0 m0 => ?_
 refine bld m0 fun c0 j0 => ?_
 refine r_eqlP sv j0 rfl rfl rfl rfl (by decide) fun c0 m0 => ?_
 refine aw m0 d0 fun c0 j0 => ?_
 rcases Bool.eq_false_or_eq_true (decide ((rn.K) = 5) && decide ((rx.K) = 4)) with d0 | d0
 ·
  have c0 := and_tl d0
  have m0 := of_decide_eq_true c0
  have hmkrn5 := many_5 m0
  have c0 := and_tr d0
  have i0 := of_decide_eq_true c0
  have hmkrx4 := many_4 i0
  refine wct j0 d0 fun c0 => ?_
  refine wp_seq_k fun f0 k0 => ?_
  obtain ⟨f0, n0, o0⟩ := h0.agree
  refine d_reg3 (n := 18) o0 8 (pB 0 1 pn) (pan_then (pan_block (pan_then pan_body))) fun f0 p0 q0 s0 t0 u0 => ?_
  refine dR [0, 1, 2, 3, 4, 5, 6] c0 fun u0 s0 => ?_
  refine dix 7 1 (1 * 1) s0 (fun x hx => (ss_elem (t := rq) (k := 1) (sdat (n0 3 _ rfl) hx.ag).2 (by omega)).some_) fun u0 c0 => ?_
  refine dle 8 0 (1 * 1) c0 (fun x hx => ss_elem (t := rq) (k := 1) (sdat (n0 3 _ rfl) hx.ag).2 (by omega)) fun u0 s0 => ?_
  have u0 := t0.el 4 1
  refine dR [9, 10, 11, 12] s0 fun t0 c0 => ?_
  refine dix 13 1 (1 * 1) c0 (fun x hx => (ss_elem (t := rp) (k := 1) (sdat (n0 1 _ rfl) hx.ag).2 (by omega)).some_) fun t0 s0 => ?_
  refine dle 14 0 (1 * 1) s0 (fun x hx => ss_elem (t := rp) (k := 1) (sdat (n0 1 _ rfl) hx.ag).2 (by omega)) fun t0 c0 => ?_
  have t0 := u0.el 2 1
  refine d1 15 ?_
  have u0 := t0.data (dAll [(((nthS rp 1).1, (nthS rp 1).2.1, (nthS rp 1).2.2) : Sl)]) (all_cons (t0.get (i := 10) rfl) all_nil)
  refine bsl c0 u0 fun t0 s0 n0 p0 f0 => ?_
  have s0 := sWI f0 8 (pB 0 1 pn)
  refine ⟨s0, ?_⟩
  refine d1 16 ?_
  have s0 := f0.nf
  have f0 := own_cap (s0.res (i := 2) rfl)
  obtain ⟨t0, u0⟩ := s0.row_dataM (i := 2) rfl (j := 0) rfl (by decide)
  have s0 := t0.data (dRow 1 (some ⟨n0, 0, none⟩) 1 1 (encSs ([(((nthS rp 1).1, (nthS rp 1).2.1, (nthS rp 1).2.2) : Sl)]))) ⟨f0, u0⟩
  refine kcl p0 ok39 (minst_calls _ _ s0.il _ _ _ _ _ _ ((nthS rq 1).2.2) _ _ ([(((nthS rp 1).1, (nthS rp 1).2.1, (nthS rp 1).2.2) : Sl)]) (s0.g 0) (s0.z 0) (imm_box (i := 0) rfl) (s0.g 9) (s0.g 12) (s0.g 11) (hsm := (by exact (hqm 1 (by omega)).1)) (hl := (by exact Nat.le_trans (hqm 1 (by omega)).2 (by decide))) (hls := (by intro x hx; simp only [lsts, List.map_cons, List.map_nil, List.mem_cons, List.not_mem_nil, or_false] at hx; first | (rw [hx]; first | exact (hpm 1 (by omega)).1 | exact (hqm 1 (by omega)).1) | (rcases hx with hx | hx <;> rw [hx] <;> first | assumption | exact (hqm 0 (by omega)).1))) (hlb := (by intro x hx; simp only [lsts, List.map_cons, List.map_nil, List.mem_cons, List.not_mem_nil, or_false] at hx; first | (rw [hx]; first | exact Nat.le_trans (hpm 1 (by omega)).2 (by decide) | exact Nat.le_trans (hqm 1 (by omega)).2 (by decide)) | (rcases hx with hx | hx <;> rw [hx] <;> first | omega | exact Nat.le_trans (hqm 0 (by omega)).2 (by decide)))) (hl0 := (by simp))) ?_
  rintro p0 u0 ⟨t0, f0, n0, rfl, c0, o0, v0, x0⟩
  have u0 := s0.callM (i := 0) rfl c0 o0
  have o0 := s0.dM 0 u0 v0
  refine ⟨_, rfl, fun u0 v0 => ?_⟩
  have u0 := sWI o0 8 (pB 0 1 pn)
  refine ⟨u0, ?_⟩
  refine dR [17] v0 fun u0 s0 => ?_
  refine wpAnyH_done (by kernel_rfl) (q0 _ _ ?_) _
  refine xn k0 <| wp_ret <| x_block_r <| x_then_r <| er1 s0 ?_
  refine ⟨t0, f0, n0, ?_, o0.fr, (by rw [show ((urG rn rx (lsts rp) (lsts rq) (lstsT rk)).2 : Int) = ((inQ (re) ((nthS rq 1).2.2) (lsts ([(((nthS rp 1).1, (nthS rp 1).2.1, (nthS rp 1).2.2) : Sl)])))) by (unfold urG; rw [if_neg (by omega)]; unfold urR urX; simp [he, m0, i0, lsts_nth, lsts_len, lsts_cons1, lsts_nil1, x0])]; exact o0.res (i := 0) rfl), o0.rx 13, (by unfold urG; rw [if_neg (by omega)]; unfold urR urX; simp [he, m0, i0, lsts_nth, lsts_len, lsts_cons1, lsts_nil1, x0])⟩
  exact cr (ret_s (by rfl))
 have o0 := d0
 try simp only [bz] at o0
 refine wcf j0 d0 fun o0 => ?_
 refine wsc fun j0 x0 => lR o0 fun j0 n0 => ?_
 refine bld n0 fun j0 o0 => ?_
 refine r_eqlP sv o0 rfl rfl rfl rfl (by decide) fun j0 n0 => ?_
 refine aw n0 x0 fun j0 o0 => ?_
 rcases Bool.eq_false_or_eq_true (decide ((rn.K) = 8) && decide ((rx.K) = 7)) with x0 | x0
 ·
  have j0 := and_tl x0
  have n0 := of_decide_eq_true j0
  have hmkrn8 := many_8 n0
  have j0 := and_tr x0
  have f0 := of_decide_eq_true j0
  have hmkrx7 := many_7 f0
  refine wct o0 x0 fun j0 => ?_
  refine wsc fun t0 i0 => lR j0 fun t0 m0 => ?_
  refine ix 1 (1 * 1) m0 (ss_elem (t := rq) (k := 1) (h0.row (i := 3) rfl).2 (by omega)).some_ fun t0 j0 => ?_
  refine lde 0 (1 * 1) j0 (ss_elem (t := rq) (k := 1) (h0.row (i := 3) rfl).2 (by omega)) fun t0 m0 => ?_
  have t0 := h0.el 4 1
  refine aw m0 i0 fun j0 s0 => ?_
  refine wp_ret <| x_block_r <| x_then_r <| er1 s0 ?_
  refine ⟨((nthS rq 1).1), ((nthS rq 1).2.1), ((nthS rq 1).2.2), ?_, t0.fr, (by rw [show ((urG rn rx (lsts rp) (lsts rq) (lstsT rk)).2 : Int) = (re) by (unfold urG; rw [if_neg (by omega)]; unfold urR urX; simp [he, n0, f0, nand_of d0, lsts_nth, lsts_len, lsts_cons1, lsts_nil1])]; exact t0.res (i := 0) rfl), t0.rx 8, (by unfold urG; rw [if_neg (by omega)]; unfold urR urX; simp [he, n0, f0, nand_of d0, lsts_nth, lsts_len, lsts_cons1, lsts_nil1])⟩
  exact cr (ret_s (by rfl))
 have t0 := x0
 try simp only [bz] at t0
 refine wcf o0 x0 fun t0 => ?_
 refine wsc fun o0 f0 => lR t0 fun o0 n0 => ?_
 refine bld n0 fun o0 t0 => ?_
 refine r_eqlP sv t0 rfl rfl rfl rfl (by decide) fun o0 n0 => ?_
 refine aw n0 f0 fun o0 t0 => ?_
 rcases Bool.eq_false_or_eq_true (decide ((rn.K) = 9) && decide ((rx.K) = 7)) with f0 | f0
 ·
  have o0 := and_tl f0
  have n0 := of_decide_eq_true o0
  have hmkrn9 := many_9 n0
  have o0 := and_tr f0
  have s0 := of_decide_eq_true o0
  have hmkrx7 := many_7 s0
  refine wct t0 f0 fun o0 => ?_
  refine wsc fun i0 j0 => lR o0 fun i0 m0 => ?_
  refine ix 2 (2 * 1) m0 (ss_elem (t := rq) (k := 2) (h0.row (i := 3) rfl).2 (by omega)).some_ fun i0 o0 => ?_
  refine lde 0 (2 * 1) o0 (ss_elem (t := rq) (k := 2) (h0.row (i := 3) rfl).2 (by omega)) fun i0 m0 => ?_
  have i0 := h0.el 4 2
  refine aw m0 j0 fun o0 k0 => ?_
  refine wp_ret <| x_block_r <| x_then_r <| er1 k0 ?_
  refine ⟨((nthS rq 2).1), ((nthS rq 2).2.1), ((nthS rq 2).2.2), ?_, i0.fr, (by rw [show ((urG rn rx (lsts rp) (lsts rq) (lstsT rk)).2 : Int) = (re) by (unfold urG; rw [if_neg (by omega)]; unfold urR urX; simp [he, n0, s0, nand_of d0, nand_of x0, lsts_nth, lsts_len, lsts_cons1, lsts_nil1])]; exact i0.res (i := 0) rfl), i0.rx 8, (by unfold urG; rw [if_neg (by omega)]; unfold urR urX; simp [he, n0, s0, nand_of d0, nand_of x0, lsts_nth, lsts_len, lsts_cons1, lsts_nil1])⟩
  exact cr (ret_s (by rfl))
 have i0 := f0
 try simp only [bz] at i0
 refine wcf t0 f0 fun i0 => ?_
 refine wsc fun t0 s0 => lR i0 fun t0 n0 => ?_
 refine bld n0 fun t0 i0 => ?_
 refine r_eqlP sv i0 rfl rfl rfl rfl (by decide) fun t0 n0 => ?_
 refine aw n0 s0 fun t0 i0 => ?_
 rcases Bool.eq_false_or_eq_true (decide ((rn.K) = 13) && decide ((rx.K) = 11)) with s0 | s0
 ·
  have t0 := and_tl s0
  have n0 := of_decide_eq_true t0
  have hmkrn13 := many_13 n0
  have t0 := and_tr s0
  have k0 := of_decide_eq_true t0
  refine wct i0 s0 fun t0 => ?_
  refine wsc fun j0 o0 => lR t0 fun j0 m0 => ?_
  refine ix 1 (1 * 1) m0 (ss_elem (t := rp) (k := 1) (h0.row (i := 1) rfl).2 (by omega)).some_ fun j0 t0 => ?_
  refine lde 0 (1 * 1) t0 (ss_elem (t := rp) (k := 1) (h0.row (i := 1) rfl).2 (by omega)) fun j0 m0 => ?_
  have j0 := h0.el 2 1
  refine aw m0 o0 fun t0 q0 => ?_
  refine wp_ret <| x_block_r <| x_then_r <| er1 q0 ?_
  refine ⟨((nthS rp 1).1), ((nthS rp 1).2.1), ((nthS rp 1).2.2), ?_, j0.fr, (by rw [show ((urG rn rx (lsts rp) (lsts rq) (lstsT rk)).2 : Int) = (re) by (unfold urG; rw [if_neg (by omega)]; unfold urR urX; simp [he, n0, k0, nand_of d0, nand_of x0, nand_of f0, lsts_nth, lsts_len, lsts_cons1, lsts_nil1])]; exact j0.res (i := 0) rfl), j0.rx 8, (by unfold urG; rw [if_neg (by omega)]; unfold urR urX; simp [he, n0, k0, nand_of d0, nand_of x0, nand_of f0, lsts_nth, lsts_len, lsts_cons1, lsts_nil1])⟩
  exact cr (ret_s (by rfl))
 have j0 := s0
 try simp only [bz] at j0
 refine wcf i0 s0 fun j0 => ?_
 refine wsc fun i0 k0 => lR j0 fun i0 n0 => ?_
 refine bld n0 fun i0 j0 => ?_
 refine r_eqlP sv j0 rfl rfl rfl rfl (by decide) fun i0 n0 => ?_
 refine aw n0 k0 fun i0 j0 => ?_
 rcases Bool.eq_false_or_eq_true (decide ((rn.K) = 13) && decide ((rx.K) = 12)) with k0 | k0
 ·
  have i0 := and_tl k0
  have n0 := of_decide_eq_true i0
  have hmkrn13 := many_13 n0
  have i0 := and_tr k0
  have q0 := of_decide_eq_true i0
  have hmkrx12 := many_12 q0
  refine wct j0 k0 fun i0 => ?_
  refine wp_seq_k fun o0 t0 => ?_
  obtain ⟨o0, m0, u0⟩ := h0.agree
  refine d_reg3 (n := 26) u0 8 (pB 0 1 pn) (pan_then (pan_block (pan_then pan_body))) fun o0 v0 c0 p0 y0 z0 => ?_
  refine dR [0, 1, 2, 3, 4, 5, 6] i0 fun z0 p0 => ?_
  refine dix 7 2 (2 * 1) p0 (fun x hx => (ss_elem (t := rp) (k := 2) (sdat (m0 1 _ rfl) hx.ag).2 (by omega)).some_) fun z0 i0 => ?_
  refine dle 8 0 (2 * 1) i0 (fun x hx => ss_elem (t := rp) (k := 2) (sdat (m0 1 _ rfl) hx.ag).2 (by omega)) fun z0 p0 => ?_
  have z0 := y0.el 2 2
  refine dR [9, 10, 11, 12, 13] p0 fun y0 i0 => ?_
  refine dix 14 0 (0 * 1) i0 (fun x hx => (ss_elem (t := rq) (k := 0) (sdat (m0 3 _ rfl) hx.ag).2 (by omega)).some_) fun y0 p0 => ?_
  refine dle 15 0 (0 * 1) p0 (fun x hx => ss_elem (t := rq) (k := 0) (sdat (m0 3 _ rfl) hx.ag).2 (by omega)) fun y0 i0 => ?_
  have y0 := z0.el 4 0
  refine dR [17, 18, 19, 20] i0 fun z0 p0 => ?_
  refine dix 21 0 (0 * 1) p0 (fun x hx => (ss_elem (t := rq) (k := 0) (sdat (m0 3 _ rfl) hx.ag).2 (by omega)).some_) fun z0 i0 => ?_
  refine dle 22 0 (0 * 1) i0 (fun x hx => ss_elem (t := rq) (k := 0) (sdat (m0 3 _ rfl) hx.ag).2 (by omega)) fun z0 p0 => ?_
  have z0 := y0.el 4 0
  refine d1 16 ?_
  have y0 := z0.nf
  refine kcl p0 ok40 (uagainT_calls _ _ y0.il _ _ rn rx _ _ _ _ _ _ _ _ _ _ _ ((nthS rq 0).2.2) (y0.z 0) (imm_box (i := 0) rfl) (y0.g 1) (y0.g 2) (y0.g 3) (y0.g 4) (y0.g 5) (y0.g 6) (y0.g 10) (hp4 := hp4) (hq4 := hq4) (hps := hps) (hqs := hqs) (h0p := (by omega)) (hsn := hsn) (hst := (hqm 0 (by omega)).1) (hlt := (hqm 0 (by omega)).2)) ?_
  rintro p0 z0 ⟨i0, m0, v0, rfl, o0, u0, b1, c1⟩
  have z0 := y0.callM (i := 0) rfl o0 u0
  have u0 := y0.dM 0 z0 b1
  refine ⟨_, rfl, fun z0 b1 => ?_⟩
  obtain ⟨hgl, hgs⟩ := again_sz (t := (nthS rq 0).2.2) c1 hps (by assumption) (hqm 0 (by omega)).1 (hqm 0 (by omega)).2 hp4
  have z0 := sWI u0 8 (pB 0 1 pn)
  refine ⟨z0, ?_⟩
  refine d1 23 ?_
  have z0 := u0.data (dAll [((i0, m0, v0) : Sl), (((nthS rq 0).1, (nthS rq 0).2.1, (nthS rq 0).2.2) : Sl)]) (all_cons (u0.get (i := 12) rfl) (all_cons (u0.get (i := 11) rfl) all_nil))
  refine bsl b1 z0 fun u0 y0 o0 p0 f1 => ?_
  have y0 := sWI f1 8 (pB 0 1 pn)
  refine ⟨y0, ?_⟩
  refine d1 24 ?_
  have y0 := f1.nf
  have f1 := own_cap (y0.res (i := 2) rfl)
  obtain ⟨u0, z0⟩ := y0.row_dataM (i := 2) rfl (j := 0) rfl (by decide)
  have y0 := u0.data (dRow 1 (some ⟨o0, 0, none⟩) 2 2 (encSs ([((i0, m0, v0) : Sl), (((nthS rq 0).1, (nthS rq 0).2.1, (nthS rq 0).2.2) : Sl)]))) ⟨f1, z0⟩
  refine kcl p0 ok39 (minst_calls _ _ y0.il _ _ _ _ _ _ ((nthS rp 2).2.2) _ _ ([((i0, m0, v0) : Sl), (((nthS rq 0).1, (nthS rq 0).2.1, (nthS rq 0).2.2) : Sl)]) (y0.g 0) (y0.z 0) (imm_box (i := 0) rfl) (y0.g 9) (y0.g 14) (y0.g 13) (hsm := (by exact (hpm 2 (by omega)).1)) (hl := (by exact Nat.le_trans (hpm 2 (by omega)).2 (by decide))) (hls := (by intro x hx; simp only [lsts, List.map_cons, List.map_nil, List.mem_cons, List.not_mem_nil, or_false] at hx; first | (rw [hx]; first | exact (hpm 1 (by omega)).1 | exact (hqm 1 (by omega)).1) | (rcases hx with hx | hx <;> rw [hx] <;> first | assumption | exact (hqm 0 (by omega)).1))) (hlb := (by intro x hx; simp only [lsts, List.map_cons, List.map_nil, List.mem_cons, List.not_mem_nil, or_false] at hx; first | (rw [hx]; first | exact Nat.le_trans (hpm 1 (by omega)).2 (by decide) | exact Nat.le_trans (hqm 1 (by omega)).2 (by decide)) | (rcases hx with hx | hx <;> rw [hx] <;> first | omega | exact Nat.le_trans (hqm 0 (by omega)).2 (by decide)))) (hl0 := (by simp))) ?_
  rintro p0 z0 ⟨u0, f1, o0, rfl, b1, h1, i1, j1⟩
  have z0 := y0.callM (i := 0) rfl b1 h1
  have h1 := y0.dM 0 z0 i1
  refine ⟨_, rfl, fun z0 i1 => ?_⟩
  have z0 := sWI h1 8 (pB 0 1 pn)
  refine ⟨z0, ?_⟩
  refine dR [25] i1 fun z0 y0 => ?_
  refine wpAnyH_done (by kernel_rfl) (c0 _ _ ?_) _
  refine xn t0 <| wp_ret <| x_block_r <| x_then_r <| er1 y0 ?_
  refine ⟨u0, f1, o0, ?_, h1.fr, (by rw [show ((urG rn rx (lsts rp) (lsts rq) (lstsT rk)).2 : Int) = ((inQ ((re)) ((nthS rp 2).2.2) (lsts ([((i0, m0, v0) : Sl), (((nthS rq 0).1, (nthS rq 0).2.1, (nthS rq 0).2.2) : Sl)])))) by (unfold urG; rw [if_neg (by omega)]; unfold urR urX; simp [he, n0, q0, nand_of d0, nand_of x0, nand_of f0, nand_of s0, lsts_nth, lsts_len, lsts_cons1, lsts_nil1, c1, j1])]; exact h1.res (i := 0) rfl), h1.rx 15, (by unfold urG; rw [if_neg (by omega)]; unfold urR urX; simp [he, n0, q0, nand_of d0, nand_of x0, nand_of f0, nand_of s0, lsts_nth, lsts_len, lsts_cons1, lsts_nil1, c1, j1])⟩
  exact cr (ret_s (by rfl))
 have h1 := k0
 try simp only [bz] at h1
 refine wcf j0 k0 fun h1 => ?_
 refine wsc fun j0 j1 => lR h1 fun j0 o0 => ?_
 refine bld o0 fun j0 h1 => ?_
 refine r_eqlP sv h1 rfl rfl rfl rfl (by decide) fun j0 o0 => ?_
 refine aw o0 j1 fun j0 h1 => ?_
 rcases Bool.eq_false_or_eq_true (decide ((rn.K) = 24) && decide ((rx.K) = 23)) with j1 | j1
 ·
  have j0 := and_tl j1
  have o0 := of_decide_eq_true j0
  have hmkrn24 := many_24 o0
  have j0 := and_tr j1
  have f1 := of_decide_eq_true j0
  have hmkrx23 := many_23 f1
  refine wct h1 j1 fun j0 => ?_
  refine wp_seq_k fun u0 c1 => ?_
  obtain ⟨u0, v0, m0⟩ := h0.agree
  refine d_reg3 (n := 18) m0 8 (pB 0 1 pn) (pan_then (pan_block (pan_then pan_body))) fun u0 i0 q0 n0 y0 t0 => ?_
  refine dR [0, 1, 2, 3, 4, 5, 6] j0 fun t0 n0 => ?_
  refine dix 7 1 (1 * 1) n0 (fun x hx => (ss_elem (t := rp) (k := 1) (sdat (v0 1 _ rfl) hx.ag).2 (by omega)).some_) fun t0 j0 => ?_
  refine dle 8 0 (1 * 1) j0 (fun x hx => ss_elem (t := rp) (k := 1) (sdat (v0 1 _ rfl) hx.ag).2 (by omega)) fun t0 n0 => ?_
  have t0 := y0.el 2 1
  refine dR [9, 10, 11, 12] n0 fun y0 j0 => ?_
  refine dix 13 1 (1 * 1) j0 (fun x hx => (ss_elem (t := rq) (k := 1) (sdat (v0 3 _ rfl) hx.ag).2 (by omega)).some_) fun y0 n0 => ?_
  refine dle 14 0 (1 * 1) n0 (fun x hx => ss_elem (t := rq) (k := 1) (sdat (v0 3 _ rfl) hx.ag).2 (by omega)) fun y0 j0 => ?_
  have y0 := t0.el 4 1
  refine d1 15 ?_
  have t0 := y0.data (dAll [(((nthS rq 1).1, (nthS rq 1).2.1, (nthS rq 1).2.2) : Sl)]) (all_cons (y0.get (i := 10) rfl) all_nil)
  refine bsl j0 t0 fun y0 n0 v0 i0 u0 => ?_
  have n0 := sWI u0 8 (pB 0 1 pn)
  refine ⟨n0, ?_⟩
  refine d1 16 ?_
  have n0 := u0.nf
  have u0 := own_cap (n0.res (i := 2) rfl)
  obtain ⟨y0, t0⟩ := n0.row_dataM (i := 2) rfl (j := 0) rfl (by decide)
  have n0 := y0.data (dRow 1 (some ⟨v0, 0, none⟩) 1 1 (encSs ([(((nthS rq 1).1, (nthS rq 1).2.1, (nthS rq 1).2.2) : Sl)]))) ⟨u0, t0⟩
  refine kcl i0 ok39 (minst_calls _ _ n0.il _ _ _ _ _ _ ((nthS rp 1).2.2) _ _ ([(((nthS rq 1).1, (nthS rq 1).2.1, (nthS rq 1).2.2) : Sl)]) (n0.g 0) (n0.z 0) (imm_box (i := 0) rfl) (n0.g 9) (n0.g 12) (n0.g 11) (hsm := (by exact (hpm 1 (by omega)).1)) (hl := (by exact Nat.le_trans (hpm 1 (by omega)).2 (by decide))) (hls := (by intro x hx; simp only [lsts, List.map_cons, List.map_nil, List.mem_cons, List.not_mem_nil, or_false] at hx; first | (rw [hx]; first | exact (hpm 1 (by omega)).1 | exact (hqm 1 (by omega)).1) | (rcases hx with hx | hx <;> rw [hx] <;> first | assumption | exact (hqm 0 (by omega)).1))) (hlb := (by intro x hx; simp only [lsts, List.map_cons, List.map_nil, List.mem_cons, List.not_mem_nil, or_false] at hx; first | (rw [hx]; first | exact Nat.le_trans (hpm 1 (by omega)).2 (by decide) | exact Nat.le_trans (hqm 1 (by omega)).2 (by decide)) | (rcases hx with hx | hx <;> rw [hx] <;> first | omega | exact Nat.le_trans (hqm 0 (by omega)).2 (by decide)))) (hl0 := (by simp))) ?_
  rintro i0 t0 ⟨y0, u0, v0, rfl, j0, m0, c0, z0⟩
  have t0 := n0.callM (i := 0) rfl j0 m0
  have m0 := n0.dM 0 t0 c0
  refine ⟨_, rfl, fun t0 c0 => ?_⟩
  have t0 := sWI m0 8 (pB 0 1 pn)
  refine ⟨t0, ?_⟩
  refine dR [17] c0 fun t0 n0 => ?_
  refine wpAnyH_done (by kernel_rfl) (q0 _ _ ?_) _
  refine xn c1 <| wp_ret <| x_block_r <| x_then_r <| er1 n0 ?_
  refine ⟨y0, u0, v0, ?_, m0.fr, (by rw [show ((urG rn rx (lsts rp) (lsts rq) (lstsT rk)).2 : Int) = ((inQ (re) ((nthS rp 1).2.2) (lsts ([(((nthS rq 1).1, (nthS rq 1).2.1, (nthS rq 1).2.2) : Sl)])))) by (unfold urG; rw [if_neg (by omega)]; unfold urR urX; simp [he, o0, f1, nand_of d0, nand_of x0, nand_of f0, nand_of s0, nand_of k0, lsts_nth, lsts_len, lsts_cons1, lsts_nil1, z0])]; exact m0.res (i := 0) rfl), m0.rx 13, (by unfold urG; rw [if_neg (by omega)]; unfold urR urX; simp [he, o0, f1, nand_of d0, nand_of x0, nand_of f0, nand_of s0, nand_of k0, lsts_nth, lsts_len, lsts_cons1, lsts_nil1, z0])⟩
  exact cr (ret_s (by rfl))
 have m0 := j1
 try simp only [bz] at m0
 refine wcf h1 j1 fun m0 => ?_
 refine wsc fun h1 z0 => lR m0 fun h1 v0 => ?_
 refine bld v0 fun h1 m0 => ?_
 refine r_eqlP sv m0 rfl rfl rfl rfl (by decide) fun h1 v0 => ?_
 refine aw v0 z0 fun h1 m0 => ?_
 rcases Bool.eq_false_or_eq_true (decide ((rn.K) = 27) && decide ((rx.K) = 26)) with z0 | z0
 ·
  have h1 := and_tl z0
  have v0 := of_decide_eq_true h1
  have v0 := and_tr z0
  have h1 := of_decide_eq_true v0
  refine wct m0 z0 fun h1 => ?_
  refine wsc fun v0 u0 => mv h1 fun v0 y0 => ?_
  have v0 := h0.nf
  refine kcl y0 ok41 (uelimG_calls _ _ v0.il _ _ rn rx _ _ _ _ _ _ _ _ _ (v0.g 0) (v0.z 0) (imm_box (i := 0) rfl) (v0.g 1) (v0.g 2) (v0.g 3) (v0.g 4) (v0.g 5) (v0.g 6) (hp4 := hp4) (hq4 := hq4) (hps := hps) (hqs := hqs) (hcs := hcs) (hc4 := hc4) (hN0 := (hx0 (by assumption)).1) (hlp := hlp) (hlq := hlq) (hsn := hsn) (he := he) (h27 := (by assumption)) (h26 := (by assumption)) (hM0 := (hx0 (by assumption)).2)) ?_
  rintro y0 h1 ⟨f1, o0, n0, rfl, c1, q0, t0, c0⟩
  have h1 := v0.callM (i := 0) rfl c1 q0
  have q0 := v0.dM 0 h1 t0
  refine ⟨_, rfl, fun h1 t0 => ?_⟩
  refine aw t0 u0 fun h1 v0 => ?_
  refine wp_ret <| x_block_r <| x_then_r <| er1 v0 ?_
  refine ⟨f1, o0, n0, ?_, q0.fr, (by rw [show ((urG rn rx (lsts rp) (lsts rq) (lstsT rk)).2 : Int) = (((elG rn rx (lsts rp) (lsts rq) (lstsT rk)).2)) by (unfold urG; rw [if_pos ⟨by assumption, by assumption⟩])]; exact q0.res (i := 0) rfl), q0.rx 8, (by unfold urG; rw [if_pos ⟨by assumption, by assumption⟩]; exact c0)⟩
  exact cr (ret_s (by rfl))
 have q0 := z0
 try simp only [bz] at q0
 refine wcf m0 z0 fun q0 => ?_
 refine wp_skip <| x_block_n <| xn b0 <| wsc fun b0 m0 => lR q0 fun b0 c0 => ?_
 have b0 := h0.nf
 refine kcl c0 ok42 (stuck_calls _ _ b0.il _ _ _ _ (b0.z 0) (imm_box (i := 0) rfl)) ?_
 rintro c0 h0 ⟨q0, n0, rfl, o0, f1, v0⟩
 have h0 := b0.callM (i := 0) rfl o0 f1
 have f1 := b0.dM 0 h0 v0
 refine ⟨_, rfl, fun h0 v0 => ?_⟩
 refine aw v0 m0 fun h0 b0 => ?_
 refine wp_ret <| er1 b0 ?_
 refine ⟨q0, n0, ([] : List Nd), ?_, f1.fr, (by rw [show ((urG rn rx (lsts rp) (lsts rq) (lstsT rk)).2 : Int) = ((if (re) = 0 then 120 else (re))) by (unfold urG; rw [if_neg (nand_of z0)]; unfold urR urX; simp [he, nand_of d0, nand_of x0, nand_of f0, nand_of s0, nand_of k0, nand_of j1, nand_of z0, lsts_nth, lsts_len, lsts_cons1, lsts_nil1])]; exact f1.res (i := 0) rfl), f1.rx 8, (by unfold urG; rw [if_neg (nand_of z0)]; unfold urR urX; simp [he, nand_of d0, nand_of x0, nand_of f0, nand_of s0, nand_of k0, nand_of j1, nand_of z0, lsts_nth, lsts_len, lsts_cons1, lsts_nil1])⟩
 exact cr (ret_s (by rfl))
theorem uruleG_calls (w0 : World) (Z : Nat → Prop) (hZ : ∀ k, Z k → k < w0.heap.size) (tA : Option Addr) (tc : Nat) (t : List Nd) (consA : Option Addr) (consc : Nat) (cons : List Tl) (hShp : Shapes w0 Z) (ht : (dRow 4 tA t.length tc (encNs t)).φ w0 Z) (hcons : (dRow 1 consA cons.length consc (encTs cons)).φ w0 Z) (hconss : (dAllT cons).φ w0 Z) (hsm : sml t := by first | assumption | omega | (simp <;> omega)) (hl : t.length ≤ 5000 := by first | assumption | omega | (simp <;> omega)) (hcs : ∀ l ∈ lstsT cons, ∀ y ∈ l, sml y ∧ y.length ≤ 4000 := by first | assumption | omega | (simp <;> omega)) (hc4 : cons.length ≤ 1000 := by first | assumption | omega | (simp <;> omega)) :
    Calls Tryd.prog 8 [.slice tA t.length tc, .slice consA cons.length consc].toArray w0 (fun e w' => ∃ (rA0 : Option Addr) (rc0 : Nat), e = .returned (.tuple #[.slice rA0 (ugA t (lstsT cons)).length rc0, .int .i64 (ugE t (lstsT cons))]) ∧ Fr none_ w0 w' ∧ (dRow 4 rA0 ((ugA t (lstsT cons)).length) rc0 (encNs (ugA t (lstsT cons)))).φ w' (nxt Z w0 w')) := by
 have b0 := s0 (M := none_) hZ (zc (d := dShapes) hShp (zc ht (zc hcons (zc hconss zn))))
 refine c_enter Tryd.func8 rfl Tryd.ntmps8 rfl fun c0 d0 => ?_
 refine wsc fun c0 f0 => lR d0 fun c0 h0 => ?_
 refine wn f0 <| wsc fun f0 c0 => mv h0 fun f0 d0 => ?_
 have f0 := b0.nf
 refine kcl d0 ok19 (args_calls _ _ f0.il _ _ _ (f0.g 0) (f0.g 1)) ?_
 rintro d0 b0 ⟨h0, i0, j0, rfl, k0, m0, n0, o0⟩
 have i0 := f0.below k0.below
 have k0 := f0.dN i0 m0
 have i0 := f0.dN k0 n0
 refine ⟨_, rfl, fun k0 n0 => ?_⟩
 refine lR n0 fun k0 f0 => ?_
 refine wn c0 <| wp_seq_k fun c0 k0 => wsc fun c0 n0 => lR f0 fun c0 m0 => ?_
 refine wn n0 ?_
 rcases Decidable.em (((chk t)) = 0) with n0 | n0
 ·
  have hct := n0
  have hpt := chk_pos hct
  have hrt := right_at (meas_chk hct) (show t.length - 1 < t.length by omega)
  have hM9 := right_M hrt
  have hsn := hsm (t.length - 1) (by omega)
  refine wcfb m0 rfl (by rw [(decide_eq_true n0)]; rfl) fun c0 => ?_
  refine wp_skip <| xn k0 <| wsc fun k0 f0 => mv c0 fun k0 h0 => ?_
  have k0 := i0.nf
  refine kcl h0 ok20 (uroot_calls _ _ k0.il _ _ _ (k0.g 1)) ?_
  rintro h0 c0 ⟨rfl, b0⟩
  have c0 := k0.below b0.below
  refine ⟨_, rfl, fun b0 k0 => ?_⟩
  refine lR k0 fun b0 h0 => ?_
  refine bld h0 fun b0 k0 => ?_
  refine bxx k0 c0 fun b0 h0 d0 p0 q0 => ?_
  refine aw p0 f0 fun d0 h0 => ?_
  refine wsc fun f0 d0 => lR h0 fun f0 p0 => ?_
  have f0 := q0.nf
  refine kcl p0 ok21 (utarget_calls _ _ f0.il (nth t (t.length - 1))) ?_
  rintro p0 q0 ⟨rfl, h0⟩
  have q0 := f0.below h0.below
  refine ⟨_, rfl, fun h0 f0 => ?_⟩
  refine aw f0 d0 fun h0 p0 => ?_
  refine wp_seq_k fun d0 h0 => wsc fun d0 f0 => lR p0 fun d0 b0 => ?_
  refine wn f0 ?_
  rcases Decidable.em (((tgK (nth t (t.length - 1)))) < 0) with f0 | f0
  ·
   refine wct b0 (decide_eq_true f0) fun d0 => ?_
   refine wsc fun p0 k0 => lR d0 fun p0 c0 => ?_
   refine wn k0 <| wp_ret <| x_then_r <| er2 c0 ?_
   have c0 : ugA t (lstsT cons) = [] := (ug_neg hct f0).2
   rw [c0]
   refine ⟨none, 0, ?_, q0.fr, ⟨Nat.le_refl _, RowI.nil _ _ _ _⟩⟩
   exact ret_t2 rfl (ret_i (by exact (ug_neg hct f0).1.symm))
  have htn := f0
  have htm := tg_many hct htn
  have hcz := tg_ok hct htn
  obtain ⟨hpl, hp8⟩ := ag_len hct o0
  have hps := ag_all hct o0 hsm
  obtain ⟨hzl, hsz, hcz'⟩ := ag_nth hct o0 hsm htm
  have hpz := chk_pos hcz'
  have hz : (nthS j0 (tgK (nth t (t.length - 1))).toNat).2.2 = tgL t := by rw [lsts_nth, o0]; rfl
  have hrz := right_at (meas_chk hcz') (show (nthS j0 (tgK (nth t (t.length - 1))).toNat).2.2.length - 1 < (nthS j0 (tgK (nth t (t.length - 1))).toNat).2.2.length by omega)
  have hx0 := con_nn hrz
  refine wcf b0 (decide_eq_false f0) fun c0 => ?_
  refine wp_skip <| xn h0 <| wsc fun h0 f0 => lR c0 fun h0 b0 => ?_
  refine ix ((((tgK (nth t (t.length - 1))))).toNat) (((((tgK (nth t (t.length - 1))))).toNat) * 1) b0 (ss_elem (t := j0) (k := (((tgK (nth t (t.length - 1))))).toNat) (q0.row (i := 4) rfl).2 (by omega)).some_ fun h0 c0 => ?_
  refine lde 0 (((((tgK (nth t (t.length - 1))))).toNat) * 1) c0 (ss_elem (t := j0) (k := (((tgK (nth t (t.length - 1))))).toNat) (q0.row (i := 4) rfl).2 (by omega)) fun h0 b0 => ?_
  have h0 := q0.el 5 ((((tgK (nth t (t.length - 1))))).toNat)
  have q0 := h0.nf
  refine kcl b0 ok20 (uroot_calls _ _ q0.il _ _ ((nthS j0 ((((tgK (nth t (t.length - 1))))).toNat)).2.2) (q0.g 6)) ?_
  rintro b0 h0 ⟨rfl, c0⟩
  have h0 := q0.below c0.below
  refine ⟨_, rfl, fun c0 q0 => ?_⟩
  refine lR q0 fun c0 b0 => ?_
  refine sto 0 b0 h0 fun c0 q0 k0 p0 => ?_
  refine wn f0 <| wsc fun f0 q0 => lR k0 fun f0 c0 => ?_
  refine ix ((((tgK (nth t (t.length - 1))))).toNat) (((((tgK (nth t (t.length - 1))))).toNat) * 1) c0 (ss_elem (t := j0) (k := (((tgK (nth t (t.length - 1))))).toNat) (p0.row (i := 4) rfl).2 (by omega)).some_ fun f0 k0 => ?_
  refine lde 0 (((((tgK (nth t (t.length - 1))))).toNat) * 1) k0 (ss_elem (t := j0) (k := (((tgK (nth t (t.length - 1))))).toNat) (p0.row (i := 4) rfl).2 (by omega)) fun f0 c0 => ?_
  have f0 := p0.el 5 ((((tgK (nth t (t.length - 1))))).toNat)
  have p0 := f0.nf
  refine kcl c0 ok19 (args_calls _ _ p0.il _ _ ((nthS j0 ((((tgK (nth t (t.length - 1))))).toNat)).2.2) (p0.g 0) (p0.g 7)) ?_
  rintro c0 f0 ⟨k0, b0, h0, rfl, d0, t0, u0, v0⟩
  have b0 := p0.below d0.below
  have d0 := p0.dN b0 t0
  have b0 := p0.dN d0 u0
  refine ⟨_, rfl, fun d0 u0 => ?_⟩
  obtain ⟨hql, d0⟩ := ag_len hcz' v0
  have hqs := ag_all hcz' v0 hsz
  refine lR u0 fun d0 p0 => ?_
  refine sto 0 p0 b0 fun d0 u0 t0 k0 => ?_
  refine wn q0 <| wp_seq_k fun q0 u0 => ?_
  obtain ⟨q0, d0, p0⟩ := k0.agree
  refine d_reg3 (n := 10) p0 10 (pB 0 1 pn) (pan_then pan_body) fun d0 q0 k0 b0 f0 c0 => ?_
  refine dR [0, 1, 2, 3] t0 fun c0 b0 => ?_
  refine d1 4 ?_
  have c0 := f0.nf
  refine kcl b0 ok23 (ureductG_calls _ _ c0.il _ _ (nth t (t.length - 1)) (nth ((nthS j0 ((((tgK (nth t (t.length - 1))))).toNat)).2.2) (((nthS j0 ((((tgK (nth t (t.length - 1))))).toNat)).2.2).length - 1)) _ _ _ _ _ _ _ _ _ (c0.g 0) (c0.z 0) (imm_box (i := 0) rfl) (c0.g 4) (c0.g 5) (c0.g 8) (c0.g 9) (c0.g 2) (c0.g 3) (hp4 := (by omega)) (hq4 := (by omega)) (hps := hps) (hqs := hqs) (hlp := (by omega)) (hlq := (by omega)) (hsn := hsn) (he := rfl) (hx0 := hx0) (hcs := hcs) (hc4 := hc4)) ?_
  rintro b0 f0 ⟨t0, q0, d0, rfl, p0, x0, y0, z0⟩
  have q0 := c0.callM (i := 0) rfl p0 x0
  have x0 := c0.dM 0 q0 y0
  refine ⟨_, rfl, fun q0 y0 => ?_⟩
  obtain ⟨hrs, hrl⟩ : sml d0 ∧ d0.length ≤ 1000000 := by rw [z0]; exact urG_sz hsn hps (by rw [lsts_len]; omega) hqs (by rw [lsts_len]; omega) hcs
  have hof := ug_of (c := lstsT cons) hct htn (R := urG (nth t (t.length - 1)) (nth (nthS j0 (tgK (nth t (t.length - 1))).toNat).2.2 ((nthS j0 (tgK (nth t (t.length - 1))).toNat).2.2.length - 1)) (lsts j0) (lsts h0) (lstsT cons)) (by rw [o0, v0, hz])
  have v0 := sWI x0 10 (pB 0 1 pn)
  refine ⟨v0, ?_⟩
  refine d1 5 ?_
  have v0 := x0.nf
  refine kcl y0 ok22 (done_calls _ _ v0.il _ _ _ _ _ _ _ (v0.g 0) (v0.z 0) (imm_box (i := 0) rfl) (v0.g 11)) ?_
  rintro y0 x0 ⟨o0, q0, rfl, c0, p0, t0⟩
  have x0 := v0.callM (i := 0) rfl c0 p0
  have p0 := v0.dM 0 x0 t0
  refine ⟨_, rfl, fun x0 t0 => ?_⟩
  have x0 := sWI p0 10 (pB 0 1 pn)
  refine ⟨x0, ?_⟩
  refine dR [6, 7, 8, 9] t0 fun x0 v0 => ?_
  refine wpAnyH_done (by kernel_rfl) (k0 _ _ ?_) _
  refine xn u0 <| wp_ret <| er2 v0 ?_
  have v0 : ugA t (lstsT cons) = (if (if (((urG (nth t (t.length - 1)) (nth ((nthS j0 ((((tgK (nth t (t.length - 1))))).toNat)).2.2) (((nthS j0 ((((tgK (nth t (t.length - 1))))).toNat)).2.2).length - 1)) (lsts j0) (lsts h0) (lstsT cons)).2)) = 0 then chk d0 else (((urG (nth t (t.length - 1)) (nth ((nthS j0 ((((tgK (nth t (t.length - 1))))).toNat)).2.2) (((nthS j0 ((((tgK (nth t (t.length - 1))))).toNat)).2.2).length - 1)) (lsts j0) (lsts h0) (lstsT cons)).2))) = 0 then d0 else []) := (by rw [hof.2, z0])
  rw [v0]
  refine ⟨o0, q0, ?_, p0.fr, p0.rx 12⟩
  exact ret_t2 rfl (ret_i (by (rw [hof.1, z0])))
 refine wctb m0 rfl (by rw [(decide_eq_false n0)]; rfl) fun z0 => ?_
 refine wsc fun m0 p0 => lR z0 fun m0 q0 => ?_
 refine wn p0 <| wp_ret <| x_then_r <| er2 q0 ?_
 have q0 : ugA t (lstsT cons) = [] := (ug_err n0).2
 rw [q0]
 refine ⟨none, 0, ?_, i0.fr, ⟨Nat.le_refl _, RowI.nil _ _ _ _⟩⟩
 exact ret_t2 rfl (ret_i (by exact (ug_err n0).1.symm))
theorem shown14G_calls (w0 : World) (Z : Nat → Prop) (hZ : ∀ k, Z k → k < w0.heap.size)  (hShp : Shapes w0 Z) :
    Calls Tryd.prog 7 [].toArray w0 (fun e w' => e = .returned (.bool (true)) ∧ Fr none_ w0 w') := by
 have b0 := s0 (M := none_) hZ (zc (d := dShapes) hShp zn)
 refine c_enter Tryd.func7 rfl Tryd.ntmps7 rfl fun c0 d0 => ?_
 refine wsc fun c0 f0 => aw d0 f0 fun c0 h0 => ?_
 refine wsc fun f0 c0 => bld h0 fun f0 d0 => ?_
 refine bld d0 fun f0 h0 => ?_
 refine bld h0 fun f0 d0 => ?_
 refine bld d0 fun f0 h0 => ?_
 refine bld h0 fun f0 d0 => ?_
 refine bsl d0 b0 fun f0 h0 i0 j0 k0 => ?_
 refine aw j0 c0 fun h0 f0 => ?_
 refine wsc fun c0 h0 => mv f0 fun c0 j0 => ?_
 have c0 := k0.nf
 have k0 := c0.pub 0 (dRow 4 (some ⟨i0, 0, none⟩) 5 5 (encNs ([(⟨10, 0, 0, (⟨#[]⟩ : ByteArray)⟩ : Nd), (⟨11, 0, 0, (⟨#[]⟩ : ByteArray)⟩ : Nd), (⟨16, 0, 0, (⟨#[]⟩ : ByteArray)⟩ : Nd), (⟨7, 0, 0, (⟨#[]⟩ : ByteArray)⟩ : Nd), (⟨8, 0, 0, (⟨#[]⟩ : ByteArray)⟩ : Nd)])))
 refine kcl j0 ok8 (uruleG_calls _ _ k0.il _ _ ([(⟨10, 0, 0, (⟨#[]⟩ : ByteArray)⟩ : Nd), (⟨11, 0, 0, (⟨#[]⟩ : ByteArray)⟩ : Nd), (⟨16, 0, 0, (⟨#[]⟩ : ByteArray)⟩ : Nd), (⟨7, 0, 0, (⟨#[]⟩ : ByteArray)⟩ : Nd), (⟨8, 0, 0, (⟨#[]⟩ : ByteArray)⟩ : Nd)]) none 0 [] (k0.g 0) (k0.g 1) ⟨Nat.le_refl _, RowI.nil _ _ _ _⟩ allT_nil (hsm := sml_14) (hl := (by simp)) (hcs := (fun l hl => by cases hl)) (hc4 := (by simp))) ?_
 rintro j0 c0 ⟨f0, d0, rfl, b0, m0⟩
 have c0 := k0.below b0.below
 have b0 := k0.dN c0 m0
 refine ⟨_, rfl, fun c0 m0 => ?_⟩
 refine mv m0 fun c0 k0 => ?_
 refine r_extract sv k0 rfl rfl rfl rfl (by decide) fun c0 m0 => ?_
 refine r_extract sv m0 rfl rfl rfl rfl (by decide) fun c0 k0 => ?_
 refine asg k0 fun c0 m0 => ?_
 refine aw m0 h0 fun c0 k0 => ?_
 refine wsc fun h0 c0 => mv k0 fun h0 m0 => ?_
 refine r_eql sv m0 rfl rfl rfl rfl (by decide) fun h0 k0 => ?_
 refine mv k0 fun h0 m0 => ?_
 refine l_and 3 (decide ((((ugA ([(⟨10, 0, 0, (⟨#[]⟩ : ByteArray)⟩ : Nd), (⟨11, 0, 0, (⟨#[]⟩ : ByteArray)⟩ : Nd), (⟨16, 0, 0, (⟨#[]⟩ : ByteArray)⟩ : Nd), (⟨7, 0, 0, (⟨#[]⟩ : ByteArray)⟩ : Nd), (⟨8, 0, 0, (⟨#[]⟩ : ByteArray)⟩ : Nd)]) (lstsT [])).length : Nat) : Int) = 1)) m0 (fun h0 k0 j0 => ?_) fun n0 o0 => ?_
 ·
  have n0 := of_decide_eq_true h0
  refine r_move (st_listV_w (wt k0)) k0 rfl rfl rfl (by decide) fun n0 h0 => ?_
  refine r_len (st_listV_w (wt h0)) h0 rfl rfl rfl rfl Tryd.underlying22 (by decide) fun n0 k0 => ?_
  refine r_eql (st_listV_w (wt k0)) k0 rfl rfl rfl rfl (by decide) fun n0 h0 => ?_
  refine r_pick_t sv h0 rfl rfl rfl rfl (by decide) fun n0 k0 => ?_
  exact j0.fin k0
 refine mv o0 fun k0 j0 => ?_
 refine l_and 5 (decide ((((nth (ugA ([(⟨10, 0, 0, (⟨#[]⟩ : ByteArray)⟩ : Nd), (⟨11, 0, 0, (⟨#[]⟩ : ByteArray)⟩ : Nd), (⟨16, 0, 0, (⟨#[]⟩ : ByteArray)⟩ : Nd), (⟨7, 0, 0, (⟨#[]⟩ : ByteArray)⟩ : Nd), (⟨8, 0, 0, (⟨#[]⟩ : ByteArray)⟩ : Nd)]) (lstsT [])) 0).K)) = 11)) j0 (fun k0 o0 n0 => ?_) fun h0 m0 => ?_
 ·
  have h0 := and_tl k0
  have j0 := of_decide_eq_true h0
  have j0 := and_tr k0
  have k0 := of_decide_eq_true j0
  refine r_move (st_listV_w (wt o0)) o0 rfl rfl rfl (by decide) fun k0 j0 => ?_
  refine ix 0 (0 * 4) j0 (nds_elem (t := ugA ([(⟨10, 0, 0, (⟨#[]⟩ : ByteArray)⟩ : Nd), (⟨11, 0, 0, (⟨#[]⟩ : ByteArray)⟩ : Nd), (⟨16, 0, 0, (⟨#[]⟩ : ByteArray)⟩ : Nd), (⟨7, 0, 0, (⟨#[]⟩ : ByteArray)⟩ : Nd), (⟨8, 0, 0, (⟨#[]⟩ : ByteArray)⟩ : Nd)]) (lstsT [])) (k := 0) (b0.row (i := 2) rfl).2 (by omega)).some_ fun k0 o0 => ?_
  refine m_fieldE (j' := 0 * 4) (st_listV_w (wt o0)) o0 rfl rfl rfl (nds_elem (t := ugA ([(⟨10, 0, 0, (⟨#[]⟩ : ByteArray)⟩ : Nd), (⟨11, 0, 0, (⟨#[]⟩ : ByteArray)⟩ : Nd), (⟨16, 0, 0, (⟨#[]⟩ : ByteArray)⟩ : Nd), (⟨7, 0, 0, (⟨#[]⟩ : ByteArray)⟩ : Nd), (⟨8, 0, 0, (⟨#[]⟩ : ByteArray)⟩ : Nd)]) (lstsT [])) (k := 0) (b0.row (i := 2) rfl).2 (by omega)).some_ Tryd.underlying39 rfl sz3 rfl rfl (by decide) fun k0 j0 => ?_
  refine lde 0 (0 * 4) j0 (nds_elem (t := ugA ([(⟨10, 0, 0, (⟨#[]⟩ : ByteArray)⟩ : Nd), (⟨11, 0, 0, (⟨#[]⟩ : ByteArray)⟩ : Nd), (⟨16, 0, 0, (⟨#[]⟩ : ByteArray)⟩ : Nd), (⟨7, 0, 0, (⟨#[]⟩ : ByteArray)⟩ : Nd), (⟨8, 0, 0, (⟨#[]⟩ : ByteArray)⟩ : Nd)]) (lstsT [])) (k := 0) (b0.row (i := 2) rfl).2 (by omega)) fun k0 o0 => ?_
  refine r_eql (st_listV_w (wt o0)) o0 rfl rfl rfl rfl (by decide) fun k0 j0 => ?_
  refine r_pick_t sv j0 rfl rfl rfl rfl (by decide) fun k0 o0 => ?_
  exact n0.fin o0
 refine mv m0 fun o0 n0 => ?_
 refine l_join (fun ga gw => Reg ga 34 [(0, .bool false), (33, .bool ((((decide (((ugE ([(⟨10, 0, 0, (⟨#[]⟩ : ByteArray)⟩ : Nd), (⟨11, 0, 0, (⟨#[]⟩ : ByteArray)⟩ : Nd), (⟨16, 0, 0, (⟨#[]⟩ : ByteArray)⟩ : Nd), (⟨7, 0, 0, (⟨#[]⟩ : ByteArray)⟩ : Nd), (⟨8, 0, 0, (⟨#[]⟩ : ByteArray)⟩ : Nd)]) (lstsT []))) = 0)) && (decide ((((ugA ([(⟨10, 0, 0, (⟨#[]⟩ : ByteArray)⟩ : Nd), (⟨11, 0, 0, (⟨#[]⟩ : ByteArray)⟩ : Nd), (⟨16, 0, 0, (⟨#[]⟩ : ByteArray)⟩ : Nd), (⟨7, 0, 0, (⟨#[]⟩ : ByteArray)⟩ : Nd), (⟨8, 0, 0, (⟨#[]⟩ : ByteArray)⟩ : Nd)]) (lstsT [])).length : Nat) : Int) = 1))) && (decide ((((nth (ugA ([(⟨10, 0, 0, (⟨#[]⟩ : ByteArray)⟩ : Nd), (⟨11, 0, 0, (⟨#[]⟩ : ByteArray)⟩ : Nd), (⟨16, 0, 0, (⟨#[]⟩ : ByteArray)⟩ : Nd), (⟨7, 0, 0, (⟨#[]⟩ : ByteArray)⟩ : Nd), (⟨8, 0, 0, (⟨#[]⟩ : ByteArray)⟩ : Nd)]) (lstsT [])) 0).K)) = 11))) && (decide (((tgA ([(⟨10, 0, 0, (⟨#[]⟩ : ByteArray)⟩ : Nd), (⟨11, 0, 0, (⟨#[]⟩ : ByteArray)⟩ : Nd), (⟨16, 0, 0, (⟨#[]⟩ : ByteArray)⟩ : Nd), (⟨7, 0, 0, (⟨#[]⟩ : ByteArray)⟩ : Nd), (⟨8, 0, 0, (⟨#[]⟩ : ByteArray)⟩ : Nd)]))) = 0)))), (1000000, .bool false)] ∧ St w0 Z none_ gw [] [dShapes, dRow 4 (some ⟨i0, 0, none⟩) 5 5 (encNs ([(⟨10, 0, 0, (⟨#[]⟩ : ByteArray)⟩ : Nd), (⟨11, 0, 0, (⟨#[]⟩ : ByteArray)⟩ : Nd), (⟨16, 0, 0, (⟨#[]⟩ : ByteArray)⟩ : Nd), (⟨7, 0, 0, (⟨#[]⟩ : ByteArray)⟩ : Nd), (⟨8, 0, 0, (⟨#[]⟩ : ByteArray)⟩ : Nd)])), dRow 4 f0 ((ugA ([(⟨10, 0, 0, (⟨#[]⟩ : ByteArray)⟩ : Nd), (⟨11, 0, 0, (⟨#[]⟩ : ByteArray)⟩ : Nd), (⟨16, 0, 0, (⟨#[]⟩ : ByteArray)⟩ : Nd), (⟨7, 0, 0, (⟨#[]⟩ : ByteArray)⟩ : Nd), (⟨8, 0, 0, (⟨#[]⟩ : ByteArray)⟩ : Nd)]) (lstsT [])).length) d0 (encNs (ugA ([(⟨10, 0, 0, (⟨#[]⟩ : ByteArray)⟩ : Nd), (⟨11, 0, 0, (⟨#[]⟩ : ByteArray)⟩ : Nd), (⟨16, 0, 0, (⟨#[]⟩ : ByteArray)⟩ : Nd), (⟨7, 0, 0, (⟨#[]⟩ : ByteArray)⟩ : Nd), (⟨8, 0, 0, (⟨#[]⟩ : ByteArray)⟩ : Nd)]) (lstsT [])))]) 4 ?_ ?_
 ·
  rcases Bool.eq_false_or_eq_true ((((decide (((ugE ([(⟨10, 0, 0, (⟨#[]⟩ : ByteArray)⟩ : Nd), (⟨11, 0, 0, (⟨#[]⟩ : ByteArray)⟩ : Nd), (⟨16, 0, 0, (⟨#[]⟩ : ByteArray)⟩ : Nd), (⟨7, 0, 0, (⟨#[]⟩ : ByteArray)⟩ : Nd), (⟨8, 0, 0, (⟨#[]⟩ : ByteArray)⟩ : Nd)]) (lstsT []))) = 0)) && (decide ((((ugA ([(⟨10, 0, 0, (⟨#[]⟩ : ByteArray)⟩ : Nd), (⟨11, 0, 0, (⟨#[]⟩ : ByteArray)⟩ : Nd), (⟨16, 0, 0, (⟨#[]⟩ : ByteArray)⟩ : Nd), (⟨7, 0, 0, (⟨#[]⟩ : ByteArray)⟩ : Nd), (⟨8, 0, 0, (⟨#[]⟩ : ByteArray)⟩ : Nd)]) (lstsT [])).length : Nat) : Int) = 1))) && (decide ((((nth (ugA ([(⟨10, 0, 0, (⟨#[]⟩ : ByteArray)⟩ : Nd), (⟨11, 0, 0, (⟨#[]⟩ : ByteArray)⟩ : Nd), (⟨16, 0, 0, (⟨#[]⟩ : ByteArray)⟩ : Nd), (⟨7, 0, 0, (⟨#[]⟩ : ByteArray)⟩ : Nd), (⟨8, 0, 0, (⟨#[]⟩ : ByteArray)⟩ : Nd)]) (lstsT [])) 0).K)) = 11)))) with d0 | d0
  ·
   have f0 := and_tl d0
   have i0 := and_tl f0
   have o0 := of_decide_eq_true i0
   have o0 := and_tr f0
   have f0 := of_decide_eq_true o0
   have f0 := and_tr d0
   have o0 := of_decide_eq_true f0
   have o0 := n0.setb (d := 29) (b := true) rfl d0
   refine r_move (st_listV_w (wt o0)) o0 rfl rfl rfl (by decide) fun f0 i0 => ?_
   have f0 := b0.nf
   refine kcl i0 ok12 (uTarget_calls _ _ f0.il _ _ ([(⟨10, 0, 0, (⟨#[]⟩ : ByteArray)⟩ : Nd), (⟨11, 0, 0, (⟨#[]⟩ : ByteArray)⟩ : Nd), (⟨16, 0, 0, (⟨#[]⟩ : ByteArray)⟩ : Nd), (⟨7, 0, 0, (⟨#[]⟩ : ByteArray)⟩ : Nd), (⟨8, 0, 0, (⟨#[]⟩ : ByteArray)⟩ : Nd)]) (f0.g 0) (f0.g 1) (hsm := sml_14) (hl := (by simp))) ?_
   rintro i0 o0 ⟨rfl, m0⟩
   have o0 := f0.below m0.below
   refine ⟨_, rfl, fun m0 f0 => ?_⟩
   refine r_eql (st_listV_w (wt f0)) f0 rfl rfl rfl rfl (by decide) fun m0 i0 => ?_
   refine r_pick_t sv i0 rfl rfl rfl rfl (by decide) fun m0 f0 => ?_
   refine wpList_nil ?_
   exact x_then_n ⟨(f0.sub (rc rfl (rc (rb rfl (by rfl)) (rc rfl rnl)))), o0⟩
  have f0 := d0
  try simp only [bz] at f0
  have f0 := n0.setb (d := 29) (b := false) rfl d0
  refine sps f0 (wff f0) fun n0 o0 => ?_
  refine sps o0 (wff o0) fun n0 f0 => ?_
  refine sps f0 (wff f0) fun n0 o0 => ?_
  refine r_pick_f sv o0 rfl rfl rfl rfl (by decide) fun n0 f0 => ?_
  refine wpList_nil ?_
  exact x_then_n ⟨(f0.sub (rc rfl (rc (rb rfl (by (simp only [d0, bl]; done))) (rc rfl rnl)))), b0⟩
 rintro f0 d0 ⟨b0, n0⟩
 refine aw b0 c0 fun d0 f0 => ?_
 refine wp_ret <| er1 f0 ?_
 refine ⟨?_, n0.fr⟩
 exact cr (ret_b (by simp [sg14.1, sg14.2, sh14.2.2, lstsT, nth]))
theorem great14_calls (w0 : World) (Z : Nat → Prop) (hZ : ∀ k, Z k → k < w0.heap.size) (er : Int)  :
    Calls Tryd.prog 17 [.int .i64 er].toArray w0 (fun e w' => e = .returned (.bool (grB er)) ∧ Fr none_ w0 w') := by
 have b0 := s0 (M := none_) hZ zn
 refine c_enter Tryd.func17 rfl Tryd.ntmps17 rfl fun c0 d0 => ?_
 refine wsc fun c0 f0 => aw d0 f0 fun c0 h0 => ?_
 refine wsc fun f0 c0 => lR h0 fun f0 d0 => ?_
 refine lOr 2 (decide ((er) = 21)) d0 fun f0 h0 => ?_
 refine mv h0 fun f0 d0 => ?_
 refine lOr 2 (decide ((er) = 22)) d0 fun f0 h0 => ?_
 refine aw h0 c0 fun f0 d0 => ?_
 refine wp_ret <| er1 d0 ?_
 refine ⟨?_, b0.fr⟩
 exact cr (ret_b (by first | rfl | (unfold grB; simp []; done) | ( unfold grB; simp; omega)))
theorem kin14_calls (w0 : World) (Z : Nat → Prop) (hZ : ∀ k, Z k → k < w0.heap.size) (er : Int) (fr : Int)  :
    Calls Tryd.prog 10 [.int .i64 er, .int .i64 fr].toArray w0 (fun e w' => e = .returned (.bool (kinB er fr)) ∧ Fr none_ w0 w') := by
 have b0 := s0 (M := none_) hZ zn
 refine c_enter Tryd.func10 rfl Tryd.ntmps10 rfl fun c0 d0 => ?_
 refine wsc fun c0 f0 => aw d0 f0 fun c0 h0 => ?_
 refine wsc fun f0 c0 => lR h0 fun f0 d0 => ?_
 refine l_join (fun ga gw => Reg ga 16 [(4, .bool false), (15, .bool ((decide ((er) = (fr))) || ((grB (er)) && (grB (fr))))), (1000000, .bool false)] ∧ St w0 Z none_ gw [] []) 7 ?_ ?_
 ·
  rcases Decidable.em ((er) = (fr)) with f0 | f0
  ·
   have h0 := d0.setb (d := 8) (b := true) rfl (decide_eq_true f0)
   refine lR h0 fun i0 j0 => ?_
   refine wpList_nil ?_
   exact x_then_n ⟨(j0.sub (rc rfl (rc (rb rfl (by first | rfl | (simp only [decide_eq_true f0, if_pos f0, bl]; done) | (simp [f0]; done) | (simp [f0]; omega))) (rc rfl rnl)))), b0⟩
  have j0 := d0.setb (d := 8) (b := false) rfl (decide_eq_false f0)
  refine lR j0 fun d0 i0 => ?_
  have d0 := b0.nf
  refine kcl i0 ok17 (great14_calls _ _ d0.il (er)) ?_
  rintro i0 b0 ⟨rfl, j0⟩
  have b0 := d0.below j0.below
  refine ⟨_, rfl, fun j0 d0 => ?_⟩
  refine lR d0 fun j0 i0 => ?_
  rcases Bool.eq_false_or_eq_true (grB (er)) with j0 | j0
  ·
   have d0 := i0.setb (d := 11) (b := true) rfl j0
   refine lR d0 fun h0 k0 => ?_
   have h0 := b0.nf
   refine kcl k0 ok17 (great14_calls _ _ h0.il (fr)) ?_
   rintro k0 d0 ⟨rfl, m0⟩
   have d0 := h0.below m0.below
   refine ⟨_, rfl, fun m0 h0 => ?_⟩
   refine lR h0 fun m0 k0 => ?_
   refine wpList_nil ?_
   exact x_then_n ⟨(k0.sub (rc rfl (rc (rb rfl (by first | rfl | (simp only [decide_eq_false f0, if_neg f0, j0, bl]; done) | (simp [f0, j0]; done) | (simp [f0, j0]; omega))) (rc rfl rnl)))), d0⟩
  have k0 := i0.setb (d := 11) (b := false) rfl j0
  refine lR k0 fun i0 d0 => ?_
  refine wpList_nil ?_
  exact x_then_n ⟨(d0.sub (rc rfl (rc (rb rfl (by first | rfl | (simp only [decide_eq_false f0, if_neg f0, j0, bl]; done) | (simp [f0, j0]; done) | (simp [f0, j0]; omega))) (rc rfl rnl)))), b0⟩
 rintro d0 j0 ⟨b0, f0⟩
 refine aw b0 c0 fun j0 d0 => ?_
 refine wp_ret <| er1 d0 ?_
 refine ⟨?_, f0.fr⟩
 exact cr (ret_b (by (unfold kinB; first | (simp []; done) | (simp_all; done))))
end Go.Proofs.YtpfmnpaifchleaaDoor
namespace Go.Proofs.YtpfmnpaifchleaaDoor
set_option linter.unusedSimpArgs false
set_option linter.unusedVariables false
section
/- Shifted terms come to the shifted one: trees. -/
def shP (b c : Int) : VR := fun n u => (0, if c ≤ n.N - u then .mk (vN (n.N + b)) [] else .mk n [])
section
variable {V W U : VR} {a b c B : Int}
mutual
theorem tr_comp (h : ∀ n d, right n = true → n.K = 0 → 0 ≤ d → d ≤ B → trT W (b + d) (V n (a + d)).2 = (U n (c + d)).2) : ∀ (x : T) (d : Int), x.wf = true → 0 ≤ d → d + 2 * x.deep ≤ B → trT W (b + d) (trT V (a + d) x) = trT U (c + d) x
 | .mk n l, d, hw, hd, hB => by
  obtain ⟨h1, h2, h3⟩ := wf_parts hw
  by_cases hk : n.K = 0
  ·
   simp only [trT, hk, if_true]
   have hd0 : 0 ≤ (2 : Int) * (T.mk n l).deep := by omega
   exact h n d h1 hk hd (by omega)
  ·
   simp only [trT, hk, if_false]
   have e : ∀ z : Int, (binds n).map (z + d + ·) = ((binds n).map (d + ·)).map (z + ·) := fun z => by
    rw [List.map_map]
    exact List.map_congr_left fun x _ => by simp only [Function.comp]; omega
   rw [e, e, e, tr_comps h l _ h3 (ubinds hd) ?_]
   intro v hv
   obtain ⟨q, hq, rfl⟩ := List.mem_map.1 hv
   have h4 := binds_b n q hq
   rw [deep_mk] at hB
   omega
theorem tr_comps (h : ∀ n d, right n = true → n.K = 0 → 0 ≤ d → d ≤ B → trT W (b + d) (V n (a + d)).2 = (U n (c + d)).2) : ∀ (l : List T) (ds : List Int), T.wfs l = true → (∀ v ∈ ds, 0 ≤ v) → (∀ v ∈ ds, v + 2 * T.deeps l ≤ B) → trTs W (trTs V l (ds.map (a + ·))) (ds.map (b + ·)) = trTs U l (ds.map (c + ·))
 | [], ds, _, _, _ => by simp [trTs]
 | y :: l, [], _, _, _ => by simp [trTs]
 | y :: l, d :: ds, hw, hd, hB => by
  obtain ⟨h1, h2⟩ := wf_cons hw
  simp only [List.map_cons, trTs]
  rw [tr_comp h y d h1 (hd d (by simp)) ?_, tr_comps h l ds h2 (fun v hv => hd v (by simp [hv])) ?_]
  ·
   intro v hv
   have := hB v (by simp [hv])
   have : T.deeps (y :: l) = max y.deep (T.deeps l) := by simp [T.deeps]
   omega
  ·
   have := hB d (by simp)
   have : T.deeps (y :: l) = max y.deep (T.deeps l) := by simp [T.deeps]
   omega
end
end
section
variable {n k j m c : Int}
mutual
theorem shV_P {b c : Int} (hb : 0 ≤ b) : ∀ (x : T) (u : Int), trE (shV b c) u x = 0 → trT (shV b c) u x = trT (shP b c) u x
 | .mk n l, u, h => by
  by_cases hk : n.K = 0
  ·
   simp only [trE, trT, hk, if_true] at h ⊢
   unfold shV at h ⊢
   unfold shP
   by_cases h1 : c ≤ n.N - u
   ·
    rw [if_pos h1] at h ⊢
    rw [if_neg (by omega)] at h ⊢
    by_cases h2 : 99 < n.N + b
    · rw [if_pos h2] at h; cases h
    · rw [if_neg h2, if_pos h1]
   · rw [if_neg h1, if_neg h1]
  ·
   simp only [trE, trT, hk, if_false] at h ⊢
   rw [shV_Ps hb l _ h]
theorem shV_Ps {b c : Int} (hb : 0 ≤ b) : ∀ (l : List T) (us : List Int), trEs (shV b c) l us = 0 → trTs (shV b c) l us = trTs (shP b c) l us
 | [], us, _ => by simp [trTs]
 | y :: l, [], _ => by simp [trTs]
 | y :: l, u :: us, h => by
  simp only [trEs] at h
  by_cases h1 : trE (shV b c) u y = 0
  ·
   rw [if_pos h1] at h
   simp only [trTs]
   rw [shV_P hb y u h1, shV_Ps hb l us h]
  ·
   rw [if_neg h1] at h
   exact absurd h h1
end
mutual
theorem shP_V {b c : Int} (hb : 0 ≤ b) : ∀ (x : T) (u : Int), x.wf = true → (trT (shP b c) u x).wf = true → trE (shV b c) u x = 0
 | .mk n l, u, hw, h => by
  obtain ⟨h1, h2, h3⟩ := wf_parts hw
  by_cases hk : n.K = 0
  ·
   simp only [trE, trT, hk, if_true] at h ⊢
   unfold shP at h
   unfold shV
   by_cases q : c ≤ n.N - u
   ·
    simp only [if_pos q] at h ⊢
    rw [if_neg (by omega)]
    have h4 := (var_node (wf_parts h).1 rfl).2.2
    rw [if_neg (by simpa using h4)]
   · simp only [if_neg q]
  ·
   simp only [trE, trT, hk, if_false] at h ⊢
   exact shP_Vs hb l _ h3 (wf_parts h).2.2
theorem shP_Vs {b c : Int} (hb : 0 ≤ b) : ∀ (l : List T) (us : List Int), T.wfs l = true → T.wfs (trTs (shP b c) l us) = true → trEs (shV b c) l us = 0
 | [], us, _, _ => by simp [trEs]
 | y :: l, [], _, _ => by simp [trEs]
 | y :: l, u :: us, hw, h => by
  obtain ⟨h1, h2⟩ := wf_cons hw
  simp only [trTs] at h
  obtain ⟨h3, h4⟩ := wf_cons h
  simp only [trEs]
  rw [if_pos (shP_V hb y u h1 h3)]
  exact shP_Vs hb l us h2 h4
end
theorem sh_sh (hk : 0 ≤ k) (hj : 0 ≤ j) (hm : 0 ≤ m) (hn : 0 ≤ n) (hc : c ≤ k + j) {x : T} (hw : x.wf = true) : trT (shP n k) (j + m) (trT (shP m c) 0 x) = trT (shP m c) 0 (trT (shP n k) j x) := by
 have h1 := tr_comp (V := shP m c) (W := shP n k) (U := fun q u => (0, if k + j ≤ q.N - u then .mk (vN (q.N + m + n)) [] else if c ≤ q.N - u then .mk (vN (q.N + m)) [] else .mk q [])) (a := 0) (b := j + m) (c := 0) (B := 2 * x.deep) ?_ x 0 hw (Int.le_refl _) (by omega)
 have h2 := tr_comp (V := shP n k) (W := shP m c) (U := fun q u => (0, if k + j ≤ q.N - u then .mk (vN (q.N + m + n)) [] else if c ≤ q.N - u then .mk (vN (q.N + m)) [] else .mk q [])) (a := j) (b := 0) (c := 0) (B := 2 * x.deep) ?_ x 0 hw (Int.le_refl _) (by omega)
 ·
  simp only [Int.add_zero] at h1 h2
  exact h1.trans h2.symm
 ·
  intro q d hr hq hd _
  unfold shP
  simp only [Int.zero_add]
  by_cases q1 : k + j ≤ q.N - d
  ·
   rw [if_pos (show k ≤ q.N - (j + d) by omega), if_pos q1]
   simp only [trT, if_true]
   rw [if_pos (by omega), show q.N + n + m = q.N + m + n by omega]
  ·
   rw [if_neg (show ¬ k ≤ q.N - (j + d) by omega), if_neg q1]
   simp only [trT, hq, if_true]
 ·
  intro q d hr hq hd _
  unfold shP
  simp only [Int.zero_add]
  by_cases q1 : k + j ≤ q.N - d
  ·
   rw [if_pos (show c ≤ q.N - d by omega), if_pos q1]
   simp only [trT, if_true]
   rw [if_pos (by omega)]
  ·
   rw [if_neg q1]
   by_cases q2 : c ≤ q.N - d
   ·
    rw [if_pos q2]
    simp only [trT, if_true]
    rw [if_neg (by omega)]
   ·
    rw [if_neg q2]
    simp only [trT, hq, if_true]
    rw [if_neg (by omega)]
def nthT0 (l : List T) (i : Int) : T := l.getD i.toNat (.mk ⟨0, 0, 0, ⟨#[]⟩⟩ [])
def puP (l : List T) : VR := fun n u => (0, if n.N - u < 0 then .mk n [] else if n.N - u < l.length then trT (shP u 0) 0 (nthT0 l (n.N - u)) else .mk (vN (n.N - l.length)) [])
theorem nthT0_map {f : T → T} {l : List T} {i : Int} (h0 : 0 ≤ i) (h : i < l.length) : nthT0 (l.map f) i = f (nthT0 l i) := by
 unfold nthT0
 have : i.toNat < l.length := by omega
 simp [List.getD_eq_getElem?_getD, this]
theorem nthT0_wf {l : List T} (hl : T.wfs l = true) {i : Int} (h0 : 0 ≤ i) (h : i < l.length) : (nthT0 l i).wf = true := by
 have hi : i.toNat < l.length := by omega
 have e : nthT0 l i = l[i.toNat] := by unfold nthT0; simp [hi]
 rw [e]
 exact (T.wfs_iff l).1 hl _ (List.getElem_mem hi)
theorem sh_in (hk : 0 ≤ k) (hj : 0 ≤ j) (hn : 0 ≤ n) {x : T} (hw : x.wf = true) {l : List T} (hl : T.wfs l = true) : trT (shP n k) j (trT (puP l) 0 x) = trT (puP (l.map (trT (shP n k) j))) 0 (trT (shP n k) (l.length + j) x) := by
 have h1 := tr_comp (V := puP l) (W := shP n k) (U := fun q u => trT (shP n k) (j + u) (puP l q u).2 |> fun y => (0, y)) (a := 0) (b := j) (c := 0) (B := 2 * x.deep) ?_ x 0 hw (Int.le_refl _) (by omega)
 have h2 := tr_comp (V := shP n k) (W := puP (l.map (trT (shP n k) j))) (U := fun q u => trT (shP n k) (j + u) (puP l q u).2 |> fun y => (0, y)) (a := l.length + j) (b := 0) (c := 0) (B := 2 * x.deep) ?_ x 0 hw (Int.le_refl _) (by omega)
 ·
  simp only [Int.add_zero] at h1 h2
  exact h1.trans h2.symm
 ·
  intro q d hr hq hd _
  simp only [Int.zero_add]
  have e1 : (shP n k q (l.length + j + d)).2 = if k ≤ q.N - (l.length + j + d) then .mk (vN (q.N + n)) [] else .mk q [] := rfl
  rw [e1]
  by_cases q1 : k ≤ q.N - (l.length + j + d)
  ·
   rw [if_pos q1]
   have e2 : (puP l q d).2 = .mk (vN (q.N - l.length)) [] := by unfold puP; simp only; rw [if_neg (by omega), if_neg (by omega)]
   rw [e2]
   simp only [trT, if_true, puP, shP, List.length_map]
   rw [if_neg (by omega), if_neg (by omega), if_pos (by omega), show q.N + n - (l.length : Int) = q.N - l.length + n by omega]
  ·
   rw [if_neg q1]
   simp only [trT, hq, if_true, puP, List.length_map]
   by_cases q2 : q.N - d < 0
   ·
    rw [if_pos q2, if_pos q2]
    simp only [trT, hq, if_true, shP]
    rw [if_neg (by omega)]
   ·
    rw [if_neg q2, if_neg q2]
    by_cases q3 : q.N - d < l.length
    ·
     rw [if_pos q3, if_pos q3, nthT0_map (by omega) q3]
     exact (sh_sh hk hj hd hn (by omega) (nthT0_wf hl (by omega) q3)).symm
    ·
     rw [if_neg q3, if_neg q3]
     simp only [trT, if_true, shP]
     rw [if_neg (by omega)]
 ·
  intro q d hr hq hd _
  simp only [Int.zero_add]
end
end
section
/- Shifted terms come to the shifted one: what is built. -/
def TR (n k j : Int) (a b : Bd) : Prop := a.2 = 0 → b.2 = 0 → ∃ x : T, x.wf = true ∧ a.1 = x.flat ∧ (trT (shP n k) j x).wf = true ∧ b.1 = (trT (shP n k) j x).flat
def TRs (n k : Int) : List Int → List Bd → List Bd → Prop
 | u :: us, a :: l, b :: l' => TR n k u a b ∧ TRs n k us l l'
 | [], [], [] => True
 | _, _, _ => False
section
variable {n k j : Int} {a b a' b' : Bd} {us : List Int} {l l' : List Bd}
theorem TRs_len : ∀ {us : List Int} {l l' : List Bd}, TRs n k us l l' → l.length = us.length ∧ l'.length = us.length
 | _ :: us, _ :: l, _ :: l', h => by have := TRs_len h.2; simp [this.1, this.2]
 | [], [], [], _ => ⟨rfl, rfl⟩
 | [], _ :: _, _, h => h.elim
 | [], [], _ :: _, h => h.elim
 | _ :: _, [], _, h => h.elim
 | _ :: _, _ :: _, [], h => h.elim
theorem TRs_nth : ∀ {us : List Int} {l l' : List Bd} {i : Nat}, TRs n k us l l' → i < us.length → TR n k (nthI us i) (nthD l i) (nthD l' i)
 | _ :: us, _ :: l, _ :: l', 0, h, _ => h.1
 | _ :: us, _ :: l, _ :: l', i + 1, h, hi => TRs_nth (i := i) h.2 (by simpa using hi)
 | [], _, _, _, _, hi => by simp at hi
 | _ :: _, [], _, _, h, _ => h.elim
 | _ :: _, _ :: _, [], _, h, _ => h.elim
theorem TRs_take : ∀ {us : List Int} {l l' : List Bd} (i : Nat), TRs n k us l l' → TRs n k (us.take i) (l.take i) (l'.take i)
 | us, l, l', 0, _ => trivial
 | _ :: us, _ :: l, _ :: l', i + 1, h => ⟨h.1, TRs_take i h.2⟩
 | [], [], [], _ + 1, _ => trivial
 | [], _ :: _, _, _ + 1, h => h.elim
 | [], [], _ :: _, _ + 1, h => h.elim
 | _ :: _, [], _, _ + 1, h => h.elim
 | _ :: _, _ :: _, [], _ + 1, h => h.elim
theorem TRs_snoc {u : Int} : ∀ {us : List Int} {l l' : List Bd}, TRs n k us l l' → TR n k u a b → TRs n k (us ++ [u]) (l ++ [a]) (l' ++ [b])
 | _ :: us, _ :: l, _ :: l', h, h2 => ⟨h.1, TRs_snoc h.2 h2⟩
 | [], [], [], _, h2 => ⟨h2, trivial⟩
 | [], _ :: _, _, h, _ => h.elim
 | [], [], _ :: _, h, _ => h.elim
 | _ :: _, [], _, h, _ => h.elim
 | _ :: _, _ :: _, [], h, _ => h.elim
theorem fsE_cons0 {x : Bd} (h : (fsE (x :: l)).2 = 0) : x.2 = 0 ∧ (fsE l).2 = 0 := by
 unfold fsE at h
 by_cases hx : x.2 = 0
 · rw [if_pos hx] at h; exact ⟨hx, h⟩
 · rw [if_neg hx] at h; exact absurd h hx
theorem TRs_ex : ∀ {us : List Int} {l l' : List Bd}, TRs n k us l l' → (fsE l).2 = 0 → (fsE l').2 = 0 → ∃ X : List T, T.wfs X = true ∧ X.length = us.length ∧ l.map (·.1) = X.map T.flat ∧ T.wfs (trTs (shP n k) X us) = true ∧ l'.map (·.1) = (trTs (shP n k) X us).map T.flat
 | u :: us, a :: l, b :: l', h, h1, h2 => by
  obtain ⟨q1, q2⟩ := fsE_cons0 h1
  obtain ⟨q3, q4⟩ := fsE_cons0 h2
  obtain ⟨x, w1, w2, w3, w4⟩ := h.1 q1 q3
  obtain ⟨X, v1, v2, v3, v4, v5⟩ := TRs_ex h.2 q2 q4
  exact ⟨x :: X, by simp [T.wfs, w1, v1], by simp [v2], by simp [w2, v3], by simp [trTs, T.wfs, w3, v4], by simp [trTs, w4, v5]⟩
 | [], [], [], _, _, _ => ⟨[], by simp [T.wfs], rfl, rfl, by simp [trTs, T.wfs], by simp [trTs]⟩
 | [], _ :: _, _, h, _, _ => h.elim
 | [], [], _ :: _, h, _, _ => h.elim
 | _ :: _, [], _, h, _, _ => h.elim
 | _ :: _, _ :: _, [], h, _, _ => h.elim
theorem bOf_0 {d : Nd} (h : (bOf d l).2 = 0) : (fsE l).2 = 0 := by rwa [bOf_2] at h
theorem TR_of {d : Nd} (hr : right d = true) (hK : ¬ d.K = 0) (h : TRs n k ((binds d).map (j + ·)) l l') : TR n k j (bOf d l) (bOf d l') := by
 intro h1 h2
 obtain ⟨X, v1, v2, v3, v4, v5⟩ := TRs_ex h (bOf_0 h1) (bOf_0 h2)
 rw [List.length_map] at v2
 have e : trT (shP n k) j (.mk d X) = .mk d (trTs (shP n k) X ((binds d).map (j + ·))) := by simp only [trT, hK, if_false]
 refine ⟨.mk d X, ?_, ?_, ?_, ?_⟩
 · rw [T.wf_mk]; simp [hr, v1, v2, many]
 · rw [bOf_1 (bOf_0 h1), v3, flats_flatten, T.flat_mk]
 ·
  rw [e, T.wf_mk]
  have := trTs_len (shP n k) X ((binds d).map (j + ·)) (by simp [v2])
  simp [hr, v4, many, this, v2]
 · rw [e, bOf_1 (bOf_0 h2), v5, flats_flatten, T.flat_mk]
theorem clamp_in {i : Int} (h0 : 0 ≤ i) (h : i ≤ 1000) : clamp i = i := by unfold clamp; omega
theorem sf_P {t : List Nd} {b c : Int} (hb : 0 ≤ b) (hb2 : b ≤ 1000) (hc : 0 ≤ c) (hc2 : c ≤ 1000) (h : sfE t b c = 0) : chk t = 0 ∧ (trT (shP b c) 0 (treeOf t)).wf = true ∧ sfA t b c = (trT (shP b c) 0 (treeOf t)).flat := by
 obtain ⟨h1, h2, h3, h4, h5⟩ := sf_tree h
 rw [clamp_in hb hb2, clamp_in hc hc2, show max 0 c = c by omega] at h2 h3 h5
 rw [shV_P hb _ _ h5] at h2 h3
 exact ⟨h1, h2, h3⟩
theorem bUp_0 {i c : Int} (h : (bUp a i c).2 = 0) : a.2 = 0 ∧ sfE a.1 i c = 0 ∧ bUp a i c = (sfA a.1 i c, sfE a.1 i c) := by
 unfold bUp at h ⊢
 by_cases ha : a.2 = 0
 · rw [if_pos ha] at h ⊢; exact ⟨ha, h, rfl⟩
 · rw [if_neg ha] at h; exact absurd h ha
theorem TR_up {c : Int} (hn : 0 ≤ n) (hk : 0 ≤ k) (hj : 0 ≤ j) (hc0 : 0 ≤ c) (hc1 : c ≤ 1000) (hc : c ≤ k + j) (h : TR n k j a b) : TR n k (j + 1) (bUp a 1 c) (bUp b 1 c) := by
 intro h1 h2
 obtain ⟨q1, q2, q3⟩ := bUp_0 h1
 obtain ⟨q4, q5, q6⟩ := bUp_0 h2
 obtain ⟨x, w1, w2, w3, w4⟩ := h q1 q4
 obtain ⟨_, p2, p3⟩ := sf_P (by decide) (by decide) hc0 hc1 q2
 obtain ⟨_, p5, p6⟩ := sf_P (by decide) (by decide) hc0 hc1 q5
 rw [w2, treeOf_flat w1] at p2
 rw [w2, treeOf_flat w1, ← w2] at p3
 rw [w4, treeOf_flat w3] at p5
 rw [w4, treeOf_flat w3, ← w4] at p6
 have hs := sh_sh (m := 1) hk hj (by decide) hn hc w1
 refine ⟨_, p2, by rw [q3, p3], ?_, ?_⟩
 · rw [hs]; exact p5
 · rw [hs, q6, p6]
mutual
theorem puV_P {L : List (List Nd)} : ∀ (x : T) (d : Int), x.wf = true → 0 ≤ d → d + 2 * x.deep ≤ 1000 → trE (puV 0 L) d x = 0 → trT (puV 0 L) d x = trT (puP (L.map treeOf)) d x
 | .mk n l, d, hw, hd, hB, h => by
  obtain ⟨h1, h2, h3⟩ := wf_parts hw
  by_cases hk : n.K = 0
  ·
   simp only [trE, trT, hk, if_true] at h ⊢
   unfold puV at h ⊢
   unfold puP
   simp only [Int.zero_add, Int.sub_zero, Int.add_zero, List.length_map] at h ⊢
   by_cases q1 : n.N - d < 0
   · rw [if_pos q1, if_pos q1]
   ·
    rw [if_neg q1] at h ⊢
    rw [if_neg q1]
    by_cases q2 : n.N - d < L.length
    ·
     rw [if_pos q2] at h ⊢
     rw [if_pos q2]
     have hd0 : 0 ≤ (2 : Int) * (T.mk n l).deep := by omega
     have hB' : d ≤ 1000 := by omega
     obtain ⟨_, p2, p3⟩ := sf_P hd hB' (Int.le_refl 0) (by decide) h
     have e : nthT0 (L.map treeOf) (n.N - d) = treeOf (nthLs L (n.N - d)) := by
      unfold nthT0 nthLs nthL
      have : (n.N - d).toNat < L.length := by omega
      simp [List.getD_eq_getElem?_getD, this]
     show treeOf (sfA (nthLs L (n.N - d)) d 0) = _
     rw [p3, treeOf_flat p2, e]
    · rw [if_neg q2, if_neg q2]
  ·
   simp only [trE, trT, hk, if_false] at h ⊢
   rw [puV_Ps l _ h3 (ubinds hd) ?_ h]
   intro v hv
   obtain ⟨q, hq, rfl⟩ := List.mem_map.1 hv
   have h4 := binds_b n q hq
   rw [deep_mk] at hB
   omega
theorem puV_Ps {L : List (List Nd)} : ∀ (l : List T) (us : List Int), T.wfs l = true → (∀ v ∈ us, 0 ≤ v) → (∀ v ∈ us, v + 2 * T.deeps l ≤ 1000) → trEs (puV 0 L) l us = 0 → trTs (puV 0 L) l us = trTs (puP (L.map treeOf)) l us
 | [], us, _, _, _, _ => by simp [trTs]
 | y :: l, [], _, _, _, _ => by simp [trTs]
 | y :: l, d :: us, hw, hd, hB, h => by
  obtain ⟨h1, h2⟩ := wf_cons hw
  have hm : T.deeps (y :: l) = max y.deep (T.deeps l) := by simp [T.deeps]
  simp only [trEs] at h
  by_cases q : trE (puV 0 L) d y = 0
  ·
   rw [if_pos q] at h
   simp only [trTs]
   rw [puV_P y d h1 (hd d (by simp)) (by have := hB d (by simp); omega) q, puV_Ps l us h2 (fun v hv => hd v (by simp [hv])) (fun v hv => by have := hB v (by simp [hv]); omega) h]
  ·
   rw [if_neg q] at h
   exact absurd h q
end
theorem bAt_0 (h : (bAt a l).2 = 0) : a.2 = 0 ∧ (fsE l).2 = 0 ∧ inE a.1 (l.map (·.1)) = 0 ∧ bAt a l = (inA a.1 (l.map (·.1)), inE a.1 (l.map (·.1))) := by
 unfold bAt at h ⊢
 by_cases ha : a.2 = 0
 ·
  rw [if_neg (not_not_intro ha)] at h ⊢
  by_cases hl : (fsE l).2 = 0
  · rw [if_neg (not_not_intro hl)] at h ⊢; exact ⟨ha, hl, h, rfl⟩
  · rw [if_pos hl] at h; exact absurd h hl
 · rw [if_pos ha] at h; exact absurd h ha
theorem in_P {t : List Nd} {L : List (List Nd)} {x : T} (hw : x.wf = true) (ht : t = x.flat) (h : inE t L = 0) : (trT (puP (L.map treeOf)) 0 x).wf = true ∧ inA t L = (trT (puP (L.map treeOf)) 0 x).flat := by
 by_cases hc : ckE (t :: L) = 0
 ·
  obtain ⟨h1, h2⟩ := in_ok hc
  have hct : chk t = 0 := (ck_oks hc) t (by simp)
  have hx : treeOf t = x := by rw [ht]; exact treeOf_flat hw
  have hd : x.deep ≤ 60 := by rw [← hx]; exact (treeOf_ok hct).2.2.1
  rw [h1] at h
  by_cases h3 : trEL (puV 0 L) t 0 = 0
  ·
   have e0 : trE (puV 0 L) 0 x = 0 := by unfold trEL at h3; rw [hx] at h3; exact h3
   have eP := puV_P x 0 hw (Int.le_refl _) (by omega) e0
   have hW := tr_wf (puV_wf (l := L) (Int.le_refl 0)) x 0 hw (Int.le_refl _) e0
   rw [eP] at hW
   refine ⟨hW, ?_⟩
   have h4 := (po_chk h3).1
   rw [h] at h4
   rw [h2, (po_chk h3).2, if_pos h4.symm]
   unfold trL
   rw [if_pos h3, hx, eP]
  · rw [(po_err h3).1] at h; exact absurd h h3
 · rw [(in_err hc).1] at h; exact absurd h hc
theorem trTs_const (f : T → T) (V : VR) (j : Int) (hf : ∀ x, trT V j x = f x) : ∀ (X : List T), trTs V X (X.map fun _ => j) = X.map f
 | [] => by simp [trTs]
 | x :: X => by simp only [List.map_cons, trTs]; rw [hf, trTs_const f V j hf X]
theorem TR_at (hn : 0 ≤ n) (hk : 0 ≤ k) (hj : 0 ≤ j) (h : TR n k (l.length + j) a b) (hl : TRs n k (l.map fun _ => j) l l') : TR n k j (bAt a l) (bAt b l') := by
 intro h1 h2
 obtain ⟨q1, q2, q3, q4⟩ := bAt_0 h1
 obtain ⟨r1, r2, r3, r4⟩ := bAt_0 h2
 obtain ⟨x, w1, w2, w3, w4⟩ := h q1 r1
 obtain ⟨X, v1, v2, v3, v4, v5⟩ := TRs_ex hl q2 r2
 rw [List.length_map] at v2
 have ec : (l.map fun _ => j) = X.map fun _ => j := by
  refine List.ext_getElem (by simp [v2]) fun i h1 h2 => by simp
 rw [ec, trTs_const (trT (shP n k) j) _ j (fun _ => rfl)] at v4 v5
 have eL : (l.map (·.1)).map treeOf = X := by
  rw [v3, List.map_map]
  refine (List.map_congr_left fun y hy => ?_).trans (List.map_id X)
  exact treeOf_flat ((T.wfs_iff X).1 v1 y hy)
 have eL' : (l'.map (·.1)).map treeOf = X.map (trT (shP n k) j) := by
  rw [v5, List.map_map]
  refine (List.map_congr_left fun y hy => ?_).trans (List.map_id _)
  exact treeOf_flat ((T.wfs_iff _).1 v4 y hy)
 obtain ⟨p1, p2⟩ := in_P w1 w2 q3
 obtain ⟨p3, p4⟩ := in_P w3 w4 r3
 rw [eL] at p1 p2
 rw [eL'] at p3 p4
 have hs := sh_in hk hj hn w1 v1
 rw [v2] at hs
 refine ⟨_, p1, by rw [q4, p2], ?_, ?_⟩
 · rw [hs]; exact p3
 · rw [hs, r4, p4]
end
end
section
/- Shifted terms come to the shifted one: the rules. -/
section
variable {n k j : Int}
mutual
theorem clo_T (hk : 0 ≤ k) (hj : 0 ≤ j) : ∀ (x : T) (u : Int), moT (-1) u x < 0 → x.wf = true → trT (shP n k) (j + u) x = x
 | .mk m l, u, h, hw => by
  obtain ⟨h1, h2, h3⟩ := wf_parts hw
  by_cases hm : m.K = 0
  ·
   have hl : l = [] := List.eq_nil_of_length_eq_zero (by rw [← h2]; simp [many, binds, hm, shp])
   simp only [moT, hm, if_true] at h
   simp only [trT, hm, if_true, shP]
   have : ¬ 0 ≤ m.N - u := fun q => by rw [if_pos ⟨q, .inl (by decide)⟩] at h; omega
   rw [if_neg (by omega), hl]
  ·
   simp only [moT, hm, if_false] at h
   simp only [trT, hm, if_false]
   have e : (binds m).map (j + u + ·) = ((binds m).map (u + ·)).map (j + ·) := by
    rw [List.map_map]
    exact List.map_congr_left fun x _ => by simp only [Function.comp]; omega
   rw [e, clo_Ts hk hj l _ h h3 (by simp [← h2, many])]
theorem clo_Ts (hk : 0 ≤ k) (hj : 0 ≤ j) : ∀ (l : List T) (us : List Int), moTs (-1) l us < 0 → T.wfs l = true → l.length = us.length → trTs (shP n k) l (us.map (j + ·)) = l
 | [], us, _, _, _ => by simp [trTs]
 | y :: l, [], _, _, h => by simp at h
 | y :: l, u :: us, h, hw, hl => by
  obtain ⟨h1, h2⟩ := wf_cons hw
  simp only [moTs] at h
  simp only [List.map_cons, trTs]
  rw [clo_T hk hj y u (by omega) h1, clo_Ts hk hj l us (by omega) h2 (by simpa using hl)]
end
theorem TR_clo {x : T} (hk : 0 ≤ k) (hj : 0 ≤ j) (hw : x.wf = true) (h : moT (-1) 0 x < 0) : TR n k j (x.flat, 0) (x.flat, 0) := fun _ _ => by
 have e := clo_T (n := n) hk hj x 0 h hw
 rw [Int.add_zero] at e
 exact ⟨x, hw, rfl, by rw [e]; exact hw, by rw [e]⟩
theorem TRs_trees : ∀ (l : List T) (us : List Int), l.length = us.length → T.wfs l = true → T.wfs (trTs (shP n k) l us) = true → TRs n k us (l.map fun x => ((x.flat, 0) : Bd)) ((trTs (shP n k) l us).map fun x => ((x.flat, 0) : Bd))
 | [], [], _, _, _ => by simp [trTs, TRs]
 | [], _ :: _, h, _, _ => by simp at h
 | _ :: _, [], h, _, _ => by simp at h
 | y :: l, u :: us, h, hw, hw2 => by
  obtain ⟨h1, h2⟩ := wf_cons hw
  simp only [trTs] at hw2
  obtain ⟨h3, h4⟩ := wf_cons hw2
  simp only [trTs, List.map_cons]
  exact ⟨fun _ _ => ⟨y, h1, rfl, h3, rfl⟩, TRs_trees l us (by simpa using h) h2 h4⟩
theorem TR_parts {m : Nd} {l : List T} (hw : (T.mk m l).wf = true) (hm : ¬ m.K = 0) (hw2 : (trT (shP n k) j (.mk m l)).wf = true) :
  TRs n k ((binds m).map (j + ·)) (bP (T.mk m l).flat) (bP (trT (shP n k) j (.mk m l)).flat) ∧ nth (T.mk m l).flat ((T.mk m l).flat.length - 1) = m ∧ nth (trT (shP n k) j (.mk m l)).flat ((trT (shP n k) j (.mk m l)).flat.length - 1) = m := by
 have e : trT (shP n k) j (.mk m l) = .mk m (trTs (shP n k) l ((binds m).map (j + ·))) := by simp only [trT, hm, if_false]
 have hr : ∀ (q : List T), nth (T.mk m q).flat ((T.mk m q).flat.length - 1) = m := fun q => by
  rw [T.flat_mk]; simp [nth]
 have hb : ∀ (q : List T), (T.mk m q).wf = true → bP (T.mk m q).flat = q.map fun x => ((x.flat, 0) : Bd) := fun q h => by
  unfold bP ptL
  rw [treeOf_flat h, List.map_map]
  rfl
 rw [e] at hw2 ⊢
 rw [hb _ hw, hb _ hw2]
 exact ⟨TRs_trees l _ (by simp [← (wf_parts hw).2.1, many]) (wf_parts hw).2.2 (wf_parts hw2).2.2, hr _, hr _⟩
theorem right_app : right ⟨5, 0, 0, ⟨#[]⟩⟩ = true := by decide
theorem right_lam : right ⟨4, 0, 0, ⟨#[]⟩⟩ = true := by decide
theorem binds_27 {m : Nd} (h : m.K = 27) (hM : 0 ≤ m.M) : binds m = 1 :: List.replicate m.M.toNat 0 ++ [0] := by
 unfold binds
 rw [if_neg (by omega), if_pos h, List.cons_append, ← List.replicate_succ']
theorem nthI_27 {m : Nd} {M : Nat} {i : Nat} (h : binds m = 1 :: List.replicate M 0 ++ [0]) : nthI (binds m) i = if i = 0 then 1 else 0 := by
 rw [h]
 unfold nthI
 cases i with
 | zero => rfl
 | succ i =>
  rw [if_neg (by omega), List.cons_append, ← List.replicate_succ']
  simp only [List.getD_eq_getElem?_getD, List.getElem?_cons_succ, List.getElem?_replicate]
  split <;> rfl
theorem TR_bX (hk : 0 ≤ k) (hj : 1 ≤ j) (t : List Nd) : TR n k j (bX t) (bX t) := by
 have h : ∀ m : Nd, right m = true → many m = 0 → (m.K = 0 → m.N = 0) → TR n k j ([m], 0) ([m], 0) := fun m hr hm h0 _ _ => by
  have hw : (T.mk m []).wf = true := by rw [T.wf_mk]; simp [hr, hm, T.wfs]
  have e : trT (shP n k) j (.mk m []) = .mk m [] := by
   by_cases hK : m.K = 0
   ·
    simp only [trT, hK, if_true, shP]
    rw [if_neg (by rw [h0 hK]; omega)]
   · simp [trT, hK, trTs]
  exact ⟨.mk m [], hw, by simp [T.flat_mk, T.flats_nil], by rw [e]; exact hw, by rw [e]; simp [T.flat_mk, T.flats_nil]⟩
 unfold bX
 split
 · exact h _ (by decide) (by decide) (by simp)
 · exact h _ (by decide) (by decide) (by simp)
section
variable {m : Nd} {p p' q q' : List Bd} {a a' o o' : Bd} {t : List Nd} {kd : Int} {M : Nat}
theorem TR_upB (hn : 0 ≤ n) (hk : 0 ≤ k) (hb : binds m = 1 :: List.replicate M 0 ++ [0]) (hp : TRs n k (binds m) p p') : ∀ i, i ≤ p.length → TRs n k (((binds m).take i).map (1 + ·)) (upB p i) (upB p' i)
 | 0, _ => trivial
 | i + 1, h => by
  have hl := TRs_len hp
  have hi : i < (binds m).length := by omega
  have e : ((binds m).take (i + 1)).map (1 + ·) = ((binds m).take i).map (1 + ·) ++ [nthI (binds m) i + 1] := by
   rw [List.take_add_one, List.getElem?_eq_getElem hi, List.map_append]
   have : nthI (binds m) i = (binds m)[i] := by simp [nthI, hi]
   rw [this]
   simp only [Option.toList_some, List.map_cons, List.map_nil]
   rw [Int.add_comm]
  rw [e, upB, upB]
  refine TRs_snoc (TR_upB hn hk hb hp i (by omega)) ?_
  have h1 := TRs_nth hp hi
  rw [nthI_27 hb] at h1 ⊢
  by_cases hz : i = 0
  ·
   rw [if_pos hz] at h1 ⊢
   exact TR_up hn hk (by decide) (by decide) (by decide) (by omega) h1
  ·
   rw [if_neg hz] at h1 ⊢
   exact TR_up hn hk (by decide) (by decide) (by decide) (by omega) h1
theorem TR_two {j : Int} (h1 : TR n k j a a') (h2 : TR n k j o o') : TR n k j (bOf ⟨5, 0, 0, ⟨#[]⟩⟩ [a, o]) (bOf ⟨5, 0, 0, ⟨#[]⟩⟩ [a', o']) := by
 refine TR_of right_app (by decide) ?_
 have e : (binds ⟨5, 0, 0, ⟨#[]⟩⟩).map (j + ·) = [j, j] := by simp [binds, shp]
 rw [e]
 exact ⟨h1, h2, trivial⟩
theorem TR_hy (hn : 0 ≤ n) (hk : 0 ≤ k) (hm : right m = true) (h27 : m.K = 27) (hb : binds m = 1 :: List.replicate M 0 ++ [0]) (hp : TRs n k (binds m) p p') (ha : TR n k 0 a a') (ht : ¬ kd = 1 → TR n k 0 (nthL (ptL t) 0, 0) (nthL (ptL t) 0, 0)) : TR n k 0 (bHy m p t a kd) (bHy m p' t a' kd) := by
 have hl := TRs_len hp
 have hlb : (binds m).length = M + 2 := by rw [hb]; simp
 have e0 : ∀ z : Int, (binds m).map (z + ·) = ((binds m).take (p.length - 1)).map (z + ·) ++ [z + 0] := fun z => by
  rw [hl.1, hlb, hb]
  simp
 unfold bHy
 by_cases h1 : kd = 1
 ·
  rw [if_pos h1, if_pos h1]
  refine TR_of hm (by omega) ?_
  rw [e0]
  simp only [Int.zero_add, List.map_id']
  rw [show p'.length = p.length by omega]
  have h2 := TRs_take (p.length - 1) hp
  exact TRs_snoc h2 ha
 ·
  rw [if_neg h1, if_neg h1]
  refine TR_of right_lam (by decide) ?_
  have e : (binds ⟨4, 0, 0, ⟨#[]⟩⟩).map ((0 : Int) + ·) = [0, 1] := by simp [binds, shp]
  rw [e]
  refine ⟨ht h1, ?_, trivial⟩
  refine TR_of hm (by omega) ?_
  rw [e0, show p'.length = p.length by omega]
  refine TRs_snoc (TR_upB hn hk hb hp _ (by omega)) ?_
  exact TR_two (TR_up hn hk (by decide) (by decide) (by decide) (by omega) ha) (TR_bX hk (by decide) t)
theorem TR_F1 (ho : TR n k 0 o o') {us : List Int} (hq : TRs n k us q q') (hu : ∀ i, i < us.length → nthI us i = 0) : ∀ i, i ≤ q.length → TR n k 0 (bF1 o q i) (bF1 o' q' i)
 | 0, _ => ho
 | i + 1, h => by
  have hl := TRs_len hq
  have h1 := TRs_nth hq (show i < us.length by omega)
  rw [hu i (by omega)] at h1
  rw [bF1, bF1]
  exact TR_two (TR_F1 ho hq hu i (by omega)) h1
theorem TR_G (hn : 0 ≤ n) (hk : 0 ≤ k) (hm : right m = true) (h27 : m.K = 27) (hb : binds m = 1 :: List.replicate M 0 ++ [0]) (hp : TRs n k (binds m) p p') (ho : TR n k 0 o o') {us : List Int} (hq : TRs n k us q q') (hu : ∀ i, i < us.length → nthI us i = 0) {T : List (List Nd)}
  (hT : ∀ i, 0 < kdA m.S (nthL T i) → ¬ kdA m.S (nthL T i) = 1 → TR n k 0 (nthL (ptL (nthL T i)) 0, 0) (nthL (ptL (nthL T i)) 0, 0)) : ∀ i, i ≤ q.length → TR n k 0 (bG m p T q o i) (bG m p' T q' o' i)
 | 0, _ => ho
 | i + 1, h => by
  have hl := TRs_len hq
  have h1 := TRs_nth hq (show i < us.length by omega)
  rw [hu i (by omega)] at h1
  have ih := TR_G hn hk hm h27 hb hp ho hq hu hT i (by omega)
  rw [bG, bG]
  by_cases hc : 0 < kdA m.S (nthL T i)
  ·
   rw [if_pos hc, if_pos hc]
   exact TR_two ih (TR_hy hn hk hm h27 hb hp h1 (hT i hc))
  ·
   rw [if_neg hc, if_neg hc]
   exact ih
end
theorem TR_dom (hk : 0 ≤ k) {s : ByteArray} {t : List Nd} (hc : chk t = 0) (hf : frF t ≤ 0) (h0 : 0 < kdA s t) (h1 : ¬ kdA s t = 1) : TR n k 0 (nthL (ptL t) 0, 0) (nthL (ptL t) 0, 0) := by
 obtain ⟨_, _, h3⟩ := kd_two (by omega) h1
 obtain ⟨m, l, hx, hr, hl, hw, _, h5, _, _⟩ := tree_parts (meas_chk hc)
 rw [h5] at h3
 have h2 : l.length = 2 := by rw [← hl]; exact many_3 h3
 match l, h2 with
 | [x, y], _ =>
  have ep : nthL (ptL t) 0 = x.flat := by unfold ptL; rw [hx]; rfl
  rw [ep]
  refine TR_clo hk (Int.le_refl 0) (wf_cons hw).1 ?_
  unfold frF at hf
  rw [if_pos hc] at hf
  unfold moL at hf
  have e : binds m = [0, 1] := by simp [binds, h3, shp]
  rw [hx] at hf
  simp only [moT, h3, e, moTs] at hf
  have q : moTs (-1) [x, y] [0, 1] = max (moT (-1) 0 x) (moTs (-1) [y] [1]) := by simp [moTs]
  simp at hf
  omega
end
end
section
/- Shifted terms come to the shifted one: the law. -/
section
variable {n k j : Int} {a b a' b' : Bd} {l l' : List Bd}
theorem TR_meas (h : TR n k j a b) (h1 : a.2 = 0) (h2 : b.2 = 0) : measB a.1 = true ∧ measB b.1 = true := by
 obtain ⟨x, w1, w2, w3, w4⟩ := h h1 h2
 rw [w2, w4]
 exact ⟨meas_flat w1, meas_flat w3⟩
theorem bAt_GE (ha : a.2 = 0) (hl : (fsE l).2 = 0) (h : ∀ x ∈ a.1 :: l.map (·.1), measB x = true) : GE (bAt a l).2 := by
 unfold bAt
 rw [if_neg (not_not_intro ha), if_neg (not_not_intro hl)]
 exact in_E h
theorem fsE_01 {x : Bd} (h : x.2 = 0) : (fsE [x]).2 = 0 := by rw [fsE_one]; exact h
theorem fsE_02 {x y : Bd} (h : x.2 = 0) (h2 : y.2 = 0) : (fsE [x, y]).2 = 0 := by rw [fsE_two, if_pos h]; exact h2
def RC (n k : Int) (a b : Bd) : Prop := (a = ([], 120) ∧ b = ([], 120)) ∨ (TR n k 0 a b ∧ GE a.2 ∧ GE b.2)
theorem RC_at1 (hn : 0 ≤ n) (hk : 0 ≤ k) {x x' : Bd} (h : TR n k 1 a b) (hx : TR n k 0 x x') (h1 : a.2 = 0) (h2 : b.2 = 0) (h3 : x.2 = 0) (h4 : x'.2 = 0) : RC n k (bAt a [x]) (bAt b [x']) := by
 have m1 := TR_meas h h1 h2
 have m2 := TR_meas hx h3 h4
 refine .inr ⟨TR_at hn hk (Int.le_refl 0) (l := [x]) (l' := [x']) h ⟨hx, trivial⟩, bAt_GE h1 (fsE_01 h3) ?_, bAt_GE h2 (fsE_01 h4) ?_⟩
 ·
  intro y hy
  simp only [List.map_cons, List.map_nil, List.mem_cons, List.not_mem_nil, or_false] at hy
  rcases hy with rfl | rfl
  · exact m1.1
  · exact m2.1
 ·
  intro y hy
  simp only [List.map_cons, List.map_nil, List.mem_cons, List.not_mem_nil, or_false] at hy
  rcases hy with rfl | rfl
  · exact m1.2
  · exact m2.2
theorem RC_at2 (hn : 0 ≤ n) (hk : 0 ≤ k) {x x' y y' : Bd} (h : TR n k 2 a b) (hx : TR n k 0 x x') (hy : TR n k 0 y y') (h1 : a.2 = 0) (h2 : b.2 = 0) (h3 : x.2 = 0) (h4 : x'.2 = 0) (h5 : y.2 = 0) (h6 : y'.2 = 0) : RC n k (bAt a [x, y]) (bAt b [x', y']) := by
 have m1 := TR_meas h h1 h2
 have m2 := TR_meas hx h3 h4
 have m3 := TR_meas hy h5 h6
 refine .inr ⟨TR_at hn hk (Int.le_refl 0) (l := [x, y]) (l' := [x', y']) h ⟨hx, hy, trivial⟩, bAt_GE h1 (fsE_02 h3 h5) ?_, bAt_GE h2 (fsE_02 h4 h6) ?_⟩
 ·
  intro z hz
  simp only [List.map_cons, List.map_nil, List.mem_cons, List.not_mem_nil, or_false] at hz
  rcases hz with rfl | rfl | rfl
  · exact m1.1
  · exact m2.1
  · exact m3.1
 ·
  intro z hz
  simp only [List.map_cons, List.map_nil, List.mem_cons, List.not_mem_nil, or_false] at hz
  rcases hz with rfl | rfl | rfl
  · exact m1.2
  · exact m2.2
  · exact m3.2
theorem RC_zero (h : TR n k 0 a b) (h1 : a.2 = 0) (h2 : b.2 = 0) : RC n k a b := .inr ⟨h, by rw [h1]; exact GE.zero, by rw [h2]; exact GE.zero⟩
theorem RC_Rx (hn : 0 ≤ n) (hk : 0 ≤ k) {m d d' : Nd} {p p' q q' : List Bd} (hm : right m = true) (hd : d'.K = d.K) (hp : TRs n k (binds m) p p') (hq : ¬ d.K = 0 → TRs n k (binds d) q q') (z1 : ∀ i, (nthD p i).2 = 0) (z2 : ∀ i, (nthD p' i).2 = 0) (z3 : ∀ i, (nthD q i).2 = 0) (z4 : ∀ i, (nthD q' i).2 = 0) :
  RC n k (bRx m d p q) (bRx m d' p' q') := by
 have B : ∀ {e : Nd} {K : Int} {L : List Int}, e.K = K → ¬ K = 26 → ¬ K = 27 → (shp K.toNat).b = L → binds e = L := fun h h1 h2 h3 => by unfold binds; rw [h, if_neg h1, if_neg h2]; exact h3
 unfold bRx
 rw [hd]
 by_cases c1 : m.K = 5 ∧ d.K = 4
 ·
  rw [if_pos c1, if_pos c1]
  have hq' := hq (by omega)
  rw [B c1.2 (by decide) (by decide) rfl] at hq'
  rw [B c1.1 (by decide) (by decide) rfl] at hp
  exact RC_at1 hn hk (TRs_nth (i := 1) hq' (by decide)) (TRs_nth (i := 1) hp (by decide)) (z3 _) (z4 _) (z1 _) (z2 _)
 rw [if_neg c1, if_neg c1]
 by_cases c2 : m.K = 8 ∧ d.K = 7
 ·
  rw [if_pos c2, if_pos c2]
  have hq' := hq (by omega)
  rw [B c2.2 (by decide) (by decide) rfl] at hq'
  exact RC_zero (TRs_nth (i := 1) hq' (by decide)) (z3 _) (z4 _)
 rw [if_neg c2, if_neg c2]
 by_cases c3 : m.K = 9 ∧ d.K = 7
 ·
  rw [if_pos c3, if_pos c3]
  have hq' := hq (by omega)
  rw [B c3.2 (by decide) (by decide) rfl] at hq'
  exact RC_zero (TRs_nth (i := 2) hq' (by decide)) (z3 _) (z4 _)
 rw [if_neg c3, if_neg c3]
 by_cases c4 : m.K = 13 ∧ d.K = 11
 ·
  rw [if_pos c4, if_pos c4]
  rw [B c4.1 (by decide) (by decide) rfl] at hp
  exact RC_zero (TRs_nth (i := 1) hp (by decide)) (z1 _) (z2 _)
 rw [if_neg c4, if_neg c4]
 by_cases c5 : m.K = 13 ∧ d.K = 12
 ·
  rw [if_pos c5, if_pos c5]
  have hq' := hq (by omega)
  rw [B c5.2 (by decide) (by decide) rfl] at hq'
  have hb : binds m = [1, 0, 2, 0] := B c5.1 (by decide) (by decide) rfl
  rw [hb] at hp
  have ha : TR n k 0 (bOf m [nthD p 0, nthD p 1, nthD p 2, nthD q 0]) (bOf m [nthD p' 0, nthD p' 1, nthD p' 2, nthD q' 0]) := by
   refine TR_of hm (by omega) ?_
   rw [hb]
   exact ⟨TRs_nth (i := 0) hp (by decide), TRs_nth (i := 1) hp (by decide), TRs_nth (i := 2) hp (by decide), TRs_nth (i := 0) hq' (by decide), trivial⟩
  have e4 : ∀ {w x y z : Bd}, w.2 = 0 → x.2 = 0 → y.2 = 0 → z.2 = 0 → (bOf m [w, x, y, z]).2 = 0 := fun h1 h2 h3 h4 => by
   rw [bOf_2, show ∀ w x y z : Bd, [w, x, y, z] = [w, x] ++ [y, z] from fun _ _ _ _ => rfl, fsE_app, if_pos (fsE_02 h1 h2)]
   exact fsE_02 h3 h4
  exact RC_at2 hn hk (TRs_nth (i := 2) hp (by decide)) ha (TRs_nth (i := 0) hq' (by decide)) (z1 _) (z2 _) (e4 (z1 _) (z1 _) (z1 _) (z3 _)) (e4 (z2 _) (z2 _) (z2 _) (z4 _)) (z3 _) (z4 _)
 rw [if_neg c5, if_neg c5]
 by_cases c6 : m.K = 24 ∧ d.K = 23
 ·
  rw [if_pos c6, if_pos c6]
  have hq' := hq (by omega)
  rw [B c6.2 (by decide) (by decide) rfl] at hq'
  rw [B c6.1 (by decide) (by decide) rfl] at hp
  exact RC_at1 hn hk (TRs_nth (i := 1) hp (by decide)) (TRs_nth (i := 1) hq' (by decide)) (z1 _) (z2 _) (z3 _) (z4 _)
 rw [if_neg c6, if_neg c6]
 exact .inl ⟨rfl, rfl⟩
theorem lft_z (p : List (List Nd)) (i : Nat) : (nthD (lft p) i).2 = 0 := by rw [lft_nth]
def cloC (c : List (List (List Nd))) : Prop := ∀ l ∈ c, ∀ y ∈ l, chk y = 0 ∧ frF y ≤ 0
theorem clo_dom (hk : 0 ≤ k) {c : List (List (List Nd))} (hc : cloC c) {s : ByteArray} {N i : Nat} (h0 : 0 < kdA s (nthL (nthLL c N) i)) (h1 : ¬ kdA s (nthL (nthLL c N) i) = 1) : TR n k 0 (nthL (ptL (nthL (nthLL c N) i)) 0, 0) (nthL (ptL (nthL (nthLL c N) i)) 0, 0) := by
 obtain ⟨_, h2, _⟩ := kd_two (by omega) h1
 have hi : i < (nthLL c N).length := by
  apply Classical.byContradiction
  intro h
  have : nthL (nthLL c N) i = [] := by simp [nthL, List.getD_eq_getElem?_getD, List.getElem?_eq_none (by omega : (nthLL c N).length ≤ i)]
  rw [this] at h2
  have := chk_pos h2
  simp at this
 have hN : N < c.length := by
  apply Classical.byContradiction
  intro h
  have : nthLL c N = [] := by simp [nthLL, List.getD_eq_getElem?_getD, List.getElem?_eq_none (by omega : c.length ≤ N)]
  rw [this] at hi
  simp at hi
 have hm : nthLL c N ∈ c := by
  have e : nthLL c N = c[N] := by simp [nthLL, hN]
  rw [e]; exact List.getElem_mem hN
 exact TR_dom hk h2 (hc _ hm _ (nthL_mem hi)).2 h0 h1
theorem nthI_zero {us : List Int} (h : ∀ v ∈ us, v = 0) (i : Nat) : nthI us i = 0 := by
 unfold nthI
 by_cases hi : i < us.length
 ·
  have e : us.getD i 0 = us[i] := by simp [hi]
  rw [e]; exact h _ (List.getElem_mem hi)
 · simp [List.getD_eq_getElem?_getD, List.getElem?_eq_none (by omega : us.length ≤ i)]
theorem RC_Ru (hn : 0 ≤ n) (hk : 0 ≤ k) {c : List (List (List Nd))} (hC : cloC c) {t u : List Nd} (ht : chk t = 0) (hu : chk u = 0) (hw : (trT (shP n k) 0 (treeOf t)).wf = true) (he : u = (trT (shP n k) 0 (treeOf t)).flat) : RC n k (bRu t c) (bRu u c) := by
 obtain ⟨w0, f0⟩ := treeOf_meas (meas_chk ht)
 cases hx : treeOf t with
 | mk m l =>
  rw [hx] at w0 f0 hw he
  by_cases hK : m.K = 0
  ·
   have hl : l = [] := List.eq_nil_of_length_eq_zero (by rw [← (wf_parts w0).2.1]; simp [many, binds, hK, shp])
   subst hl
   have e1 : (nth t (t.length - 1)).K = 0 := by rw [← f0]; simp [T.flat_mk, T.flats_nil, nth, hK]
   have e2 : (nth u (u.length - 1)).K = 0 := by
    rw [he]
    simp only [trT, hK, if_true, shP]
    split <;> simp [T.flat_mk, T.flats_nil, nth, hK]
   have tg : ∀ y : Nd, y.K = 0 → tgK y < 0 := fun y hy => by unfold tgK; rw [hy]; simp
   unfold bRu
   rw [if_pos (tg _ e1), if_pos (tg _ e2)]
   exact .inl ⟨rfl, rfl⟩
  ·
   obtain ⟨hP, r1, r2⟩ := TR_parts w0 hK hw
   rw [← he] at hP r2
   rw [f0] at hP r1
   simp only [Int.zero_add, List.map_id'] at hP
   obtain ⟨hr, hmany, _⟩ := wf_parts w0
   have hPl := TRs_len hP
   unfold bRu
   rw [r1, r2]
   by_cases htn : tgK m < 0
   ·
    rw [if_pos htn, if_pos htn]
    exact .inl ⟨rfl, rfl⟩
   ·
    rw [if_neg htn, if_neg htn]
    have hlt : (tgK m).toNat < (binds m).length := by
     have := tg_many ht (by rw [r1]; exact htn)
     rwa [r1] at this
    have hz : nthI (binds m) (tgK m).toNat = 0 := by
     unfold tgK at htn ⊢
     by_cases c1 : m.K = 5 ∨ m.K = 8 ∨ m.K = 9
     ·
      rw [if_pos c1]
      rcases c1 with h | h | h <;> simp [binds, h, shp, nthI]
     ·
      rw [if_neg c1] at htn ⊢
      by_cases c2 : m.K = 13 ∨ m.K = 24
      ·
       rw [if_pos c2]
       rcases c2 with h | h <;> simp [binds, h, shp, nthI]
      ·
       rw [if_neg c2] at htn ⊢
       by_cases c3 : m.K = 27
       ·
        rw [if_pos c3] at htn ⊢
        have hM := right_M hr
        rw [nthI_27 (binds_27 c3 (by omega)), if_neg (by omega)]
       ·
        rw [if_neg c3] at htn
        exact absurd (by decide) htn
    have hD := TRs_nth hP hlt
    rw [hz, bP_lft, bP_lft, lft_nth, lft_nth] at hD
    obtain ⟨x0, v1, v2, v3, v4⟩ := hD rfl rfl
    simp only at v2 v4
    have eD : tgL t = x0.flat := by unfold tgL; rw [agA_ok ht, r1]; exact v2
    have eD' : tgL u = (trT (shP n k) 0 x0).flat := by unfold tgL; rw [agA_ok hu, r2]; exact v4
    cases x0 with
    | mk d l0 =>
     have hdd : (¬ d.K = 0 → TRs n k (binds d) (bP (tgL t)) (bP (tgL u)) ∧ nth (tgL u) ((tgL u).length - 1) = d) ∧ nth (tgL t) ((tgL t).length - 1) = d ∧ (nth (tgL u) ((tgL u).length - 1)).K = d.K := by
      have e1 : nth (tgL t) ((tgL t).length - 1) = d := by rw [eD]; simp [T.flat_mk, nth]
      by_cases hd0 : d.K = 0
      ·
       refine ⟨fun h => absurd hd0 h, e1, ?_⟩
       rw [eD']
       simp only [trT, hd0, if_true, shP]
       split <;> simp [T.flat_mk, nth, hd0]
      ·
       obtain ⟨g1, g2, g3⟩ := TR_parts v1 hd0 v3
       simp only [Int.zero_add, List.map_id'] at g1
       rw [← eD, ← eD'] at g1
       rw [← eD'] at g3
       exact ⟨fun _ => ⟨g1, g3⟩, e1, by rw [g3]⟩
     obtain ⟨k1, k2, k3⟩ := hdd
     by_cases h27 : m.K = 27
     ·
      rw [if_pos h27, if_pos h27]
      have ek : tgK m = m.M + 1 := by unfold tgK; rw [if_neg (by omega), if_neg (by omega), if_pos h27]
      have eE : elD m t = tgL t := by unfold elD tgL; rw [agA_ok ht, r1, ek]
      have eE' : elD m u = tgL u := by unfold elD tgL; rw [agA_ok hu, r2, ek]
      have gE : GE (bEl m t c).2 ∨ bEl m t c = ([], 120) := by
       rcases el_rel (c := c) ht (by rw [r1]; exact h27) with h | h
       · rw [r1] at h; exact .inr h.2
       · rw [r1] at h; exact .inl h.2.2
      have gE' : GE (bEl m u c).2 ∨ bEl m u c = ([], 120) := by
       rcases el_rel (c := c) hu (by rw [r2]; exact h27) with h | h
       · rw [r2] at h; exact .inr h.2
       · rw [r2] at h; exact .inl h.2.2
      by_cases hc : d.K = 26 ∧ d.S = m.S ∧ m.M = (c.length : Int) ∧ d.N < (c.length : Int) ∧ ((nthLL c d.N.toNat).length : Int) = d.M
      ·
       have hdK : ¬ d.K = 0 := by omega
       obtain ⟨k4, k5⟩ := k1 hdK
       have hrd : right d = true := (wf_parts v1).1
       have hM := right_M hr
       have hb := binds_27 h27 (show 0 ≤ m.M by omega)
       have hN0 := (con_nn hrd hc.1).1
       have t1 : bEl m t c = bG m (bP t) (nthLL c d.N.toNat) (bP (tgL t)) (bF1 (nthD (bP t) (d.N + 1).toNat) (bP (tgL t)) (bP (tgL t)).length) (bP (tgL t)).length := by
        unfold bEl; rw [eE, k2, if_pos hc]
       have t2 : bEl m u c = bG m (bP u) (nthLL c d.N.toNat) (bP (tgL u)) (bF1 (nthD (bP u) (d.N + 1).toNat) (bP (tgL u)) (bP (tgL u)).length) (bP (tgL u)).length := by
        unfold bEl; rw [eE', k5, if_pos hc]
       have hql := TRs_len k4
       have hu0 : ∀ i, i < (binds d).length → nthI (binds d) i = 0 := fun i _ => nthI_zero (fun v hv => by
        unfold binds at hv; rw [if_pos hc.1] at hv; exact (List.mem_replicate.1 hv).2) i
       have hblen : (binds m).length = m.M.toNat + 2 := by rw [hb]; simp
       have ho := TRs_nth hP (show (d.N + 1).toNat < (binds m).length by omega)
       rw [nthI_27 hb, if_neg (by omega)] at ho
       have hT := TR_G hn hk hr h27 hb hP (TR_F1 ho k4 hu0 _ (Nat.le_refl _)) k4 hu0 (T := nthLL c d.N.toNat) (fun i h0 h1 => clo_dom hk hC h0 h1) _ (Nat.le_refl _)
       have hT' : TR n k 0 (bEl m t c) (bEl m u c) := by
        rw [t1, t2, show (bP (tgL u)).length = (bP (tgL t)).length by omega]
        exact hT
       rcases gE with g | g
       ·
        rcases gE' with g' | g'
        · exact .inr ⟨hT', g, g'⟩
        ·
         exfalso
         rw [t2] at g'
         have := bG_G (n := m) (p := ptL u) (T := nthLL c d.N.toNat) (Q := ptL (tgL u)) (o := apK (nthL (ptL u) (d.N + 1).toNat) (ptL (tgL u)) (ptL (tgL u)).length) (fun x hx => ptL_chk hu hx) (fun x hx => ptL_chk (tg_ok hu (by rw [r2]; exact htn)) hx) _ (Nat.le_refl _)
         rw [← bF1_ap _ (Nat.le_refl _), ← lft_nth, ← bP_lft, ← bP_lft] at this
         have e3 : (ptL (tgL u)).length = (bP (tgL u)).length := by rw [bP_lft, lft_len]
         rw [e3, g'] at this
         revert this
         unfold GE
         decide
       ·
        exfalso
        rw [t1] at g
        have := bG_G (n := m) (p := ptL t) (T := nthLL c d.N.toNat) (Q := ptL (tgL t)) (o := apK (nthL (ptL t) (d.N + 1).toNat) (ptL (tgL t)) (ptL (tgL t)).length) (fun x hx => ptL_chk ht hx) (fun x hx => ptL_chk (tg_ok ht (by rw [r1]; exact htn)) hx) _ (Nat.le_refl _)
        rw [← bF1_ap _ (Nat.le_refl _), ← lft_nth, ← bP_lft, ← bP_lft] at this
        have e3 : (ptL (tgL t)).length = (bP (tgL t)).length := by rw [bP_lft, lft_len]
        rw [e3, g] at this
        revert this
        unfold GE
        decide
      ·
       refine .inl ⟨?_, ?_⟩
       · unfold bEl; rw [eE, k2, if_neg hc]
       ·
        unfold bEl
        rw [eE']
        by_cases hdK : d.K = 0
        · rw [if_neg (fun q => by rw [k3] at q; omega)]
        · rw [(k1 hdK).2, if_neg hc]
     ·
      rw [if_neg h27, if_neg h27, k2]
      exact RC_Rx hn hk hr k3 hP (fun h => (k1 h).1) (fun i => by rw [bP_lft]; exact lft_z _ i) (fun i => by rw [bP_lft]; exact lft_z _ i) (fun i => by rw [bP_lft]; exact lft_z _ i) (fun i => by rw [bP_lft]; exact lft_z _ i)
theorem mov_law (hn : 0 ≤ n) (hn2 : n ≤ 1000) (hk : 0 ≤ k) (hk2 : k ≤ 1000) {c : List (List (List Nd))} (hC : cloC c) {t : List Nd} (h : sfE t n k = 0) (g1 : grB (bRq t c).2 = false) (g2 : grB (bRq (sfA t n k) c).2 = false) :
  ((bRq t c).2 = 0 ∧ (bRq (sfA t n k) c).2 = 0 ∧ sfE (bRq t c).1 n k = 0 ∧ sfA (bRq t c).1 n k = (bRq (sfA t n k) c).1) ∨ (¬ (bRq t c).2 = 0 ∧ (bRq t c).2 = (bRq (sfA t n k) c).2) := by
 obtain ⟨ht, hw, he⟩ := sf_P hn hn2 hk hk2 h
 have hu := sf_chk h
 have hR := RC_Ru hn hk hC ht hu hw he
 have e1 : bRq t c = bDone (bRu t c) := if_pos ht
 have e2 : bRq (sfA t n k) c = bDone (bRu (sfA t n k) c) := if_pos hu
 rw [e1] at g1 ⊢
 rw [e2] at g2 ⊢
 rcases hR with ⟨q1, q2⟩ | ⟨hT, G1, G2⟩
 ·
  rw [q1, q2]
  exact .inr ⟨by decide, rfl⟩
 ·
  have d0 : ∀ {x : Bd}, GE x.2 → (x.2 = 0 → measB x.1 = true) → grB (bDone x).2 = false → x.2 = 0 ∧ chk x.1 = 0 := fun {x} hG hM hg => by
   have h0 : x.2 = 0 := by
    apply Classical.byContradiction
    intro h0
    have : (bDone x).2 = x.2 := by unfold bDone; rw [if_neg h0]
    rw [this, gr_of hG h0] at hg
    cases hg
   refine ⟨h0, ?_⟩
   apply Classical.byContradiction
   intro h1
   have : (bDone x).2 = chk x.1 := by unfold bDone; rw [if_pos h0, if_neg h1]
   rw [this, gr_of (GE.meas (hM h0)) h1] at hg
   cases hg
  have hT1 : (bRu t c).2 = 0 → measB (bRu t c).1 = true := fun h0 => by
   have z := RC_Ru (n := 0) (k := k) (Int.le_refl 0) hk hC ht ht (by
    have := (sf_P (b := 0) (Int.le_refl 0) (by decide) hk hk2 (sf_zero ht).1).2.1
    exact this) (by
    have := (sf_P (b := 0) (Int.le_refl 0) (by decide) hk hk2 (sf_zero ht).1).2.2
    rw [(sf_zero ht).2] at this
    exact this)
   rcases z with ⟨z, _⟩ | ⟨z, _, _⟩
   · rw [z] at h0; exact absurd h0 (by decide)
   · exact (TR_meas z h0 h0).1
  have hT2 : (bRu (sfA t n k) c).2 = 0 → measB (bRu (sfA t n k) c).1 = true := fun h0 => by
   have z := RC_Ru (n := 0) (k := k) (Int.le_refl 0) hk hC hu hu (by
    have := (sf_P (b := 0) (Int.le_refl 0) (by decide) hk hk2 (sf_zero hu).1).2.1
    exact this) (by
    have := (sf_P (b := 0) (Int.le_refl 0) (by decide) hk hk2 (sf_zero hu).1).2.2
    rw [(sf_zero hu).2] at this
    exact this)
   rcases z with ⟨z, _⟩ | ⟨z, _, _⟩
   · rw [z] at h0; exact absurd h0 (by decide)
   · exact (TR_meas z h0 h0).1
  obtain ⟨a1, a2⟩ := d0 G1 hT1 g1
  obtain ⟨a3, a4⟩ := d0 G2 hT2 g2
  have b1 : bDone (bRu t c) = ((bRu t c).1, 0) := by unfold bDone; rw [if_pos a1, if_pos a2]
  have b2 : bDone (bRu (sfA t n k) c) = ((bRu (sfA t n k) c).1, 0) := by unfold bDone; rw [if_pos a3, if_pos a4]
  rw [b1, b2]
  obtain ⟨x, w1, w2, w3, w4⟩ := hT a1 a3
  have hx : treeOf (bRu t c).1 = x := by rw [w2]; exact treeOf_flat w1
  have eE : trE (shV n k) 0 x = 0 := shP_V hn x 0 w1 w3
  obtain ⟨s1, s2⟩ := sfE_ok (b := n) (f := k) a2
  rw [clamp_in hn hn2, clamp_in hk hk2, show max 0 k = k by omega] at s1 s2
  have eE' : trEL (shV n k) (bRu t c).1 0 = 0 := by unfold trEL; rw [hx]; exact eE
  refine .inl ⟨rfl, rfl, s1.trans eE', ?_⟩
  rw [s2]
  unfold trL
  rw [if_pos eE', hx, shV_P hn x 0 eE, w4]
theorem bad_clo {c : List (List (List Nd))} (h : badB c = false) : cloC c := fun l hl y hy => by
 unfold badB at h
 rw [Bool.or_eq_false_iff] at h
 have h1 : badL l = false := by have := (List.any_eq_false.1 h.2) l hl; simpa using this
 unfold badL at h1
 rw [Bool.or_eq_false_iff] at h1
 have h2 : badY y = false := by have := (List.any_eq_false.1 h1.2) y hy; simpa using this
 unfold badY at h2
 simp only [Bool.or_eq_false_iff, decide_eq_false_iff_not, Classical.not_not] at h2
 exact ⟨h2.2.1, by omega⟩
theorem ug_plain {t : List Nd} {c : List (List (List Nd))} (h : grB (ugE t c) = false) : ugE t c = (bRq t c).2 := by
 rcases (ug_ref t c).1 with q | ⟨q, _⟩
 · exact q
 · rw [q] at h; cases h
theorem mv_end (hn : 0 ≤ n) (hn2 : n ≤ 1000) (hk : 0 ≤ k) (hk2 : k ≤ 1000) {c : List (List (List Nd))} (hC : cloC c) {t : List Nd} (h : sfE t n k = 0) (g1 : grB (ugE t c) = false) (g2 : grB (ugE (sfA t n k) c) = false) :
  (ugE t c = 0 ∧ ugE (sfA t n k) c = 0 ∧ sfE (ugA t c) n k = 0 ∧ sfA (ugA t c) n k = ugA (sfA t n k) c) ∨ (¬ ugE t c = 0 ∧ ugE t c = ugE (sfA t n k) c) := by
 have e1 := ug_plain g1
 have e2 := ug_plain g2
 rw [e1] at g1 ⊢
 rw [e2] at g2 ⊢
 rw [(ug_ref t c).2, (ug_ref (sfA t n k) c).2]
 exact mov_law hn hn2 hk hk2 hC h g1 g2
theorem mv_yes {A B C D E : Prop} (h : (A ∧ B ∧ C ∧ D) ∨ (¬ A ∧ E)) (a : A) : B ∧ C ∧ D := by
 rcases h with h | h
 · exact h.2
 · exact absurd a h.1
theorem mv_no {A B C D E : Prop} (h : (A ∧ B ∧ C ∧ D) ∨ (¬ A ∧ E)) (a : ¬ A) : E := by
 rcases h with h | h
 · exact absurd h.1 a
 · exact h.2
theorem mv_or {A B C D E : Prop} (h : (A ∧ B ∧ C ∧ D) ∨ (¬ A ∧ E)) (q : ¬ A ∨ ¬ B) : E := by
 rcases h with h | h
 ·
  rcases q with q | q
  · exact absurd h.1 q
  · exact absurd h.2.1 q
 · exact h.2
theorem mv_sml {t : List Nd} {c : List (List (List Nd))} (hs : sml t) (hcs : ∀ l ∈ c, ∀ y ∈ l, sml y ∧ y.length ≤ 4000) : sml (ugA t c) := by
 rw [(ug_ref t c).2]
 unfold bRq bDone
 by_cases hc : chk t = 0
 ·
  rw [if_pos hc]
  by_cases h0 : (bRu t c).2 = 0
  ·
   rw [if_pos h0]
   by_cases h1 : chk (bRu t c).1 = 0
   · rw [if_pos h1]; exact (bRu_sz hc hs hcs).1
   · rw [if_neg h1]; exact sml_nil
  · rw [if_neg h0]; exact sml_nil
 · rw [if_neg hc]; exact sml_nil
theorem mv_len (t : List Nd) (c : List (List (List Nd))) : (ugA t c).length ≤ 4000 := by rw [(ug_ref t c).2]; exact bRq_len t c
theorem mv_sf {t : List Nd} (h : sml t) : sml (sfA t n k) := by
 have := upL_sml (e := 0) (n := n) (k := k) h
 unfold upL at this
 rwa [if_pos rfl] at this
end
end
end Go.Proofs.YtpfmnpaifchleaaDoor
namespace Go.Proofs.YtpfmnpaifchleaaDoor
open Go Go.RowKit
set_option linter.unusedSimpArgs false
set_option linter.unusedVariables false
set_option maxRecDepth 100000
set_option maxHeartbeats 1000000
theorem unfoldMoves_calls (w0 : World) (Z : Nat → Prop) (hZ : ∀ k, Z k → k < w0.heap.size) (tA : Option Addr) (tc : Nat) (t : List Nd) (consA : Option Addr) (consc : Nat) (cons : List Tl) (bb : Nat) (ff : Nat) (hShp : Shapes w0 Z) (ht : (dRow 4 tA t.length tc (encNs t)).φ w0 Z) (hcons : (dRow 1 consA cons.length consc (encTs cons)).φ w0 Z) (hconss : (dAllT cons).φ w0 Z) (hbb : bb < 256 := by first | assumption | omega | (simp <;> omega)) (hff : ff < 256 := by first | assumption | omega | (simp <;> omega)) :
    Calls Tryd.prog 4 [.slice tA t.length tc, .slice consA cons.length consc, .int .u8 ((bb : Nat) : Int), .int .u8 ((ff : Nat) : Int)].toArray w0 (fun e w' => e = .returned (.bool (true)) ∧ Fr none_ w0 w') := by
 have b0 := s0 (M := none_) hZ (zc (d := dShapes) hShp (zc ht (zc hcons (zc hconss zn))))
 refine c_enter Tryd.func4 rfl Tryd.ntmps4 rfl fun c0 d0 => ?_
 refine wsc fun c0 f0 => aw d0 f0 fun c0 h0 => ?_
 refine wp_seq_k fun f0 c0 => wsc fun f0 d0 => mv h0 fun f0 i0 => ?_
 have f0 := b0.nf
 refine kcl i0 ok5 (heavy14_calls _ _ f0.il _ _ _ (f0.g 1)) ?_
 rintro i0 b0 ⟨rfl, h0⟩
 have b0 := f0.below h0.below
 refine ⟨_, rfl, fun h0 f0 => ?_⟩
 refine mv f0 fun h0 i0 => ?_
 refine l_join (fun ga gw => Reg ga 104 [(0, .slice tA t.length tc), (1, .slice consA cons.length consc), (2, .int .u8 ((bb : Nat) : Int)), (3, .int .u8 ((ff : Nat) : Int)), (8, .bool false), (26, .bool ((heavyB 120 t) || (badB (lstsT cons)))), (1000000, .bool false)] ∧ St w0 Z none_ gw [] [dShapes, dRow 4 tA t.length tc (encNs t), dRow 1 consA cons.length consc (encTs cons), dAllT cons]) 3 ?_ ?_
 ·
  rcases Bool.eq_false_or_eq_true (heavyB 120 t) with h0 | h0
  ·
   have f0 := i0.setb (d := 23) (b := true) rfl h0
   refine lR f0 fun j0 k0 => ?_
   refine wpList_nil ?_
   exact x_then_n ⟨(k0.sub (rc4 (rc rfl (rc (rb rfl (by (simp only [h0, bl]; done))) (rc rfl rnl))))), b0⟩
  obtain ⟨hlt, hst⟩ := heavy_false h0
  obtain ⟨hlt, hst⟩ := heavy_false h0
  have k0 := i0.setb (d := 23) (b := false) rfl h0
  refine lR k0 fun i0 j0 => ?_
  have i0 := b0.nf
  refine kcl j0 ok6 (bad14_calls _ _ i0.il _ _ _ (i0.g 2) (i0.g 3)) ?_
  rintro j0 b0 ⟨rfl, k0⟩
  have b0 := i0.below k0.below
  refine ⟨_, rfl, fun k0 i0 => ?_⟩
  refine lR i0 fun k0 j0 => ?_
  refine wpList_nil ?_
  exact x_then_n ⟨(j0.sub (rc4 (rc rfl (rc (rb rfl (by (simp only [h0, bl]; done))) (rc rfl rnl))))), b0⟩
 rintro j0 b0 ⟨h0, k0⟩
 refine mv h0 fun b0 j0 => ?_
 refine l_join (fun ga gw => Reg ga 104 [(0, .slice tA t.length tc), (1, .slice consA cons.length consc), (2, .int .u8 ((bb : Nat) : Int)), (3, .int .u8 ((ff : Nat) : Int)), (8, .bool false), (30, .bool (((heavyB 120 t) || (badB (lstsT cons))) || (!true))), (1000000, .bool false)] ∧ St w0 Z none_ gw [] [dShapes, dRow 4 tA t.length tc (encNs t), dRow 1 consA cons.length consc (encTs cons), dAllT cons]) 3 ?_ ?_
 ·
  rcases Bool.eq_false_or_eq_true (((heavyB 120 t) || (badB (lstsT cons)))) with b0 | b0
  ·
   have h0 := b0
   try simp only [bz] at h0
   have h0 := j0.setb (d := 27) (b := true) rfl b0
   refine lR h0 fun i0 f0 => ?_
   refine wpList_nil ?_
   exact x_then_n ⟨(f0.sub (rc4 (rc rfl (rc (rb rfl (by (simp only [b0, bl]; done))) (rc rfl rnl))))), k0⟩
  have f0 := or_fl b0
  obtain ⟨hlt, hst⟩ := heavy_false f0
  have f0 := or_fr b0
  obtain ⟨i0, hcs⟩ := bad_false f0
  have h0 : cons.length ≤ 6 := by rw [← lstsT_len]; exact i0
  have hC := bad_clo f0
  have f0 := j0.setb (d := 27) (b := false) rfl b0
  have j0 := k0.nf
  refine kcl f0 ok7 (shown14G_calls _ _ j0.il (j0.g 0)) ?_
  rintro f0 k0 ⟨rfl, m0⟩
  have k0 := j0.below m0.below
  refine ⟨_, rfl, fun m0 j0 => ?_⟩
  refine lR j0 fun m0 f0 => ?_
  refine wpList_nil ?_
  exact x_then_n ⟨(f0.sub (rc4 (rc rfl (rc (rb rfl (by (simp only [b0, bl]; done))) (rc rfl rnl))))), k0⟩
 rintro f0 k0 ⟨b0, m0⟩
 refine wn d0 ?_
 rcases Bool.eq_false_or_eq_true ((((heavyB 120 t) || (badB (lstsT cons))) || (!true))) with d0 | d0
 ·
  have k0 := d0
  try simp only [bz] at k0
  refine wct b0 d0 fun k0 => ?_
  refine wsc fun f0 j0 => ?_
  have f0 := m0.nf
  refine kcl k0 ok7 (shown14G_calls _ _ f0.il (f0.g 0)) ?_
  rintro k0 n0 ⟨rfl, o0⟩
  have n0 := f0.below o0.below
  refine ⟨_, rfl, fun o0 f0 => ?_⟩
  refine aw f0 j0 fun o0 k0 => ?_
  refine wp_ret <| x_then_r <| er1 k0 ?_
  refine ⟨?_, n0.fr⟩
  exact cr (ret_b (by rfl))
 have n0 := or_fl d0
 have k0 := or_fl n0
 obtain ⟨hlt, hst⟩ := heavy_false k0
 have k0 := or_fr n0
 obtain ⟨i0, hcs⟩ := bad_false k0
 have h0 : cons.length ≤ 6 := by rw [← lstsT_len]; exact i0
 have hC := bad_clo k0
 have k0 := or_fr d0
 have h0 := not_f k0
 refine wcf b0 d0 fun h0 => ?_
 refine wp_skip <| xn c0 <| wsc fun c0 d0 => mv h0 fun c0 b0 => ?_
 refine r_conv sv b0 rfl rfl rfl Tryd.underlying5 Tryd.underlying3 (by decide) (by omega) (by omega) fun c0 h0 => ?_
 refine r_rem (z := (((bb) % 5 : Nat) : Int)) sv h0 rfl rfl rfl rfl (by decide) (tmod_nat (bb) 5) (by decide) fun c0 b0 => ?_
 refine aw b0 d0 fun c0 h0 => ?_
 refine wsc fun d0 c0 => mv h0 fun d0 b0 => ?_
 refine r_conv sv b0 rfl rfl rfl Tryd.underlying5 Tryd.underlying3 (by decide) (by omega) (by omega) fun d0 h0 => ?_
 refine r_rem (z := (((ff) % 5 : Nat) : Int)) sv h0 rfl rfl rfl rfl (by decide) (tmod_nat (ff) 5) (by decide) fun d0 b0 => ?_
 refine aw b0 c0 fun d0 h0 => ?_
 refine wsc fun c0 d0 => lR h0 fun c0 b0 => ?_
 have c0 := m0.nf
 refine kcl b0 ok16 (rShift_calls _ _ c0.il _ _ _ (((bb) % 5 : Nat) : Int) (((ff) % 5 : Nat) : Int) (c0.g 1) (hl := (by omega)) (hsm := (by exact hst))) ?_
 rintro b0 m0 ⟨h0, k0, rfl, i0, n0⟩
 have m0 := c0.below i0.below
 have i0 := c0.dN m0 n0
 refine ⟨_, rfl, fun m0 n0 => ?_⟩
 refine lR n0 fun m0 c0 => ?_
 refine wn d0 <| wp_seq_k fun d0 m0 => wsc fun d0 n0 => lR c0 fun d0 b0 => ?_
 refine wn n0 ?_
 rcases Decidable.em (((sfE t (((bb) % 5 : Nat) : Int) (((ff) % 5 : Nat) : Int))) = 0) with n0 | n0
 ·
  refine wcfb b0 rfl (by rw [(decide_eq_true n0)]; rfl) fun d0 => ?_
  refine wp_skip <| xn m0 <| wsc fun m0 c0 => lR d0 fun m0 j0 => ?_
  have m0 := i0.nf
  refine kcl j0 ok8 (uruleG_calls _ _ m0.il _ _ _ _ _ _ (m0.g 0) (m0.g 1) (m0.g 2) (m0.g 3) (hsm := (by exact hst)) (hl := (by omega)) (hcs := hcs) (hc4 := (by omega))) ?_
  rintro j0 d0 ⟨o0, f0, rfl, p0, q0⟩
  have d0 := m0.below p0.below
  have p0 := m0.dN d0 q0
  refine ⟨_, rfl, fun d0 q0 => ?_⟩
  refine lR q0 fun d0 m0 => ?_
  refine wn c0 <| wsc fun c0 d0 => lR m0 fun c0 q0 => ?_
  have c0 := p0.nf
  refine kcl q0 ok8 (uruleG_calls _ _ c0.il _ _ (sfA t (((bb) % 5 : Nat) : Int) (((ff) % 5 : Nat) : Int)) _ _ _ (c0.g 0) (c0.g 4) (c0.g 2) (c0.g 3) (hsm := (by exact mv_sf hst)) (hl := (by exact Nat.le_trans (sfA_len _ _ _) (by omega))) (hcs := hcs) (hc4 := (by omega))) ?_
  rintro q0 p0 ⟨m0, j0, rfl, t0, u0⟩
  have p0 := c0.below t0.below
  have t0 := c0.dN p0 u0
  refine ⟨_, rfl, fun p0 u0 => ?_⟩
  refine lR u0 fun p0 c0 => ?_
  refine wn d0 <| wsc fun d0 p0 => lR c0 fun d0 u0 => ?_
  have d0 := t0.nf
  refine kcl u0 ok9 (bRule_calls _ _ d0.il _ _ _ _ _ _ (d0.g 1) (d0.g 2) (d0.g 3) (hst := hst) (hlt := (by omega)) (hcs := hcs) (hc4 := (by omega))) ?_
  rintro u0 t0 ⟨c0, q0, rfl, v0, x0⟩
  have t0 := d0.below v0.below
  have v0 := d0.dN t0 x0
  refine ⟨_, rfl, fun t0 x0 => ?_⟩
  refine lR x0 fun t0 d0 => ?_
  refine wn p0 <| wp_seq_k fun p0 t0 => wsc fun p0 x0 => lR d0 fun p0 u0 => ?_
  have p0 := v0.nf
  refine kcl u0 ok10 (kin14_calls _ _ p0.il ((ugE t (lstsT cons))) (((bRq t (lstsT cons)).2))) ?_
  rintro u0 v0 ⟨rfl, d0⟩
  have v0 := p0.below d0.below
  refine ⟨_, rfl, fun d0 p0 => ?_⟩
  refine lR p0 fun d0 u0 => ?_
  have d0 : (kinB ((ugE t (lstsT cons))) (((bRq t (lstsT cons)).2))) = true := (kin_ref _ _)
  have p0 := u0.setb (d := 70) (b := false) rfl (by rw [d0]; rfl)
  refine lR p0 fun d0 u0 => ?_
  have d0 := v0.nf
  refine kcl u0 ok17 (great14_calls _ _ d0.il ((ugE t (lstsT cons)))) ?_
  rintro u0 v0 ⟨rfl, p0⟩
  have v0 := d0.below p0.below
  refine ⟨_, rfl, fun p0 d0 => ?_⟩
  refine lR d0 fun p0 u0 => ?_
  refine l_join (fun ga gw => Reg ga 104 [(8, .bool false), (9, .int .i64 (((bb) % 5 : Nat) : Int)), (10, .int .i64 (((ff) % 5 : Nat) : Int)), (13, .slice o0 ((ugA t (lstsT cons)).length) f0), (14, .int .i64 ((ugE t (lstsT cons)))), (15, .slice m0 ((ugA (sfA t (((bb) % 5 : Nat) : Int) (((ff) % 5 : Nat) : Int)) (lstsT cons)).length) j0), (16, .int .i64 ((ugE (sfA t (((bb) % 5 : Nat) : Int) (((ff) % 5 : Nat) : Int)) (lstsT cons)))), (18, .int .i64 (((bRq t (lstsT cons)).2))), (77, .bool ((grB ((ugE t (lstsT cons)))) || (grB ((ugE (sfA t (((bb) % 5 : Nat) : Int) (((ff) % 5 : Nat) : Int)) (lstsT cons)))))), (1000000, .bool false)] ∧ St w0 Z none_ gw [] [dShapes, dRow 4 tA t.length tc (encNs t), dRow 1 consA cons.length consc (encTs cons), dAllT cons, dRow 4 h0 ((sfA t (((bb) % 5 : Nat) : Int) (((ff) % 5 : Nat) : Int)).length) k0 (encNs (sfA t (((bb) % 5 : Nat) : Int) (((ff) % 5 : Nat) : Int))), dRow 4 o0 ((ugA t (lstsT cons)).length) f0 (encNs (ugA t (lstsT cons))), dRow 4 m0 ((ugA (sfA t (((bb) % 5 : Nat) : Int) (((ff) % 5 : Nat) : Int)) (lstsT cons)).length) j0 (encNs (ugA (sfA t (((bb) % 5 : Nat) : Int) (((ff) % 5 : Nat) : Int)) (lstsT cons))), dRow 4 c0 (((bRq t (lstsT cons)).1).length) q0 (encNs ((bRq t (lstsT cons)).1))]) 3 ?_ ?_
  ·
   rcases Bool.eq_false_or_eq_true (grB ((ugE t (lstsT cons)))) with p0 | p0
   ·
    have d0 := u0.setb (d := 74) (b := true) rfl p0
    refine lR d0 fun y0 z0 => ?_
    refine wpList_nil ?_
    exact x_then_n ⟨(z0.sub (rc4 (rc4 (rc (rb rfl (by (simp only [p0, bl]; done))) (rc rfl rnl))))), v0⟩
   have z0 := u0.setb (d := 74) (b := false) rfl p0
   refine lR z0 fun u0 y0 => ?_
   have u0 := v0.nf
   refine kcl y0 ok17 (great14_calls _ _ u0.il ((ugE (sfA t (((bb) % 5 : Nat) : Int) (((ff) % 5 : Nat) : Int)) (lstsT cons)))) ?_
   rintro y0 v0 ⟨rfl, z0⟩
   have v0 := u0.below z0.below
   refine ⟨_, rfl, fun z0 u0 => ?_⟩
   refine lR u0 fun z0 y0 => ?_
   refine wpList_nil ?_
   exact x_then_n ⟨(y0.sub (rc4 (rc4 (rc (rb rfl (by (simp only [p0, bl]; done))) (rc rfl rnl))))), v0⟩
  rintro y0 v0 ⟨p0, z0⟩
  refine wn x0 ?_
  rcases Bool.eq_false_or_eq_true (((grB ((ugE t (lstsT cons)))) || (grB ((ugE (sfA t (((bb) % 5 : Nat) : Int) (((ff) % 5 : Nat) : Int)) (lstsT cons)))))) with x0 | x0
  ·
   have v0 := x0
   try simp only [bz] at v0
   refine wct p0 x0 fun v0 => ?_
   refine wsc fun y0 u0 => lR v0 fun y0 d0 => ?_
   have y0 := z0.nf
   refine kcl d0 ok10 (kin14_calls _ _ y0.il ((ugE t (lstsT cons))) (((bRq t (lstsT cons)).2))) ?_
   rintro d0 v0 ⟨rfl, b1⟩
   have v0 := y0.below b1.below
   refine ⟨_, rfl, fun b1 y0 => ?_⟩
   refine aw y0 u0 fun b1 d0 => ?_
   refine wp_ret <| x_then_r <| er1 d0 ?_
   refine ⟨?_, v0.fr⟩
   exact cr (ret_b (by omega))
  have v0 := or_fl x0
  have d0 := or_fr x0
  have hmv := mv_end (by omega) (by omega) (by omega) (by omega) hC n0 v0 d0
  refine wcf p0 x0 fun d0 => ?_
  refine wp_skip <| xn t0 <| wp_seq_k fun t0 x0 => wsc fun t0 p0 => lR d0 fun t0 v0 => ?_
  refine l_join (fun ga gw => Reg ga 104 [(8, .bool false), (9, .int .i64 (((bb) % 5 : Nat) : Int)), (10, .int .i64 (((ff) % 5 : Nat) : Int)), (13, .slice o0 ((ugA t (lstsT cons)).length) f0), (14, .int .i64 ((ugE t (lstsT cons)))), (15, .slice m0 ((ugA (sfA t (((bb) % 5 : Nat) : Int) (((ff) % 5 : Nat) : Int)) (lstsT cons)).length) j0), (16, .int .i64 ((ugE (sfA t (((bb) % 5 : Nat) : Int) (((ff) % 5 : Nat) : Int)) (lstsT cons)))), (86, .bool ((!(decide (((ugE t (lstsT cons))) = 0))) || (!(decide (((ugE (sfA t (((bb) % 5 : Nat) : Int) (((ff) % 5 : Nat) : Int)) (lstsT cons))) = 0))))), (1000000, .bool false)] ∧ St w0 Z none_ gw [] [dShapes, dRow 4 tA t.length tc (encNs t), dRow 1 consA cons.length consc (encTs cons), dAllT cons, dRow 4 h0 ((sfA t (((bb) % 5 : Nat) : Int) (((ff) % 5 : Nat) : Int)).length) k0 (encNs (sfA t (((bb) % 5 : Nat) : Int) (((ff) % 5 : Nat) : Int))), dRow 4 o0 ((ugA t (lstsT cons)).length) f0 (encNs (ugA t (lstsT cons))), dRow 4 m0 ((ugA (sfA t (((bb) % 5 : Nat) : Int) (((ff) % 5 : Nat) : Int)) (lstsT cons)).length) j0 (encNs (ugA (sfA t (((bb) % 5 : Nat) : Int) (((ff) % 5 : Nat) : Int)) (lstsT cons))), dRow 4 c0 (((bRq t (lstsT cons)).1).length) q0 (encNs ((bRq t (lstsT cons)).1))]) 3 ?_ ?_
  ·
   rcases Decidable.em (((ugE t (lstsT cons))) = 0) with q0 | q0
   ·
    have hmz := mv_yes hmv q0
    have c0 := v0.setb (d := 83) (b := false) rfl (by rw [(decide_eq_true q0)]; rfl)
    refine lR c0 fun j0 m0 => ?_
    refine wpList_nil ?_
    exact x_then_n ⟨(m0.sub (rc4 (rc2 (rc rfl (rc (rb rfl (by (simp only [decide_eq_true q0, if_pos q0, bl]; done))) (rc rfl rnl)))))), z0⟩
   have hmz := mv_no hmv q0
   have m0 := v0.setb (d := 83) (b := true) rfl (by rw [(decide_eq_false q0)]; rfl)
   refine lR m0 fun v0 j0 => ?_
   refine wpList_nil ?_
   exact x_then_n ⟨(j0.sub (rc4 (rc2 (rc rfl (rc (rb rfl (by (simp only [decide_eq_false q0, if_neg q0, bl]; done))) (rc rfl rnl)))))), z0⟩
  rintro j0 q0 ⟨z0, v0⟩
  refine wn p0 ?_
  rcases Bool.eq_false_or_eq_true (((!(decide (((ugE t (lstsT cons))) = 0))) || (!(decide (((ugE (sfA t (((bb) % 5 : Nat) : Int) (((ff) % 5 : Nat) : Int)) (lstsT cons))) = 0))))) with p0 | p0
  ·
   have q0 := p0
   try simp only [bz] at q0
   refine wct z0 p0 fun j0 => ?_
   refine wsc fun m0 c0 => lR j0 fun m0 f0 => ?_
   refine wn c0 <| wp_ret <| x_then_r <| er1 f0 ?_
   have f0 : ((ugE t (lstsT cons))) = ((ugE (sfA t (((bb) % 5 : Nat) : Int) (((ff) % 5 : Nat) : Int)) (lstsT cons))) := (mv_or hmv q0)
   refine ⟨?_, v0.fr⟩
   exact cr (ret_b (by exact decide_eq_true (by assumption)))
  have f0 := or_fl p0
  have q0 := not_f f0
  have f0 := of_decide_eq_true q0
  have hmz := mv_yes hmv f0
  have f0 := or_fr p0
  have q0 := not_f f0
  have f0 := of_decide_eq_true q0
  refine wcf z0 p0 fun f0 => ?_
  refine wp_skip <| xn x0 <| wsc fun x0 p0 => lR f0 fun x0 z0 => ?_
  have x0 := v0.nf
  refine kcl z0 ok16 (rShift_calls _ _ x0.il _ _ (ugA t (lstsT cons)) (((bb) % 5 : Nat) : Int) (((ff) % 5 : Nat) : Int) (x0.g 5) (hl := (by exact Nat.le_trans (mv_len _ _) (by decide))) (hsm := (by exact mv_sml hst hcs))) ?_
  rintro z0 v0 ⟨f0, q0, rfl, c0, m0⟩
  have q0 := x0.below c0.below
  have c0 := x0.dN q0 m0
  refine ⟨_, rfl, fun q0 m0 => ?_⟩
  refine lR m0 fun q0 x0 => ?_
  refine wn p0 <| wsc fun p0 q0 => lR x0 fun p0 m0 => ?_
  have p0 : ((sfE (ugA t (lstsT cons)) (((bb) % 5 : Nat) : Int) (((ff) % 5 : Nat) : Int))) = 0 := hmz.2.1
  have x0 := m0.setb (d := 99) (b := true) rfl (decide_eq_true p0)
  refine lR x0 fun p0 m0 => ?_
  have p0 := c0.nf
  refine kcl m0 ok11 (rsame_calls _ _ p0.il _ _ (sfA (ugA t (lstsT cons)) (((bb) % 5 : Nat) : Int) (((ff) % 5 : Nat) : Int)) _ _ (ugA (sfA t (((bb) % 5 : Nat) : Int) (((ff) % 5 : Nat) : Int)) (lstsT cons)) (p0.g 8) (p0.g 6) (hl := (Nat.le_trans (sfA_len _ _ _) (Nat.le_trans (mv_len _ _) (by decide))))) ?_
  rintro m0 c0 ⟨rfl, x0⟩
  have c0 := p0.below x0.below
  refine ⟨_, rfl, fun x0 p0 => ?_⟩
  refine lR p0 fun x0 m0 => ?_
  refine wn q0 <| wp_ret <| er1 m0 ?_
  have m0 : (decide ((sfA (ugA t (lstsT cons)) (((bb) % 5 : Nat) : Int) (((ff) % 5 : Nat) : Int)) = (ugA (sfA t (((bb) % 5 : Nat) : Int) (((ff) % 5 : Nat) : Int)) (lstsT cons)))) = true := (decide_eq_true hmz.2.2)
  refine ⟨?_, c0.fr⟩
  exact cr (ret_b (by omega))
 refine wctb b0 rfl (by rw [(decide_eq_false n0)]; rfl) fun c0 => ?_
 refine wsc fun n0 b0 => ?_
 have n0 := i0.nf
 refine kcl c0 ok7 (shown14G_calls _ _ n0.il (n0.g 0)) ?_
 rintro c0 i0 ⟨rfl, m0⟩
 have i0 := n0.below m0.below
 refine ⟨_, rfl, fun m0 n0 => ?_⟩
 refine aw n0 b0 fun m0 c0 => ?_
 refine wp_ret <| x_then_r <| er1 c0 ?_
 refine ⟨?_, i0.fr⟩
 exact cr (ret_b (by rfl))
end Go.Proofs.YtpfmnpaifchleaaDoor
namespace Go.Proofs.YtpfmnpaifchleaaDoor
set_option linter.unusedSimpArgs false
set_option linter.unusedVariables false
section
/- From a row's reading to cells, and back: slices of nodes, the table of shapes, arguments that nobody changed. -/
open Go Go.RowKit Go.WideShapes Go.ChangeShapes
theorem kids : Kids Tryd.prog (· < Tryd.prog.types.size) := kids_rows (by kernel_rfl) (by kernel_rfl)
theorem slicesFull : ∀ t e, t < Tryd.prog.types.size → Tryd.prog.underlying t = some (.slice e) → 0 < Tryd.prog.cellsOf e := slices_full_of Tryd.prog (by kernel_rfl)
theorem ownKnobNone : ownKnob Tryd.prog.godebug = none := by kernel_rfl
section
variable {H : Type} {enc : TypeId × Value → H} {P : Program} {w W W' : World}
theorem trodAll_carry {base : Nat} {sp : Nat → Bool} {held : Bool} : ∀ {ts : List TypeId} {vs : List Value} {ds : List (DataW H)} {ps : List MemPlace},
  DataW.TrodAll enc P W base sp held ts vs ds ps → (∀ p ∈ ps, W.sameAt W' p) → DataW.TrodAll enc P W' base sp held ts vs ds ps
 | [], [], [], _, h, _ => h
 | _ :: _, _ :: _, _ :: _, _, ⟨p, q, ⟨n, h1⟩, h2, e⟩, hs =>
  ⟨p, q, ⟨n, DataW.trod_carry n _ _ _ h1 (fun x hx => hs x (by rw [e]; exact List.mem_append_left _ hx))⟩,
   trodAll_carry h2 (fun x hx => hs x (by rw [e]; exact List.mem_append_right _ hx)), e⟩
 | [], [], _ :: _, _, h, _ => h.elim
 | [], _ :: _, _, _, h, _ => h.elim
 | _ :: _, [], _, _, h, _ => h.elim
 | _ :: _, _ :: _, [], _, h, _ => h.elim
theorem sameAt_below (hb : Below W.heap.size W W') {p : MemPlace} (hp : p.block < W.heap.size) : W.sameAt W' p := by
 cases p with
 | cell b off => exact hb.cell (p := ⟨b, off, none⟩) hp
 | map b => exact hb.block b hp
theorem post_true {f : Func} {s : ChangeSpec} {apart fresh handsOn again : Bool} {args : Array Value} {ds : List (DataW H)} {before : List MemPlace}
  (K : Kids P (· < P.types.size)) (hz : ∀ t e, t < P.types.size → P.underlying t = some (.slice e) → 0 < P.cellsOf e) (hts : ∀ t ∈ f.params.toList, t < P.types.size)
  (hvars : s.vars = []) (hW : DataW.Whole enc P f.params.toList s.vars apart W args.toList ds [] before)
  {tb : TypeId} (hrt : f.resultTypes = #[tb]) (htb : P.underlying tb = some .bool)
  (hfn : (s.fn H ds).results = [.lit (.bool true)] ∧ (s.fn H ds).args = ds ∧ (s.fn H ds).vars = []) (hb : Below W.heap.size W W') :
  s.post enc P f apart fresh handsOn again W args (.bool true) W' := by
 have hlt : ∀ p ∈ before, p.block < W.heap.size := fun p hp => hW.lt p hp
 have hold : ∀ p ∈ before, (fun b => decide (b < W.heap.size)) p.block = true := fun p hp => by simpa using hlt p hp
 have hW0 := hW
 obtain ⟨p, q, hA, hV, he, hzf, hn⟩ := hW0
 rw [hvars] at hV
 have hq : q = [] := hV
 subst hq
 rw [List.append_nil] at he
 subst he
 have hA' := trodAll_carry (W' := W') hA (fun x hx => sameAt_below hb (hlt x hx))
 have hres : ∀ (b : Nat) (sp : Nat → Bool) (hd : Bool), DataW.TrodAll enc P W' b sp hd f.resultTypes.toList ((Value.bool true).resultList f.resultTypes.size) (s.fn H ds).results [] := fun b sp hd => by
  rw [hfn.1, hrt]
  exact trodAll_mk1 (shut_bool htb true)
 refine ⟨ds, [], before, [], before, [], hW, ?_, ?_, ?_, World.keptBut_mono (fun p hp => ⟨hp, .inr (.inl hp)⟩) (hb.frame (· ∈ before)), fun _ => ⟨?_, ?_⟩⟩
 · rw [List.append_nil]; exact hres _ _ _
 ·
  rw [List.append_nil, hfn.2.1]
  exact DataW.TrodAll.respare K hz hts hA' hold
 ·
  rw [List.append_nil, hfn.2.2, hvars]
  exact rfl
 · exact ok_one hrt rfl (okWide_bool_mk htb true)
 ·
  refine ⟨[.lit (.bool true)] ++ ds, [], [] ++ before, ⟨[] ++ before, [], ?_, ?_, by simp, ?_, ?_⟩, ?_⟩
  ·
   rw [hrt]
   exact trodAll_append hA' (trodAll_mk1 (shut_bool htb true))
  ·
   rw [hvars]
   exact rfl
  ·
   intro b off hp
   have hin : MemPlace.cell b off ∈ before := by simpa using hp
   rw [hb.frozen (hlt _ hin)]
   exact hzf b off hin
  ·
   intro ha
   simpa using hn ha
  ·
   intro x hx _
   simpa using hx
end
section
variable {H : Type} {enc : TypeId × Value → H} {w : World}
theorem lt_of_cell {p : Addr} {v : Value} (h : w.cell? p = some v) : p.block < w.heap.size := by
 unfold World.cell? at h
 cases ho : w.heap[p.block]? with
 | none => simp [ho] at h
 | some o => exact (Array.getElem?_eq_some_iff.1 ho).1
set_option maxRecDepth 100000 in
theorem node_cells {base : Nat} {sp : Nat → Bool} {held : Bool} {n : Nat} {cs : List Value} {x : DataW H × List MemPlace} (h : DataW.trod enc Tryd.prog w base sp held n 39 cs = some x) : ∃ nd : Nd, cs = encN nd := by
 have hu : Tryd.prog.underlying 39 = some (.struct (Tryd.prog.fieldsOf 39)) := by kernel_rfl
 have hf : (Tryd.prog.fieldsOf 39).toList.map (fun f => (f.type, f.offset)) = [(3, 0), (3, 1), (3, 2), (9, 3)] := by kernel_rfl
 have hci : Tryd.prog.cellsOf 3 = 1 := by kernel_rfl
 have hcs : Tryd.prog.cellsOf 9 = 1 := by kernel_rfl
 have hcn : Tryd.prog.cellsOf 39 = 4 := by kernel_rfl
 obtain ⟨xs, m, _, _, hl, _, hg⟩ := DataW.trod_struct hu h
 rw [hcn] at hl
 have fld : ∀ (j : Nat) (t : TypeId) (off : Nat), ((Tryd.prog.fieldsOf 39).toList.map (fun f => (f.type, f.offset)))[j]? = some (t, off) → ∃ y, DataW.trod enc Tryd.prog w base sp held m t ((cs.drop off).take (Tryd.prog.cellsOf t)) = some y := by
  intro j t off hj
  rw [List.getElem?_map] at hj
  cases hfj : (Tryd.prog.fieldsOf 39).toList[j]? with
  | none => rw [hfj] at hj; cases hj
  | some f =>
   rw [hfj] at hj
   simp only [Option.map_some, Option.some.injEq, Prod.mk.injEq] at hj
   obtain ⟨rfl, rfl⟩ := hj
   have h1 := hg j f (by rw [← Array.getElem?_toList]; exact hfj)
   have hjl : j < (Tryd.prog.fieldsOf 39).size := by
    have := (List.getElem?_eq_some_iff.1 hfj).1
    simpa using this
   have hxl : j < xs.length := by omega
   exact ⟨xs[j], by rw [h1]; exact List.getElem?_eq_getElem hxl⟩
 rw [hf] at fld
 match cs, hl with
 | [c0, c1, c2, c3], _ =>
  obtain ⟨y0, h0⟩ := fld 0 _ _ rfl
  obtain ⟨y1, h1⟩ := fld 1 _ _ rfl
  obtain ⟨y2, h2⟩ := fld 2 _ _ rfl
  obtain ⟨y3, h3⟩ := fld 3 _ _ rfl
  rw [hci] at h0 h1 h2
  rw [hcs] at h3
  obtain ⟨a, ha, _⟩ := DataW.trod_int Tryd.underlying3 h0
  obtain ⟨b, hb, _⟩ := DataW.trod_int Tryd.underlying3 h1
  obtain ⟨c, hc, _⟩ := DataW.trod_int Tryd.underlying3 h2
  obtain ⟨s, hs, _⟩ := DataW.trod_string Tryd.underlying9 h3
  simp at ha hb hc hs
  exact ⟨⟨a, b, c, s⟩, by simp [encN, ha, hb, hc, hs]⟩
set_option maxRecDepth 100000 in
theorem open_nodes {r : Reach} {base b0 : Nat} {sp : Nat → Bool} {held : Bool} {v : Value} {d : DataW H} {ps : List MemPlace} (hval : Value.okWide Tryd.prog w r b0 22 v) (hd : DataW.Trod enc Tryd.prog w base sp held 22 v d ps) :
  ∃ (A : Option Addr) (c : Nat) (t : List Nd), v = .slice A t.length c ∧ (dRow 4 A t.length c (encNs t)).φ w (fun k => k < w.heap.size) := by
 obtain ⟨A, len, cap, rfl⟩ := okWide_slice Tryd.underlying22 hval
 obtain ⟨fuel, hf⟩ := hd
 have hcn : Tryd.prog.cellsOf 39 = 4 := by kernel_rfl
 rcases Deep.open_slice Tryd.underlying22 hf with ⟨hcs, _⟩ | ⟨a, len', cap', m, n, D, Pl, hcs, _, hl, _, hm, _, hi⟩
 ·
  simp [Value.cells] at hcs
  obtain ⟨rfl, rfl, rfl⟩ := hcs
  exact ⟨none, 0, [], rfl, Nat.le_refl _, rfl, fun h => absurd h (by simp)⟩
 ·
  simp [Value.cells] at hcs
  obtain ⟨rfl, rfl, rfl⟩ := hcs
  have hmm : len ≤ m := by rw [hm]; split <;> omega
  have hnd : ∀ i, ∃ nd : Nd, i < len → w.cells? base (a.add (i * 4)) 4 = some (encN nd) := by
   intro i
   by_cases hil : i < len
   ·
    obtain ⟨cs', hc, ht⟩ := hi i (by omega)
    obtain ⟨nd, rfl⟩ := node_cells ht
    rw [hcn] at hc
    exact ⟨nd, fun _ => hc⟩
   · exact ⟨ndz, fun h => absurd h hil⟩
  obtain ⟨f, hf'⟩ := Classical.axiomOfChoice hnd
  refine ⟨some a, cap, (List.range len).map f, by simp, ?_, ?_, fun hpos => ⟨a, rfl, ?_, ?_⟩⟩
  · simpa using hl
  · exact encNs_length _
  ·
   have hp0 : 0 < len := by simpa using hpos
   obtain ⟨_, _, hat⟩ := World.cells?_some (hf' 0 hp0)
   have h0 := hat 0 (by omega)
   rw [add_of_add] at h0
   have := lt_of_cell (w := w) (p := a.add (0 * 4 + 0)) (by rw [h0]; rfl)
   rwa [block_of_add] at this
  ·
   intro j u hu
   have hjl : j < len * 4 := by
    have h1 := (List.getElem?_eq_some_iff.1 hu).1
    rw [encNs_length] at h1
    simpa using h1
   have hi4 : j / 4 < len := by omega
   obtain ⟨_, hcl, hat⟩ := World.cells?_some (hf' (j / 4) hi4)
   have h1 := hat (j % 4) (by omega)
   rw [add_of_add, show j / 4 * 4 + j % 4 = j by omega] at h1
   rw [h1, ← hu]
   have h2 := enc_at encN_len ((List.range len).map f) (j / 4) (by simpa using hi4) ndz
   have h3 : (((List.range len).map f).getD (j / 4) ndz) = f (j / 4) := by simp [hi4]
   rw [h3] at h2
   have h4 : (encNs ((List.range len).map f))[j]? = (((((List.range len).map f).flatMap encN).drop (j / 4 * 4)).take 4)[j % 4]? := by
    rw [List.getElem?_take_of_lt (by omega), List.getElem?_drop, show j / 4 * 4 + j % 4 = j by omega]
    rfl
   rw [h4, h2]
end
end
section
/- An argument that is a byte. -/
open Go Go.RowKit Go.WideShapes Go.ChangeShapes
section
variable {P : Program}
theorem okWide_byte {t : TypeId} {w : World} {r : Reach} {b0 : Nat} {v : Value} (ht : P.underlying t = some (.int .u8)) (h : Value.okWide P w r b0 t v) : ∃ b : Nat, v = .int .u8 (b : Int) ∧ b < 256 := by
 have h0 := h
 obtain ⟨n, rfl⟩ := okWide_int ht h
 simp only [Value.okWide, ht, Cell.okWide] at h0
 have h1 : IntKind.u8.has n := by simpa [Cell.ok, ht] using h0
 have h2 : (0 : Int) ≤ n ∧ n ≤ 255 := h1
 exact ⟨n.toNat, by rw [Int.toNat_of_nonneg h2.1], by omega⟩
end
set_option maxRecDepth 100000 in
theorem open_byte {w : World} {r : Reach} {b0 : Nat} {v : Value} (hval : Value.okWide Tryd.prog w r b0 5 v) : ∃ b : Nat, v = .int .u8 (b : Int) ∧ b < 256 := okWide_byte Tryd.underlying5 hval
end
section
/- An argument that is a slice of slices of nodes; one that is a slice of these. -/
open Go Go.RowKit Go.WideShapes Go.ChangeShapes
section
variable {H : Type} {enc : TypeId × Value → H} {w : World}
set_option maxRecDepth 100000 in
theorem nodes_cell {base : Nat} {sp : Nat → Bool} {held : Bool} {n : Nat} {cs : List Value} {x : DataW H × List MemPlace} (hf : DataW.trod enc Tryd.prog w base sp held n 22 cs = some x) :
  ∃ s : Sl, cs = encS s ∧ (dRow 4 s.1 s.2.2.length s.2.1 (encNs s.2.2)).φ w (fun k => k < w.heap.size) := by
 have hcn : Tryd.prog.cellsOf 39 = 4 := by kernel_rfl
 rcases Deep.open_slice Tryd.underlying22 hf with ⟨hcs, _⟩ | ⟨a, len, cap, m, _, D, Pl, hcs, _, hl, _, hm, _, hi⟩
 · exact ⟨slz, hcs, Nat.le_refl _, rfl, fun h => absurd h (by simp [slz])⟩
 ·
  have hmm : len ≤ m := by rw [hm]; split <;> omega
  have hnd : ∀ i, ∃ nd : Nd, i < len → w.cells? base (a.add (i * 4)) 4 = some (encN nd) := by
   intro i
   by_cases hil : i < len
   ·
    obtain ⟨cs', hc, ht⟩ := hi i (by omega)
    obtain ⟨nd, rfl⟩ := node_cells ht
    rw [hcn] at hc
    exact ⟨nd, fun _ => hc⟩
   · exact ⟨ndz, fun h => absurd h hil⟩
  obtain ⟨f, hf'⟩ := Classical.axiomOfChoice hnd
  refine ⟨(some a, cap, (List.range len).map f), by rw [hcs]; simp [encS], ?_, ?_, fun hpos => ⟨a, rfl, ?_, ?_⟩⟩
  · simpa using hl
  · exact encNs_length _
  ·
   have hp0 : 0 < len := by simpa using hpos
   obtain ⟨_, _, hat⟩ := World.cells?_some (hf' 0 hp0)
   have h0 := hat 0 (by omega)
   rw [add_of_add] at h0
   have := lt_of_cell (w := w) (p := a.add (0 * 4 + 0)) (by rw [h0]; rfl)
   rwa [block_of_add] at this
  ·
   intro j u hu
   have hjl : j < len * 4 := by
    have h1 := (List.getElem?_eq_some_iff.1 hu).1
    rw [encNs_length] at h1
    simpa using h1
   have hi4 : j / 4 < len := by omega
   obtain ⟨_, hcl, hat⟩ := World.cells?_some (hf' (j / 4) hi4)
   have h1 := hat (j % 4) (by omega)
   rw [add_of_add, show j / 4 * 4 + j % 4 = j by omega] at h1
   rw [h1, ← hu]
   have h2 := enc_at encN_len ((List.range len).map f) (j / 4) (by simpa using hi4) ndz
   have h3 : (((List.range len).map f).getD (j / 4) ndz) = f (j / 4) := by simp [hi4]
   rw [h3] at h2
   have h4 : (encNs ((List.range len).map f))[j]? = (((((List.range len).map f).flatMap encN).drop (j / 4 * 4)).take 4)[j % 4]? := by
    rw [List.getElem?_take_of_lt (by omega), List.getElem?_drop, show j / 4 * 4 + j % 4 = j by omega]
    rfl
   rw [h4, h2]
theorem cells_all {α : Type} {f : α → List Value} {z : α} {Q : α → Prop} (hf1 : ∀ x, (f x).length = 1) {len base : Nat} {a : Addr} (hi : ∀ i, i < len → ∃ x : α, w.cells? base (a.add (i * 1)) 1 = some (f x) ∧ Q x) :
  ∃ L : List α, L.length = len ∧ (∀ x ∈ L, Q x) ∧ RowI w (fun k => k < w.heap.size) 1 (some a) len (L.flatMap f) := by
 have hnd : ∀ i, ∃ x : α, i < len → w.cells? base (a.add (i * 1)) 1 = some (f x) ∧ Q x := by
  intro i
  by_cases hil : i < len
  ·
   obtain ⟨x, h1, h2⟩ := hi i hil
   exact ⟨x, fun _ => ⟨h1, h2⟩⟩
  · exact ⟨z, fun h => absurd h hil⟩
 obtain ⟨g, hg⟩ := Classical.axiomOfChoice hnd
 refine ⟨(List.range len).map g, by simp, ?_, ?_, fun hpos => ⟨a, rfl, ?_, ?_⟩⟩
 ·
  intro x hx
  obtain ⟨i, hi', rfl⟩ := List.mem_map.1 hx
  exact (hg i (List.mem_range.1 hi')).2
 · rw [enc_length hf1]; simp
 ·
  obtain ⟨_, _, hat⟩ := World.cells?_some (hg 0 hpos).1
  have h0 := hat 0 (by omega)
  rw [add_of_add] at h0
  have hl := hf1 (g 0)
  cases hgo : f (g 0) with
  | nil => rw [hgo] at hl; simp at hl
  | cons v r =>
   have := lt_of_cell (w := w) (p := a.add (0 * 1 + 0)) (by rw [h0, hgo]; rfl)
   rwa [block_of_add] at this
 ·
  intro j u hu
  have hjl : j < len := by
   have h1 := (List.getElem?_eq_some_iff.1 hu).1
   rw [enc_length hf1] at h1
   simpa using h1
  obtain ⟨_, hcl, hat⟩ := World.cells?_some (hg j hjl).1
  have h1 := hat 0 (by omega)
  rw [add_of_add, show j * 1 + 0 = j by omega] at h1
  rw [h1, ← hu]
  have h2 := enc_at hf1 ((List.range len).map g) j (by simpa using hjl) z
  have h3 : (((List.range len).map g).getD j z) = g j := by simp [hjl]
  rw [h3] at h2
  have h4 : ((List.range len).map g |>.flatMap f)[j]? = (((((List.range len).map g).flatMap f).drop (j * 1)).take 1)[0]? := by
   rw [List.getElem?_take_of_lt (by omega), List.getElem?_drop, show j * 1 + 0 = j by omega]
  rw [h4, h2]
set_option maxRecDepth 100000 in
theorem lists_cell {base : Nat} {sp : Nat → Bool} {held : Bool} {n : Nat} {cs : List Value} {x : DataW H × List MemPlace} (hf : DataW.trod enc Tryd.prog w base sp held n 40 cs = some x) :
  ∃ s : Tl, cs = encT s ∧ (dRow 1 s.1 s.2.2.length s.2.1 (encSs s.2.2)).φ w (fun k => k < w.heap.size) ∧ (dAll s.2.2).φ w (fun k => k < w.heap.size) := by
 have hcn : Tryd.prog.cellsOf 22 = 1 := by kernel_rfl
 rcases Deep.open_slice Tryd.underlying40 hf with ⟨hcs, _⟩ | ⟨a, len, cap, m, _, D, Pl, hcs, _, hl, _, hm, _, hi⟩
 · exact ⟨tlz, hcs, ⟨Nat.le_refl _, rfl, fun h => absurd h (by simp [tlz])⟩, all_nil⟩
 ·
  have hmm : len ≤ m := by rw [hm]; split <;> omega
  obtain ⟨L, h1, h2, h3⟩ := cells_all (w := w) (f := encS) (z := slz) (Q := fun s => (dRow 4 s.1 s.2.2.length s.2.1 (encNs s.2.2)).φ w (fun k => k < w.heap.size)) encS_len (len := len) (base := base) (a := a) (fun i hil => by
   obtain ⟨cs', hc, ht⟩ := hi i (by omega)
   obtain ⟨s, rfl, hd⟩ := nodes_cell ht
   rw [hcn] at hc
   exact ⟨s, hc, hd⟩)
  subst h1
  exact ⟨(some a, cap, L), by rw [hcs]; rfl, ⟨hl, h3⟩, fun s hs => h2 s hs⟩
end
end
end Go.Proofs.YtpfmnpaifchleaaDoor
