import Derived.Test.YtpfmnpaifchleaaGreatDoorYmf
namespace Go.Proofs.YtpfmnpaifchleaaGreatDoor
open Go Go.RowKit
set_option linter.unusedSimpArgs false
set_option linter.unusedVariables false
set_option maxRecDepth 100000
set_option maxHeartbeats 1000000
theorem tr6_calls (w0 : World) (Z : Nat → Prop) (hZ : ∀ k, Z k → k < w0.heap.size) (cg : Nat) (ce : Int) (cn : Int) (cAA : Option Addr) (cAc : Nat) (cA : List Nd) (crA : Option Addr) (crc : Nat) (cr : List Nd) (uag : Nat) (ubg : Nat) (ubx : Int) (ucg : Nat) (ucz : Int) (hShp : Shapes w0 Z) (hc : (Res.box cg 110 [.int .i64 (ce), .int .i64 (cn), .slice cAA cA.length cAc, .slice crA cr.length crc]).holds w0) (hcz : ¬ Z cg) (hcA : (dRow 4 cAA cA.length cAc (encNs cA)).φ w0 Z) (hcr : (dRow 4 crA cr.length crc (encNs cr)).φ w0 Z) (huaQ : (dBox uag [.pointer (some ⟨cg, 0, none⟩)]).φ w0 Z) (hubQ : (dBox ubg [.int .i64 (ubx)]).φ w0 Z) (hucQ : (dBox ucg [.int .i64 (ucz)]).φ w0 Z) (hsr : sml cr := by first | assumption | omega | (simp <;> omega)) (hlr : cr.length ≤ 5000 := by first | assumption | omega | (simp <;> omega)) (hsA : sml cA := by first | assumption | omega | (simp <;> omega)) (hlA : cA.length ≤ 5000 := by first | assumption | omega | (simp <;> omega)) (hbcn : -100 ≤ cn ∧ cn ≤ 100 := by first | assumption | omega | (simp <;> omega)) (hbubx : -100 ≤ ubx ∧ ubx ≤ 100 := by first | assumption | omega | (simp <;> omega)) (hbucz : -100 ≤ ucz ∧ ucz ≤ 100 := by first | assumption | omega | (simp <;> omega)) :
    Calls Tryz.prog 47 [.pointer (some ⟨uag, 0, none⟩), .pointer (some ⟨ubg, 0, none⟩), .pointer (some ⟨ucg, 0, none⟩)].toArray w0 (fun e w' => ∃ (rA0 : Option Addr) (rc0 : Nat) (rL0 : List Nd), e = .returned (.slice rA0 rL0.length rc0) ∧ Fr (· = cg) w0 w' ∧ (Res.box cg 110 [.int .i64 (((tr6 ce cn cr ubx ucz).2)), .int .i64 (cn), .slice cAA cA.length cAc, .slice crA cr.length crc]).holds w' ∧ (dRow 4 rA0 rL0.length rc0 (encNs rL0)).φ w' (nxt Z w0 w') ∧ rL0 = (tr6 ce cn cr ubx ucz).1) := by
 have b0 := sM hc hcz hZ (zc (d := dShapes) hShp (zc hcA (zc hcr (zc huaQ (zc hubQ (zc hucQ zn))))))
 refine c_enter Tryz.func47 rfl Tryz.ntmps47 rfl fun c0 d0 => ?_
 refine wsc fun c0 f0 => aw d0 f0 fun c0 h0 => ?_
 refine wsc fun f0 c0 => m_loadC sv h0 rfl rfl rfl (dbox_cell (b0.get (i := 3) rfl) rfl) Tryz.underlying81 rfl (by decide) fun f0 d0 => ?_
 refine m_loadC sv d0 rfl rfl rfl (dbox_cell (b0.get (i := 4) rfl) rfl) Tryz.underlying3 rfl (by decide) fun f0 h0 => ?_
 refine m_loadC sv h0 rfl rfl rfl (dbox_cell (b0.get (i := 5) rfl) rfl) Tryz.underlying3 rfl (by decide) fun f0 d0 => ?_
 have f0 := b0.nf
 refine kcl d0 ok48 (of_calls _ _ f0.il _ _ _ _ _ _ _ _ _ (ubx) (ucz) (f0.g 0) (f0.z 0) (imm_box (i := 0) rfl) (f0.g 1) (f0.g 2)) ?_
 rintro d0 b0 ⟨h0, i0, j0, rfl, k0, m0, n0, o0⟩
 have b0 := f0.callM (i := 0) rfl k0 m0
 have m0 := f0.dM 0 b0 n0
 refine ⟨_, rfl, fun b0 n0 => ?_⟩
 refine aw n0 c0 fun b0 f0 => ?_
 refine wp_ret <| er1 f0 ?_
 refine ⟨h0, i0, j0, ?_, m0.fr, (by rw [show ((tr6 ce cn cr ubx ucz).2 : Int) = ((relE (ce) (cn) cr (ubx) (ucz))) by (first | rfl | (simp only [lsts_nth, *]; done) | (simp only [lsts_nth, *]; rfl))]; exact m0.res (i := 0) rfl), m0.rx 6, (by exact o0)⟩
 exact cre (ret_s (by rfl))
theorem wh6_calls (w0 : World) (Z : Nat → Prop) (hZ : ∀ k, Z k → k < w0.heap.size) (cg : Nat) (ce : Int) (cn : Int) (cAA : Option Addr) (cAc : Nat) (cA : List Nd) (crA : Option Addr) (crc : Nat) (cr : List Nd) (qq : Int) (vg : Nat) (vfpg : Nat) (vfqg : Nat) (vfqx : Int) (vfrg : Nat) (vfrz : Int) (hShp : Shapes w0 Z) (hc : (Res.box cg 110 [.int .i64 (ce), .int .i64 (cn), .slice cAA cA.length cAc, .slice crA cr.length crc]).holds w0) (hcz : ¬ Z cg) (hcA : (dRow 4 cAA cA.length cAc (encNs cA)).φ w0 Z) (hcr : (dRow 4 crA cr.length crc (encNs cr)).φ w0 Z) (hvfpQ : (dBox vfpg [.pointer (some ⟨cg, 0, none⟩)]).φ w0 Z) (hvfqQ : (dBox vfqg [.int .i64 (vfqx)]).φ w0 Z) (hvfrQ : (dBox vfrg [.int .i64 (vfrz)]).φ w0 Z) (hvQ : (dBox vg [.func (.func 47) #[] #[.pointer (some ⟨vfpg, 0, none⟩), .pointer (some ⟨vfqg, 0, none⟩), .pointer (some ⟨vfrg, 0, none⟩)]]).φ w0 Z) (hsr : sml cr := by first | assumption | omega | (simp <;> omega)) (hlr : cr.length ≤ 5000 := by first | assumption | omega | (simp <;> omega)) (hsA : sml cA := by first | assumption | omega | (simp <;> omega)) (hlA : cA.length ≤ 5000 := by first | assumption | omega | (simp <;> omega)) (hbcn : -97 ≤ cn ∧ cn ≤ 97 := by first | assumption | omega | (simp <;> omega)) (hbvfqx : -97 ≤ vfqx ∧ vfqx ≤ 97 := by first | assumption | omega | (simp <;> omega)) (hbvfrz : -97 ≤ vfrz ∧ vfrz ≤ 97 := by first | assumption | omega | (simp <;> omega)) :
    Calls Tryz.prog 74 [.int .i64 qq, .pointer (some ⟨vg, 0, none⟩)].toArray w0 (fun e w' => ∃ (rA0 : Option Addr) (rc0 : Nat) (rL0 : List Nd), e = .returned (.slice rA0 rL0.length rc0) ∧ Fr (· = cg) w0 w' ∧ (Res.box cg 110 [.int .i64 (((tr6 ce cn cr vfqx vfrz).2)), .int .i64 (cn), .slice cAA cA.length cAc, .slice crA cr.length crc]).holds w' ∧ (dRow 4 rA0 rL0.length rc0 (encNs rL0)).φ w' (nxt Z w0 w') ∧ rL0 = (tr6 ce cn cr vfqx vfrz).1) := by
 have b0 := sM hc hcz hZ (zc (d := dShapes) hShp (zc hcA (zc hcr (zc hvfpQ (zc hvfqQ (zc hvfrQ (zc hvQ zn)))))))
 refine c_enter Tryz.func74 rfl Tryz.ntmps74 rfl fun c0 d0 => ?_
 refine wsc fun c0 f0 => aw d0 f0 fun c0 h0 => ?_
 refine wsc fun f0 c0 => m_loadC sv h0 rfl rfl rfl (dbox_cell (b0.get (i := 6) rfl) rfl) Tryz.underlying85 rfl (by decide) fun f0 d0 => ?_
 have f0 := b0.nf
 refine k_callV (xs := []) se d0 rfl rfl rfl rfl (by decide) ok47 (tr6_calls _ _ f0.il _ _ _ _ _ _ _ _ _ vfpg vfqg (vfqx) vfrg (vfrz) (f0.g 0) (f0.z 0) (imm_box (i := 0) rfl) (f0.g 1) (f0.g 2) (f0.g 3) (f0.g 4) (f0.g 5)) ?_
 rintro d0 b0 ⟨h0, i0, j0, rfl, k0, m0, n0, o0⟩
 have b0 := f0.callM (i := 0) rfl k0 m0
 have m0 := f0.dM 0 b0 n0
 refine ⟨_, rfl, fun b0 n0 => ?_⟩
 refine aw n0 c0 fun b0 f0 => ?_
 refine wp_ret <| er1 f0 ?_
 refine ⟨h0, i0, j0, ?_, m0.fr, (by rw [show ((tr6 ce cn cr vfqx vfrz).2 : Int) = (((tr6 (ce) (cn) cr (vfqx) (vfrz)).2)) by (first | rfl | (simp only [lsts_nth, *]; done) | (simp only [lsts_nth, *]; rfl))]; exact m0.res (i := 0) rfl), m0.rx 7, (by exact o0)⟩
 exact cre (ret_s (by rfl))
theorem pi6_calls (w0 : World) (Z : Nat → Prop) (hZ : ∀ k, Z k → k < w0.heap.size) (cg : Nat) (ce : Int) (cn : Int) (cAA : Option Addr) (cAc : Nat) (cA : List Nd) (crA : Option Addr) (crc : Nat) (cr : List Nd) (mm : Int) (dA : Option Addr) (dc : Nat) (d : List Nd) (vvpg : Nat) (vvpfpg : Nat) (vvpfqg : Nat) (vvpfqx : Int) (vvpfrg : Nat) (vvpfrz : Int) (hShp : Shapes w0 Z) (hc : (Res.box cg 110 [.int .i64 (ce), .int .i64 (cn), .slice cAA cA.length cAc, .slice crA cr.length crc]).holds w0) (hcz : ¬ Z cg) (hcA : (dRow 4 cAA cA.length cAc (encNs cA)).φ w0 Z) (hcr : (dRow 4 crA cr.length crc (encNs cr)).φ w0 Z) (hd : (dRow 4 dA d.length dc (encNs d)).φ w0 Z) (hvvpfpQ : (dBox vvpfpg [.pointer (some ⟨cg, 0, none⟩)]).φ w0 Z) (hvvpfqQ : (dBox vvpfqg [.int .i64 (vvpfqx)]).φ w0 Z) (hvvpfrQ : (dBox vvpfrg [.int .i64 (vvpfrz)]).φ w0 Z) (hvvpQ : (dBox vvpg [.func (.func 47) #[] #[.pointer (some ⟨vvpfpg, 0, none⟩), .pointer (some ⟨vvpfqg, 0, none⟩), .pointer (some ⟨vvpfrg, 0, none⟩)]]).φ w0 Z) (hsr : sml cr := by first | assumption | omega | (simp <;> omega)) (hlr : cr.length ≤ 5000 := by first | assumption | omega | (simp <;> omega)) (hsA : sml cA := by first | assumption | omega | (simp <;> omega)) (hlA : cA.length ≤ 5000 := by first | assumption | omega | (simp <;> omega)) (hbcn : -95 ≤ cn ∧ cn ≤ 95 := by first | assumption | omega | (simp <;> omega)) (hbvvpfqx : -95 ≤ vvpfqx ∧ vvpfqx ≤ 95 := by first | assumption | omega | (simp <;> omega)) (hbvvpfrz : -95 ≤ vvpfrz ∧ vvpfrz ≤ 95 := by first | assumption | omega | (simp <;> omega)) (hsd : sml d := by first | assumption | omega | (simp <;> omega)) (hld : d.length ≤ 20000 := by first | assumption | omega | (simp <;> omega)) :
    Calls Tryz.prog 57 [.pointer (some ⟨cg, 0, none⟩), .int .i64 mm, .slice dA d.length dc, .func (.func 74) #[] #[.pointer (some ⟨vvpg, 0, none⟩)]].toArray w0 (fun e w' => ∃ (rA0 : Option Addr) (rc0 : Nat) (rL0 : List Nd), e = .returned (.slice rA0 rL0.length rc0) ∧ Fr (· = cg) w0 w' ∧ (Res.box cg 110 [.int .i64 (((piP (tr6 ce (cn + 1) cr vvpfqx vvpfrz) mm d).2)), .int .i64 (cn), .slice cAA cA.length cAc, .slice crA cr.length crc]).holds w' ∧ (dRow 4 rA0 rL0.length rc0 (encNs rL0)).φ w' (nxt Z w0 w') ∧ rL0 = (piP (tr6 ce (cn + 1) cr vvpfqx vvpfrz) mm d).1) := by
 have b0 := sM hc hcz hZ (zc (d := dShapes) hShp (zc hcA (zc hcr (zc hd (zc hvvpfpQ (zc hvvpfqQ (zc hvvpfrQ (zc hvvpQ zn))))))))
 refine c_enter Tryz.func57 rfl Tryz.ntmps57 rfl fun c0 d0 => ?_
 refine wsc fun c0 f0 => aw d0 f0 fun c0 h0 => ?_
 refine wsc fun f0 c0 => lR h0 fun f0 d0 => ?_
 refine adi (cn + 1) d0 fun f0 h0 => ?_
 refine lR h0 fun f0 d0 => ?_
 refine sto 0 d0 b0 fun f0 h0 i0 j0 => ?_
 refine wn c0 <| wsc fun c0 h0 => lR i0 fun c0 f0 => ?_
 have c0 := j0.nf
 refine k_callV (xs := [.tmp 21]) se f0 rfl rfl rfl rfl (by decide) ok74 (wh6_calls _ _ c0.il _ _ _ _ _ _ _ _ _ (cn + 1) vvpg vvpfpg vvpfqg (vvpfqx) vvpfrg (vvpfrz) (c0.g 0) (c0.z 0) (imm_box (i := 0) rfl) (c0.g 1) (c0.g 2) (c0.g 4) (c0.g 5) (c0.g 6) (c0.g 7)) ?_
 rintro f0 j0 ⟨i0, d0, b0, rfl, k0, m0, n0, o0⟩
 have j0 := c0.callM (i := 0) rfl k0 m0
 have m0 := c0.dM 0 j0 n0
 refine ⟨_, rfl, fun j0 n0 => ?_⟩
 obtain ⟨j0, c0⟩ := (show b0.length ≤ 30000 ∧ sml b0 by rw [o0]; have zz := tr6_Z (e := ce) (a := cn + 1) (x := vvpfqx) (z := vvpfrz) hsr; exact ⟨by omega, zz.2⟩)
 refine aw n0 h0 fun c0 j0 => ?_
 refine wsc fun h0 c0 => lR j0 fun h0 n0 => ?_
 refine sbi (cn) n0 fun h0 j0 => ?_
 refine lR j0 fun h0 n0 => ?_
 refine sto 0 n0 m0 fun h0 j0 o0 k0 => ?_
 refine wn c0 <| wsc fun c0 j0 => lR o0 fun c0 h0 => ?_
 refine bld h0 fun c0 o0 => ?_
 refine lR o0 fun c0 h0 => ?_
 have c0 := k0.data (dAll [((dA, dc, d) : Sl), ((i0, d0, b0) : Sl)]) (all_cons (k0.get (i := 3) rfl) (all_cons (k0.get (i := 8) rfl) all_nil))
 refine bsl h0 c0 fun k0 o0 n0 m0 f0 => ?_
 have o0 := f0.nf
 have f0 := own_cap (o0.res (i := 1) rfl)
 obtain ⟨k0, c0⟩ := o0.row_dataM (i := 1) rfl (j := 0) rfl (by decide)
 have o0 := k0.data (dRow 1 (some ⟨n0, 0, none⟩) 2 2 (encSs ([((dA, dc, d) : Sl), ((i0, d0, b0) : Sl)]))) ⟨f0, c0⟩
 refine kcl m0 ok96 (node_calls _ _ o0.il _ _ _ _ (⟨3, (mm), 0, (⟨#[]⟩ : ByteArray)⟩ : Nd) _ _ ([((dA, dc, d) : Sl), ((i0, d0, b0) : Sl)]) (o0.z 0) (imm_box (i := 0) rfl) (o0.g 10) (o0.g 9) (hb := (by simp; omega))) ?_
 rintro m0 b0 ⟨d0, i0, c0, rfl, k0, f0, n0, h0⟩
 have h0 := o0.callM (i := 0) rfl k0 f0
 have f0 := o0.dM 0 h0 n0
 refine ⟨_, rfl, fun h0 n0 => ?_⟩
 refine aw n0 j0 fun h0 o0 => ?_
 refine wp_ret <| er1 o0 ?_
 refine ⟨d0, i0, c0, ?_, f0.fr, (by rw [show ((piP (tr6 ce (cn + 1) cr vvpfqx vvpfrz) mm d).2 : Int) = ((((tr6 (ce) (cn + 1) cr (vvpfqx) (vvpfrz)).2))) by (first | rfl | (simp only [lsts_nth, *]; done) | (simp only [lsts_nth, *]; rfl))]; exact f0.res (i := 0) rfl), f0.rx 11, (by (simp only [lsts_nth, *]; rfl))⟩
 exact cre (ret_s (by rfl))
theorem tr5_calls (w0 : World) (Z : Nat → Prop) (hZ : ∀ k, Z k → k < w0.heap.size) (cg : Nat) (ce : Int) (cn : Int) (cAA : Option Addr) (cAc : Nat) (cA : List Nd) (crA : Option Addr) (crc : Nat) (cr : List Nd) (uag : Nat) (ubg : Nat) (uby : Int) (ucg : Nat) (ucz : Int) (udg : Nat) (udx : Int) (hShp : Shapes w0 Z) (hc : (Res.box cg 110 [.int .i64 (ce), .int .i64 (cn), .slice cAA cA.length cAc, .slice crA cr.length crc]).holds w0) (hcz : ¬ Z cg) (hcA : (dRow 4 cAA cA.length cAc (encNs cA)).φ w0 Z) (hcr : (dRow 4 crA cr.length crc (encNs cr)).φ w0 Z) (huaQ : (dBox uag [.pointer (some ⟨cg, 0, none⟩)]).φ w0 Z) (hubQ : (dBox ubg [.int .i64 (uby)]).φ w0 Z) (hucQ : (dBox ucg [.int .i64 (ucz)]).φ w0 Z) (hudQ : (dBox udg [.int .i64 (udx)]).φ w0 Z) (hsr : sml cr := by first | assumption | omega | (simp <;> omega)) (hlr : cr.length ≤ 5000 := by first | assumption | omega | (simp <;> omega)) (hsA : sml cA := by first | assumption | omega | (simp <;> omega)) (hlA : cA.length ≤ 5000 := by first | assumption | omega | (simp <;> omega)) (hbcn : -90 ≤ cn ∧ cn ≤ 90 := by first | assumption | omega | (simp <;> omega)) (hbuby : -90 ≤ uby ∧ uby ≤ 90 := by first | assumption | omega | (simp <;> omega)) (hbucz : -90 ≤ ucz ∧ ucz ≤ 90 := by first | assumption | omega | (simp <;> omega)) (hbudx : -90 ≤ udx ∧ udx ≤ 90 := by first | assumption | omega | (simp <;> omega)) :
    Calls Tryz.prog 46 [.pointer (some ⟨uag, 0, none⟩), .pointer (some ⟨ubg, 0, none⟩), .pointer (some ⟨ucg, 0, none⟩), .pointer (some ⟨udg, 0, none⟩)].toArray w0 (fun e w' => ∃ (rA0 : Option Addr) (rc0 : Nat) (rL0 : List Nd), e = .returned (.slice rA0 rL0.length rc0) ∧ Fr (· = cg) w0 w' ∧ (Res.box cg 110 [.int .i64 (((tr5 ce cn cr udx uby ucz).2)), .int .i64 (cn), .slice cAA cA.length cAc, .slice crA cr.length crc]).holds w' ∧ (dRow 4 rA0 rL0.length rc0 (encNs rL0)).φ w' (nxt Z w0 w') ∧ rL0 = (tr5 ce cn cr udx uby ucz).1) := by
 have b0 := sM hc hcz hZ (zc (d := dShapes) hShp (zc hcA (zc hcr (zc huaQ (zc hubQ (zc hucQ (zc hudQ zn)))))))
 refine c_enter Tryz.func46 rfl Tryz.ntmps46 rfl fun c0 d0 => ?_
 refine wsc fun c0 f0 => aw d0 f0 fun c0 h0 => ?_
 refine wsc fun f0 c0 => m_loadC sv h0 rfl rfl rfl (dbox_cell (b0.get (i := 3) rfl) rfl) Tryz.underlying81 rfl (by decide) fun f0 d0 => ?_
 refine m_loadC sv d0 rfl rfl rfl (dbox_cell (b0.get (i := 4) rfl) rfl) Tryz.underlying3 rfl (by decide) fun f0 h0 => ?_
 refine m_loadC sv h0 rfl rfl rfl (dbox_cell (b0.get (i := 5) rfl) rfl) Tryz.underlying3 rfl (by decide) fun f0 d0 => ?_
 refine r_makeFunc sv d0 rfl rfl rfl (by decide) fun f0 h0 => ?_
 refine k_inl (xs := [.tmp 5, .tmp 6, .tmp 7, .tmp 8]) se h0 rfl rfl rfl (by decide) ok45 ?_
 refine c_enter (vs := [.pointer (some ⟨cg, 0, none⟩), .int .i64 (uby), .int .i64 (ucz), .func (.func 47) #[] #[.pointer (some ⟨uag, 0, none⟩), .pointer (some ⟨udg, 0, none⟩), .pointer (some ⟨ucg, 0, none⟩)]]) Tryz.func45 rfl Tryz.ntmps45 rfl fun h0 f0 => ?_
 refine wsc fun h0 d0 => bxx f0 b0 fun h0 i0 j0 k0 m0 => ?_
 refine aw k0 d0 fun i0 h0 => ?_
 refine wp_seq_k fun d0 i0 => ?_
 obtain ⟨d0, k0⟩ := m0.box_dataX (i := 1) rfl (j := 0) rfl (by decide)
 have m0 := d0.data (dBox j0 [.func (.func 47) #[] #[.pointer (some ⟨uag, 0, none⟩), .pointer (some ⟨udg, 0, none⟩), .pointer (some ⟨ucg, 0, none⟩)]]) k0
 have k0 := m0.nf
 obtain ⟨m0, d0, f0⟩ := k0.agree
 refine d_reg3 (n := 10) f0 8 (pB 0 1 pn) (pan_then pan_body) fun d0 m0 k0 b0 n0 o0 => ?_
 refine dR [0, 1, 2, 3, 4, 5] h0 fun b0 d0 => ?_
 refine dt 7 rfl m0 d0 (want_n rfl) (fun x hx => r_makeFunc (sy d0) d0 rfl rfl rfl (by decide) gt) o0 fun b0 h0 => ?_
 refine d1 6 ?_
 have b0 := n0.nf
 refine kcl h0 ok48 (of_calls _ _ b0.il _ _ _ _ _ _ _ _ _ (uby) (ucz) (b0.g 0) (b0.z 0) (imm_box (i := 0) rfl) (b0.g 1) (b0.g 2)) ?_
 rintro h0 n0 ⟨d0, o0, m0, rfl, f0, p0, q0, s0⟩
 have o0 := b0.callM (i := 0) rfl f0 p0
 have p0 := b0.dM 0 o0 q0
 refine ⟨_, rfl, fun o0 q0 => ?_⟩
 obtain ⟨o0, b0⟩ : m0.length ≤ 4000 ∧ sml m0 := by rw [s0]; exact ⟨relL_len, relL_sml hsr⟩
 have b0 := sWI p0 8 (pB 0 1 pn)
 refine ⟨b0, ?_⟩
 refine d1 8 ?_
 have b0 := p0.nf
 refine kcl q0 ok57 (pi6_calls _ _ b0.il _ _ _ _ _ _ _ _ _ 3 _ _ _ j0 uag udg (udx) ucg (ucz) (b0.g 0) (b0.z 0) (imm_box (i := 0) rfl) (b0.g 1) (b0.g 2) (b0.g 9) (b0.g 3) (b0.g 6) (b0.g 5) (b0.g 7)) ?_
 rintro q0 j0 ⟨p0, o0, s0, rfl, f0, d0, n0, h0⟩
 have h0 := b0.callM (i := 0) rfl f0 d0
 have d0 := b0.dM 0 h0 n0
 refine ⟨_, rfl, fun h0 n0 => ?_⟩
 have h0 := sWI d0 8 (pB 0 1 pn)
 refine ⟨h0, ?_⟩
 refine dR [9] n0 fun h0 b0 => ?_
 refine wpAnyH_done (by kernel_rfl) (k0 _ _ ?_) _
 refine xn i0 <| wp_ret <| er1 b0 ?_
 refine ⟨_, rfl, fun b0 i0 => ?_⟩
 refine aw i0 c0 fun b0 k0 => ?_
 refine wp_ret <| er1 k0 ?_
 refine ⟨p0, o0, s0, ?_, d0.fr, (by rw [show ((tr5 ce cn cr udx uby ucz).2 : Int) = (((piP (tr6 ((relE (ce) (cn) cr (uby) (ucz))) ((cn) + 1) cr (udx) (ucz)) 3 m0).2)) by (first | rfl | (simp only [lsts_nth, *]; done) | (simp only [lsts_nth, *]; rfl))]; exact d0.res (i := 0) rfl), d0.rx 10, (by (simp only [lsts_nth, *]; rfl))⟩
 exact cre (ret_s (by rfl))
theorem wh5_calls (w0 : World) (Z : Nat → Prop) (hZ : ∀ k, Z k → k < w0.heap.size) (cg : Nat) (ce : Int) (cn : Int) (cAA : Option Addr) (cAc : Nat) (cA : List Nd) (crA : Option Addr) (crc : Nat) (cr : List Nd) (qq : Int) (vg : Nat) (vfpg : Nat) (vfqg : Nat) (vfqy : Int) (vfrg : Nat) (vfrz : Int) (vfsg : Nat) (vfsx : Int) (hShp : Shapes w0 Z) (hc : (Res.box cg 110 [.int .i64 (ce), .int .i64 (cn), .slice cAA cA.length cAc, .slice crA cr.length crc]).holds w0) (hcz : ¬ Z cg) (hcA : (dRow 4 cAA cA.length cAc (encNs cA)).φ w0 Z) (hcr : (dRow 4 crA cr.length crc (encNs cr)).φ w0 Z) (hvfpQ : (dBox vfpg [.pointer (some ⟨cg, 0, none⟩)]).φ w0 Z) (hvfqQ : (dBox vfqg [.int .i64 (vfqy)]).φ w0 Z) (hvfrQ : (dBox vfrg [.int .i64 (vfrz)]).φ w0 Z) (hvfsQ : (dBox vfsg [.int .i64 (vfsx)]).φ w0 Z) (hvQ : (dBox vg [.func (.func 46) #[] #[.pointer (some ⟨vfpg, 0, none⟩), .pointer (some ⟨vfqg, 0, none⟩), .pointer (some ⟨vfrg, 0, none⟩), .pointer (some ⟨vfsg, 0, none⟩)]]).φ w0 Z) (hsr : sml cr := by first | assumption | omega | (simp <;> omega)) (hlr : cr.length ≤ 5000 := by first | assumption | omega | (simp <;> omega)) (hsA : sml cA := by first | assumption | omega | (simp <;> omega)) (hlA : cA.length ≤ 5000 := by first | assumption | omega | (simp <;> omega)) (hbcn : -87 ≤ cn ∧ cn ≤ 87 := by first | assumption | omega | (simp <;> omega)) (hbvfqy : -87 ≤ vfqy ∧ vfqy ≤ 87 := by first | assumption | omega | (simp <;> omega)) (hbvfrz : -87 ≤ vfrz ∧ vfrz ≤ 87 := by first | assumption | omega | (simp <;> omega)) (hbvfsx : -87 ≤ vfsx ∧ vfsx ≤ 87 := by first | assumption | omega | (simp <;> omega)) :
    Calls Tryz.prog 74 [.int .i64 qq, .pointer (some ⟨vg, 0, none⟩)].toArray w0 (fun e w' => ∃ (rA0 : Option Addr) (rc0 : Nat) (rL0 : List Nd), e = .returned (.slice rA0 rL0.length rc0) ∧ Fr (· = cg) w0 w' ∧ (Res.box cg 110 [.int .i64 (((tr5 ce cn cr vfsx vfqy vfrz).2)), .int .i64 (cn), .slice cAA cA.length cAc, .slice crA cr.length crc]).holds w' ∧ (dRow 4 rA0 rL0.length rc0 (encNs rL0)).φ w' (nxt Z w0 w') ∧ rL0 = (tr5 ce cn cr vfsx vfqy vfrz).1) := by
 have b0 := sM hc hcz hZ (zc (d := dShapes) hShp (zc hcA (zc hcr (zc hvfpQ (zc hvfqQ (zc hvfrQ (zc hvfsQ (zc hvQ zn))))))))
 refine c_enter Tryz.func74 rfl Tryz.ntmps74 rfl fun c0 d0 => ?_
 refine wsc fun c0 f0 => aw d0 f0 fun c0 h0 => ?_
 refine wsc fun f0 c0 => m_loadC sv h0 rfl rfl rfl (dbox_cell (b0.get (i := 7) rfl) rfl) Tryz.underlying85 rfl (by decide) fun f0 d0 => ?_
 have f0 := b0.nf
 refine k_callV (xs := []) se d0 rfl rfl rfl rfl (by decide) ok46 (tr5_calls _ _ f0.il _ _ _ _ _ _ _ _ _ vfpg vfqg (vfqy) vfrg (vfrz) vfsg (vfsx) (f0.g 0) (f0.z 0) (imm_box (i := 0) rfl) (f0.g 1) (f0.g 2) (f0.g 3) (f0.g 4) (f0.g 5) (f0.g 6)) ?_
 rintro d0 b0 ⟨h0, i0, j0, rfl, k0, m0, n0, o0⟩
 have b0 := f0.callM (i := 0) rfl k0 m0
 have m0 := f0.dM 0 b0 n0
 refine ⟨_, rfl, fun b0 n0 => ?_⟩
 refine aw n0 c0 fun b0 f0 => ?_
 refine wp_ret <| er1 f0 ?_
 refine ⟨h0, i0, j0, ?_, m0.fr, (by rw [show ((tr5 ce cn cr vfsx vfqy vfrz).2 : Int) = (((tr5 (ce) (cn) cr (vfsx) (vfqy) (vfrz)).2)) by (first | rfl | (simp only [lsts_nth, *]; done) | (simp only [lsts_nth, *]; rfl))]; exact m0.res (i := 0) rfl), m0.rx 8, (by exact o0)⟩
 exact cre (ret_s (by rfl))
theorem pi5_calls (w0 : World) (Z : Nat → Prop) (hZ : ∀ k, Z k → k < w0.heap.size) (cg : Nat) (ce : Int) (cn : Int) (cAA : Option Addr) (cAc : Nat) (cA : List Nd) (crA : Option Addr) (crc : Nat) (cr : List Nd) (mm : Int) (dA : Option Addr) (dc : Nat) (d : List Nd) (vvpg : Nat) (vvpfpg : Nat) (vvpfqg : Nat) (vvpfqy : Int) (vvpfrg : Nat) (vvpfrz : Int) (vvpfsg : Nat) (vvpfsx : Int) (hShp : Shapes w0 Z) (hc : (Res.box cg 110 [.int .i64 (ce), .int .i64 (cn), .slice cAA cA.length cAc, .slice crA cr.length crc]).holds w0) (hcz : ¬ Z cg) (hcA : (dRow 4 cAA cA.length cAc (encNs cA)).φ w0 Z) (hcr : (dRow 4 crA cr.length crc (encNs cr)).φ w0 Z) (hd : (dRow 4 dA d.length dc (encNs d)).φ w0 Z) (hvvpfpQ : (dBox vvpfpg [.pointer (some ⟨cg, 0, none⟩)]).φ w0 Z) (hvvpfqQ : (dBox vvpfqg [.int .i64 (vvpfqy)]).φ w0 Z) (hvvpfrQ : (dBox vvpfrg [.int .i64 (vvpfrz)]).φ w0 Z) (hvvpfsQ : (dBox vvpfsg [.int .i64 (vvpfsx)]).φ w0 Z) (hvvpQ : (dBox vvpg [.func (.func 46) #[] #[.pointer (some ⟨vvpfpg, 0, none⟩), .pointer (some ⟨vvpfqg, 0, none⟩), .pointer (some ⟨vvpfrg, 0, none⟩), .pointer (some ⟨vvpfsg, 0, none⟩)]]).φ w0 Z) (hsr : sml cr := by first | assumption | omega | (simp <;> omega)) (hlr : cr.length ≤ 5000 := by first | assumption | omega | (simp <;> omega)) (hsA : sml cA := by first | assumption | omega | (simp <;> omega)) (hlA : cA.length ≤ 5000 := by first | assumption | omega | (simp <;> omega)) (hbcn : -85 ≤ cn ∧ cn ≤ 85 := by first | assumption | omega | (simp <;> omega)) (hbvvpfqy : -85 ≤ vvpfqy ∧ vvpfqy ≤ 85 := by first | assumption | omega | (simp <;> omega)) (hbvvpfrz : -85 ≤ vvpfrz ∧ vvpfrz ≤ 85 := by first | assumption | omega | (simp <;> omega)) (hbvvpfsx : -85 ≤ vvpfsx ∧ vvpfsx ≤ 85 := by first | assumption | omega | (simp <;> omega)) (hsd : sml d := by first | assumption | omega | (simp <;> omega)) (hld : d.length ≤ 20000 := by first | assumption | omega | (simp <;> omega)) :
    Calls Tryz.prog 57 [.pointer (some ⟨cg, 0, none⟩), .int .i64 mm, .slice dA d.length dc, .func (.func 74) #[] #[.pointer (some ⟨vvpg, 0, none⟩)]].toArray w0 (fun e w' => ∃ (rA0 : Option Addr) (rc0 : Nat) (rL0 : List Nd), e = .returned (.slice rA0 rL0.length rc0) ∧ Fr (· = cg) w0 w' ∧ (Res.box cg 110 [.int .i64 (((piP (tr5 ce (cn + 1) cr vvpfsx vvpfqy vvpfrz) mm d).2)), .int .i64 (cn), .slice cAA cA.length cAc, .slice crA cr.length crc]).holds w' ∧ (dRow 4 rA0 rL0.length rc0 (encNs rL0)).φ w' (nxt Z w0 w') ∧ rL0 = (piP (tr5 ce (cn + 1) cr vvpfsx vvpfqy vvpfrz) mm d).1) := by
 have b0 := sM hc hcz hZ (zc (d := dShapes) hShp (zc hcA (zc hcr (zc hd (zc hvvpfpQ (zc hvvpfqQ (zc hvvpfrQ (zc hvvpfsQ (zc hvvpQ zn)))))))))
 refine c_enter Tryz.func57 rfl Tryz.ntmps57 rfl fun c0 d0 => ?_
 refine wsc fun c0 f0 => aw d0 f0 fun c0 h0 => ?_
 refine wsc fun f0 c0 => lR h0 fun f0 d0 => ?_
 refine adi (cn + 1) d0 fun f0 h0 => ?_
 refine lR h0 fun f0 d0 => ?_
 refine sto 0 d0 b0 fun f0 h0 i0 j0 => ?_
 refine wn c0 <| wsc fun c0 h0 => lR i0 fun c0 f0 => ?_
 have c0 := j0.nf
 refine k_callV (xs := [.tmp 21]) se f0 rfl rfl rfl rfl (by decide) ok74 (wh5_calls _ _ c0.il _ _ _ _ _ _ _ _ _ (cn + 1) vvpg vvpfpg vvpfqg (vvpfqy) vvpfrg (vvpfrz) vvpfsg (vvpfsx) (c0.g 0) (c0.z 0) (imm_box (i := 0) rfl) (c0.g 1) (c0.g 2) (c0.g 4) (c0.g 5) (c0.g 6) (c0.g 7) (c0.g 8)) ?_
 rintro f0 j0 ⟨i0, d0, b0, rfl, k0, m0, n0, o0⟩
 have j0 := c0.callM (i := 0) rfl k0 m0
 have m0 := c0.dM 0 j0 n0
 refine ⟨_, rfl, fun j0 n0 => ?_⟩
 obtain ⟨j0, c0⟩ := (show b0.length ≤ 30000 ∧ sml b0 by rw [o0]; have zz := tr5_Z (e := ce) (a := cn + 1) (x := vvpfsx) (y := vvpfqy) (z := vvpfrz) hsr; exact ⟨by omega, zz.2⟩)
 refine aw n0 h0 fun c0 j0 => ?_
 refine wsc fun h0 c0 => lR j0 fun h0 n0 => ?_
 refine sbi (cn) n0 fun h0 j0 => ?_
 refine lR j0 fun h0 n0 => ?_
 refine sto 0 n0 m0 fun h0 j0 o0 k0 => ?_
 refine wn c0 <| wsc fun c0 j0 => lR o0 fun c0 h0 => ?_
 refine bld h0 fun c0 o0 => ?_
 refine lR o0 fun c0 h0 => ?_
 have c0 := k0.data (dAll [((dA, dc, d) : Sl), ((i0, d0, b0) : Sl)]) (all_cons (k0.get (i := 3) rfl) (all_cons (k0.get (i := 9) rfl) all_nil))
 refine bsl h0 c0 fun k0 o0 n0 m0 f0 => ?_
 have o0 := f0.nf
 have f0 := own_cap (o0.res (i := 1) rfl)
 obtain ⟨k0, c0⟩ := o0.row_dataM (i := 1) rfl (j := 0) rfl (by decide)
 have o0 := k0.data (dRow 1 (some ⟨n0, 0, none⟩) 2 2 (encSs ([((dA, dc, d) : Sl), ((i0, d0, b0) : Sl)]))) ⟨f0, c0⟩
 refine kcl m0 ok96 (node_calls _ _ o0.il _ _ _ _ (⟨3, (mm), 0, (⟨#[]⟩ : ByteArray)⟩ : Nd) _ _ ([((dA, dc, d) : Sl), ((i0, d0, b0) : Sl)]) (o0.z 0) (imm_box (i := 0) rfl) (o0.g 11) (o0.g 10) (hb := (by simp; omega))) ?_
 rintro m0 b0 ⟨d0, i0, c0, rfl, k0, f0, n0, h0⟩
 have h0 := o0.callM (i := 0) rfl k0 f0
 have f0 := o0.dM 0 h0 n0
 refine ⟨_, rfl, fun h0 n0 => ?_⟩
 refine aw n0 j0 fun h0 o0 => ?_
 refine wp_ret <| er1 o0 ?_
 refine ⟨d0, i0, c0, ?_, f0.fr, (by rw [show ((piP (tr5 ce (cn + 1) cr vvpfsx vvpfqy vvpfrz) mm d).2 : Int) = ((((tr5 (ce) (cn + 1) cr (vvpfsx) (vvpfqy) (vvpfrz)).2))) by (first | rfl | (simp only [lsts_nth, *]; done) | (simp only [lsts_nth, *]; rfl))]; exact f0.res (i := 0) rfl), f0.rx 12, (by (simp only [lsts_nth, *]; rfl))⟩
 exact cre (ret_s (by rfl))
theorem tr4_calls (w0 : World) (Z : Nat → Prop) (hZ : ∀ k, Z k → k < w0.heap.size) (cg : Nat) (ce : Int) (cn : Int) (cAA : Option Addr) (cAc : Nat) (cA : List Nd) (crA : Option Addr) (crc : Nat) (cr : List Nd) (qq : Int) (uag : Nat) (ubg : Nat) (ubx : Int) (ucg : Nat) (ucy : Int) (hShp : Shapes w0 Z) (hc : (Res.box cg 110 [.int .i64 (ce), .int .i64 (cn), .slice cAA cA.length cAc, .slice crA cr.length crc]).holds w0) (hcz : ¬ Z cg) (hcA : (dRow 4 cAA cA.length cAc (encNs cA)).φ w0 Z) (hcr : (dRow 4 crA cr.length crc (encNs cr)).φ w0 Z) (huaQ : (dBox uag [.pointer (some ⟨cg, 0, none⟩)]).φ w0 Z) (hubQ : (dBox ubg [.int .i64 (ubx)]).φ w0 Z) (hucQ : (dBox ucg [.int .i64 (ucy)]).φ w0 Z) (hsr : sml cr := by first | assumption | omega | (simp <;> omega)) (hlr : cr.length ≤ 5000 := by first | assumption | omega | (simp <;> omega)) (hsA : sml cA := by first | assumption | omega | (simp <;> omega)) (hlA : cA.length ≤ 5000 := by first | assumption | omega | (simp <;> omega)) (hbcn : -80 ≤ cn ∧ cn ≤ 80 := by first | assumption | omega | (simp <;> omega)) (hbubx : -80 ≤ ubx ∧ ubx ≤ 80 := by first | assumption | omega | (simp <;> omega)) (hbucy : -80 ≤ ucy ∧ ucy ≤ 80 := by first | assumption | omega | (simp <;> omega)) (hbqq : -80 ≤ qq ∧ qq ≤ 80 := by first | assumption | omega | (simp <;> omega)) :
    Calls Tryz.prog 44 [.int .i64 qq, .pointer (some ⟨uag, 0, none⟩), .pointer (some ⟨ubg, 0, none⟩), .pointer (some ⟨ucg, 0, none⟩)].toArray w0 (fun e w' => ∃ (rA0 : Option Addr) (rc0 : Nat) (rL0 : List Nd), e = .returned (.slice rA0 rL0.length rc0) ∧ Fr (· = cg) w0 w' ∧ (Res.box cg 110 [.int .i64 (((tr4 ce cn cr ubx ucy qq).2)), .int .i64 (cn), .slice cAA cA.length cAc, .slice crA cr.length crc]).holds w' ∧ (dRow 4 rA0 rL0.length rc0 (encNs rL0)).φ w' (nxt Z w0 w') ∧ rL0 = (tr4 ce cn cr ubx ucy qq).1) := by
 have b0 := sM hc hcz hZ (zc (d := dShapes) hShp (zc hcA (zc hcr (zc huaQ (zc hubQ (zc hucQ zn))))))
 refine c_enter Tryz.func44 rfl Tryz.ntmps44 rfl fun c0 d0 => ?_
 refine wsc fun c0 f0 => bxx d0 b0 fun c0 h0 i0 j0 k0 => ?_
 refine aw j0 f0 fun h0 c0 => ?_
 refine wsc fun f0 h0 => m_loadC sv c0 rfl rfl rfl (dbox_cell (k0.get (i := 3) rfl) rfl) Tryz.underlying81 rfl (by decide) fun f0 j0 => ?_
 refine m_loadC sv j0 rfl rfl rfl (dbox_cell (k0.get (i := 4) rfl) rfl) Tryz.underlying3 rfl (by decide) fun f0 c0 => ?_
 refine m_loadC sv c0 rfl rfl rfl (dbox_cell (k0.get (i := 5) rfl) rfl) Tryz.underlying3 rfl (by decide) fun f0 j0 => ?_
 refine r_makeFunc sv j0 rfl rfl rfl (by decide) fun f0 c0 => ?_
 refine k_inl (xs := [.tmp 6, .tmp 7, .tmp 8, .tmp 9]) se c0 rfl rfl rfl (by decide) ok45 ?_
 refine c_enter (vs := [.pointer (some ⟨cg, 0, none⟩), .int .i64 (ubx), .int .i64 (ucy), .func (.func 46) #[] #[.pointer (some ⟨uag, 0, none⟩), .pointer (some ⟨ucg, 0, none⟩), .pointer (some ⟨i0, 0, none⟩), .pointer (some ⟨ubg, 0, none⟩)]]) Tryz.func45 rfl Tryz.ntmps45 rfl fun c0 f0 => ?_
 refine wsc fun c0 j0 => bxx f0 k0 fun c0 d0 b0 m0 n0 => ?_
 refine aw m0 j0 fun d0 c0 => ?_
 refine wp_seq_k fun j0 d0 => ?_
 obtain ⟨j0, m0⟩ := n0.box_dataX (i := 1) rfl (j := 0) rfl (by decide)
 have n0 := j0.data (dBox i0 [.int .i64 (qq)]) m0
 obtain ⟨m0, j0⟩ := n0.box_dataX (i := 1) rfl (j := 0) rfl (by decide)
 have n0 := m0.data (dBox b0 [.func (.func 46) #[] #[.pointer (some ⟨uag, 0, none⟩), .pointer (some ⟨ucg, 0, none⟩), .pointer (some ⟨i0, 0, none⟩), .pointer (some ⟨ubg, 0, none⟩)]]) j0
 have j0 := n0.nf
 obtain ⟨n0, m0, f0⟩ := j0.agree
 refine d_reg3 (n := 10) f0 8 (pB 0 1 pn) (pan_then pan_body) fun m0 n0 j0 k0 o0 p0 => ?_
 refine dR [0, 1, 2, 3, 4, 5] c0 fun k0 m0 => ?_
 refine dt 7 rfl n0 m0 (want_n rfl) (fun x hx => r_makeFunc (sy m0) m0 rfl rfl rfl (by decide) gt) p0 fun k0 c0 => ?_
 refine d1 6 ?_
 have k0 := o0.nf
 refine kcl c0 ok48 (of_calls _ _ k0.il _ _ _ _ _ _ _ _ _ (ubx) (ucy) (k0.g 0) (k0.z 0) (imm_box (i := 0) rfl) (k0.g 1) (k0.g 2)) ?_
 rintro c0 o0 ⟨m0, p0, n0, rfl, f0, q0, s0, t0⟩
 have p0 := k0.callM (i := 0) rfl f0 q0
 have q0 := k0.dM 0 p0 s0
 refine ⟨_, rfl, fun p0 s0 => ?_⟩
 obtain ⟨p0, k0⟩ : n0.length ≤ 4000 ∧ sml n0 := by rw [t0]; exact ⟨relL_len, relL_sml hsr⟩
 have k0 := sWI q0 8 (pB 0 1 pn)
 refine ⟨k0, ?_⟩
 refine d1 8 ?_
 have k0 := q0.nf
 refine kcl s0 ok57 (pi5_calls _ _ k0.il _ _ _ _ _ _ _ _ _ 3 _ _ _ b0 uag ucg (ucy) i0 (qq) ubg (ubx) (k0.g 0) (k0.z 0) (imm_box (i := 0) rfl) (k0.g 1) (k0.g 2) (k0.g 9) (k0.g 3) (k0.g 5) (k0.g 6) (k0.g 4) (k0.g 7)) ?_
 rintro s0 b0 ⟨i0, q0, p0, rfl, t0, f0, m0, o0⟩
 have o0 := k0.callM (i := 0) rfl t0 f0
 have f0 := k0.dM 0 o0 m0
 refine ⟨_, rfl, fun o0 m0 => ?_⟩
 have o0 := sWI f0 8 (pB 0 1 pn)
 refine ⟨o0, ?_⟩
 refine dR [9] m0 fun o0 k0 => ?_
 refine wpAnyH_done (by kernel_rfl) (j0 _ _ ?_) _
 refine xn d0 <| wp_ret <| er1 k0 ?_
 refine ⟨_, rfl, fun k0 d0 => ?_⟩
 refine aw d0 h0 fun k0 j0 => ?_
 refine wp_ret <| er1 j0 ?_
 refine ⟨i0, q0, p0, ?_, f0.fr, (by rw [show ((tr4 ce cn cr ubx ucy qq).2 : Int) = (((piP (tr5 ((relE (ce) (cn) cr (ubx) (ucy))) ((cn) + 1) cr (ubx) (ucy) (qq)) 3 n0).2)) by (first | rfl | (simp only [lsts_nth, *]; done) | (simp only [lsts_nth, *]; rfl))]; exact f0.res (i := 0) rfl), f0.rx 10, (by (simp only [lsts_nth, *]; rfl))⟩
 exact cre (ret_s (by rfl))
theorem pi4_calls (w0 : World) (Z : Nat → Prop) (hZ : ∀ k, Z k → k < w0.heap.size) (cg : Nat) (ce : Int) (cn : Int) (cAA : Option Addr) (cAc : Nat) (cA : List Nd) (crA : Option Addr) (crc : Nat) (cr : List Nd) (mm : Int) (dA : Option Addr) (dc : Nat) (d : List Nd) (vvpg : Nat) (vvqg : Nat) (vvqx : Int) (vvrg : Nat) (vvry : Int) (hShp : Shapes w0 Z) (hc : (Res.box cg 110 [.int .i64 (ce), .int .i64 (cn), .slice cAA cA.length cAc, .slice crA cr.length crc]).holds w0) (hcz : ¬ Z cg) (hcA : (dRow 4 cAA cA.length cAc (encNs cA)).φ w0 Z) (hcr : (dRow 4 crA cr.length crc (encNs cr)).φ w0 Z) (hd : (dRow 4 dA d.length dc (encNs d)).φ w0 Z) (hvvpQ : (dBox vvpg [.pointer (some ⟨cg, 0, none⟩)]).φ w0 Z) (hvvqQ : (dBox vvqg [.int .i64 (vvqx)]).φ w0 Z) (hvvrQ : (dBox vvrg [.int .i64 (vvry)]).φ w0 Z) (hsr : sml cr := by first | assumption | omega | (simp <;> omega)) (hlr : cr.length ≤ 5000 := by first | assumption | omega | (simp <;> omega)) (hsA : sml cA := by first | assumption | omega | (simp <;> omega)) (hlA : cA.length ≤ 5000 := by first | assumption | omega | (simp <;> omega)) (hbcn : -75 ≤ cn ∧ cn ≤ 75 := by first | assumption | omega | (simp <;> omega)) (hbvvqx : -75 ≤ vvqx ∧ vvqx ≤ 75 := by first | assumption | omega | (simp <;> omega)) (hbvvry : -75 ≤ vvry ∧ vvry ≤ 75 := by first | assumption | omega | (simp <;> omega)) (hsd : sml d := by first | assumption | omega | (simp <;> omega)) (hld : d.length ≤ 20000 := by first | assumption | omega | (simp <;> omega)) :
    Calls Tryz.prog 57 [.pointer (some ⟨cg, 0, none⟩), .int .i64 mm, .slice dA d.length dc, .func (.func 44) #[] #[.pointer (some ⟨vvpg, 0, none⟩), .pointer (some ⟨vvqg, 0, none⟩), .pointer (some ⟨vvrg, 0, none⟩)]].toArray w0 (fun e w' => ∃ (rA0 : Option Addr) (rc0 : Nat) (rL0 : List Nd), e = .returned (.slice rA0 rL0.length rc0) ∧ Fr (· = cg) w0 w' ∧ (Res.box cg 110 [.int .i64 (((piP (tr4 ce (cn + 1) cr vvqx vvry (cn + 1)) mm d).2)), .int .i64 (cn), .slice cAA cA.length cAc, .slice crA cr.length crc]).holds w' ∧ (dRow 4 rA0 rL0.length rc0 (encNs rL0)).φ w' (nxt Z w0 w') ∧ rL0 = (piP (tr4 ce (cn + 1) cr vvqx vvry (cn + 1)) mm d).1) := by
 have b0 := sM hc hcz hZ (zc (d := dShapes) hShp (zc hcA (zc hcr (zc hd (zc hvvpQ (zc hvvqQ (zc hvvrQ zn)))))))
 refine c_enter Tryz.func57 rfl Tryz.ntmps57 rfl fun c0 d0 => ?_
 refine wsc fun c0 f0 => aw d0 f0 fun c0 h0 => ?_
 refine wsc fun f0 c0 => lR h0 fun f0 d0 => ?_
 refine adi (cn + 1) d0 fun f0 h0 => ?_
 refine lR h0 fun f0 d0 => ?_
 refine sto 0 d0 b0 fun f0 h0 i0 j0 => ?_
 refine wn c0 <| wsc fun c0 h0 => lR i0 fun c0 f0 => ?_
 have c0 := j0.nf
 refine k_callV (xs := [.tmp 21]) se f0 rfl rfl rfl rfl (by decide) ok44 (tr4_calls _ _ c0.il _ _ _ _ _ _ _ _ _ (cn + 1) vvpg vvqg (vvqx) vvrg (vvry) (c0.g 0) (c0.z 0) (imm_box (i := 0) rfl) (c0.g 1) (c0.g 2) (c0.g 4) (c0.g 5) (c0.g 6)) ?_
 rintro f0 j0 ⟨i0, d0, b0, rfl, k0, m0, n0, o0⟩
 have j0 := c0.callM (i := 0) rfl k0 m0
 have m0 := c0.dM 0 j0 n0
 refine ⟨_, rfl, fun j0 n0 => ?_⟩
 obtain ⟨j0, c0⟩ := (show b0.length ≤ 30000 ∧ sml b0 by rw [o0]; have zz := tr4_Z (e := ce) (a := cn + 1) (x := vvqx) (y := vvry) (z := cn + 1) hsr; exact ⟨by omega, zz.2⟩)
 refine aw n0 h0 fun c0 j0 => ?_
 refine wsc fun h0 c0 => lR j0 fun h0 n0 => ?_
 refine sbi (cn) n0 fun h0 j0 => ?_
 refine lR j0 fun h0 n0 => ?_
 refine sto 0 n0 m0 fun h0 j0 o0 k0 => ?_
 refine wn c0 <| wsc fun c0 j0 => lR o0 fun c0 h0 => ?_
 refine bld h0 fun c0 o0 => ?_
 refine lR o0 fun c0 h0 => ?_
 have c0 := k0.data (dAll [((dA, dc, d) : Sl), ((i0, d0, b0) : Sl)]) (all_cons (k0.get (i := 3) rfl) (all_cons (k0.get (i := 7) rfl) all_nil))
 refine bsl h0 c0 fun k0 o0 n0 m0 f0 => ?_
 have o0 := f0.nf
 have f0 := own_cap (o0.res (i := 1) rfl)
 obtain ⟨k0, c0⟩ := o0.row_dataM (i := 1) rfl (j := 0) rfl (by decide)
 have o0 := k0.data (dRow 1 (some ⟨n0, 0, none⟩) 2 2 (encSs ([((dA, dc, d) : Sl), ((i0, d0, b0) : Sl)]))) ⟨f0, c0⟩
 refine kcl m0 ok96 (node_calls _ _ o0.il _ _ _ _ (⟨3, (mm), 0, (⟨#[]⟩ : ByteArray)⟩ : Nd) _ _ ([((dA, dc, d) : Sl), ((i0, d0, b0) : Sl)]) (o0.z 0) (imm_box (i := 0) rfl) (o0.g 9) (o0.g 8) (hb := (by simp; omega))) ?_
 rintro m0 b0 ⟨d0, i0, c0, rfl, k0, f0, n0, h0⟩
 have h0 := o0.callM (i := 0) rfl k0 f0
 have f0 := o0.dM 0 h0 n0
 refine ⟨_, rfl, fun h0 n0 => ?_⟩
 refine aw n0 j0 fun h0 o0 => ?_
 refine wp_ret <| er1 o0 ?_
 refine ⟨d0, i0, c0, ?_, f0.fr, (by rw [show ((piP (tr4 ce (cn + 1) cr vvqx vvry (cn + 1)) mm d).2 : Int) = ((((tr4 (ce) (cn + 1) cr (vvqx) (vvry) (cn + 1)).2))) by (first | rfl | (simp only [lsts_nth, *]; done) | (simp only [lsts_nth, *]; rfl))]; exact f0.res (i := 0) rfl), f0.rx 10, (by (simp only [lsts_nth, *]; rfl))⟩
 exact cre (ret_s (by rfl))
theorem tr3_calls (w0 : World) (Z : Nat → Prop) (hZ : ∀ k, Z k → k < w0.heap.size) (cg : Nat) (ce : Int) (cn : Int) (cAA : Option Addr) (cAc : Nat) (cA : List Nd) (crA : Option Addr) (crc : Nat) (cr : List Nd) (qq : Int) (uag : Nat) (ubg : Nat) (ubx : Int) (hShp : Shapes w0 Z) (hc : (Res.box cg 110 [.int .i64 (ce), .int .i64 (cn), .slice cAA cA.length cAc, .slice crA cr.length crc]).holds w0) (hcz : ¬ Z cg) (hcA : (dRow 4 cAA cA.length cAc (encNs cA)).φ w0 Z) (hcr : (dRow 4 crA cr.length crc (encNs cr)).φ w0 Z) (huaQ : (dBox uag [.pointer (some ⟨cg, 0, none⟩)]).φ w0 Z) (hubQ : (dBox ubg [.int .i64 (ubx)]).φ w0 Z) (hsr : sml cr := by first | assumption | omega | (simp <;> omega)) (hlr : cr.length ≤ 5000 := by first | assumption | omega | (simp <;> omega)) (hsA : sml cA := by first | assumption | omega | (simp <;> omega)) (hlA : cA.length ≤ 5000 := by first | assumption | omega | (simp <;> omega)) (hbcn : -70 ≤ cn ∧ cn ≤ 70 := by first | assumption | omega | (simp <;> omega)) (hbubx : -70 ≤ ubx ∧ ubx ≤ 70 := by first | assumption | omega | (simp <;> omega)) (hbqq : -70 ≤ qq ∧ qq ≤ 70 := by first | assumption | omega | (simp <;> omega)) :
    Calls Tryz.prog 43 [.int .i64 qq, .pointer (some ⟨uag, 0, none⟩), .pointer (some ⟨ubg, 0, none⟩)].toArray w0 (fun e w' => ∃ (rA0 : Option Addr) (rc0 : Nat) (rL0 : List Nd), e = .returned (.slice rA0 rL0.length rc0) ∧ Fr (· = cg) w0 w' ∧ (Res.box cg 110 [.int .i64 (((tr3 ce cn cA cr ubx qq).2)), .int .i64 (cn), .slice cAA cA.length cAc, .slice crA cr.length crc]).holds w' ∧ (dRow 4 rA0 rL0.length rc0 (encNs rL0)).φ w' (nxt Z w0 w') ∧ rL0 = (tr3 ce cn cA cr ubx qq).1) := by
 have b0 := sM hc hcz hZ (zc (d := dShapes) hShp (zc hcA (zc hcr (zc huaQ (zc hubQ zn)))))
 refine c_enter Tryz.func43 rfl Tryz.ntmps43 rfl fun c0 d0 => ?_
 refine wsc fun c0 f0 => bxx d0 b0 fun c0 h0 i0 j0 k0 => ?_
 refine aw j0 f0 fun h0 c0 => ?_
 refine wsc fun f0 h0 => m_loadC sv c0 rfl rfl rfl (dbox_cell (k0.get (i := 3) rfl) rfl) Tryz.underlying81 rfl (by decide) fun f0 j0 => ?_
 refine r_makeFunc sv j0 rfl rfl rfl (by decide) fun f0 c0 => ?_
 refine k_inl (xs := [.tmp 5, .tmp 6]) se c0 rfl rfl rfl (by decide) ok41 ?_
 refine c_enter (vs := [.pointer (some ⟨cg, 0, none⟩), .func (.func 44) #[] #[.pointer (some ⟨uag, 0, none⟩), .pointer (some ⟨ubg, 0, none⟩), .pointer (some ⟨i0, 0, none⟩)]]) Tryz.func41 rfl Tryz.ntmps41 rfl fun c0 f0 => ?_
 refine wsc fun c0 j0 => aw f0 j0 fun c0 d0 => ?_
 refine wp_seq_k fun j0 c0 => ?_
 obtain ⟨j0, f0⟩ := k0.box_dataX (i := 1) rfl (j := 0) rfl (by decide)
 have k0 := j0.data (dBox i0 [.int .i64 (qq)]) f0
 have f0 := k0.nf
 obtain ⟨k0, j0, b0⟩ := f0.agree
 refine d_reg3 (n := 14) b0 6 (pB 0 1 pn) (pan_then pan_body) fun j0 k0 f0 m0 n0 o0 => ?_
 refine dR [0, 1, 2, 3, 4, 5, 6, 7, 8, 9, 11] d0 fun o0 m0 => ?_
 refine d1 10 ?_
 have o0 := n0.nf
 refine kcl m0 ok73 (here_calls _ _ o0.il _ _ _ _ _ _ _ _ 0 (o0.g 0) (o0.z 0) (imm_box (i := 0) rfl) (o0.g 1)) ?_
 rintro m0 n0 ⟨d0, k0, j0, rfl, b0, p0, q0, s0⟩
 have k0 := o0.callM (i := 0) rfl b0 p0
 have p0 := o0.dM 0 k0 q0
 refine ⟨_, rfl, fun k0 q0 => ?_⟩
 obtain ⟨k0, o0⟩ := upZ s0 (by assumption)
 have o0 := sWI p0 6 (pB 0 1 pn)
 refine ⟨o0, ?_⟩
 refine d1 12 ?_
 have o0 := p0.nf
 refine kcl q0 ok57 (pi4_calls _ _ o0.il _ _ _ _ _ _ _ _ _ 1 _ _ _ uag ubg (ubx) i0 (qq) (o0.g 0) (o0.z 0) (imm_box (i := 0) rfl) (o0.g 1) (o0.g 2) (o0.g 7) (o0.g 3) (o0.g 4) (o0.g 5)) ?_
 rintro q0 i0 ⟨p0, k0, s0, rfl, b0, d0, n0, m0⟩
 have m0 := o0.callM (i := 0) rfl b0 d0
 have d0 := o0.dM 0 m0 n0
 refine ⟨_, rfl, fun m0 n0 => ?_⟩
 have m0 := sWI d0 6 (pB 0 1 pn)
 refine ⟨m0, ?_⟩
 refine dR [13] n0 fun m0 o0 => ?_
 refine wpAnyH_done (by kernel_rfl) (f0 _ _ ?_) _
 refine xn c0 <| wp_ret <| er1 o0 ?_
 refine ⟨_, rfl, fun o0 c0 => ?_⟩
 refine aw c0 h0 fun o0 f0 => ?_
 refine wp_ret <| er1 f0 ?_
 refine ⟨p0, k0, s0, ?_, d0.fr, (by rw [show ((tr3 ce cn cA cr ubx qq).2 : Int) = (((piP (tr4 ((upE (ce) cA (cn) 0)) ((cn) + 1) cr (ubx) (qq) ((cn) + 1)) 1 j0).2)) by (first | rfl | (simp only [lsts_nth, *]; done) | (simp only [lsts_nth, *]; rfl))]; exact d0.res (i := 0) rfl), d0.rx 8, (by (simp only [lsts_nth, *]; rfl))⟩
 exact cre (ret_s (by rfl))
theorem pi3_calls (w0 : World) (Z : Nat → Prop) (hZ : ∀ k, Z k → k < w0.heap.size) (cg : Nat) (ce : Int) (cn : Int) (cAA : Option Addr) (cAc : Nat) (cA : List Nd) (crA : Option Addr) (crc : Nat) (cr : List Nd) (mm : Int) (dA : Option Addr) (dc : Nat) (d : List Nd) (vvpg : Nat) (vvqg : Nat) (vvqx : Int) (hShp : Shapes w0 Z) (hc : (Res.box cg 110 [.int .i64 (ce), .int .i64 (cn), .slice cAA cA.length cAc, .slice crA cr.length crc]).holds w0) (hcz : ¬ Z cg) (hcA : (dRow 4 cAA cA.length cAc (encNs cA)).φ w0 Z) (hcr : (dRow 4 crA cr.length crc (encNs cr)).φ w0 Z) (hd : (dRow 4 dA d.length dc (encNs d)).φ w0 Z) (hvvpQ : (dBox vvpg [.pointer (some ⟨cg, 0, none⟩)]).φ w0 Z) (hvvqQ : (dBox vvqg [.int .i64 (vvqx)]).φ w0 Z) (hsr : sml cr := by first | assumption | omega | (simp <;> omega)) (hlr : cr.length ≤ 5000 := by first | assumption | omega | (simp <;> omega)) (hsA : sml cA := by first | assumption | omega | (simp <;> omega)) (hlA : cA.length ≤ 5000 := by first | assumption | omega | (simp <;> omega)) (hbcn : -65 ≤ cn ∧ cn ≤ 65 := by first | assumption | omega | (simp <;> omega)) (hbvvqx : -65 ≤ vvqx ∧ vvqx ≤ 65 := by first | assumption | omega | (simp <;> omega)) (hsd : sml d := by first | assumption | omega | (simp <;> omega)) (hld : d.length ≤ 20000 := by first | assumption | omega | (simp <;> omega)) :
    Calls Tryz.prog 57 [.pointer (some ⟨cg, 0, none⟩), .int .i64 mm, .slice dA d.length dc, .func (.func 43) #[] #[.pointer (some ⟨vvpg, 0, none⟩), .pointer (some ⟨vvqg, 0, none⟩)]].toArray w0 (fun e w' => ∃ (rA0 : Option Addr) (rc0 : Nat) (rL0 : List Nd), e = .returned (.slice rA0 rL0.length rc0) ∧ Fr (· = cg) w0 w' ∧ (Res.box cg 110 [.int .i64 (((piP (tr3 ce (cn + 1) cA cr vvqx (cn + 1)) mm d).2)), .int .i64 (cn), .slice cAA cA.length cAc, .slice crA cr.length crc]).holds w' ∧ (dRow 4 rA0 rL0.length rc0 (encNs rL0)).φ w' (nxt Z w0 w') ∧ rL0 = (piP (tr3 ce (cn + 1) cA cr vvqx (cn + 1)) mm d).1) := by
 have b0 := sM hc hcz hZ (zc (d := dShapes) hShp (zc hcA (zc hcr (zc hd (zc hvvpQ (zc hvvqQ zn))))))
 refine c_enter Tryz.func57 rfl Tryz.ntmps57 rfl fun c0 d0 => ?_
 refine wsc fun c0 f0 => aw d0 f0 fun c0 h0 => ?_
 refine wsc fun f0 c0 => lR h0 fun f0 d0 => ?_
 refine adi (cn + 1) d0 fun f0 h0 => ?_
 refine lR h0 fun f0 d0 => ?_
 refine sto 0 d0 b0 fun f0 h0 i0 j0 => ?_
 refine wn c0 <| wsc fun c0 h0 => lR i0 fun c0 f0 => ?_
 have c0 := j0.nf
 refine k_callV (xs := [.tmp 21]) se f0 rfl rfl rfl rfl (by decide) ok43 (tr3_calls _ _ c0.il _ _ _ _ _ _ _ _ _ (cn + 1) vvpg vvqg (vvqx) (c0.g 0) (c0.z 0) (imm_box (i := 0) rfl) (c0.g 1) (c0.g 2) (c0.g 4) (c0.g 5)) ?_
 rintro f0 j0 ⟨i0, d0, b0, rfl, k0, m0, n0, o0⟩
 have j0 := c0.callM (i := 0) rfl k0 m0
 have m0 := c0.dM 0 j0 n0
 refine ⟨_, rfl, fun j0 n0 => ?_⟩
 obtain ⟨j0, c0⟩ := (show b0.length ≤ 30000 ∧ sml b0 by rw [o0]; have zz := tr3_Z (e := ce) (a := cn + 1) (x := vvqx) (y := cn + 1) hsr hsA hlA; exact ⟨by omega, zz.2⟩)
 refine aw n0 h0 fun c0 j0 => ?_
 refine wsc fun h0 c0 => lR j0 fun h0 n0 => ?_
 refine sbi (cn) n0 fun h0 j0 => ?_
 refine lR j0 fun h0 n0 => ?_
 refine sto 0 n0 m0 fun h0 j0 o0 k0 => ?_
 refine wn c0 <| wsc fun c0 j0 => lR o0 fun c0 h0 => ?_
 refine bld h0 fun c0 o0 => ?_
 refine lR o0 fun c0 h0 => ?_
 have c0 := k0.data (dAll [((dA, dc, d) : Sl), ((i0, d0, b0) : Sl)]) (all_cons (k0.get (i := 3) rfl) (all_cons (k0.get (i := 6) rfl) all_nil))
 refine bsl h0 c0 fun k0 o0 n0 m0 f0 => ?_
 have o0 := f0.nf
 have f0 := own_cap (o0.res (i := 1) rfl)
 obtain ⟨k0, c0⟩ := o0.row_dataM (i := 1) rfl (j := 0) rfl (by decide)
 have o0 := k0.data (dRow 1 (some ⟨n0, 0, none⟩) 2 2 (encSs ([((dA, dc, d) : Sl), ((i0, d0, b0) : Sl)]))) ⟨f0, c0⟩
 refine kcl m0 ok96 (node_calls _ _ o0.il _ _ _ _ (⟨3, (mm), 0, (⟨#[]⟩ : ByteArray)⟩ : Nd) _ _ ([((dA, dc, d) : Sl), ((i0, d0, b0) : Sl)]) (o0.z 0) (imm_box (i := 0) rfl) (o0.g 8) (o0.g 7) (hb := (by simp; omega))) ?_
 rintro m0 b0 ⟨d0, i0, c0, rfl, k0, f0, n0, h0⟩
 have h0 := o0.callM (i := 0) rfl k0 f0
 have f0 := o0.dM 0 h0 n0
 refine ⟨_, rfl, fun h0 n0 => ?_⟩
 refine aw n0 j0 fun h0 o0 => ?_
 refine wp_ret <| er1 o0 ?_
 refine ⟨d0, i0, c0, ?_, f0.fr, (by rw [show ((piP (tr3 ce (cn + 1) cA cr vvqx (cn + 1)) mm d).2 : Int) = ((((tr3 (ce) (cn + 1) cA cr (vvqx) (cn + 1)).2))) by (first | rfl | (simp only [lsts_nth, *]; done) | (simp only [lsts_nth, *]; rfl))]; exact f0.res (i := 0) rfl), f0.rx 9, (by (simp only [lsts_nth, *]; rfl))⟩
 exact cre (ret_s (by rfl))
theorem tr2_calls (w0 : World) (Z : Nat → Prop) (hZ : ∀ k, Z k → k < w0.heap.size) (cg : Nat) (ce : Int) (cn : Int) (cAA : Option Addr) (cAc : Nat) (cA : List Nd) (crA : Option Addr) (crc : Nat) (cr : List Nd) (qq : Int) (uag : Nat) (hShp : Shapes w0 Z) (hc : (Res.box cg 110 [.int .i64 (ce), .int .i64 (cn), .slice cAA cA.length cAc, .slice crA cr.length crc]).holds w0) (hcz : ¬ Z cg) (hcA : (dRow 4 cAA cA.length cAc (encNs cA)).φ w0 Z) (hcr : (dRow 4 crA cr.length crc (encNs cr)).φ w0 Z) (huaQ : (dBox uag [.pointer (some ⟨cg, 0, none⟩)]).φ w0 Z) (hsr : sml cr := by first | assumption | omega | (simp <;> omega)) (hlr : cr.length ≤ 5000 := by first | assumption | omega | (simp <;> omega)) (hsA : sml cA := by first | assumption | omega | (simp <;> omega)) (hlA : cA.length ≤ 5000 := by first | assumption | omega | (simp <;> omega)) (hbcn : -60 ≤ cn ∧ cn ≤ 60 := by first | assumption | omega | (simp <;> omega)) (hbqq : -60 ≤ qq ∧ qq ≤ 60 := by first | assumption | omega | (simp <;> omega)) :
    Calls Tryz.prog 42 [.int .i64 qq, .pointer (some ⟨uag, 0, none⟩)].toArray w0 (fun e w' => ∃ (rA0 : Option Addr) (rc0 : Nat) (rL0 : List Nd), e = .returned (.slice rA0 rL0.length rc0) ∧ Fr (· = cg) w0 w' ∧ (Res.box cg 110 [.int .i64 (((tr2 ce cn cA cr qq).2)), .int .i64 (cn), .slice cAA cA.length cAc, .slice crA cr.length crc]).holds w' ∧ (dRow 4 rA0 rL0.length rc0 (encNs rL0)).φ w' (nxt Z w0 w') ∧ rL0 = (tr2 ce cn cA cr qq).1) := by
 have b0 := sM hc hcz hZ (zc (d := dShapes) hShp (zc hcA (zc hcr (zc huaQ zn))))
 refine c_enter Tryz.func42 rfl Tryz.ntmps42 rfl fun c0 d0 => ?_
 refine wsc fun c0 f0 => bxx d0 b0 fun c0 h0 i0 j0 k0 => ?_
 refine aw j0 f0 fun h0 c0 => ?_
 refine wsc fun f0 h0 => m_loadC sv c0 rfl rfl rfl (dbox_cell (k0.get (i := 3) rfl) rfl) Tryz.underlying81 rfl (by decide) fun f0 j0 => ?_
 refine r_makeFunc sv j0 rfl rfl rfl (by decide) fun f0 c0 => ?_
 refine k_inl (xs := [.tmp 4, .tmp 5]) se c0 rfl rfl rfl (by decide) ok41 ?_
 refine c_enter (vs := [.pointer (some ⟨cg, 0, none⟩), .func (.func 43) #[] #[.pointer (some ⟨uag, 0, none⟩), .pointer (some ⟨i0, 0, none⟩)]]) Tryz.func41 rfl Tryz.ntmps41 rfl fun c0 f0 => ?_
 refine wsc fun c0 j0 => aw f0 j0 fun c0 d0 => ?_
 refine wp_seq_k fun j0 c0 => ?_
 obtain ⟨j0, f0⟩ := k0.box_dataX (i := 1) rfl (j := 0) rfl (by decide)
 have k0 := j0.data (dBox i0 [.int .i64 (qq)]) f0
 have f0 := k0.nf
 obtain ⟨k0, j0, b0⟩ := f0.agree
 refine d_reg3 (n := 14) b0 5 (pB 0 1 pn) (pan_then pan_body) fun j0 k0 f0 m0 n0 o0 => ?_
 refine dR [0, 1, 2, 3, 4, 5, 6, 7, 8, 9, 11] d0 fun o0 m0 => ?_
 refine d1 10 ?_
 have o0 := n0.nf
 refine kcl m0 ok73 (here_calls _ _ o0.il _ _ _ _ _ _ _ _ 0 (o0.g 0) (o0.z 0) (imm_box (i := 0) rfl) (o0.g 1)) ?_
 rintro m0 n0 ⟨d0, k0, j0, rfl, b0, p0, q0, s0⟩
 have k0 := o0.callM (i := 0) rfl b0 p0
 have p0 := o0.dM 0 k0 q0
 refine ⟨_, rfl, fun k0 q0 => ?_⟩
 obtain ⟨k0, o0⟩ := upZ s0 (by assumption)
 have o0 := sWI p0 5 (pB 0 1 pn)
 refine ⟨o0, ?_⟩
 refine d1 12 ?_
 have o0 := p0.nf
 refine kcl q0 ok57 (pi3_calls _ _ o0.il _ _ _ _ _ _ _ _ _ 1 _ _ _ uag i0 (qq) (o0.g 0) (o0.z 0) (imm_box (i := 0) rfl) (o0.g 1) (o0.g 2) (o0.g 6) (o0.g 3) (o0.g 4)) ?_
 rintro q0 i0 ⟨p0, k0, s0, rfl, b0, d0, n0, m0⟩
 have m0 := o0.callM (i := 0) rfl b0 d0
 have d0 := o0.dM 0 m0 n0
 refine ⟨_, rfl, fun m0 n0 => ?_⟩
 have m0 := sWI d0 5 (pB 0 1 pn)
 refine ⟨m0, ?_⟩
 refine dR [13] n0 fun m0 o0 => ?_
 refine wpAnyH_done (by kernel_rfl) (f0 _ _ ?_) _
 refine xn c0 <| wp_ret <| er1 o0 ?_
 refine ⟨_, rfl, fun o0 c0 => ?_⟩
 refine aw c0 h0 fun o0 f0 => ?_
 refine wp_ret <| er1 f0 ?_
 refine ⟨p0, k0, s0, ?_, d0.fr, (by rw [show ((tr2 ce cn cA cr qq).2 : Int) = (((piP (tr3 ((upE (ce) cA (cn) 0)) ((cn) + 1) cA cr (qq) ((cn) + 1)) 1 j0).2)) by (first | rfl | (simp only [lsts_nth, *]; done) | (simp only [lsts_nth, *]; rfl))]; exact d0.res (i := 0) rfl), d0.rx 7, (by (simp only [lsts_nth, *]; rfl))⟩
 exact cre (ret_s (by rfl))
theorem pi2_calls (w0 : World) (Z : Nat → Prop) (hZ : ∀ k, Z k → k < w0.heap.size) (cg : Nat) (ce : Int) (cn : Int) (cAA : Option Addr) (cAc : Nat) (cA : List Nd) (crA : Option Addr) (crc : Nat) (cr : List Nd) (mm : Int) (dA : Option Addr) (dc : Nat) (d : List Nd) (vvpg : Nat) (hShp : Shapes w0 Z) (hc : (Res.box cg 110 [.int .i64 (ce), .int .i64 (cn), .slice cAA cA.length cAc, .slice crA cr.length crc]).holds w0) (hcz : ¬ Z cg) (hcA : (dRow 4 cAA cA.length cAc (encNs cA)).φ w0 Z) (hcr : (dRow 4 crA cr.length crc (encNs cr)).φ w0 Z) (hd : (dRow 4 dA d.length dc (encNs d)).φ w0 Z) (hvvpQ : (dBox vvpg [.pointer (some ⟨cg, 0, none⟩)]).φ w0 Z) (hsr : sml cr := by first | assumption | omega | (simp <;> omega)) (hlr : cr.length ≤ 5000 := by first | assumption | omega | (simp <;> omega)) (hsA : sml cA := by first | assumption | omega | (simp <;> omega)) (hlA : cA.length ≤ 5000 := by first | assumption | omega | (simp <;> omega)) (hbcn : -55 ≤ cn ∧ cn ≤ 55 := by first | assumption | omega | (simp <;> omega)) (hsd : sml d := by first | assumption | omega | (simp <;> omega)) (hld : d.length ≤ 20000 := by first | assumption | omega | (simp <;> omega)) :
    Calls Tryz.prog 57 [.pointer (some ⟨cg, 0, none⟩), .int .i64 mm, .slice dA d.length dc, .func (.func 42) #[] #[.pointer (some ⟨vvpg, 0, none⟩)]].toArray w0 (fun e w' => ∃ (rA0 : Option Addr) (rc0 : Nat) (rL0 : List Nd), e = .returned (.slice rA0 rL0.length rc0) ∧ Fr (· = cg) w0 w' ∧ (Res.box cg 110 [.int .i64 (((piP (tr2 ce (cn + 1) cA cr (cn + 1)) mm d).2)), .int .i64 (cn), .slice cAA cA.length cAc, .slice crA cr.length crc]).holds w' ∧ (dRow 4 rA0 rL0.length rc0 (encNs rL0)).φ w' (nxt Z w0 w') ∧ rL0 = (piP (tr2 ce (cn + 1) cA cr (cn + 1)) mm d).1) := by
 have b0 := sM hc hcz hZ (zc (d := dShapes) hShp (zc hcA (zc hcr (zc hd (zc hvvpQ zn)))))
 refine c_enter Tryz.func57 rfl Tryz.ntmps57 rfl fun c0 d0 => ?_
 refine wsc fun c0 f0 => aw d0 f0 fun c0 h0 => ?_
 refine wsc fun f0 c0 => lR h0 fun f0 d0 => ?_
 refine adi (cn + 1) d0 fun f0 h0 => ?_
 refine lR h0 fun f0 d0 => ?_
 refine sto 0 d0 b0 fun f0 h0 i0 j0 => ?_
 refine wn c0 <| wsc fun c0 h0 => lR i0 fun c0 f0 => ?_
 have c0 := j0.nf
 refine k_callV (xs := [.tmp 21]) se f0 rfl rfl rfl rfl (by decide) ok42 (tr2_calls _ _ c0.il _ _ _ _ _ _ _ _ _ (cn + 1) vvpg (c0.g 0) (c0.z 0) (imm_box (i := 0) rfl) (c0.g 1) (c0.g 2) (c0.g 4)) ?_
 rintro f0 j0 ⟨i0, d0, b0, rfl, k0, m0, n0, o0⟩
 have j0 := c0.callM (i := 0) rfl k0 m0
 have m0 := c0.dM 0 j0 n0
 refine ⟨_, rfl, fun j0 n0 => ?_⟩
 obtain ⟨j0, c0⟩ := (show b0.length ≤ 30000 ∧ sml b0 by rw [o0]; have zz := tr2_Z (e := ce) (a := cn + 1) (x := cn + 1) hsr hsA hlA; exact ⟨by omega, zz.2⟩)
 refine aw n0 h0 fun c0 j0 => ?_
 refine wsc fun h0 c0 => lR j0 fun h0 n0 => ?_
 refine sbi (cn) n0 fun h0 j0 => ?_
 refine lR j0 fun h0 n0 => ?_
 refine sto 0 n0 m0 fun h0 j0 o0 k0 => ?_
 refine wn c0 <| wsc fun c0 j0 => lR o0 fun c0 h0 => ?_
 refine bld h0 fun c0 o0 => ?_
 refine lR o0 fun c0 h0 => ?_
 have c0 := k0.data (dAll [((dA, dc, d) : Sl), ((i0, d0, b0) : Sl)]) (all_cons (k0.get (i := 3) rfl) (all_cons (k0.get (i := 5) rfl) all_nil))
 refine bsl h0 c0 fun k0 o0 n0 m0 f0 => ?_
 have o0 := f0.nf
 have f0 := own_cap (o0.res (i := 1) rfl)
 obtain ⟨k0, c0⟩ := o0.row_dataM (i := 1) rfl (j := 0) rfl (by decide)
 have o0 := k0.data (dRow 1 (some ⟨n0, 0, none⟩) 2 2 (encSs ([((dA, dc, d) : Sl), ((i0, d0, b0) : Sl)]))) ⟨f0, c0⟩
 refine kcl m0 ok96 (node_calls _ _ o0.il _ _ _ _ (⟨3, (mm), 0, (⟨#[]⟩ : ByteArray)⟩ : Nd) _ _ ([((dA, dc, d) : Sl), ((i0, d0, b0) : Sl)]) (o0.z 0) (imm_box (i := 0) rfl) (o0.g 7) (o0.g 6) (hb := (by simp; omega))) ?_
 rintro m0 b0 ⟨d0, i0, c0, rfl, k0, f0, n0, h0⟩
 have h0 := o0.callM (i := 0) rfl k0 f0
 have f0 := o0.dM 0 h0 n0
 refine ⟨_, rfl, fun h0 n0 => ?_⟩
 refine aw n0 j0 fun h0 o0 => ?_
 refine wp_ret <| er1 o0 ?_
 refine ⟨d0, i0, c0, ?_, f0.fr, (by rw [show ((piP (tr2 ce (cn + 1) cA cr (cn + 1)) mm d).2 : Int) = ((((tr2 (ce) (cn + 1) cA cr (cn + 1)).2))) by (first | rfl | (simp only [lsts_nth, *]; done) | (simp only [lsts_nth, *]; rfl))]; exact f0.res (i := 0) rfl), f0.rx 8, (by (simp only [lsts_nth, *]; rfl))⟩
 exact cre (ret_s (by rfl))
theorem tr1_calls (w0 : World) (Z : Nat → Prop) (hZ : ∀ k, Z k → k < w0.heap.size) (cg : Nat) (ce : Int) (cn : Int) (cAA : Option Addr) (cAc : Nat) (cA : List Nd) (crA : Option Addr) (crc : Nat) (cr : List Nd) (hShp : Shapes w0 Z) (hc : (Res.box cg 110 [.int .i64 (ce), .int .i64 (cn), .slice cAA cA.length cAc, .slice crA cr.length crc]).holds w0) (hcz : ¬ Z cg) (hcA : (dRow 4 cAA cA.length cAc (encNs cA)).φ w0 Z) (hcr : (dRow 4 crA cr.length crc (encNs cr)).φ w0 Z) (hsr : sml cr := by first | assumption | omega | (simp <;> omega)) (hlr : cr.length ≤ 5000 := by first | assumption | omega | (simp <;> omega)) (hsA : sml cA := by first | assumption | omega | (simp <;> omega)) (hlA : cA.length ≤ 5000 := by first | assumption | omega | (simp <;> omega)) (hbcn : -50 ≤ cn ∧ cn ≤ 50 := by first | assumption | omega | (simp <;> omega)) :
    Calls Tryz.prog 40 [.pointer (some ⟨cg, 0, none⟩)].toArray w0 (fun e w' => ∃ (rA0 : Option Addr) (rc0 : Nat) (rL0 : List Nd), e = .returned (.slice rA0 rL0.length rc0) ∧ Fr (· = cg) w0 w' ∧ (Res.box cg 110 [.int .i64 (((tr1 ce cn cA cr).2)), .int .i64 (cn), .slice cAA cA.length cAc, .slice crA cr.length crc]).holds w' ∧ (dRow 4 rA0 rL0.length rc0 (encNs rL0)).φ w' (nxt Z w0 w') ∧ rL0 = (tr1 ce cn cA cr).1) := by
 have b0 := sM hc hcz hZ (zc (d := dShapes) hShp (zc hcA (zc hcr zn)))
 refine c_enter Tryz.func40 rfl Tryz.ntmps40 rfl fun c0 d0 => ?_
 refine wsc fun c0 f0 => bxx d0 b0 fun c0 h0 i0 j0 k0 => ?_
 refine aw j0 f0 fun h0 c0 => ?_
 refine wsc fun f0 h0 => lR c0 fun f0 j0 => ?_
 refine r_makeFunc sv j0 rfl rfl rfl (by decide) fun f0 c0 => ?_
 refine k_inl (xs := [.tmp 3, .tmp 4]) se c0 rfl rfl rfl (by decide) ok41 ?_
 refine c_enter (vs := [.pointer (some ⟨cg, 0, none⟩), .func (.func 42) #[] #[.pointer (some ⟨i0, 0, none⟩)]]) Tryz.func41 rfl Tryz.ntmps41 rfl fun c0 f0 => ?_
 refine wsc fun c0 j0 => aw f0 j0 fun c0 d0 => ?_
 refine wp_seq_k fun j0 c0 => ?_
 obtain ⟨j0, f0⟩ := k0.box_dataX (i := 1) rfl (j := 0) rfl (by decide)
 have k0 := j0.data (dBox i0 [.pointer (some ⟨cg, 0, none⟩)]) f0
 have f0 := k0.nf
 obtain ⟨k0, j0, b0⟩ := f0.agree
 refine d_reg3 (n := 14) b0 4 (pB 0 1 pn) (pan_then pan_body) fun j0 k0 f0 m0 n0 o0 => ?_
 refine dR [0, 1, 2, 3, 4, 5, 6, 7, 8, 9, 11] d0 fun o0 m0 => ?_
 refine d1 10 ?_
 have o0 := n0.nf
 refine kcl m0 ok73 (here_calls _ _ o0.il _ _ _ _ _ _ _ _ 0 (o0.g 0) (o0.z 0) (imm_box (i := 0) rfl) (o0.g 1)) ?_
 rintro m0 n0 ⟨d0, k0, j0, rfl, b0, p0, q0, s0⟩
 have k0 := o0.callM (i := 0) rfl b0 p0
 have p0 := o0.dM 0 k0 q0
 refine ⟨_, rfl, fun k0 q0 => ?_⟩
 obtain ⟨k0, o0⟩ := upZ s0 (by assumption)
 have o0 := sWI p0 4 (pB 0 1 pn)
 refine ⟨o0, ?_⟩
 refine d1 12 ?_
 have o0 := p0.nf
 refine kcl q0 ok57 (pi2_calls _ _ o0.il _ _ _ _ _ _ _ _ _ 1 _ _ _ i0 (o0.g 0) (o0.z 0) (imm_box (i := 0) rfl) (o0.g 1) (o0.g 2) (o0.g 5) (o0.g 3)) ?_
 rintro q0 i0 ⟨p0, k0, s0, rfl, b0, d0, n0, m0⟩
 have m0 := o0.callM (i := 0) rfl b0 d0
 have d0 := o0.dM 0 m0 n0
 refine ⟨_, rfl, fun m0 n0 => ?_⟩
 have m0 := sWI d0 4 (pB 0 1 pn)
 refine ⟨m0, ?_⟩
 refine dR [13] n0 fun m0 o0 => ?_
 refine wpAnyH_done (by kernel_rfl) (f0 _ _ ?_) _
 refine xn c0 <| wp_ret <| er1 o0 ?_
 refine ⟨_, rfl, fun o0 c0 => ?_⟩
 refine aw c0 h0 fun o0 f0 => ?_
 refine wp_ret <| er1 f0 ?_
 refine ⟨p0, k0, s0, ?_, d0.fr, (by rw [show ((tr1 ce cn cA cr).2 : Int) = (((piP (tr2 ((upE (ce) cA (cn) 0)) ((cn) + 1) cA cr ((cn) + 1)) 1 j0).2)) by (first | rfl | (simp only [lsts_nth, *]; done) | (simp only [lsts_nth, *]; rfl))]; exact d0.res (i := 0) rfl), d0.rx 6, (by (simp only [lsts_nth, *]; rfl))⟩
 exact cre (ret_s (by rfl))
theorem law_calls (w0 : World) (Z : Nat → Prop) (hZ : ∀ k, Z k → k < w0.heap.size) (aA : Option Addr) (ac : Nat) (a : List Nd) (rA : Option Addr) (rc : Nat) (r : List Nd) (hShp : Shapes w0 Z) (ha : (dRow 4 aA a.length ac (encNs a)).φ w0 Z) (hr : (dRow 4 rA r.length rc (encNs r)).φ w0 Z) (hsa : sml a := by first | assumption | omega | (simp <;> omega)) (hsr : sml r := by first | assumption | omega | (simp <;> omega)) (hla : a.length ≤ 5000 := by first | assumption | omega | (simp <;> omega)) (hlr : r.length ≤ 5000 := by first | assumption | omega | (simp <;> omega)) :
    Calls Tryz.prog 39 [.slice aA a.length ac, .slice rA r.length rc, .func (.func 40) #[] #[], .slice none 0 0].toArray w0 (fun e w' => ∃ (rA0 : Option Addr) (rc0 : Nat), e = .returned (.tuple #[.slice rA0 (trvL a r).length rc0, .int .i64 (trvE a r)]) ∧ Fr none_ w0 w' ∧ (dRow 4 rA0 ((trvL a r).length) rc0 (encNs (trvL a r))).φ w' (nxt Z w0 w')) := by
 have b0 := s0 (M := none_) hZ (zc (d := dShapes) hShp (zc ha (zc hr zn)))
 refine c_enter Tryz.func39 rfl Tryz.ntmps39 rfl fun c0 d0 => ?_
 refine wsc fun c0 f0 => lR d0 fun c0 h0 => ?_
 refine wn f0 <| wp_seq_k fun f0 c0 => wsc fun f0 d0 => lR h0 fun f0 i0 => ?_
 have f0 := b0.data (dAll [((aA, ac, a) : Sl), ((rA, rc, r) : Sl)]) (all_cons (b0.get (i := 1) rfl) (all_cons (b0.get (i := 2) rfl) all_nil))
 refine bsl i0 f0 fun b0 h0 j0 k0 m0 => ?_
 refine mv k0 fun j0 h0 => ?_
 refine m_appendF (f := encS) (i := 0) ([((aA, ac, a) : Sl), ((rA, rc, r) : Sl)]) ([]) sv h0 m0 rfl rfl rfl rfl rfl encS_len (encS_one _) Tryz.underlying37 zi22 rfl rfl (fun h => absurd h (by simp)) rfl (by (simp only [List.length_cons, List.length_nil]; omega)) (by decide) fun j0 k0 b0 f0 i0 n0 o0 => ?_
 have i0 : (([((aA, ac, a) : Sl), ((rA, rc, r) : Sl)]) ++ ([]) : List Sl).length = 2 := by (simp only [List.length_append, List.length_take, List.length_cons, List.length_nil]; done)
 have i0 := o0.data (dAll (([((aA, ac, a) : Sl), ((rA, rc, r) : Sl)]) ++ ([]))) (all_append (o0.get (i := 3) rfl) all_nil)
 refine lR n0 fun o0 f0 => ?_
 refine wn d0 <| wp_block ?_
 refine wp_loop_rounds 3 (r_round ?_)
 refine wsc fun d0 o0 => lR f0 fun d0 n0 => ?_
 refine wn o0 <| wp_seq_k fun o0 d0 => ?_
 have o0 : 0 < (((([((aA, ac, a) : Sl), ((rA, rc, r) : Sl)]) ++ ([]) : List Sl).length : Nat) : Int) := by simp
 refine wct n0 (decide_eq_true o0) fun f0 => ?_
 refine wp_skip <| xn d0 <| wp_seq_k fun d0 o0 => wp_block ?_
 refine wsc fun d0 n0 => m_index (i := 0) (j := 0 * 1) sv f0 rfl rfl rfl rfl Tryz.underlying37 sz22 (by omega) (by simp) (own_ss (t := ([((aA, ac, a) : Sl), ((rA, rc, r) : Sl)]) ++ ([])) (k := 0) (i0.res (i := 0) rfl) (by simp)).some_ rfl (by decide) fun d0 b0 => ?_
 refine lde 0 (0 * 1) b0 (own_ss (t := ([((aA, ac, a) : Sl), ((rA, rc, r) : Sl)]) ++ ([])) (k := 0) (i0.res (i := 0) rfl) (by simp)) fun d0 f0 => ?_
 refine aw f0 n0 fun d0 b0 => ?_
 refine wsc fun n0 d0 => mv b0 fun n0 f0 => ?_
 have n0 := i0.nf
 refine kcl f0 ok20 (check_calls _ _ n0.il _ _ a (n0.g 0) (n0.g 1)) ?_
 rintro f0 i0 ⟨rfl, b0⟩
 have i0 := n0.below b0.below
 refine ⟨_, rfl, fun b0 n0 => ?_⟩
 refine aw n0 d0 fun b0 f0 => ?_
 refine wsc fun d0 b0 => lR f0 fun d0 n0 => ?_
 refine wn b0 ?_
 rcases Decidable.em (((chk a)) = 0) with b0 | b0
 ·
  refine wcfb n0 rfl (by rw [(decide_eq_true b0)]; rfl) fun d0 => ?_
  refine wp_skip <| x_block_n <| xn o0 <| c_region ?_
  refine adi 1 d0 fun o0 f0 => ?_
  refine mv f0 fun o0 d0 => ?_
  refine wpList_nil ?_
  refine x_then_n (r_round ?_)
  refine wsc fun o0 f0 => lR d0 fun o0 k0 => ?_
  refine wn f0 <| wp_seq_k fun f0 o0 => ?_
  have f0 : 1 < (((([((aA, ac, a) : Sl), ((rA, rc, r) : Sl)]) ++ ([]) : List Sl).length : Nat) : Int) := by simp
  refine wct k0 (decide_eq_true f0) fun d0 => ?_
  refine wp_skip <| xn o0 <| wp_seq_k fun o0 f0 => wp_block ?_
  refine wsc fun o0 k0 => m_index (i := 1) (j := 1 * 1) sv d0 rfl rfl rfl rfl Tryz.underlying37 sz22 (by omega) (by simp) (own_ss (t := ([((aA, ac, a) : Sl), ((rA, rc, r) : Sl)]) ++ ([])) (k := 1) (i0.res (i := 0) rfl) (by simp)).some_ rfl (by decide) fun o0 j0 => ?_
  refine lde 0 (1 * 1) j0 (own_ss (t := ([((aA, ac, a) : Sl), ((rA, rc, r) : Sl)]) ++ ([])) (k := 1) (i0.res (i := 0) rfl) (by simp)) fun o0 d0 => ?_
  refine aw d0 k0 fun o0 j0 => ?_
  refine wsc fun k0 o0 => mv j0 fun k0 d0 => ?_
  have k0 := i0.nf
  refine kcl d0 ok20 (check_calls _ _ k0.il _ _ r (k0.g 0) (k0.g 2)) ?_
  rintro d0 j0 ⟨rfl, h0⟩
  have j0 := k0.below h0.below
  refine ⟨_, rfl, fun h0 k0 => ?_⟩
  refine aw k0 o0 fun h0 d0 => ?_
  refine wsc fun o0 h0 => lR d0 fun o0 k0 => ?_
  refine wn h0 ?_
  rcases Decidable.em (((chk r)) = 0) with h0 | h0
  ·
   refine wcfb k0 rfl (by rw [(decide_eq_true h0)]; rfl) fun o0 => ?_
   refine wp_skip <| x_block_n <| xn f0 <| c_region ?_
   refine adi 2 o0 fun f0 d0 => ?_
   refine mv d0 fun f0 o0 => ?_
   refine wpList_nil ?_
   refine x_then_n (r_round ?_)
   refine wsc fun f0 d0 => lR o0 fun f0 m0 => ?_
   refine wn d0 <| wp_seq_k fun d0 f0 => ?_
   have f0 : ¬ (2 < (((([((aA, ac, a) : Sl), ((rA, rc, r) : Sl)]) ++ ([]) : List Sl).length : Nat) : Int)) := by simp
   refine wcf m0 (decide_eq_false f0) fun d0 => ?_
   refine wp_exit ?_
   refine x_then_e ?_
   refine x_then_e ?_
   refine x_block_eq ?_
   refine xn c0 <| wsc fun c0 f0 => lR d0 fun c0 m0 => ?_
   refine bld m0 fun c0 d0 => ?_
   refine bxx d0 j0 fun c0 m0 o0 p0 q0 => ?_
   refine aw p0 f0 fun o0 m0 => ?_
   refine wp_seq_k fun f0 o0 => ?_
   obtain ⟨f0, p0, c0⟩ := q0.agree
   refine d_reg3 (n := 12) c0 5 (pB 1 1 pn) (pan_then pan_body) fun p0 f0 q0 d0 t0 u0 => ?_
   refine dR [0, 1, 2, 3, 4, 5] m0 fun u0 d0 => ?_
   refine d1 6 ?_
   have u0 := t0.nf
   refine k_callV (xs := [.tmp 39]) (st_op rfl (want_n rfl)) d0 rfl rfl rfl rfl (by decide) ok40 (tr1_calls _ _ u0.il _ _ _ _ _ _ _ _ _ (u0.g 0) (u0.z 1) (imm_box (i := 1) rfl) (u0.g 1) (u0.g 2)) ?_
   rintro d0 t0 ⟨m0, f0, p0, rfl, c0, v0, x0, y0⟩
   have f0 := u0.callM (i := 1) rfl c0 v0
   have v0 := u0.dM 1 f0 x0
   refine ⟨_, rfl, fun f0 x0 => ?_⟩
   obtain ⟨f0, u0⟩ := (show p0.length ≤ 30000 ∧ sml p0 by rw [y0]; exact tr1_Z hsr hsa hla)
   have u0 := sWI v0 5 (pB 1 1 pn)
   refine ⟨u0, ?_⟩
   refine d1 7 ?_
   have u0 := v0.nf
   refine kcl x0 ok22 (done_calls _ _ u0.il _ _ _ _ _ _ _ (u0.g 0) (u0.z 1) (imm_box (i := 1) rfl) (u0.g 6)) ?_
   rintro x0 v0 ⟨f0, y0, rfl, c0, m0, t0⟩
   have v0 := u0.callM (i := 1) rfl c0 m0
   have m0 := u0.dM 1 v0 t0
   refine ⟨_, rfl, fun v0 t0 => ?_⟩
   have v0 := sWI m0 5 (pB 1 1 pn)
   refine ⟨v0, ?_⟩
   refine dR [8, 9, 10, 11] t0 fun v0 u0 => ?_
   refine wpAnyH_done (by kernel_rfl) (q0 _ _ ?_) _
   refine xn o0 <| wp_ret <| er2 u0 ?_
   have u0 : trvL a r = (if (if (((tr1 0 0 a r).2)) = 0 then chk p0 else (((tr1 0 0 a r).2))) = 0 then p0 else []) := (by unfold trvL trvE trvC; simp_all)
   rw [u0]
   refine ⟨f0, y0, ?_, m0.fr, m0.rx 7⟩
   exact ret_t2 rfl (ret_i (by (unfold trvE trvC; simp_all)))
  refine wctb k0 rfl (by rw [(decide_eq_false h0)]; rfl) fun m0 => ?_
  refine wsc fun h0 k0 => lR m0 fun h0 y0 => ?_
  refine wn k0 <| wp_ret <| x_block_r <| x_then_r <| x_then_r <| x_block_r <| x_then_r <| er2 y0 ?_
  have y0 : trvL a r = [] := (by unfold trvL trvE trvC; simp_all)
  rw [y0]
  refine ⟨none, 0, ?_, j0.fr, ⟨Nat.le_refl _, RowI.nil _ _ _ _⟩⟩
  exact ret_t2 rfl (ret_i (by (unfold trvE trvC; simp_all)))
 refine wctb n0 rfl (by rw [(decide_eq_false b0)]; rfl) fun j0 => ?_
 refine wsc fun b0 n0 => lR j0 fun b0 y0 => ?_
 refine wn n0 <| wp_ret <| x_block_r <| x_then_r <| x_then_r <| x_block_r <| x_then_r <| er2 y0 ?_
 have y0 : trvL a r = [] := (by unfold trvL trvE trvC; simp_all)
 rw [y0]
 refine ⟨none, 0, ?_, i0.fr, ⟨Nat.le_refl _, RowI.nil _ _ _ _⟩⟩
 exact ret_t2 rfl (ret_i (by (unfold trvE trvC; simp_all)))
theorem trans_calls (w0 : World) (Z : Nat → Prop) (hZ : ∀ k, Z k → k < w0.heap.size) (aA : Option Addr) (ac : Nat) (a : List Nd) (rA : Option Addr) (rc : Nat) (r : List Nd) (hShp : Shapes w0 Z) (ha : (dRow 4 aA a.length ac (encNs a)).φ w0 Z) (hr : (dRow 4 rA r.length rc (encNs r)).φ w0 Z) (hsa : sml a := by first | assumption | omega | (simp <;> omega)) (hsr : sml r := by first | assumption | omega | (simp <;> omega)) (hla : a.length ≤ 5000 := by first | assumption | omega | (simp <;> omega)) (hlr : r.length ≤ 5000 := by first | assumption | omega | (simp <;> omega)) :
    Calls Tryz.prog 17 [.slice aA a.length ac, .slice rA r.length rc].toArray w0 (fun e w' => ∃ (rA0 : Option Addr) (rc0 : Nat), e = .returned (.tuple #[.slice rA0 (trvL a r).length rc0, .int .i64 (trvE a r)]) ∧ Fr none_ w0 w' ∧ (dRow 4 rA0 ((trvL a r).length) rc0 (encNs (trvL a r))).φ w' (nxt Z w0 w')) := by
 have b0 := s0 (M := none_) hZ (zc (d := dShapes) hShp (zc ha (zc hr zn)))
 refine c_enter Tryz.func17 rfl Tryz.ntmps17 rfl fun c0 d0 => ?_
 refine wsc fun c0 f0 => lR d0 fun c0 h0 => ?_
 refine wn f0 <| wsc fun f0 c0 => lR h0 fun f0 d0 => ?_
 have f0 := b0.nf
 refine kcl d0 ok39 (law_calls _ _ f0.il _ _ _ _ _ _ (f0.g 0) (f0.g 1) (f0.g 2)) ?_
 rintro d0 b0 ⟨h0, i0, rfl, j0, k0⟩
 have b0 := f0.below j0.below
 have j0 := f0.dN b0 k0
 refine ⟨_, rfl, fun b0 k0 => ?_⟩
 refine lR k0 fun b0 f0 => ?_
 refine wn c0 <| wp_ret <| er2 f0 ?_
 refine ⟨h0, i0, ?_, j0.fr, j0.rx 3⟩
 exact ret_t2 rfl (ret_i (by rfl))
theorem told_calls (w0 : World) (Z : Nat → Prop) (hZ : ∀ k, Z k → k < w0.heap.size) (cg : Nat) (ce : Int) (cn : Int) (cK : Value) (cL : Value) (cS : Value) (cT : Value) (cB : Value) (cC : Value) (ck : Value) (cst : Value) (cpr : Value) (cmoA : Option Addr) (cmoc : Nat) (cmo : List Nd) (cty : Value) (cpl : Value) (xA : Option Addr) (xc : Nat) (x : List Nd) (hShp : Shapes w0 Z) (hc : (Res.box cg 59 [.int .i64 (ce), .int .i64 (cn), cK, cL, cS, cT, cB, cC, ck, cst, cpr, .slice cmoA cmo.length cmoc, cty, cpl]).holds w0) (hcz : ¬ Z cg) (hcmo : (dRow 4 cmoA cmo.length cmoc (encNs cmo)).φ w0 Z) (hx : (dRow 4 xA x.length xc (encNs x)).φ w0 Z) (hmo : sml cmo := by first | assumption | omega | (simp <;> omega)) (hml : cmo.length ≤ 100000 := by first | assumption | omega | (simp <;> omega)) (hsx : sml x := by first | assumption | omega | (simp <;> omega)) (hxl : x.length ≤ 1000000 := by first | assumption | omega | (simp <;> omega)) (hcn : -1000 ≤ cn ∧ cn ≤ 1000 := by first | assumption | omega | (simp <;> omega)) :
    Calls Tryz.prog 95 [.pointer (some ⟨cg, 0, none⟩), .slice xA x.length xc].toArray w0 (fun e w' => ∃ (rA0 : Option Addr) (rc0 : Nat) (rL0 : List Nd), e = .returned (.slice rA0 rL0.length rc0) ∧ Fr (· = cg) w0 w' ∧ (Res.box cg 59 [.int .i64 ((tolE ce cn cmo x)), .int .i64 (cn), cK, cL, cS, cT, cB, cC, ck, cst, cpr, .slice cmoA cmo.length cmoc, cty, cpl]).holds w' ∧ (dRow 4 rA0 rL0.length rc0 (encNs rL0)).φ w' (nxt Z w0 w') ∧ rL0 = tolL ce cn cmo x) := by
 have b0 := sM hc hcz hZ (zc (d := dShapes) hShp (zc hcmo (zc hx zn)))
 refine c_enter Tryz.func95 rfl Tryz.ntmps95 rfl fun c0 d0 => ?_
 refine wsc fun c0 f0 => aw d0 f0 fun c0 h0 => ?_
 refine wp_seq_k fun f0 c0 => ?_
 obtain ⟨f0, d0, i0⟩ := b0.agree
 refine d_reg3 (n := 16) i0 3 (pB 0 1 pn) (pan_then pan_body) fun d0 f0 b0 j0 k0 m0 => ?_
 refine dR [0, 1, 2, 3, 4, 5, 6, 7, 8, 9, 10, 12] h0 fun m0 j0 => ?_
 refine wpAnyH_all (rs := [11, 13]) (by kernel_rfl) (by simp) ?_
 rintro i m0
 simp only [List.mem_cons, List.not_mem_nil, or_false] at m0
 rcases m0 with rfl | rfl
 ·
  have m0 := k0.nf
  refine kcl j0 ok73 (here_calls _ _ m0.il _ _ _ _ _ _ _ _ 1 (m0.g 0) (m0.z 0) (imm_box (i := 0) rfl) (m0.g 1)) ?_
  rintro h0 f0 ⟨d0, i0, n0, rfl, o0, p0, q0, s0⟩
  have i0 := m0.callM (i := 0) rfl o0 p0
  have p0 := m0.dM 0 i0 q0
  refine ⟨_, rfl, fun i0 q0 => ?_⟩
  obtain ⟨i0, m0⟩ := upZ s0 (by assumption)
  have m0 := sWI p0 3 (pB 0 1 pn)
  refine ⟨m0, ?_⟩
  refine d1 13 ?_
  have m0 := p0.data (dAll [((xA, xc, x) : Sl)]) (all_cons (p0.get (i := 2) rfl) all_nil)
  refine bsl q0 m0 fun p0 i0 s0 o0 d0 => ?_
  have i0 := sWI d0 3 (pB 0 1 pn)
  refine ⟨i0, ?_⟩
  refine d1 14 ?_
  have i0 := d0.nf
  have d0 := own_cap (i0.res (i := 1) rfl)
  obtain ⟨p0, m0⟩ := i0.row_dataM (i := 1) rfl (j := 0) rfl (by decide)
  have i0 := p0.data (dRow 1 (some ⟨s0, 0, none⟩) 1 1 (encSs ([((xA, xc, x) : Sl)]))) ⟨d0, m0⟩
  refine kcl o0 ok75 (minst_calls _ _ i0.il _ _ _ _ _ _ _ _ _ ([((xA, xc, x) : Sl)]) (i0.g 0) (i0.z 0) (imm_box (i := 0) rfl) (i0.g 4) (i0.g 6) (i0.g 5) (hsm := (by assumption)) (hl := (by omega)) (hls := (by simp only [lsts, List.map_cons, List.map_nil, List.mem_cons, List.not_mem_nil, or_false, forall_eq_or_imp, forall_eq]; first | assumption | omega | (and_intros <;> first | assumption | omega))) (hlb := (by simp only [lsts, List.map_cons, List.map_nil, List.mem_cons, List.not_mem_nil, or_false, forall_eq_or_imp, forall_eq]; first | assumption | omega | (and_intros <;> first | assumption | omega))) (hl0 := (by simp))) ?_
  rintro o0 m0 ⟨p0, d0, s0, rfl, q0, f0, h0, t0⟩
  have t0 := i0.callM (i := 0) rfl q0 f0
  have f0 := i0.dM 0 t0 h0
  refine ⟨_, rfl, fun t0 h0 => ?_⟩
  have t0 := sWI f0 3 (pB 0 1 pn)
  refine ⟨t0, ?_⟩
  refine dR [15] h0 fun t0 i0 => ?_
  refine wpAnyH_done (by kernel_rfl) (b0 _ _ ?_) _
  refine xn c0 <| wp_ret <| er1 i0 ?_
  refine ⟨p0, d0, s0, ?_, f0.fr, (by rw [show (tolE ce cn cmo x : Int) = ((inQ ((upE (ce) cmo (cn) 1)) n0 (lsts ([((xA, xc, x) : Sl)])))) by (first | rfl | (simp only [lsts_nth, *]; done) | (simp only [lsts_nth, *]; rfl))]; exact f0.res (i := 0) rfl), f0.rx 7, (by (simp only [lsts_nth, *]; rfl))⟩
  exact cre (ret_s (by rfl))
 have f0 := k0.data (dAll [((xA, xc, x) : Sl)]) (all_cons (k0.get (i := 2) rfl) all_nil)
 refine bsl j0 f0 fun k0 s0 d0 p0 n0 => ?_
 have s0 := sWI n0 3 (pB 0 1 pn)
 refine ⟨s0, ?_⟩
 refine d1 11 ?_
 have s0 := n0.nf
 refine kcl p0 ok73 (here_calls _ _ s0.il _ _ _ _ _ _ _ _ 1 (s0.g 0) (s0.z 0) (imm_box (i := 0) rfl) (s0.g 1)) ?_
 rintro p0 n0 ⟨k0, f0, j0, rfl, i0, t0, h0, q0⟩
 have f0 := s0.callM (i := 0) rfl i0 t0
 have t0 := s0.dM 0 f0 h0
 refine ⟨_, rfl, fun f0 h0 => ?_⟩
 obtain ⟨f0, s0⟩ := upZ q0 (by assumption)
 have s0 := sWI t0 3 (pB 0 1 pn)
 refine ⟨s0, ?_⟩
 refine d1 14 ?_
 have s0 := t0.nf
 have t0 := own_cap (s0.res (i := 1) rfl)
 obtain ⟨f0, q0⟩ := s0.row_dataM (i := 1) rfl (j := 0) rfl (by decide)
 have s0 := f0.data (dRow 1 (some ⟨d0, 0, none⟩) 1 1 (encSs ([((xA, xc, x) : Sl)]))) ⟨t0, q0⟩
 refine kcl h0 ok75 (minst_calls _ _ s0.il _ _ _ _ _ _ _ _ _ ([((xA, xc, x) : Sl)]) (s0.g 0) (s0.z 0) (imm_box (i := 0) rfl) (s0.g 5) (s0.g 6) (s0.g 4) (hsm := (by assumption)) (hl := (by omega)) (hls := (by simp only [lsts, List.map_cons, List.map_nil, List.mem_cons, List.not_mem_nil, or_false, forall_eq_or_imp, forall_eq]; first | assumption | omega | (and_intros <;> first | assumption | omega))) (hlb := (by simp only [lsts, List.map_cons, List.map_nil, List.mem_cons, List.not_mem_nil, or_false, forall_eq_or_imp, forall_eq]; first | assumption | omega | (and_intros <;> first | assumption | omega))) (hl0 := (by simp))) ?_
 rintro h0 q0 ⟨f0, t0, d0, rfl, i0, k0, n0, p0⟩
 have p0 := s0.callM (i := 0) rfl i0 k0
 have k0 := s0.dM 0 p0 n0
 refine ⟨_, rfl, fun p0 n0 => ?_⟩
 have p0 := sWI k0 3 (pB 0 1 pn)
 refine ⟨p0, ?_⟩
 refine dR [15] n0 fun p0 s0 => ?_
 refine wpAnyH_done (by kernel_rfl) (b0 _ _ ?_) _
 refine xn c0 <| wp_ret <| er1 s0 ?_
 refine ⟨f0, t0, d0, ?_, k0.fr, (by rw [show (tolE ce cn cmo x : Int) = ((inQ ((upE (ce) cmo (cn) 1)) j0 (lsts ([((xA, xc, x) : Sl)])))) by (first | rfl | (simp only [lsts_nth, *]; done) | (simp only [lsts_nth, *]; rfl))]; exact k0.res (i := 0) rfl), k0.rx 7, (by (simp only [lsts_nth, *]; rfl))⟩
 exact cre (ret_s (by rfl))
theorem arg_calls (w0 : World) (Z : Nat → Prop) (hZ : ∀ k, Z k → k < w0.heap.size) (cg : Nat) (ce : Int) (cn : Int) (cK : Value) (cL : Value) (cS : Value) (cT : Value) (cB : Value) (cC : Value) (ck : Value) (cstA : Option Addr) (cstc : Nat) (cst : List Bool) (cpr : Value) (cmo : Value) (cty : Value) (cplA : Option Addr) (cplc : Nat) (cpl : List Int) (i : Nat) (hc : (Res.box cg 59 [.int .i64 (ce), .int .i64 (cn), cK, cL, cS, cT, cB, cC, ck, .slice cstA cst.length cstc, cpr, cmo, cty, .slice cplA cpl.length cplc]).holds w0) (hcz : ¬ Z cg) (hcpl : (Res.row cplA cpl.length cplc 3 1 (encIs cpl)).holds w0) (hcplz : ∀ k, rM cplA k → ¬ Z k) (hcpln : ∀ k, rM cplA k → k ≠ cg) (hcst : (dRow 1 cstA cst.length cstc (encBs cst)).φ w0 Z) (hi : i < cst.length := by first | assumption | omega | (simp <;> omega)) (hi2 : i < cpl.length := by first | assumption | omega | (simp <;> omega)) (hcn : -1000 ≤ cn ∧ cn ≤ 1000 := by first | assumption | omega | (simp <;> omega)) (hpl : ∀ j, -1000 ≤ nthI cpl j ∧ nthI cpl j ≤ 1000 := by first | assumption | omega | (simp <;> omega)) :
    Calls Tryz.prog 94 [.pointer (some ⟨cg, 0, none⟩), .int .i64 ((i : Nat) : Int)].toArray w0 (fun e w' => ∃ (rA0 : Option Addr) (rc0 : Nat) (rL0 : List Nd), e = .returned (.slice rA0 rL0.length rc0) ∧ Fr (fun k => k = cg ∨ rM cplA k) w0 w' ∧ (Res.box cg 59 [.int .i64 (ce), .int .i64 (cn), cK, cL, cS, cT, cB, cC, ck, .slice cstA cst.length cstc, cpr, cmo, cty, .slice cplA cpl.length cplc]).holds w' ∧ (Res.row cplA cpl.length cplc 3 1 (encIs cpl)).holds w' ∧ (dRow 4 rA0 rL0.length rc0 (encNs rL0)).φ w' (nxt Z w0 w') ∧ rL0 = argL ce cn cst cpl i) := by
 have hstart : ∀ k, Z k → imm Z w0 [.box cg 59 [.int .i64 (ce), .int .i64 (cn), cK, cL, cS, cT, cB, cC, ck, .slice cstA cst.length cstc, cpr, cmo, cty, .slice cplA cpl.length cplc], .row cplA cpl.length cplc 3 1 (encIs cpl)] w0 k ∧ w0.heap[k]? = w0.heap[k]? := fun k hk => imm_startMR hZ hcz hcplz hk
 have b0 : St w0 Z (fun k => k = cg ∨ rM cplA k) w0 [.box cg 59 [.int .i64 (ce), .int .i64 (cn), cK, cL, cS, cT, cB, cC, ck, .slice cstA cst.length cstc, cpr, cmo, cty, .slice cplA cpl.length cplc], .row cplA cpl.length cplc 3 1 (encIs cpl)] [dRow 1 cstA cst.length cstc (encBs cst)] := St.startMR w0 Z _ hc hcpl hcpln (by
  intro d hd
  simp only [List.mem_cons, List.not_mem_nil, or_false] at hd
  rcases hd with rfl
  · exact Dat.mono _ _ _ _ _ (Nat.le_refl _) hcst hstart
  )
 refine c_enter Tryz.func94 rfl Tryz.ntmps94 rfl fun c0 d0 => ?_
 refine wsc fun c0 f0 => aw d0 f0 fun c0 h0 => ?_
 refine wp_seq_k fun f0 c0 => wsc fun f0 d0 => lR h0 fun f0 i0 => ?_
 refine ix i (i * 1) i0 (bs_elem (t := cst) (k := i) (b0.row (i := 0) rfl).2 (by omega)).some_ fun f0 h0 => ?_
 refine lde 0 (i * 1) h0 (bs_elem (t := cst) (k := i) (b0.row (i := 0) rfl).2 (by omega)) fun f0 i0 => ?_
 refine wn d0 ?_
 rcases Bool.eq_false_or_eq_true (nthB cst i) with d0 | d0
 ·
  refine wct i0 d0 fun f0 => ?_
  refine wsc fun h0 j0 => lR f0 fun h0 k0 => ?_
  have h0 := b0.nf
  refine kcl k0 ok129 (tick_calls _ _ h0.il _ _ _ _ (h0.z 0) (imm_box (i := 0) rfl)) ?_
  rintro k0 f0 ⟨m0, n0, o0, rfl, p0, q0, s0, t0⟩
  have f0 := h0.callM (i := 0) rfl p0 q0
  have q0 := h0.dM 0 f0 s0
  refine ⟨_, rfl, fun f0 s0 => ?_⟩
  refine aw s0 j0 fun f0 h0 => ?_
  refine wp_ret <| x_then_r <| er1 h0 ?_
  refine ⟨m0, n0, o0, ?_, q0.fr, q0.res (i := 0) rfl, q0.res (i := 1) rfl, q0.rx 1, (by unfold argL; first | (rw [if_pos (by assumption)]; exact t0) | (rw [if_neg (by simp [d0])]; exact t0))⟩
  exact cre (ret_s (by rfl))
 refine wcf i0 d0 fun q0 => ?_
 refine wp_skip <| xn c0 <| wp_seq_k fun c0 i0 => ?_
 obtain ⟨c0, t0, o0⟩ := b0.agree
 refine d_reg3 (n := 12) o0 1 (pB 0 0 (pr 1 pn)) (pan_then pan_body) fun t0 c0 b0 n0 m0 h0 => ?_
 refine dR [0, 1, 2, 3, 4, 5, 6, 7] q0 fun h0 n0 => ?_
 refine dix 8 i (i * 1) n0 (fun x hx => (own_ints (t := cpl) (k := i) (m0.res (i := 1) rfl) (by omega)).some_) fun h0 q0 => ?_
 refine dle 9 0 (i * 1) q0 (fun x hx => own_ints (t := cpl) (k := i) (hx.r 14) (by omega)) fun h0 n0 => ?_
 refine d1 10 ?_
 have h0 := m0.nf
 refine kcl n0 ok76 (at_calls _ _ h0.il _ _ _ _ _ ((nthI cpl i)) (h0.z 0) (imm_box (i := 0) rfl) (hma := hcn) (hp := (hpl i))) ?_
 rintro n0 m0 ⟨q0, c0, t0, rfl, o0, j0, f0, s0⟩
 have m0 := h0.callM (i := 0) rfl o0 j0
 have j0 := h0.dM 0 m0 f0
 refine ⟨_, rfl, fun m0 f0 => ?_⟩
 have m0 := sWI j0 1 (pB 0 0 (pr 1 pn))
 refine ⟨m0, ?_⟩
 refine dR [11] f0 fun m0 h0 => ?_
 refine wpAnyH_done (by kernel_rfl) (b0 _ _ ?_) _
 refine xn i0 <| wp_ret <| er1 h0 ?_
 refine ⟨q0, c0, t0, ?_, j0.fr, j0.res (i := 0) rfl, j0.res (i := 1) rfl, j0.rx 2, (by unfold argL; first | (rw [if_pos (by assumption)]; exact s0) | (rw [if_neg (by simp [d0])]; exact s0))⟩
 exact cre (ret_s (by rfl))
theorem hyp1_calls (w0 : World) (Z : Nat → Prop) (hZ : ∀ k, Z k → k < w0.heap.size) (cg : Nat) (ce : Int) (cn : Int) (cK : Value) (cL : Value) (cS : ByteArray) (cT : Value) (cB : Value) (cC : Value) (ck : Int) (cstA : Option Addr) (cstc : Nat) (cst : List Bool) (cpr : Bool) (cmoA : Option Addr) (cmoc : Nat) (cmo : List Nd) (ctyA : Option Addr) (ctyc : Nat) (cty : List Sl) (cplA : Option Addr) (cplc : Nat) (cpl : List Int) (uag : Nat) (ubg : Nat) (ubi : Nat) (hShp : Shapes w0 Z) (hc : (Res.box cg 59 [.int .i64 (ce), .int .i64 (cn), cK, cL, .string cS, cT, cB, cC, .int .i64 (ck), .slice cstA cst.length cstc, .bool cpr, .slice cmoA cmo.length cmoc, .slice ctyA cty.length ctyc, .slice cplA cpl.length cplc]).holds w0) (hcz : ¬ Z cg) (hcpl : (Res.row cplA cpl.length cplc 3 1 (encIs cpl)).holds w0) (hcplz : ∀ k, rM cplA k → ¬ Z k) (hcpln : ∀ k, rM cplA k → k ≠ cg) (hcst : (dRow 1 cstA cst.length cstc (encBs cst)).φ w0 Z) (hcmo : (dRow 4 cmoA cmo.length cmoc (encNs cmo)).φ w0 Z) (hcty : (dRow 1 ctyA cty.length ctyc (encSs cty)).φ w0 Z) (hctys : (dAll cty).φ w0 Z) (huaQ : (dBox uag [.pointer (some ⟨cg, 0, none⟩)]).φ w0 Z) (hubQ : (dBox ubg [.int .i64 ((ubi : Nat) : Int)]).φ w0 Z) (hmo : sml cmo := by first | assumption | omega | (simp <;> omega)) (hml : cmo.length ≤ 100000 := by first | assumption | omega | (simp <;> omega)) (hpl : ∀ j, -1000 ≤ nthI cpl j ∧ nthI cpl j ≤ 1000 := by first | assumption | omega | (simp <;> omega)) (hi : ubi < cst.length := by first | assumption | omega | (simp <;> omega)) (hi2 : ubi < cpl.length := by first | assumption | omega | (simp <;> omega)) (hcn : -1000 ≤ cn ∧ cn ≤ 1000 := by first | assumption | omega | (simp <;> omega)) :
    Calls Tryz.prog 130 [.pointer (some ⟨uag, 0, none⟩), .pointer (some ⟨ubg, 0, none⟩)].toArray w0 (fun e w' => ∃ (rA0 : Option Addr) (rc0 : Nat) (rL0 : List Nd), e = .returned (.slice rA0 rL0.length rc0) ∧ Fr (fun k => k = cg ∨ rM cplA k) w0 w' ∧ (Res.box cg 59 [.int .i64 ((tolE ce cn cmo (argL ce cn cst cpl ubi))), .int .i64 (cn), cK, cL, .string cS, cT, cB, cC, .int .i64 (ck), .slice cstA cst.length cstc, .bool cpr, .slice cmoA cmo.length cmoc, .slice ctyA cty.length ctyc, .slice cplA cpl.length cplc]).holds w' ∧ (Res.row cplA cpl.length cplc 3 1 (encIs cpl)).holds w' ∧ (dRow 4 rA0 rL0.length rc0 (encNs rL0)).φ w' (nxt Z w0 w') ∧ rL0 = tolL ce cn cmo (argL ce cn cst cpl ubi)) := by
 have hstart : ∀ k, Z k → imm Z w0 [.box cg 59 [.int .i64 (ce), .int .i64 (cn), cK, cL, .string cS, cT, cB, cC, .int .i64 (ck), .slice cstA cst.length cstc, .bool cpr, .slice cmoA cmo.length cmoc, .slice ctyA cty.length ctyc, .slice cplA cpl.length cplc], .row cplA cpl.length cplc 3 1 (encIs cpl)] w0 k ∧ w0.heap[k]? = w0.heap[k]? := fun k hk => imm_startMR hZ hcz hcplz hk
 have b0 : St w0 Z (fun k => k = cg ∨ rM cplA k) w0 [.box cg 59 [.int .i64 (ce), .int .i64 (cn), cK, cL, .string cS, cT, cB, cC, .int .i64 (ck), .slice cstA cst.length cstc, .bool cpr, .slice cmoA cmo.length cmoc, .slice ctyA cty.length ctyc, .slice cplA cpl.length cplc], .row cplA cpl.length cplc 3 1 (encIs cpl)] [dShapes, dRow 1 cstA cst.length cstc (encBs cst), dRow 4 cmoA cmo.length cmoc (encNs cmo), dRow 1 ctyA cty.length ctyc (encSs cty), dAll cty, dBox uag [.pointer (some ⟨cg, 0, none⟩)], dBox ubg [.int .i64 ((ubi : Nat) : Int)]] := St.startMR w0 Z _ hc hcpl hcpln (by
  intro d hd
  simp only [List.mem_cons, List.not_mem_nil, or_false] at hd
  rcases hd with rfl | rfl | rfl | rfl | rfl | rfl | rfl
  · exact Dat.mono _ _ _ _ _ (Nat.le_refl _) hShp hstart
  · exact Dat.mono _ _ _ _ _ (Nat.le_refl _) hcst hstart
  · exact Dat.mono _ _ _ _ _ (Nat.le_refl _) hcmo hstart
  · exact Dat.mono _ _ _ _ _ (Nat.le_refl _) hcty hstart
  · exact Dat.mono _ _ _ _ _ (Nat.le_refl _) hctys hstart
  · exact Dat.mono _ _ _ _ _ (Nat.le_refl _) huaQ hstart
  · exact Dat.mono _ _ _ _ _ (Nat.le_refl _) hubQ hstart
  )
 refine c_enter Tryz.func130 rfl Tryz.ntmps130 rfl fun c0 d0 => ?_
 refine wsc fun c0 f0 => aw d0 f0 fun c0 h0 => ?_
 refine wp_seq_k fun f0 c0 => ?_
 obtain ⟨f0, d0, i0⟩ := b0.agree
 refine d_reg3 (n := 6) i0 7 (pB 0 1 pn) (pan_then pan_body) fun f0 b0 j0 k0 m0 n0 => ?_
 refine dt 0 rfl b0 h0 (want_n rfl) (fun x hx => m_loadC (sy h0) h0 rfl rfl rfl (dbox_cell (sdat (d0 5 _ rfl) hx.ag) rfl) Tryz.underlying52 rfl (by decide) gt) n0 fun k0 f0 => ?_
 refine dt 1 rfl b0 f0 (want_n rfl) (fun x hx => m_loadC (sy f0) f0 rfl rfl rfl (dbox_cell (sdat (d0 5 _ rfl) hx.ag) rfl) Tryz.underlying52 rfl (by decide) gt) n0 fun k0 h0 => ?_
 refine dt 2 rfl b0 h0 (want_n rfl) (fun x hx => m_loadC (sy h0) h0 rfl rfl rfl (dbox_cell (sdat (d0 6 _ rfl) hx.ag) rfl) Tryz.underlying3 rfl (by decide) gt) n0 fun k0 f0 => ?_
 refine d1 3 ?_
 have k0 := m0.nf
 refine kcl f0 ok94 (arg_calls _ _ k0.il _ _ _ _ _ _ _ _ _ _ _ _ _ _ _ _ _ _ _ ubi (k0.z 0) (imm_box (i := 0) rfl) (k0.z 1) (imm_row (i := 1) rfl) (k0.rowne (i := 0) (j := 1) rfl rfl (by decide)) (k0.g 1)) ?_
 rintro f0 m0 ⟨h0, n0, b0, rfl, d0, i0, o0, p0, q0⟩
 have n0 := k0.callMK (i := 0) (j := 1) rfl rfl (by decide) d0 i0 o0
 have o0 := k0.dM 0 n0 p0
 refine ⟨_, rfl, fun n0 p0 => ?_⟩
 obtain ⟨n0, k0⟩ : b0.length ≤ 1 ∧ sml b0 := by rw [q0]; exact ⟨argL_len, argL_sml⟩
 have k0 := sWI o0 7 (pB 0 1 pn)
 refine ⟨k0, ?_⟩
 refine d1 4 ?_
 have k0 := o0.nf
 refine kcl p0 ok95 (told_calls _ _ k0.il _ _ _ _ _ _ _ _ _ _ _ _ _ _ _ _ _ _ _ _ (k0.g 0) (k0.z 0) (imm_box (i := 0) rfl) (k0.g 2) (k0.g 8)) ?_
 rintro p0 o0 ⟨n0, q0, i0, rfl, d0, h0, m0, f0⟩
 have f0 := k0.callM (i := 0) rfl d0 h0
 have h0 := k0.dM 0 f0 m0
 refine ⟨_, rfl, fun f0 m0 => ?_⟩
 have f0 := sWI h0 7 (pB 0 1 pn)
 refine ⟨f0, ?_⟩
 refine dR [5] m0 fun f0 k0 => ?_
 refine wpAnyH_done (by kernel_rfl) (j0 _ _ ?_) _
 refine xn c0 <| wp_ret <| er1 k0 ?_
 refine ⟨n0, q0, i0, ?_, h0.fr, (by rw [show (tolE ce cn cmo (argL ce cn cst cpl ubi) : Int) = ((tolE (((ce))) (cn) cmo b0)) by (first | rfl | (simp only [lsts_nth, *]; done) | (simp only [lsts_nth, *]; rfl))]; exact h0.res (i := 0) rfl), h0.res (i := 1) rfl, h0.rx 9, (by (simp only [lsts_nth, *]; done))⟩
 exact cre (ret_s (by rfl))
theorem hyp21_calls (w0 : World) (Z : Nat → Prop) (hZ : ∀ k, Z k → k < w0.heap.size) (cg : Nat) (ce : Int) (cn : Int) (cK : Value) (cL : Value) (cS : ByteArray) (cT : Value) (cB : Value) (cC : Value) (ck : Int) (cstA : Option Addr) (cstc : Nat) (cst : List Bool) (cpr : Bool) (cmoA : Option Addr) (cmoc : Nat) (cmo : List Nd) (ctyA : Option Addr) (ctyc : Nat) (cty : List Sl) (cplA : Option Addr) (cplc : Nat) (cpl : List Int) (qq : Int) (uag : Nat) (ubg : Nat) (ubi : Nat) (ucg : Nat) (ucn : Int) (hShp : Shapes w0 Z) (hc : (Res.box cg 59 [.int .i64 (ce), .int .i64 (cn), cK, cL, .string cS, cT, cB, cC, .int .i64 (ck), .slice cstA cst.length cstc, .bool cpr, .slice cmoA cmo.length cmoc, .slice ctyA cty.length ctyc, .slice cplA cpl.length cplc]).holds w0) (hcz : ¬ Z cg) (hcpl : (Res.row cplA cpl.length cplc 3 1 (encIs cpl)).holds w0) (hcplz : ∀ k, rM cplA k → ¬ Z k) (hcpln : ∀ k, rM cplA k → k ≠ cg) (hcst : (dRow 1 cstA cst.length cstc (encBs cst)).φ w0 Z) (hcmo : (dRow 4 cmoA cmo.length cmoc (encNs cmo)).φ w0 Z) (hcty : (dRow 1 ctyA cty.length ctyc (encSs cty)).φ w0 Z) (hctys : (dAll cty).φ w0 Z) (huaQ : (dBox uag [.pointer (some ⟨cg, 0, none⟩)]).φ w0 Z) (hubQ : (dBox ubg [.int .i64 ((ubi : Nat) : Int)]).φ w0 Z) (hucQ : (dBox ucg [.int .i64 (ucn)]).φ w0 Z) (hmo : sml cmo := by first | assumption | omega | (simp <;> omega)) (hml : cmo.length ≤ 100000 := by first | assumption | omega | (simp <;> omega)) (hpl : ∀ j, -1000 ≤ nthI cpl j ∧ nthI cpl j ≤ 1000 := by first | assumption | omega | (simp <;> omega)) (hi : ubi < cst.length := by first | assumption | omega | (simp <;> omega)) (hi2 : ubi < cpl.length := by first | assumption | omega | (simp <;> omega)) (hbcn : -900 ≤ cn ∧ cn ≤ 900 := by first | assumption | omega | (simp <;> omega)) (hbqq : -900 ≤ qq ∧ qq ≤ 900 := by first | assumption | omega | (simp <;> omega)) (h0 : 0 ≤ ucn := by first | assumption | omega | (simp <;> omega)) (h4 : ucn < 1000 := by first | assumption | omega | (simp <;> omega)) :
    Calls Tryz.prog 133 [.int .i64 qq, .pointer (some ⟨uag, 0, none⟩), .pointer (some ⟨ubg, 0, none⟩), .pointer (some ⟨ucg, 0, none⟩)].toArray w0 (fun e w' => ∃ (rA0 : Option Addr) (rc0 : Nat) (rL0 : List Nd), e = .returned (.slice rA0 rL0.length rc0) ∧ Fr (fun k => k = cg ∨ rM cplA k) w0 w' ∧ (Res.box cg 59 [.int .i64 ((tolE ce cn cmo (hfX ce cn cst cpl ubi ucn qq))), .int .i64 (cn), cK, cL, .string cS, cT, cB, cC, .int .i64 (ck), .slice cstA cst.length cstc, .bool cpr, .slice cmoA cmo.length cmoc, .slice ctyA cty.length ctyc, .slice cplA cpl.length cplc]).holds w' ∧ (Res.row cplA cpl.length cplc 3 1 (encIs cpl)).holds w' ∧ (dRow 4 rA0 rL0.length rc0 (encNs rL0)).φ w' (nxt Z w0 w') ∧ rL0 = tolL ce cn cmo (hfX ce cn cst cpl ubi ucn qq)) := by
 have hstart : ∀ k, Z k → imm Z w0 [.box cg 59 [.int .i64 (ce), .int .i64 (cn), cK, cL, .string cS, cT, cB, cC, .int .i64 (ck), .slice cstA cst.length cstc, .bool cpr, .slice cmoA cmo.length cmoc, .slice ctyA cty.length ctyc, .slice cplA cpl.length cplc], .row cplA cpl.length cplc 3 1 (encIs cpl)] w0 k ∧ w0.heap[k]? = w0.heap[k]? := fun k hk => imm_startMR hZ hcz hcplz hk
 have b0 : St w0 Z (fun k => k = cg ∨ rM cplA k) w0 [.box cg 59 [.int .i64 (ce), .int .i64 (cn), cK, cL, .string cS, cT, cB, cC, .int .i64 (ck), .slice cstA cst.length cstc, .bool cpr, .slice cmoA cmo.length cmoc, .slice ctyA cty.length ctyc, .slice cplA cpl.length cplc], .row cplA cpl.length cplc 3 1 (encIs cpl)] [dShapes, dRow 1 cstA cst.length cstc (encBs cst), dRow 4 cmoA cmo.length cmoc (encNs cmo), dRow 1 ctyA cty.length ctyc (encSs cty), dAll cty, dBox uag [.pointer (some ⟨cg, 0, none⟩)], dBox ubg [.int .i64 ((ubi : Nat) : Int)], dBox ucg [.int .i64 (ucn)]] := St.startMR w0 Z _ hc hcpl hcpln (by
  intro d hd
  simp only [List.mem_cons, List.not_mem_nil, or_false] at hd
  rcases hd with rfl | rfl | rfl | rfl | rfl | rfl | rfl | rfl
  · exact Dat.mono _ _ _ _ _ (Nat.le_refl _) hShp hstart
  · exact Dat.mono _ _ _ _ _ (Nat.le_refl _) hcst hstart
  · exact Dat.mono _ _ _ _ _ (Nat.le_refl _) hcmo hstart
  · exact Dat.mono _ _ _ _ _ (Nat.le_refl _) hcty hstart
  · exact Dat.mono _ _ _ _ _ (Nat.le_refl _) hctys hstart
  · exact Dat.mono _ _ _ _ _ (Nat.le_refl _) huaQ hstart
  · exact Dat.mono _ _ _ _ _ (Nat.le_refl _) hubQ hstart
  · exact Dat.mono _ _ _ _ _ (Nat.le_refl _) hucQ hstart
  )
 refine c_enter Tryz.func133 rfl Tryz.ntmps133 rfl fun c0 d0 => ?_
 refine wsc fun c0 f0 => aw d0 f0 fun c0 i0 => ?_
 refine wp_seq_k fun f0 c0 => ?_
 obtain ⟨f0, d0, j0⟩ := b0.agree
 refine d_reg3 (n := 24) j0 8 (pB 0 1 pn) (pan_then pan_body) fun f0 b0 k0 m0 n0 o0 => ?_
 refine dt 0 rfl b0 i0 (want_n rfl) (fun x hx => m_loadC (sy i0) i0 rfl rfl rfl (dbox_cell (sdat (d0 5 _ rfl) hx.ag) rfl) Tryz.underlying52 rfl (by decide) gt) o0 fun m0 f0 => ?_
 refine dt 1 rfl b0 f0 (want_n rfl) (fun x hx => m_loadC (sy f0) f0 rfl rfl rfl (dbox_cell (sdat (d0 5 _ rfl) hx.ag) rfl) Tryz.underlying52 rfl (by decide) gt) o0 fun m0 i0 => ?_
 refine dR [2, 3, 4] i0 fun m0 f0 => ?_
 refine dt 5 rfl b0 f0 (want_n rfl) (fun x hx => bldY f0) o0 fun m0 i0 => ?_
 refine dt 6 rfl b0 i0 (want_n rfl) (fun x hx => m_loadC (sy i0) i0 rfl rfl rfl (dbox_cell (sdat (d0 5 _ rfl) hx.ag) rfl) Tryz.underlying52 rfl (by decide) gt) o0 fun m0 f0 => ?_
 refine dt 7 rfl b0 f0 (want_n rfl) (fun x hx => m_loadC (sy f0) f0 rfl rfl rfl (dbox_cell (sdat (d0 6 _ rfl) hx.ag) rfl) Tryz.underlying3 rfl (by decide) gt) o0 fun m0 i0 => ?_
 refine dt 9 rfl b0 i0 (want_n rfl) (fun x hx => m_loadC (sy i0) i0 rfl rfl rfl (dbox_cell (sdat (d0 5 _ rfl) hx.ag) rfl) Tryz.underlying52 rfl (by decide) gt) o0 fun m0 f0 => ?_
 refine dR [10, 11, 12] f0 fun m0 i0 => ?_
 refine dt 13 rfl b0 i0 (want_n rfl) (fun x hx => m_loadC (sy i0) i0 rfl rfl rfl (dbox_cell (sdat (d0 7 _ rfl) hx.ag) rfl) Tryz.underlying3 rfl (by decide) gt) o0 fun m0 f0 => ?_
 refine dt 14 rfl b0 f0 (want_n rfl) (fun x hx => m_loadC (sy f0) f0 rfl rfl rfl (dbox_cell (sdat (d0 5 _ rfl) hx.ag) rfl) Tryz.underlying52 rfl (by decide) gt) o0 fun m0 i0 => ?_
 refine dR [15, 16, 17] i0 fun m0 f0 => ?_
 refine d1 8 ?_
 have m0 := n0.nf
 refine kcl f0 ok94 (arg_calls _ _ m0.il _ _ _ _ _ _ _ _ _ _ _ _ _ _ _ _ _ _ _ ubi (m0.z 0) (imm_box (i := 0) rfl) (m0.z 1) (imm_row (i := 1) rfl) (m0.rowne (i := 0) (j := 1) rfl rfl (by decide)) (m0.g 1)) ?_
 rintro f0 n0 ⟨i0, o0, b0, rfl, d0, j0, p0, q0, s0⟩
 have n0 := m0.callMK (i := 0) (j := 1) rfl rfl (by decide) d0 j0 p0
 have p0 := m0.dM 0 n0 q0
 refine ⟨_, rfl, fun n0 q0 => ?_⟩
 obtain ⟨n0, m0⟩ : b0.length ≤ 1 ∧ sml b0 := by rw [s0]; exact ⟨argL_len, argL_sml⟩
 have m0 := sWI p0 8 (pB 0 1 pn)
 refine ⟨m0, ?_⟩
 refine d1 18 ?_
 have m0 := p0.nf
 refine kcl q0 ok76 (at_calls _ _ m0.il _ _ _ _ _ (qq) (m0.z 0) (imm_box (i := 0) rfl)) ?_
 rintro q0 p0 ⟨n0, s0, j0, rfl, d0, f0, t0, u0⟩
 have s0 := m0.callM (i := 0) rfl d0 f0
 have f0 := m0.dM 0 s0 t0
 refine ⟨_, rfl, fun s0 t0 => ?_⟩
 obtain ⟨s0, m0⟩ : j0.length ≤ 1 ∧ sml j0 := by rw [u0]; exact ⟨atL_len, atL_sml⟩
 have m0 := sWI f0 8 (pB 0 1 pn)
 refine ⟨m0, ?_⟩
 refine d1 19 ?_
 have m0 := f0.nf
 refine kcl t0 ok134 (place_calls _ _ m0.il _ _ _ _ (ucn) _ _ _ (m0.z 0) (imm_box (i := 0) rfl) (m0.g 10)) ?_
 rintro t0 f0 ⟨s0, u0, j0, rfl, d0, n0, p0, q0⟩
 have f0 := m0.callM (i := 0) rfl d0 n0
 have n0 := m0.dM 0 f0 p0
 refine ⟨_, rfl, fun f0 p0 => ?_⟩
 obtain ⟨f0, m0⟩ := plZ q0 (by assumption)
 have m0 := sWI n0 8 (pB 0 1 pn)
 refine ⟨m0, ?_⟩
 refine d1 20 ?_
 have m0 := n0.data (dAll [((i0, o0, b0) : Sl), ((s0, u0, j0) : Sl)]) (all_cons (n0.get (i := 9) rfl) (all_cons (n0.get (i := 11) rfl) all_nil))
 refine bsl p0 m0 fun n0 f0 q0 d0 t0 => ?_
 have f0 := sWI t0 8 (pB 0 1 pn)
 refine ⟨f0, ?_⟩
 refine d1 21 ?_
 have f0 := t0.nf
 have t0 := own_cap (f0.res (i := 2) rfl)
 obtain ⟨n0, m0⟩ := f0.row_dataG (i := 2) rfl (two_M (i := 2) rfl rfl (by decide) (by decide))
 have f0 := n0.data (dRow 1 (some ⟨q0, 0, none⟩) 2 2 (encSs ([((i0, o0, b0) : Sl), ((s0, u0, j0) : Sl)]))) ⟨t0, m0⟩
 refine kcl d0 ok96 (node_calls _ _ f0.il _ _ _ _ (⟨5, 0, 0, (⟨#[]⟩ : ByteArray)⟩ : Nd) _ _ ([((i0, o0, b0) : Sl), ((s0, u0, j0) : Sl)]) (f0.z 0) (imm_box (i := 0) rfl) (f0.g 13) (f0.g 12) (hb := (by simp; omega))) ?_
 rintro d0 j0 ⟨u0, s0, b0, rfl, o0, i0, m0, n0⟩
 have s0 := f0.callM (i := 0) rfl o0 i0
 have i0 := f0.dM 0 s0 m0
 refine ⟨_, rfl, fun s0 m0 => ?_⟩
 obtain ⟨s0, f0⟩ := noZ2 n0 (by decide) (by assumption) (by assumption)
 have f0 := sWI i0 8 (pB 0 1 pn)
 refine ⟨f0, ?_⟩
 refine d1 22 ?_
 have f0 := i0.nf
 refine kcl m0 ok95 (told_calls _ _ f0.il _ _ _ _ _ _ _ _ _ _ _ _ _ _ _ _ _ _ _ _ (f0.g 0) (f0.z 0) (imm_box (i := 0) rfl) (f0.g 2) (f0.g 14)) ?_
 rintro m0 i0 ⟨s0, n0, o0, rfl, u0, j0, d0, t0⟩
 have t0 := f0.callM (i := 0) rfl u0 j0
 have j0 := f0.dM 0 t0 d0
 refine ⟨_, rfl, fun t0 d0 => ?_⟩
 have t0 := sWI j0 8 (pB 0 1 pn)
 refine ⟨t0, ?_⟩
 refine dR [23] d0 fun t0 f0 => ?_
 refine wpAnyH_done (by kernel_rfl) (k0 _ _ ?_) _
 refine xn c0 <| wp_ret <| er1 f0 ?_
 refine ⟨s0, n0, o0, ?_, j0.fr, (by rw [show (tolE ce cn cmo (hfX ce cn cst cpl ubi ucn qq) : Int) = ((tolE ((((((ce)))))) (cn) cmo b0)) by (first | rfl | (simp only [lsts_nth, *]; done) | (simp only [lsts_nth, *]; rfl))]; exact j0.res (i := 0) rfl), j0.res (i := 1) rfl, j0.rx 15, (by (simp only [lsts_nth, *]; rfl))⟩
 exact cre (ret_s (by rfl))
theorem pi21_calls (w0 : World) (Z : Nat → Prop) (hZ : ∀ k, Z k → k < w0.heap.size) (cg : Nat) (ce : Int) (cn : Int) (cK : Value) (cL : Value) (cS : ByteArray) (cT : Value) (cB : Value) (cC : Value) (ck : Int) (cstA : Option Addr) (cstc : Nat) (cst : List Bool) (cpr : Bool) (cmoA : Option Addr) (cmoc : Nat) (cmo : List Nd) (ctyA : Option Addr) (ctyc : Nat) (cty : List Sl) (cplA : Option Addr) (cplc : Nat) (cpl : List Int) (mm : Int) (dA : Option Addr) (dc : Nat) (d : List Nd) (vvpg : Nat) (vvqg : Nat) (vvqi : Nat) (vvrg : Nat) (vvrn : Int) (hShp : Shapes w0 Z) (hc : (Res.box cg 59 [.int .i64 (ce), .int .i64 (cn), cK, cL, .string cS, cT, cB, cC, .int .i64 (ck), .slice cstA cst.length cstc, .bool cpr, .slice cmoA cmo.length cmoc, .slice ctyA cty.length ctyc, .slice cplA cpl.length cplc]).holds w0) (hcz : ¬ Z cg) (hcpl : (Res.row cplA cpl.length cplc 3 1 (encIs cpl)).holds w0) (hcplz : ∀ k, rM cplA k → ¬ Z k) (hcpln : ∀ k, rM cplA k → k ≠ cg) (hcst : (dRow 1 cstA cst.length cstc (encBs cst)).φ w0 Z) (hcmo : (dRow 4 cmoA cmo.length cmoc (encNs cmo)).φ w0 Z) (hcty : (dRow 1 ctyA cty.length ctyc (encSs cty)).φ w0 Z) (hctys : (dAll cty).φ w0 Z) (hd : (dRow 4 dA d.length dc (encNs d)).φ w0 Z) (hvvpQ : (dBox vvpg [.pointer (some ⟨cg, 0, none⟩)]).φ w0 Z) (hvvqQ : (dBox vvqg [.int .i64 ((vvqi : Nat) : Int)]).φ w0 Z) (hvvrQ : (dBox vvrg [.int .i64 (vvrn)]).φ w0 Z) (hmo : sml cmo := by first | assumption | omega | (simp <;> omega)) (hml : cmo.length ≤ 100000 := by first | assumption | omega | (simp <;> omega)) (hpl : ∀ j, -1000 ≤ nthI cpl j ∧ nthI cpl j ≤ 1000 := by first | assumption | omega | (simp <;> omega)) (hi : vvqi < cst.length := by first | assumption | omega | (simp <;> omega)) (hi2 : vvqi < cpl.length := by first | assumption | omega | (simp <;> omega)) (hbcn : -800 ≤ cn ∧ cn ≤ 800 := by first | assumption | omega | (simp <;> omega)) (h0 : 0 ≤ vvrn := by first | assumption | omega | (simp <;> omega)) (h4 : vvrn < 1000 := by first | assumption | omega | (simp <;> omega)) (hsd : sml d := by first | assumption | omega | (simp <;> omega)) (hld : d.length ≤ 20000 := by first | assumption | omega | (simp <;> omega)) :
    Calls Tryz.prog 57 [.pointer (some ⟨cg, 0, none⟩), .int .i64 mm, .slice dA d.length dc, .func (.func 133) #[] #[.pointer (some ⟨vvpg, 0, none⟩), .pointer (some ⟨vvqg, 0, none⟩), .pointer (some ⟨vvrg, 0, none⟩)]].toArray w0 (fun e w' => ∃ (rA0 : Option Addr) (rc0 : Nat) (rL0 : List Nd), e = .returned (.slice rA0 rL0.length rc0) ∧ Fr (fun k => k = cg ∨ rM cplA k) w0 w' ∧ (Res.box cg 59 [.int .i64 (((piP (tolL ce (cn + 1) cmo (hfX ce (cn + 1) cst cpl vvqi vvrn (cn + 1)), tolE ce (cn + 1) cmo (hfX ce (cn + 1) cst cpl vvqi vvrn (cn + 1))) mm d).2)), .int .i64 (cn), cK, cL, .string cS, cT, cB, cC, .int .i64 (ck), .slice cstA cst.length cstc, .bool cpr, .slice cmoA cmo.length cmoc, .slice ctyA cty.length ctyc, .slice cplA cpl.length cplc]).holds w' ∧ (Res.row cplA cpl.length cplc 3 1 (encIs cpl)).holds w' ∧ (dRow 4 rA0 rL0.length rc0 (encNs rL0)).φ w' (nxt Z w0 w') ∧ rL0 = (piP (tolL ce (cn + 1) cmo (hfX ce (cn + 1) cst cpl vvqi vvrn (cn + 1)), tolE ce (cn + 1) cmo (hfX ce (cn + 1) cst cpl vvqi vvrn (cn + 1))) mm d).1) := by
 have hstart : ∀ k, Z k → imm Z w0 [.box cg 59 [.int .i64 (ce), .int .i64 (cn), cK, cL, .string cS, cT, cB, cC, .int .i64 (ck), .slice cstA cst.length cstc, .bool cpr, .slice cmoA cmo.length cmoc, .slice ctyA cty.length ctyc, .slice cplA cpl.length cplc], .row cplA cpl.length cplc 3 1 (encIs cpl)] w0 k ∧ w0.heap[k]? = w0.heap[k]? := fun k hk => imm_startMR hZ hcz hcplz hk
 have b0 : St w0 Z (fun k => k = cg ∨ rM cplA k) w0 [.box cg 59 [.int .i64 (ce), .int .i64 (cn), cK, cL, .string cS, cT, cB, cC, .int .i64 (ck), .slice cstA cst.length cstc, .bool cpr, .slice cmoA cmo.length cmoc, .slice ctyA cty.length ctyc, .slice cplA cpl.length cplc], .row cplA cpl.length cplc 3 1 (encIs cpl)] [dShapes, dRow 1 cstA cst.length cstc (encBs cst), dRow 4 cmoA cmo.length cmoc (encNs cmo), dRow 1 ctyA cty.length ctyc (encSs cty), dAll cty, dRow 4 dA d.length dc (encNs d), dBox vvpg [.pointer (some ⟨cg, 0, none⟩)], dBox vvqg [.int .i64 ((vvqi : Nat) : Int)], dBox vvrg [.int .i64 (vvrn)]] := St.startMR w0 Z _ hc hcpl hcpln (by
  intro d hd
  simp only [List.mem_cons, List.not_mem_nil, or_false] at hd
  rcases hd with rfl | rfl | rfl | rfl | rfl | rfl | rfl | rfl | rfl
  · exact Dat.mono _ _ _ _ _ (Nat.le_refl _) hShp hstart
  · exact Dat.mono _ _ _ _ _ (Nat.le_refl _) hcst hstart
  · exact Dat.mono _ _ _ _ _ (Nat.le_refl _) hcmo hstart
  · exact Dat.mono _ _ _ _ _ (Nat.le_refl _) hcty hstart
  · exact Dat.mono _ _ _ _ _ (Nat.le_refl _) hctys hstart
  · exact Dat.mono _ _ _ _ _ (Nat.le_refl _) hd hstart
  · exact Dat.mono _ _ _ _ _ (Nat.le_refl _) hvvpQ hstart
  · exact Dat.mono _ _ _ _ _ (Nat.le_refl _) hvvqQ hstart
  · exact Dat.mono _ _ _ _ _ (Nat.le_refl _) hvvrQ hstart
  )
 refine c_enter Tryz.func57 rfl Tryz.ntmps57 rfl fun c0 d0 => ?_
 refine wsc fun c0 f0 => aw d0 f0 fun c0 i0 => ?_
 refine wsc fun f0 c0 => lR i0 fun f0 d0 => ?_
 refine adi (cn + 1) d0 fun f0 i0 => ?_
 refine lR i0 fun f0 d0 => ?_
 refine sto 0 d0 b0 fun f0 i0 j0 k0 => ?_
 refine wn c0 <| wsc fun c0 i0 => lR j0 fun c0 f0 => ?_
 have c0 := k0.nf
 refine k_callV (xs := [.tmp 21]) se f0 rfl rfl rfl rfl (by decide) ok133 (hyp21_calls _ _ c0.il _ _ _ _ _ _ _ _ _ _ _ _ _ _ _ _ _ _ _ _ _ _ _ (cn + 1) vvpg vvqg vvqi vvrg (vvrn) (c0.g 0) (c0.z 0) (imm_box (i := 0) rfl) (c0.z 1) (imm_row (i := 1) rfl) (c0.rowne (i := 0) (j := 1) rfl rfl (by decide)) (c0.g 1) (c0.g 2) (c0.g 3) (c0.g 4) (c0.g 6) (c0.g 7) (c0.g 8)) ?_
 rintro f0 k0 ⟨j0, d0, b0, rfl, m0, n0, o0, p0, q0⟩
 have k0 := c0.callMK (i := 0) (j := 1) rfl rfl (by decide) m0 n0 o0
 have o0 := c0.dM 0 k0 p0
 refine ⟨_, rfl, fun k0 p0 => ?_⟩
 obtain ⟨k0, c0⟩ : b0.length ≤ 4000 ∧ sml b0 := by rw [q0]; exact ⟨tolL_len, tolL_sml hmo hfX_sml⟩
 refine aw p0 i0 fun c0 k0 => ?_
 refine wsc fun i0 c0 => lR k0 fun i0 p0 => ?_
 refine sbi (cn) p0 fun i0 k0 => ?_
 refine lR k0 fun i0 p0 => ?_
 refine sto 0 p0 o0 fun i0 k0 q0 n0 => ?_
 refine wn c0 <| wsc fun c0 k0 => lR q0 fun c0 i0 => ?_
 refine bld i0 fun c0 q0 => ?_
 refine lR q0 fun c0 i0 => ?_
 have c0 := n0.data (dAll [((dA, dc, d) : Sl), ((j0, d0, b0) : Sl)]) (all_cons (n0.get (i := 5) rfl) (all_cons (n0.get (i := 9) rfl) all_nil))
 refine bsl i0 c0 fun n0 q0 p0 o0 m0 => ?_
 have q0 := m0.nf
 have m0 := own_cap (q0.res (i := 2) rfl)
 obtain ⟨n0, c0⟩ := q0.row_dataG (i := 2) rfl (two_M (i := 2) rfl rfl (by decide) (by decide))
 have q0 := n0.data (dRow 1 (some ⟨p0, 0, none⟩) 2 2 (encSs ([((dA, dc, d) : Sl), ((j0, d0, b0) : Sl)]))) ⟨m0, c0⟩
 refine kcl o0 ok96 (node_calls _ _ q0.il _ _ _ _ (⟨3, (mm), 0, (⟨#[]⟩ : ByteArray)⟩ : Nd) _ _ ([((dA, dc, d) : Sl), ((j0, d0, b0) : Sl)]) (q0.z 0) (imm_box (i := 0) rfl) (q0.g 11) (q0.g 10) (hb := (by simp; omega))) ?_
 rintro o0 b0 ⟨d0, j0, c0, rfl, n0, m0, p0, i0⟩
 have i0 := q0.callM (i := 0) rfl n0 m0
 have m0 := q0.dM 0 i0 p0
 refine ⟨_, rfl, fun i0 p0 => ?_⟩
 refine aw p0 k0 fun i0 q0 => ?_
 refine wp_ret <| er1 q0 ?_
 refine ⟨d0, j0, c0, ?_, m0.fr, (by rw [show ((piP (tolL ce (cn + 1) cmo (hfX ce (cn + 1) cst cpl vvqi vvrn (cn + 1)), tolE ce (cn + 1) cmo (hfX ce (cn + 1) cst cpl vvqi vvrn (cn + 1))) mm d).2 : Int) = (((tolE (ce) (cn + 1) cmo (hfX (ce) (cn + 1) cst cpl vvqi (vvrn) (cn + 1))))) by (first | rfl | (simp only [lsts_nth, *]; done) | (simp only [lsts_nth, *]; rfl))]; exact m0.res (i := 0) rfl), m0.res (i := 1) rfl, m0.rx 12, (by (simp only [lsts_nth, *]; rfl))⟩
 exact cre (ret_s (by rfl))
theorem hyp2_calls (w0 : World) (Z : Nat → Prop) (hZ : ∀ k, Z k → k < w0.heap.size) (cg : Nat) (ce : Int) (cn : Int) (cK : Value) (cL : Value) (cS : ByteArray) (cT : Value) (cB : Value) (cC : Value) (ck : Int) (cstA : Option Addr) (cstc : Nat) (cst : List Bool) (cpr : Bool) (cmoA : Option Addr) (cmoc : Nat) (cmo : List Nd) (ctyA : Option Addr) (ctyc : Nat) (cty : List Sl) (cplA : Option Addr) (cplc : Nat) (cpl : List Int) (uag : Nat) (ubg : Nat) (ubn : Int) (ucg : Nat) (uctA : Option Addr) (uctc : Nat) (uct : List Nd) (udg : Nat) (udi : Nat) (hShp : Shapes w0 Z) (hc : (Res.box cg 59 [.int .i64 (ce), .int .i64 (cn), cK, cL, .string cS, cT, cB, cC, .int .i64 (ck), .slice cstA cst.length cstc, .bool cpr, .slice cmoA cmo.length cmoc, .slice ctyA cty.length ctyc, .slice cplA cpl.length cplc]).holds w0) (hcz : ¬ Z cg) (hcpl : (Res.row cplA cpl.length cplc 3 1 (encIs cpl)).holds w0) (hcplz : ∀ k, rM cplA k → ¬ Z k) (hcpln : ∀ k, rM cplA k → k ≠ cg) (hcst : (dRow 1 cstA cst.length cstc (encBs cst)).φ w0 Z) (hcmo : (dRow 4 cmoA cmo.length cmoc (encNs cmo)).φ w0 Z) (hcty : (dRow 1 ctyA cty.length ctyc (encSs cty)).φ w0 Z) (hctys : (dAll cty).φ w0 Z) (huaQ : (dBox uag [.pointer (some ⟨cg, 0, none⟩)]).φ w0 Z) (hubQ : (dBox ubg [.int .i64 (ubn)]).φ w0 Z) (huct : (dRow 4 uctA uct.length uctc (encNs uct)).φ w0 Z) (hucQ : (dBox ucg [.slice uctA uct.length uctc]).φ w0 Z) (hudQ : (dBox udg [.int .i64 ((udi : Nat) : Int)]).φ w0 Z) (hmo : sml cmo := by first | assumption | omega | (simp <;> omega)) (hml : cmo.length ≤ 100000 := by first | assumption | omega | (simp <;> omega)) (hpl : ∀ j, -1000 ≤ nthI cpl j ∧ nthI cpl j ≤ 1000 := by first | assumption | omega | (simp <;> omega)) (hi : udi < cst.length := by first | assumption | omega | (simp <;> omega)) (hi2 : udi < cpl.length := by first | assumption | omega | (simp <;> omega)) (hbcn : -700 ≤ cn ∧ cn ≤ 700 := by first | assumption | omega | (simp <;> omega)) (h0 : 0 ≤ ubn := by first | assumption | omega | (simp <;> omega)) (h4 : ubn < 1000 := by first | assumption | omega | (simp <;> omega)) (hct : chk uct = 0 := by first | assumption | omega | (simp <;> omega)) (hk3 : (nth uct (uct.length - 1)).K = 3 := by first | assumption | omega | (simp <;> omega)) (hst : sml uct := by first | assumption | omega | (simp <;> omega)) (hlt : uct.length ≤ 4000 := by first | assumption | omega | (simp <;> omega)) :
    Calls Tryz.prog 131 [.pointer (some ⟨uag, 0, none⟩), .pointer (some ⟨ubg, 0, none⟩), .pointer (some ⟨ucg, 0, none⟩), .pointer (some ⟨udg, 0, none⟩)].toArray w0 (fun e w' => ∃ (rA0 : Option Addr) (rc0 : Nat) (rL0 : List Nd), e = .returned (.slice rA0 rL0.length rc0) ∧ Fr (fun k => k = cg ∨ rM cplA k) w0 w' ∧ (Res.box cg 59 [.int .i64 (((hy2 ce cn cst cpr cmo uct ubn cpl udi).2)), .int .i64 (cn), cK, cL, .string cS, cT, cB, cC, .int .i64 (ck), .slice cstA cst.length cstc, .bool cpr, .slice cmoA cmo.length cmoc, .slice ctyA cty.length ctyc, .slice cplA cpl.length cplc]).holds w' ∧ (Res.row cplA cpl.length cplc 3 1 (encIs cpl)).holds w' ∧ (dRow 4 rA0 rL0.length rc0 (encNs rL0)).φ w' (nxt Z w0 w') ∧ rL0 = (hy2 ce cn cst cpr cmo uct ubn cpl udi).1) := by
 have hstart : ∀ k, Z k → imm Z w0 [.box cg 59 [.int .i64 (ce), .int .i64 (cn), cK, cL, .string cS, cT, cB, cC, .int .i64 (ck), .slice cstA cst.length cstc, .bool cpr, .slice cmoA cmo.length cmoc, .slice ctyA cty.length ctyc, .slice cplA cpl.length cplc], .row cplA cpl.length cplc 3 1 (encIs cpl)] w0 k ∧ w0.heap[k]? = w0.heap[k]? := fun k hk => imm_startMR hZ hcz hcplz hk
 have b0 : St w0 Z (fun k => k = cg ∨ rM cplA k) w0 [.box cg 59 [.int .i64 (ce), .int .i64 (cn), cK, cL, .string cS, cT, cB, cC, .int .i64 (ck), .slice cstA cst.length cstc, .bool cpr, .slice cmoA cmo.length cmoc, .slice ctyA cty.length ctyc, .slice cplA cpl.length cplc], .row cplA cpl.length cplc 3 1 (encIs cpl)] [dShapes, dRow 1 cstA cst.length cstc (encBs cst), dRow 4 cmoA cmo.length cmoc (encNs cmo), dRow 1 ctyA cty.length ctyc (encSs cty), dAll cty, dBox uag [.pointer (some ⟨cg, 0, none⟩)], dBox ubg [.int .i64 (ubn)], dRow 4 uctA uct.length uctc (encNs uct), dBox ucg [.slice uctA uct.length uctc], dBox udg [.int .i64 ((udi : Nat) : Int)]] := St.startMR w0 Z _ hc hcpl hcpln (by
  intro d hd
  simp only [List.mem_cons, List.not_mem_nil, or_false] at hd
  rcases hd with rfl | rfl | rfl | rfl | rfl | rfl | rfl | rfl | rfl | rfl
  · exact Dat.mono _ _ _ _ _ (Nat.le_refl _) hShp hstart
  · exact Dat.mono _ _ _ _ _ (Nat.le_refl _) hcst hstart
  · exact Dat.mono _ _ _ _ _ (Nat.le_refl _) hcmo hstart
  · exact Dat.mono _ _ _ _ _ (Nat.le_refl _) hcty hstart
  · exact Dat.mono _ _ _ _ _ (Nat.le_refl _) hctys hstart
  · exact Dat.mono _ _ _ _ _ (Nat.le_refl _) huaQ hstart
  · exact Dat.mono _ _ _ _ _ (Nat.le_refl _) hubQ hstart
  · exact Dat.mono _ _ _ _ _ (Nat.le_refl _) huct hstart
  · exact Dat.mono _ _ _ _ _ (Nat.le_refl _) hucQ hstart
  · exact Dat.mono _ _ _ _ _ (Nat.le_refl _) hudQ hstart
  )
 have hm2 := many_3 hk3
 refine c_enter Tryz.func131 rfl Tryz.ntmps131 rfl fun c0 d0 => ?_
 refine wsc fun c0 f0 => aw d0 f0 fun c0 i0 => ?_
 refine wp_seq_k fun f0 c0 => ?_
 obtain ⟨f0, d0, j0⟩ := b0.agree
 refine d_reg3 (n := 22) j0 10 (pB 0 1 pn) (pan_then pan_body) fun f0 b0 k0 m0 n0 o0 => ?_
 refine dt 0 rfl b0 i0 (want_n rfl) (fun x hx => m_loadC (sy i0) i0 rfl rfl rfl (dbox_cell (sdat (d0 5 _ rfl) hx.ag) rfl) Tryz.underlying52 rfl (by decide) gt) o0 fun m0 f0 => ?_
 refine dR [1, 2] f0 fun m0 i0 => ?_
 refine dt 3 rfl b0 i0 (want_n rfl) (fun x hx => m_loadC (sy i0) i0 rfl rfl rfl (dbox_cell (sdat (d0 6 _ rfl) hx.ag) rfl) Tryz.underlying3 rfl (by decide) gt) o0 fun m0 f0 => ?_
 refine dt 4 rfl b0 f0 (want_n rfl) (fun x hx => r_int (v := .int .i64 ((bandI (ubn) 2))) (sy f0) f0 rfl rfl rfl rfl (by decide) (run_andI (b := 2) (by omega) (by omega) (by decide)) gt) o0 fun m0 i0 => ?_
 refine dt 5 rfl b0 i0 (want_n rfl) (fun x hx => m_loadC (sy i0) i0 rfl rfl rfl (dbox_cell (sdat (d0 5 _ rfl) hx.ag) rfl) Tryz.underlying52 rfl (by decide) gt) o0 fun m0 f0 => ?_
 refine dR [6, 7, 8] f0 fun m0 i0 => ?_
 refine dt 11 rfl b0 i0 (want_n rfl) (fun x hx => m_loadC (sy i0) i0 rfl rfl rfl (dbox_cell (sdat (d0 5 _ rfl) hx.ag) rfl) Tryz.underlying52 rfl (by decide) gt) o0 fun m0 f0 => ?_
 refine dR [12, 13, 14] f0 fun m0 i0 => ?_
 refine dt 15 rfl b0 i0 (want_n rfl) (fun x hx => m_loadC (sy i0) i0 rfl rfl rfl (dbox_cell (sdat (d0 8 _ rfl) hx.ag) rfl) Tryz.underlying22 rfl (by decide) gt) o0 fun m0 f0 => ?_
 refine dt 19 rfl b0 f0 (want_n rfl) (fun x hx => r_makeFunc (sy f0) f0 rfl rfl rfl (by decide) gt) o0 fun m0 i0 => ?_
 refine d1 9 ?_
 have m0 := n0.nf
 refine kcl i0 ok58 (mark_calls _ _ m0.il cpr 1) ?_
 rintro i0 n0 ⟨rfl, f0⟩
 have n0 := m0.below f0.below
 refine ⟨_, rfl, fun f0 m0 => ?_⟩
 have f0 := sWI n0 10 (pB 0 1 pn)
 refine ⟨f0, ?_⟩
 refine dt 10 rfl b0 m0 (want_n rfl) (fun x hx => r_int (v := .int .i64 ((orI ((bandI (ubn) 2)) ((mkI cpr 1))))) (sy m0) m0 rfl rfl rfl rfl (by decide) (run_orI (by exact bandI_0) (by exact bandI_k (by decide)) (by exact mkI_0 (by decide)) (by exact mkI_k (by decide))) gt) f0 fun i0 o0 => ?_
 refine d1 16 ?_
 have i0 := n0.nf
 refine kcl o0 ok132 (parts_calls _ _ i0.il _ _ _ _ _ _ _ (i0.g 0) (i0.z 0) (imm_box (i := 0) rfl) (i0.g 7) (hsm := hst) (hl := (by omega)) (hc := hct)) ?_
 rintro o0 n0 ⟨f0, m0, b0, rfl, d0, j0, p0, q0, s0⟩
 have m0 := i0.callM (i := 0) rfl d0 j0
 have j0 := i0.dM 0 m0 p0
 have m0 := i0.dM 0 j0 q0
 refine ⟨_, rfl, fun j0 q0 => ?_⟩
 have hag := s0
 have hgl : b0.length = many (nth uct (uct.length - 1)) := by rw [← lsts_len, hag, agA_ok hct, ptL_length (meas_chk hct)]
 obtain ⟨hg1, hg2, _⟩ := ag_nth hct hag hst (show 0 < many (nth uct (uct.length - 1)) by omega)
 have hg3 : (nthS b0 0).2.2 = nthL (agA uct) 0 := by rw [lsts_nth, hag]
 have s0 := sWI m0 10 (pB 0 1 pn)
 refine ⟨s0, ?_⟩
 obtain ⟨s0, j0, i0⟩ := m0.agree
 refine d_more (j0 10 _ rfl) ?_
 have s0 := sWI i0 13 (pB 0 1 pn)
 refine dix 17 0 (0 * 1) q0 (fun x hx => (ss_elem (t := b0) (k := 0) (sdat (j0 11 _ rfl) hx.ag).2 (by omega)).some_) fun s0 m0 => ?_
 refine dle 18 0 (0 * 1) m0 (fun x hx => ss_elem (t := b0) (k := 0) (sdat (j0 11 _ rfl) hx.ag).2 (by omega)) fun s0 q0 => ?_
 have s0 := i0.el 12 0
 refine d1 20 ?_
 have i0 := s0.nf
 refine kcl q0 ok57 (pi21_calls _ _ i0.il _ _ _ _ _ _ _ _ _ _ _ _ _ _ _ _ _ _ _ _ _ _ _ ((orI ((bandI (ubn) 2)) ((mkI cpr 1)))) _ _ ((nthS b0 0).2.2) uag udg udi ubg (ubn) (i0.g 0) (i0.z 0) (imm_box (i := 0) rfl) (i0.z 1) (imm_row (i := 1) rfl) (i0.rowne (i := 0) (j := 1) rfl rfl (by decide)) (i0.g 1) (i0.g 2) (i0.g 3) (i0.g 4) (i0.g 14) (i0.g 5) (i0.g 9) (i0.g 6)) ?_
 rintro q0 s0 ⟨m0, j0, p0, rfl, d0, f0, n0, o0, t0⟩
 have s0 := i0.callMK (i := 0) (j := 1) rfl rfl (by decide) d0 f0 n0
 have n0 := i0.dM 0 s0 o0
 refine ⟨_, rfl, fun s0 o0 => ?_⟩
 have s0 := sWI n0 13 (pB 0 1 pn)
 refine ⟨s0, ?_⟩
 refine dR [21] o0 fun s0 i0 => ?_
 refine wpAnyH_done (by kernel_rfl) (k0 _ _ ?_) _
 refine xn c0 <| wp_ret <| er1 i0 ?_
 refine ⟨m0, j0, p0, ?_, n0.fr, (by rw [show ((hy2 ce cn cst cpr cmo uct ubn cpl udi).2 : Int) = (((piP (tolL ((ce)) ((cn) + 1) cmo (hfX ((ce)) ((cn) + 1) cst cpl udi (ubn) ((cn) + 1)), tolE ((ce)) ((cn) + 1) cmo (hfX ((ce)) ((cn) + 1) cst cpl udi (ubn) ((cn) + 1))) ((orI ((bandI (ubn) 2)) ((mkI cpr 1)))) ((nthS b0 0).2.2)).2)) by (rw [hg3]; rfl)]; exact n0.res (i := 0) rfl), n0.res (i := 1) rfl, n0.rx 15, (by rw [t0, hg3]; rfl)⟩
 exact cre (ret_s (by rfl))
def HypC (rn : Nat) : Prop := ∀ (w0 : World) (Z : Nat → Prop) (hZ : ∀ k, Z k → k < w0.heap.size) (cg : Nat) (ce : Int) (cn : Int) (cK : Value) (cL : Value) (cS : ByteArray) (cT : Value) (cB : Value) (cC : Value) (ck : Int) (cstA : Option Addr) (cstc : Nat) (cst : List Bool) (cpr : Bool) (cmoA : Option Addr) (cmoc : Nat) (cmo : List Nd) (ctyA : Option Addr) (ctyc : Nat) (cty : List Sl) (cplA : Option Addr) (cplc : Nat) (cpl : List Int) (i : Nat) (hShp : Shapes w0 Z) (hc : (Res.box cg 59 [.int .i64 (ce), .int .i64 (cn), cK, cL, .string cS, cT, cB, cC, .int .i64 (ck), .slice cstA cst.length cstc, .bool cpr, .slice cmoA cmo.length cmoc, .slice ctyA cty.length ctyc, .slice cplA cpl.length cplc]).holds w0) (hcz : ¬ Z cg) (hcpl : (Res.row cplA cpl.length cplc 3 1 (encIs cpl)).holds w0) (hcplz : ∀ k, rM cplA k → ¬ Z k) (hcpln : ∀ k, rM cplA k → k ≠ cg) (hcst : (dRow 1 cstA cst.length cstc (encBs cst)).φ w0 Z) (hcmo : (dRow 4 cmoA cmo.length cmoc (encNs cmo)).φ w0 Z) (hcty : (dRow 1 ctyA cty.length ctyc (encSs cty)).φ w0 Z) (hctys : (dAll cty).φ w0 Z) (hmo : sml cmo) (hml : cmo.length ≤ 100000) (hpl : ∀ j, -1000 ≤ nthI cpl j ∧ nthI cpl j ≤ 1000) (hlc : cst.length = cty.length) (hlp : cpl.length = cty.length) (hty : ∀ t ∈ lsts cty, sml t ∧ t.length ≤ 4000) (hn6 : cty.length ≤ 6) (hcS : cS.size < 1000000) (hi : i ≤ cty.length) (hbn : -500 ≤ cn ∧ cn + ((cty.length - i : Nat) : Int) ≤ 500) (hrn : cty.length - i = rn),
    Calls Tryz.prog 56 [.pointer (some ⟨cg, 0, none⟩), .int .i64 ((i : Nat) : Int)].toArray w0 (fun e w' => ∃ (rA0 : Option Addr) (rc0 : Nat) (rL0 : List Nd), e = .returned (.slice rA0 rL0.length rc0) ∧ Fr (fun k => k = cg ∨ rM cplA k) w0 w' ∧ (Res.box cg 59 [.int .i64 (((hyF cS ck cst cpr cmo (lsts cty) cpl cty.length (cty.length - i) ce cn).2)), .int .i64 (cn), cK, cL, .string cS, cT, cB, cC, .int .i64 (ck), .slice cstA cst.length cstc, .bool cpr, .slice cmoA cmo.length cmoc, .slice ctyA cty.length ctyc, .slice cplA cpl.length cplc]).holds w' ∧ (Res.row cplA cpl.length cplc 3 1 (encIs cpl)).holds w' ∧ (dRow 4 rA0 rL0.length rc0 (encNs rL0)).φ w' (nxt Z w0 w') ∧ rL0 = (hyF cS ck cst cpr cmo (lsts cty) cpl cty.length (cty.length - i) ce cn).1)
theorem hyps1_calls (w0 : World) (Z : Nat → Prop) (hZ : ∀ k, Z k → k < w0.heap.size) (cg : Nat) (ce : Int) (cn : Int) (cK : Value) (cL : Value) (cS : ByteArray) (cT : Value) (cB : Value) (cC : Value) (ck : Int) (cstA : Option Addr) (cstc : Nat) (cst : List Bool) (cpr : Bool) (cmoA : Option Addr) (cmoc : Nat) (cmo : List Nd) (ctyA : Option Addr) (ctyc : Nat) (cty : List Sl) (cplA : Option Addr) (cplc : Nat) (cpl : List Int) (qq : Int) (uag : Nat) (ubg : Nat) (ubi : Nat) (hShp : Shapes w0 Z) (hc : (Res.box cg 59 [.int .i64 (ce), .int .i64 (cn), cK, cL, .string cS, cT, cB, cC, .int .i64 (ck), .slice cstA cst.length cstc, .bool cpr, .slice cmoA cmo.length cmoc, .slice ctyA cty.length ctyc, .slice cplA cpl.length cplc]).holds w0) (hcz : ¬ Z cg) (hcpl : (Res.row cplA cpl.length cplc 3 1 (encIs cpl)).holds w0) (hcplz : ∀ k, rM cplA k → ¬ Z k) (hcpln : ∀ k, rM cplA k → k ≠ cg) (hcst : (dRow 1 cstA cst.length cstc (encBs cst)).φ w0 Z) (hcmo : (dRow 4 cmoA cmo.length cmoc (encNs cmo)).φ w0 Z) (hcty : (dRow 1 ctyA cty.length ctyc (encSs cty)).φ w0 Z) (hctys : (dAll cty).φ w0 Z) (huaQ : (dBox uag [.pointer (some ⟨cg, 0, none⟩)]).φ w0 Z) (hubQ : (dBox ubg [.int .i64 ((ubi : Nat) : Int)]).φ w0 Z) (hmo : sml cmo := by first | assumption | omega | (simp <;> omega)) (hml : cmo.length ≤ 100000 := by first | assumption | omega | (simp <;> omega)) (hpl : ∀ j, -1000 ≤ nthI cpl j ∧ nthI cpl j ≤ 1000 := by first | assumption | omega | (simp <;> omega)) (hlc : cst.length = cty.length := by first | assumption | omega | (simp <;> omega)) (hlp : cpl.length = cty.length := by first | assumption | omega | (simp <;> omega)) (hty : ∀ t ∈ lsts cty, sml t ∧ t.length ≤ 4000 := by first | assumption | omega | (simp <;> omega)) (hn6 : cty.length ≤ 6 := by first | assumption | omega | (simp <;> omega)) (hcS : cS.size < 1000000 := by first | assumption | omega | (simp <;> omega)) (hiu : ubi < cty.length := by first | assumption | omega | (simp <;> omega)) (hbn : -500 ≤ cn ∧ cn + ((cty.length - (ubi + 1) : Nat) : Int) ≤ 500 := by first | assumption | omega | (simp <;> omega)) (hH : HypC (cty.length - (ubi + 1)) := by first | assumption | omega | (simp <;> omega)) :
    Calls Tryz.prog 98 [.int .i64 qq, .pointer (some ⟨uag, 0, none⟩), .pointer (some ⟨ubg, 0, none⟩)].toArray w0 (fun e w' => ∃ (rA0 : Option Addr) (rc0 : Nat) (rL0 : List Nd), e = .returned (.slice rA0 rL0.length rc0) ∧ Fr (fun k => k = cg ∨ rM cplA k) w0 w' ∧ (Res.box cg 59 [.int .i64 (((hyF cS ck cst cpr cmo (lsts cty) cpl cty.length (cty.length - (ubi + 1)) ce cn).2)), .int .i64 (cn), cK, cL, .string cS, cT, cB, cC, .int .i64 (ck), .slice cstA cst.length cstc, .bool cpr, .slice cmoA cmo.length cmoc, .slice ctyA cty.length ctyc, .slice cplA cpl.length cplc]).holds w' ∧ (Res.row cplA cpl.length cplc 3 1 (encIs cpl)).holds w' ∧ (dRow 4 rA0 rL0.length rc0 (encNs rL0)).φ w' (nxt Z w0 w') ∧ rL0 = (hyF cS ck cst cpr cmo (lsts cty) cpl cty.length (cty.length - (ubi + 1)) ce cn).1) := by
 have hstart : ∀ k, Z k → imm Z w0 [.box cg 59 [.int .i64 (ce), .int .i64 (cn), cK, cL, .string cS, cT, cB, cC, .int .i64 (ck), .slice cstA cst.length cstc, .bool cpr, .slice cmoA cmo.length cmoc, .slice ctyA cty.length ctyc, .slice cplA cpl.length cplc], .row cplA cpl.length cplc 3 1 (encIs cpl)] w0 k ∧ w0.heap[k]? = w0.heap[k]? := fun k hk => imm_startMR hZ hcz hcplz hk
 have b0 : St w0 Z (fun k => k = cg ∨ rM cplA k) w0 [.box cg 59 [.int .i64 (ce), .int .i64 (cn), cK, cL, .string cS, cT, cB, cC, .int .i64 (ck), .slice cstA cst.length cstc, .bool cpr, .slice cmoA cmo.length cmoc, .slice ctyA cty.length ctyc, .slice cplA cpl.length cplc], .row cplA cpl.length cplc 3 1 (encIs cpl)] [dShapes, dRow 1 cstA cst.length cstc (encBs cst), dRow 4 cmoA cmo.length cmoc (encNs cmo), dRow 1 ctyA cty.length ctyc (encSs cty), dAll cty, dBox uag [.pointer (some ⟨cg, 0, none⟩)], dBox ubg [.int .i64 ((ubi : Nat) : Int)]] := St.startMR w0 Z _ hc hcpl hcpln (by
  intro d hd
  simp only [List.mem_cons, List.not_mem_nil, or_false] at hd
  rcases hd with rfl | rfl | rfl | rfl | rfl | rfl | rfl
  · exact Dat.mono _ _ _ _ _ (Nat.le_refl _) hShp hstart
  · exact Dat.mono _ _ _ _ _ (Nat.le_refl _) hcst hstart
  · exact Dat.mono _ _ _ _ _ (Nat.le_refl _) hcmo hstart
  · exact Dat.mono _ _ _ _ _ (Nat.le_refl _) hcty hstart
  · exact Dat.mono _ _ _ _ _ (Nat.le_refl _) hctys hstart
  · exact Dat.mono _ _ _ _ _ (Nat.le_refl _) huaQ hstart
  · exact Dat.mono _ _ _ _ _ (Nat.le_refl _) hubQ hstart
  )
 refine c_enter Tryz.func98 rfl Tryz.ntmps98 rfl fun c0 d0 => ?_
 refine wsc fun c0 f0 => aw d0 f0 fun c0 h0 => ?_
 refine wsc fun f0 c0 => m_loadC sv h0 rfl rfl rfl (dbox_cell (b0.get (i := 5) rfl) rfl) Tryz.underlying52 rfl (by decide) fun f0 d0 => ?_
 refine m_loadC sv d0 rfl rfl rfl (dbox_cell (b0.get (i := 6) rfl) rfl) Tryz.underlying3 rfl (by decide) fun f0 h0 => ?_
 refine adi ((ubi + 1 : Nat) : Int) h0 fun f0 d0 => ?_
 have f0 := b0.nf
 refine kcl d0 ok56 (hH _ (imm Z w0 [.box cg 59 [.int .i64 (ce), .int .i64 (cn), cK, cL, .string cS, cT, cB, cC, .int .i64 (ck), .slice cstA cst.length cstc, .bool cpr, .slice cmoA cmo.length cmoc, .slice ctyA cty.length ctyc, .slice cplA cpl.length cplc], .row cplA cpl.length cplc 3 1 (encIs cpl)] _) (fun _ h => h.1) _ _ _ _ _ _ _ _ _ _ _ _ _ _ _ _ _ _ _ _ _ _ _ (ubi + 1) (f0.g 0) (f0.z 0) (imm_box (i := 0) rfl) (f0.z 1) (imm_row (i := 1) rfl) (f0.rowne (i := 0) (j := 1) rfl rfl (by decide)) (f0.g 1) (f0.g 2) (f0.g 3) (f0.g 4) (by assumption) (by assumption) (by assumption) (by assumption) (by assumption) (by assumption) (by assumption) (by assumption) (by assumption) (by assumption) rfl) ?_
 rintro d0 b0 ⟨h0, i0, j0, rfl, k0, m0, n0, o0, p0⟩
 have b0 := f0.callMK (i := 0) (j := 1) rfl rfl (by decide) k0 m0 n0
 have n0 := f0.dM 0 b0 o0
 refine ⟨_, rfl, fun b0 o0 => ?_⟩
 refine aw o0 c0 fun b0 f0 => ?_
 refine wp_ret <| er1 f0 ?_
 refine ⟨h0, i0, j0, ?_, n0.fr, (by rw [show ((hyF cS ck cst cpr cmo (lsts cty) cpl cty.length (cty.length - (ubi + 1)) ce cn).2 : Int) = (((hyF cS (ck) cst cpr cmo (lsts cty) cpl cty.length (cty.length - (ubi + 1)) (ce) (cn)).2)) by (first | rfl | (simp only [lsts_nth, *]; done) | (simp only [lsts_nth, *]; rfl))]; exact n0.res (i := 0) rfl), n0.res (i := 1) rfl, n0.rx 7, (by exact p0)⟩
 exact cre (ret_s (by rfl))
theorem pi98_calls (w0 : World) (Z : Nat → Prop) (hZ : ∀ k, Z k → k < w0.heap.size) (cg : Nat) (ce : Int) (cn : Int) (cK : Value) (cL : Value) (cS : ByteArray) (cT : Value) (cB : Value) (cC : Value) (ck : Int) (cstA : Option Addr) (cstc : Nat) (cst : List Bool) (cpr : Bool) (cmoA : Option Addr) (cmoc : Nat) (cmo : List Nd) (ctyA : Option Addr) (ctyc : Nat) (cty : List Sl) (cplA : Option Addr) (cplc : Nat) (cpl : List Int) (mm : Int) (dA : Option Addr) (dc : Nat) (d : List Nd) (vvpg : Nat) (vvqg : Nat) (vvqi : Nat) (hShp : Shapes w0 Z) (hc : (Res.box cg 59 [.int .i64 (ce), .int .i64 (cn), cK, cL, .string cS, cT, cB, cC, .int .i64 (ck), .slice cstA cst.length cstc, .bool cpr, .slice cmoA cmo.length cmoc, .slice ctyA cty.length ctyc, .slice cplA cpl.length cplc]).holds w0) (hcz : ¬ Z cg) (hcpl : (Res.row cplA cpl.length cplc 3 1 (encIs cpl)).holds w0) (hcplz : ∀ k, rM cplA k → ¬ Z k) (hcpln : ∀ k, rM cplA k → k ≠ cg) (hcst : (dRow 1 cstA cst.length cstc (encBs cst)).φ w0 Z) (hcmo : (dRow 4 cmoA cmo.length cmoc (encNs cmo)).φ w0 Z) (hcty : (dRow 1 ctyA cty.length ctyc (encSs cty)).φ w0 Z) (hctys : (dAll cty).φ w0 Z) (hd : (dRow 4 dA d.length dc (encNs d)).φ w0 Z) (hvvpQ : (dBox vvpg [.pointer (some ⟨cg, 0, none⟩)]).φ w0 Z) (hvvqQ : (dBox vvqg [.int .i64 ((vvqi : Nat) : Int)]).φ w0 Z) (hmo : sml cmo := by first | assumption | omega | (simp <;> omega)) (hml : cmo.length ≤ 100000 := by first | assumption | omega | (simp <;> omega)) (hpl : ∀ j, -1000 ≤ nthI cpl j ∧ nthI cpl j ≤ 1000 := by first | assumption | omega | (simp <;> omega)) (hlc : cst.length = cty.length := by first | assumption | omega | (simp <;> omega)) (hlp : cpl.length = cty.length := by first | assumption | omega | (simp <;> omega)) (hty : ∀ t ∈ lsts cty, sml t ∧ t.length ≤ 4000 := by first | assumption | omega | (simp <;> omega)) (hn6 : cty.length ≤ 6 := by first | assumption | omega | (simp <;> omega)) (hcS : cS.size < 1000000 := by first | assumption | omega | (simp <;> omega)) (hiu : vvqi < cty.length := by first | assumption | omega | (simp <;> omega)) (hbn : -500 ≤ cn + 1 ∧ cn + 1 + ((cty.length - (vvqi + 1) : Nat) : Int) ≤ 500 := by first | assumption | omega | (simp <;> omega)) (hH : HypC (cty.length - (vvqi + 1)) := by first | assumption | omega | (simp <;> omega)) (hsd : sml d := by first | assumption | omega | (simp <;> omega)) (hld : d.length ≤ 20000 := by first | assumption | omega | (simp <;> omega)) :
    Calls Tryz.prog 57 [.pointer (some ⟨cg, 0, none⟩), .int .i64 mm, .slice dA d.length dc, .func (.func 98) #[] #[.pointer (some ⟨vvpg, 0, none⟩), .pointer (some ⟨vvqg, 0, none⟩)]].toArray w0 (fun e w' => ∃ (rA0 : Option Addr) (rc0 : Nat) (rL0 : List Nd), e = .returned (.slice rA0 rL0.length rc0) ∧ Fr (fun k => k = cg ∨ rM cplA k) w0 w' ∧ (Res.box cg 59 [.int .i64 (((piP (hyF cS ck cst cpr cmo (lsts cty) cpl cty.length (cty.length - (vvqi + 1)) ce (cn + 1)) mm d).2)), .int .i64 (cn), cK, cL, .string cS, cT, cB, cC, .int .i64 (ck), .slice cstA cst.length cstc, .bool cpr, .slice cmoA cmo.length cmoc, .slice ctyA cty.length ctyc, .slice cplA cpl.length cplc]).holds w' ∧ (Res.row cplA cpl.length cplc 3 1 (encIs cpl)).holds w' ∧ (dRow 4 rA0 rL0.length rc0 (encNs rL0)).φ w' (nxt Z w0 w') ∧ rL0 = (piP (hyF cS ck cst cpr cmo (lsts cty) cpl cty.length (cty.length - (vvqi + 1)) ce (cn + 1)) mm d).1) := by
 have hstart : ∀ k, Z k → imm Z w0 [.box cg 59 [.int .i64 (ce), .int .i64 (cn), cK, cL, .string cS, cT, cB, cC, .int .i64 (ck), .slice cstA cst.length cstc, .bool cpr, .slice cmoA cmo.length cmoc, .slice ctyA cty.length ctyc, .slice cplA cpl.length cplc], .row cplA cpl.length cplc 3 1 (encIs cpl)] w0 k ∧ w0.heap[k]? = w0.heap[k]? := fun k hk => imm_startMR hZ hcz hcplz hk
 have b0 : St w0 Z (fun k => k = cg ∨ rM cplA k) w0 [.box cg 59 [.int .i64 (ce), .int .i64 (cn), cK, cL, .string cS, cT, cB, cC, .int .i64 (ck), .slice cstA cst.length cstc, .bool cpr, .slice cmoA cmo.length cmoc, .slice ctyA cty.length ctyc, .slice cplA cpl.length cplc], .row cplA cpl.length cplc 3 1 (encIs cpl)] [dShapes, dRow 1 cstA cst.length cstc (encBs cst), dRow 4 cmoA cmo.length cmoc (encNs cmo), dRow 1 ctyA cty.length ctyc (encSs cty), dAll cty, dRow 4 dA d.length dc (encNs d), dBox vvpg [.pointer (some ⟨cg, 0, none⟩)], dBox vvqg [.int .i64 ((vvqi : Nat) : Int)]] := St.startMR w0 Z _ hc hcpl hcpln (by
  intro d hd
  simp only [List.mem_cons, List.not_mem_nil, or_false] at hd
  rcases hd with rfl | rfl | rfl | rfl | rfl | rfl | rfl | rfl
  · exact Dat.mono _ _ _ _ _ (Nat.le_refl _) hShp hstart
  · exact Dat.mono _ _ _ _ _ (Nat.le_refl _) hcst hstart
  · exact Dat.mono _ _ _ _ _ (Nat.le_refl _) hcmo hstart
  · exact Dat.mono _ _ _ _ _ (Nat.le_refl _) hcty hstart
  · exact Dat.mono _ _ _ _ _ (Nat.le_refl _) hctys hstart
  · exact Dat.mono _ _ _ _ _ (Nat.le_refl _) hd hstart
  · exact Dat.mono _ _ _ _ _ (Nat.le_refl _) hvvpQ hstart
  · exact Dat.mono _ _ _ _ _ (Nat.le_refl _) hvvqQ hstart
  )
 refine c_enter Tryz.func57 rfl Tryz.ntmps57 rfl fun c0 d0 => ?_
 refine wsc fun c0 f0 => aw d0 f0 fun c0 h0 => ?_
 refine wsc fun f0 c0 => lR h0 fun f0 d0 => ?_
 refine adi (cn + 1) d0 fun f0 h0 => ?_
 refine lR h0 fun f0 d0 => ?_
 refine sto 0 d0 b0 fun f0 h0 i0 j0 => ?_
 refine wn c0 <| wsc fun c0 h0 => lR i0 fun c0 f0 => ?_
 have c0 := j0.nf
 refine k_callV (xs := [.tmp 21]) se f0 rfl rfl rfl rfl (by decide) ok98 (hyps1_calls _ _ c0.il _ _ _ _ _ _ _ _ _ _ _ _ _ _ _ _ _ _ _ _ _ _ _ (cn + 1) vvpg vvqg vvqi (c0.g 0) (c0.z 0) (imm_box (i := 0) rfl) (c0.z 1) (imm_row (i := 1) rfl) (c0.rowne (i := 0) (j := 1) rfl rfl (by decide)) (c0.g 1) (c0.g 2) (c0.g 3) (c0.g 4) (c0.g 6) (c0.g 7)) ?_
 rintro f0 j0 ⟨i0, d0, b0, rfl, k0, m0, n0, o0, p0⟩
 have j0 := c0.callMK (i := 0) (j := 1) rfl rfl (by decide) k0 m0 n0
 have n0 := c0.dM 0 j0 o0
 refine ⟨_, rfl, fun j0 o0 => ?_⟩
 obtain ⟨j0, c0⟩ := (show b0.length ≤ 60000 ∧ sml b0 by rw [p0]; have zz := hyF_Z (S := cS) (k := ck) (st := cst) (pr := cpr) (pl := cpl) hcS hmo (fun t ht => (hty t ht).1) (lsts_len _).symm (cty.length - (vvqi + 1)) (by omega) ce (cn + 1); exact ⟨by omega, zz.2⟩)
 refine aw o0 h0 fun c0 j0 => ?_
 refine wsc fun h0 c0 => lR j0 fun h0 o0 => ?_
 refine sbi (cn) o0 fun h0 j0 => ?_
 refine lR j0 fun h0 o0 => ?_
 refine sto 0 o0 n0 fun h0 j0 p0 m0 => ?_
 refine wn c0 <| wsc fun c0 j0 => lR p0 fun c0 h0 => ?_
 refine bld h0 fun c0 p0 => ?_
 refine lR p0 fun c0 h0 => ?_
 have c0 := m0.data (dAll [((dA, dc, d) : Sl), ((i0, d0, b0) : Sl)]) (all_cons (m0.get (i := 5) rfl) (all_cons (m0.get (i := 8) rfl) all_nil))
 refine bsl h0 c0 fun m0 p0 o0 n0 k0 => ?_
 have p0 := k0.nf
 have k0 := own_cap (p0.res (i := 2) rfl)
 obtain ⟨m0, c0⟩ := p0.row_dataG (i := 2) rfl (two_M (i := 2) rfl rfl (by decide) (by decide))
 have p0 := m0.data (dRow 1 (some ⟨o0, 0, none⟩) 2 2 (encSs ([((dA, dc, d) : Sl), ((i0, d0, b0) : Sl)]))) ⟨k0, c0⟩
 refine kcl n0 ok96 (node_calls _ _ p0.il _ _ _ _ (⟨3, (mm), 0, (⟨#[]⟩ : ByteArray)⟩ : Nd) _ _ ([((dA, dc, d) : Sl), ((i0, d0, b0) : Sl)]) (p0.z 0) (imm_box (i := 0) rfl) (p0.g 10) (p0.g 9) (hb := (by simp; omega))) ?_
 rintro n0 b0 ⟨d0, i0, c0, rfl, m0, k0, o0, h0⟩
 have h0 := p0.callM (i := 0) rfl m0 k0
 have k0 := p0.dM 0 h0 o0
 refine ⟨_, rfl, fun h0 o0 => ?_⟩
 refine aw o0 j0 fun h0 p0 => ?_
 refine wp_ret <| er1 p0 ?_
 refine ⟨d0, i0, c0, ?_, k0.fr, (by rw [show ((piP (hyF cS ck cst cpr cmo (lsts cty) cpl cty.length (cty.length - (vvqi + 1)) ce (cn + 1)) mm d).2 : Int) = ((((hyF cS (ck) cst cpr cmo (lsts cty) cpl cty.length (cty.length - (vvqi + 1)) (ce) (cn + 1)).2))) by (first | rfl | (simp only [lsts_nth, *]; done) | (simp only [lsts_nth, *]; rfl))]; exact k0.res (i := 0) rfl), k0.res (i := 1) rfl, k0.rx 11, (by (simp only [lsts_nth, *]; rfl))⟩
 exact cre (ret_s (by rfl))
theorem hyps_calls_rec (rn : Nat) : HypC rn := by
 induction rn using Nat.strongRecOn
 rename_i rn ih
 intro w0 Z hZ cg ce cn cK cL cS cT cB cC ck cstA cstc cst cpr cmoA cmoc cmo ctyA ctyc cty cplA cplc cpl i hShp hc hcz hcpl hcplz hcpln hcst hcmo hcty hctys hmo hml hpl hlc hlp hty hn6 hcS hi hbn hrn
 have hstart : ∀ k, Z k → imm Z w0 [.box cg 59 [.int .i64 (ce), .int .i64 (cn), cK, cL, .string cS, cT, cB, cC, .int .i64 (ck), .slice cstA cst.length cstc, .bool cpr, .slice cmoA cmo.length cmoc, .slice ctyA cty.length ctyc, .slice cplA cpl.length cplc], .row cplA cpl.length cplc 3 1 (encIs cpl)] w0 k ∧ w0.heap[k]? = w0.heap[k]? := fun k hk => imm_startMR hZ hcz hcplz hk
 have b0 : St w0 Z (fun k => k = cg ∨ rM cplA k) w0 [.box cg 59 [.int .i64 (ce), .int .i64 (cn), cK, cL, .string cS, cT, cB, cC, .int .i64 (ck), .slice cstA cst.length cstc, .bool cpr, .slice cmoA cmo.length cmoc, .slice ctyA cty.length ctyc, .slice cplA cpl.length cplc], .row cplA cpl.length cplc 3 1 (encIs cpl)] [dShapes, dRow 1 cstA cst.length cstc (encBs cst), dRow 4 cmoA cmo.length cmoc (encNs cmo), dRow 1 ctyA cty.length ctyc (encSs cty), dAll cty] := St.startMR w0 Z _ hc hcpl hcpln (by
  intro d hd
  simp only [List.mem_cons, List.not_mem_nil, or_false] at hd
  rcases hd with rfl | rfl | rfl | rfl | rfl
  · exact Dat.mono _ _ _ _ _ (Nat.le_refl _) hShp hstart
  · exact Dat.mono _ _ _ _ _ (Nat.le_refl _) hcst hstart
  · exact Dat.mono _ _ _ _ _ (Nat.le_refl _) hcmo hstart
  · exact Dat.mono _ _ _ _ _ (Nat.le_refl _) hcty hstart
  · exact Dat.mono _ _ _ _ _ (Nat.le_refl _) hctys hstart
  )
 refine c_enter Tryz.func56 rfl Tryz.ntmps56 rfl fun c0 d0 => ?_
 refine wsc fun c0 f0 => bxx d0 b0 fun c0 h0 i0 j0 k0 => ?_
 refine bxx j0 k0 fun h0 c0 d0 b0 m0 => ?_
 refine aw b0 f0 fun h0 k0 => ?_
 refine wp_seq_k fun f0 h0 => wp_seq_k fun f0 b0 => ?_
 obtain ⟨f0, j0, n0⟩ := m0.agree
 refine d_reg3 (n := 7) n0 5 (pB 0 1 (pc 2 0 (pc 3 0 pn))) (pan_then (pan_then pan_body)) fun j0 m0 o0 p0 q0 s0 => ?_
 refine dR [0, 1, 2, 3, 4, 5, 6] k0 fun s0 p0 => ?_
 refine wpAnyH_done (by kernel_rfl) (o0 _ _ ?_) _
 refine xn b0 ?_
 rcases Decidable.em (((i : Nat) : Int) = ((cty.length : Nat) : Int)) with b0 | b0
 ·
  have hkE := hyS_end (S := cS) (k := ck) (e := ce) (a := cn) (st := cst) (pr := cpr) (mo := cmo) (pl := cpl) (i := i) (Eq.refl cty.length) (show cty.length ≤ i by omega)
  refine wct p0 (decide_eq_true b0) fun o0 => ?_
  refine wsc fun s0 k0 => aw o0 k0 fun s0 m0 => ?_
  refine wp_seq_k fun k0 s0 => wsc fun k0 o0 => lR m0 fun k0 j0 => ?_
  refine wn o0 <| wp_block ?_
  have o0 := q0.nilrow 22 1
  have k0 := o0.data (dAll []) all_nil
  refine wp_loop_ghost (fun gn ga gw => ∃ k : Nat, ∃ Ls : List Sl, ∃ Ao : Option Addr, ∃ co : Nat, (Reg ga 71 [(1000000, .bool false), (2, .pointer (some ⟨i0, 0, none⟩)), (3, .pointer (some ⟨d0, 0, none⟩)), (4, .slice none 0 0), (19, .int .i64 ((cty.length : Nat) : Int)), (20, .int .i64 ((k : Nat) : Int)), (5, .slice Ao ((Ls).length) co)]) ∧ (St w0 Z (fun k => k = cg ∨ rM cplA k) gw [.box cg 59 [.int .i64 (ce), .int .i64 (cn), cK, cL, .string cS, cT, cB, cC, .int .i64 (ck), .slice cstA cst.length cstc, .bool cpr, .slice cmoA cmo.length cmoc, .slice ctyA cty.length ctyc, .slice cplA cpl.length cplc], .row cplA cpl.length cplc 3 1 (encIs cpl), .box i0 52 [.pointer (some ⟨cg, 0, none⟩)], .box d0 3 [.int .i64 ((i : Nat) : Int)], .row Ao ((Ls).length) co 22 1 (encSs Ls)] [dShapes, dRow 1 cstA cst.length cstc (encBs cst), dRow 4 cmoA cmo.length cmoc (encNs cmo), dRow 1 ctyA cty.length ctyc (encSs cty), dAll cty, dAg c0 f0, dAll Ls]) ∧ (k ≤ cty.length) ∧ (lsts Ls = (List.range k).map (argL ce cn cst cpl)) ∧ (cty.length - k) = gn) _ ⟨0, [], none, 0, (j0.sub (rc4 (rc2 (rc rfl rnl)))), k0, by omega, rfl, rfl⟩ ?_
  rintro k0 j0 f0 ⟨k, Ls, Ao, co, c0, o0, hk, hL, m0⟩
  have hLn : Ls.length = k := by rw [← lsts_len, hL, List.length_map, List.length_range]
  refine wsc fun m0 f0 => lR c0 fun m0 j0 => ?_
  refine wn f0 <| wp_seq_k fun f0 m0 => ?_
  rcases Decidable.em (((k : Nat) : Int) < ((cty.length : Nat) : Int)) with f0 | f0
  ·
   refine wct j0 (decide_eq_true f0) fun c0 => ?_
   refine wp_skip <| xn m0 <| wp_seq_k fun m0 k0 => wp_block ?_
   refine wsc fun m0 n0 => lR c0 fun m0 t0 => ?_
   refine wpList_nil (x_then_n (n0 _ _ (c_region ?_)))
   refine lR t0 fun n0 m0 => ?_
   have n0 := o0.nf
   refine kcl m0 ok94 (arg_calls _ _ n0.il _ _ _ _ _ _ _ _ _ _ _ _ _ _ _ _ _ _ _ k (n0.z 0) (imm_box (i := 0) rfl) (n0.z 1) (imm_row (i := 1) rfl) (n0.rowne (i := 0) (j := 1) rfl rfl (by decide)) (n0.g 1)) ?_
   rintro m0 t0 ⟨c0, u0, v0, rfl, x0, y0, z0, b1, c1⟩
   have t0 := n0.callMK (i := 0) (j := 1) rfl rfl (by decide) x0 y0 z0
   have z0 := n0.dM 0 t0 b1
   refine ⟨_, rfl, fun t0 b1 => ?_⟩
   obtain ⟨t0, n0⟩ : v0.length ≤ 1 ∧ sml v0 := by rw [c1]; exact ⟨argL_len, argL_sml⟩
   have n0 := z0.data (dAll [((c0, u0, v0) : Sl)]) (all_cons (z0.get (i := 7) rfl) all_nil)
   refine bsl b1 n0 fun z0 t0 y0 x0 m0 => ?_
   refine m_appendF (f := encS) (i := 4) (Ls) ([((c0, u0, v0) : Sl)]) sv x0 m0 rfl rfl rfl rfl rfl encS_len (encS_one _) Tryz.underlying37 zi22 rfl rfl (own_lnews (f := encS) (m0.res (i := 5) rfl)) rfl (by (simp only [List.length_cons, List.length_nil]; omega)) (by decide) fun y0 t0 z0 n0 b1 f1 h1 => ?_
   have b1 : (Ls ++ ([((c0, u0, v0) : Sl)]) : List Sl).length = (Ls).length + 1 := by (simp only [List.length_append, List.length_take, List.length_cons, List.length_nil]; done)
   have b1 := h1.erase 5
   have h1 := b1.data (dAll (Ls ++ ([((c0, u0, v0) : Sl)]))) (all_append (b1.get (i := 6) rfl) (b1.get (i := 8) rfl))
   refine asg f1 fun b1 t0 => ?_
   refine wpList_nil ?_
   refine x_block_n <| xn k0 <| c_region ?_
   refine adi ((k + 1 : Nat) : Int) t0 fun k0 b1 => ?_
   refine mv b1 fun k0 t0 => ?_
   refine wpList_nil ?_
   have k0 := h1.forget 8
   have h1 := k0.forget 7
   have k0 := h1.forget 6
   exact ⟨_, by omega, k + 1, Ls ++ ([((c0, u0, v0) : Sl)]), z0, n0, (t0.sub (rc4 (rc2 (rc rfl rnl)))), k0, by omega, arg_nxt hL c1, rfl⟩
  refine wcf j0 (decide_eq_false f0) fun k0 => ?_
  refine wp_exit ?_
  refine x_then_e ?_
  refine x_then_e ?_
  refine x_block_eq ?_
  refine xn s0 <| wp_seq_k fun s0 f0 => ?_
  obtain ⟨s0, j0, t0⟩ := o0.agree
  refine d_reg3 (n := 21) t0 7 (pB 0 1 (pc 2 0 pn)) (pan_then (pan_then pan_body)) fun j0 s0 o0 n0 z0 c1 => ?_
  refine dR [0, 1, 2, 3, 4, 5, 6, 7, 8, 9, 10, 11, 12, 13, 14, 15] k0 fun n0 j0 => ?_
  refine dt 16 rfl s0 j0 (want_n rfl) (fun x hx => bldY j0) c1 fun n0 k0 => ?_
  refine dR [17] k0 fun n0 j0 => ?_
  refine d1 18 ?_
  have n0 := z0.nf
  have z0 := own_cap (n0.res (i := 4) rfl)
  obtain ⟨k0, c1⟩ := n0.row_dataG (i := 4) rfl (two_M (i := 4) rfl rfl (by decide) (by decide))
  have n0 := k0.data (dRow 1 Ao ((Ls).length) co (encSs Ls)) ⟨z0, c1⟩
  refine kcl j0 ok96 (node_calls _ _ n0.il _ _ _ _ (⟨26, (ck), (((Ls).length : Nat) : Int), cS⟩ : Nd) _ _ _ (n0.z 0) (imm_box (i := 0) rfl) (n0.g 8) (n0.g 6) (hl := (by omega)) (hb := (arg_bd hL))) ?_
  rintro j0 c1 ⟨k0, z0, s0, rfl, t0, v0, u0, c0⟩
  have z0 := n0.callM (i := 0) rfl t0 v0
  have v0 := n0.dM 0 z0 u0
  refine ⟨_, rfl, fun z0 u0 => ?_⟩
  rw [show k = cty.length by omega] at hL
  obtain ⟨z0, n0⟩ : s0.length ≤ cty.length + 1 ∧ sml s0 := by rw [c0]; exact hyN_Z hL hcS
  rw [hL, hLn, show k = cty.length by omega] at c0
  have n0 := sWI v0 7 (pB 0 1 (pc 2 0 pn))
  refine ⟨n0, ?_⟩
  refine d1 19 ?_
  have n0 := v0.nf
  refine kcl u0 ok95 (told_calls _ _ n0.il _ _ _ _ _ _ _ _ _ _ _ _ _ _ _ _ _ _ _ _ (n0.g 0) (n0.z 0) (imm_box (i := 0) rfl) (n0.g 2) (n0.g 9)) ?_
  rintro u0 v0 ⟨z0, t0, k0, rfl, c1, j0, h1, b1⟩
  have v0 := n0.callM (i := 0) rfl c1 j0
  have j0 := n0.dM 0 v0 h1
  refine ⟨_, rfl, fun v0 h1 => ?_⟩
  obtain ⟨v0, n0⟩ : k0.length ≤ 4000 ∧ sml k0 := by rw [b1]; exact ⟨tolL_len, tolL_sml hmo (by assumption)⟩
  have n0 := sWI j0 7 (pB 0 1 (pc 2 0 pn))
  refine ⟨n0, ?_⟩
  refine dR [20] h1 fun n0 v0 => ?_
  refine wpAnyH_done (by kernel_rfl) (o0 _ _ ?_) _
  refine xn f0 <| wp_ret <| x_then_r <| er1 v0 ?_
  refine ⟨z0, t0, k0, ?_, j0.fr, (by rw [show ((hyF cS ck cst cpr cmo (lsts cty) cpl cty.length (cty.length - i) ce cn).2 : Int) = ((tolE ((ce)) (cn) cmo s0)) by (first | exact (congrArg Prod.snd hkE.symm) | (rw [hkE]; done) | (rw [hkE]; simp only [c0, b1]; done) | (rw [hkE]; simp only [*]; done))]; exact j0.res (i := 0) rfl), j0.res (i := 1) rfl, j0.rx 10, (by (rw [hkE]; simp only [*]; done))⟩
  exact cre (ret_s (by rfl))
 have hiu : i < cty.length := by omega
 obtain ⟨hts, htl⟩ := ty_at hty hiu
 refine wcf p0 (decide_eq_false b0) fun j0 => ?_
 refine wp_skip <| xn h0 <| wsc fun h0 b0 => lR j0 fun h0 p0 => ?_
 refine k_inl (xs := [.tmp 50, .tmp 51]) se p0 rfl rfl rfl (by decide) ok97 ?_
 refine c_enter (vs := [.pointer (some ⟨cg, 0, none⟩), .int .i64 ((i : Nat) : Int)]) Tryz.func97 rfl Tryz.ntmps97 rfl fun p0 h0 => ?_
 refine wsc fun p0 j0 => bxx h0 q0 fun p0 b1 k0 t0 z0 => ?_
 refine bxx t0 z0 fun b1 p0 h0 q0 c0 => ?_
 refine aw q0 j0 fun p0 b1 => ?_
 refine wp_seq_k fun j0 p0 => ?_
 obtain ⟨j0, q0, z0⟩ := c0.agree
 refine d_reg3 (n := 9) z0 6 (pB 0 1 (pc 4 0 (pc 5 0 pn))) (pan_then pan_body) fun j0 c0 t0 s0 v0 f0 => ?_
 refine dR [0, 1, 2, 3, 4] b1 fun f0 s0 => ?_
 refine dix 5 i (i * 1) s0 (fun x hx => (ss_elem (t := cty) (k := i) (sdat (q0 3 _ rfl) hx.ag).2 (by omega)).some_) fun f0 b1 => ?_
 refine dle 6 0 (i * 1) b1 (fun x hx => ss_elem (t := cty) (k := i) (sdat (q0 3 _ rfl) hx.ag).2 (by omega)) fun f0 s0 => ?_
 have f0 := v0.el 4 i
 refine d1 7 ?_
 refine alc s0 f0 fun v0 b1 q0 c0 j0 => ?_
 have b1 := sWI j0 6 (pB 0 1 (pc 4 0 (pc 5 0 pn)))
 refine ⟨b1, ?_⟩
 refine d1 8 ?_
 refine sto 6 c0 j0 fun b1 v0 f0 s0 => ?_
 have v0 := sWI s0 6 (pB 0 1 (pc 4 0 (pc 5 0 pn)))
 refine ⟨v0, ?_⟩
 refine wpAnyH_done (by kernel_rfl) (t0 _ _ ?_) _
 refine xn p0 <| wp_seq_k fun p0 t0 => wp_seq_k fun p0 v0 => ?_
 obtain ⟨p0, b1, j0⟩ := s0.agree
 refine d_reg3 (n := 7) j0 8 (pB 0 1 (pc 4 0 (pc 6 0 pn))) (pan_then (pan_then pan_body)) fun b1 p0 s0 c0 z0 o0 => ?_
 refine dR [0, 1, 2, 3, 4, 5] f0 fun o0 c0 => ?_
 refine d1 6 ?_
 have o0 := z0.nf
 refine kcl c0 ok85 (ukind_calls _ _ o0.il cS _ _ ((nthS cty i).2.2) (o0.g 0) (o0.g 7)) ?_
 rintro c0 z0 ⟨rfl, f0⟩
 have z0 := o0.below f0.below
 refine ⟨_, rfl, fun f0 o0 => ?_⟩
 have f0 := sWI z0 8 (pB 0 1 (pc 4 0 (pc 6 0 pn)))
 refine ⟨f0, ?_⟩
 refine wpAnyH_done (by kernel_rfl) (s0 _ _ ?_) _
 refine xn v0 <| wp_block ?_
 refine wsc fun v0 s0 => lR o0 fun v0 f0 => ?_
 refine wn s0 ?_
 rcases Decidable.em (((kdA cS ((nthS cty i).2.2))) = 1) with s0 | s0
 ·
  have hkE := hyS_one (k := ck) (e := ce) (a := cn) (st := cst) (pr := cpr) (mo := cmo) (pl := cpl) (show i < cty.length by omega) s0
  refine wct f0 (decide_eq_true s0) fun v0 => ?_
  refine wsc fun o0 c0 => r_makeFunc sv v0 rfl rfl rfl (by decide) fun o0 p0 => ?_
  refine aw p0 c0 fun o0 v0 => ?_
  refine wp_ret <| x_block_r <| x_then_r <| er1 v0 ?_
  refine ⟨_, rfl, fun v0 c0 => ?_⟩
  refine aw c0 b0 fun v0 o0 => ?_
  refine wp_seq_k fun v0 c0 => wsc fun v0 p0 => mv o0 fun v0 b1 => ?_
  refine r_nofunb sv b1 rfl rfl rfl rfl Tryz.underlying85 (by decide) fun v0 o0 => ?_
  refine wn p0 <| wp_cond_false (o0.ev rfl) ?_
  refine wp_skip <| xn c0 <| wp_seq_k fun c0 p0 => ?_
  obtain ⟨c0, v0⟩ := z0.box_dataG (i := 4) rfl (two_M (i := 4) rfl rfl (by decide) (by decide))
  have b1 := c0.data (dBox k0 [.pointer (some ⟨cg, 0, none⟩)]) v0
  have v0 := b1.nf
  obtain ⟨b1, c0⟩ := v0.box_dataG (i := 4) rfl (two_M (i := 4) rfl rfl (by decide) (by decide))
  have v0 := b1.data (dBox h0 [.int .i64 ((i : Nat) : Int)]) c0
  have c0 := v0.nf
  obtain ⟨v0, b1⟩ := c0.box_dataG (i := 2) rfl (two_M (i := 2) rfl rfl (by decide) (by decide))
  have c0 := v0.data (dBox i0 [.pointer (some ⟨cg, 0, none⟩)]) b1
  have b1 := c0.nf
  obtain ⟨c0, v0⟩ := b1.box_dataG (i := 2) rfl (two_M (i := 2) rfl rfl (by decide) (by decide))
  have b1 := c0.data (dBox d0 [.int .i64 ((i : Nat) : Int)]) v0
  have v0 := b1.nf
  obtain ⟨b1, c0, j0⟩ := v0.agree
  refine d_reg3 (n := 13) j0 13 (pB 0 1 pn) (pan_then pan_body) fun b1 v0 n0 h1 c1 u0 => ?_
  refine dt 0 rfl v0 o0 (want_n rfl) (fun x hx => m_loadC (sy o0) o0 rfl rfl rfl (dbox_cell (sdat (c0 11 _ rfl) hx.ag) rfl) Tryz.underlying52 rfl (by decide) gt) u0 fun h1 b1 => ?_
  refine dR [1, 2] b1 fun h1 o0 => ?_
  refine dt 3 rfl v0 o0 (want_n rfl) (fun x hx => m_loadC (sy o0) o0 rfl rfl rfl (dbox_cell (sdat (c0 11 _ rfl) hx.ag) rfl) Tryz.underlying52 rfl (by decide) gt) u0 fun h1 b1 => ?_
  refine dR [4, 5, 6, 8] b1 fun h1 o0 => ?_
  refine dt 10 rfl v0 o0 (want_n rfl) (fun x hx => r_makeFunc (sy o0) o0 rfl rfl rfl (by decide) gt) u0 fun h1 b1 => ?_
  refine d1 7 ?_
  have h1 := c1.nf
  refine kcl b1 ok58 (mark_calls _ _ h1.il cpr 3) ?_
  rintro b1 c1 ⟨rfl, o0⟩
  have c1 := h1.below o0.below
  refine ⟨_, rfl, fun o0 h1 => ?_⟩
  have o0 := sWI c1 13 (pB 0 1 pn)
  refine ⟨o0, ?_⟩
  refine d1 9 ?_
  have o0 := c1.nf
  refine k_callV (xs := []) (st_op rfl (want_n rfl)) h1 rfl rfl rfl rfl (by decide) ok130 (hyp1_calls _ _ o0.il _ _ _ _ _ _ _ _ _ _ _ _ _ _ _ _ _ _ _ _ _ _ _ k0 h0 i (o0.g 0) (o0.z 0) (imm_box (i := 0) rfl) (o0.z 1) (imm_row (i := 1) rfl) (o0.rowne (i := 0) (j := 1) rfl rfl (by decide)) (o0.g 1) (o0.g 2) (o0.g 3) (o0.g 4) (o0.g 9) (o0.g 10)) ?_
  rintro h1 c1 ⟨b1, u0, v0, rfl, c0, j0, f1, y0, m0⟩
  have u0 := o0.callMK (i := 0) (j := 1) rfl rfl (by decide) c0 j0 f1
  have f1 := o0.dM 0 u0 y0
  refine ⟨_, rfl, fun u0 y0 => ?_⟩
  obtain ⟨u0, o0⟩ : v0.length ≤ 4000 ∧ sml v0 := by rw [m0]; exact ⟨tolL_len, tolL_sml hmo argL_sml⟩
  have o0 := sWI f1 13 (pB 0 1 pn)
  refine ⟨o0, ?_⟩
  refine d1 11 ?_
  have o0 := f1.nf
  refine kcl y0 ok57 (pi98_calls _ _ o0.il _ _ _ _ _ _ _ _ _ _ _ _ _ _ _ _ _ _ _ _ _ _ _ ((mkI cpr 3)) _ _ _ i0 d0 i (o0.g 0) (o0.z 0) (imm_box (i := 0) rfl) (o0.z 1) (imm_row (i := 1) rfl) (o0.rowne (i := 0) (j := 1) rfl rfl (by decide)) (o0.g 1) (o0.g 2) (o0.g 3) (o0.g 4) (o0.g 14) (o0.g 11) (o0.g 12) (hH := (ih _ (by omega)))) ?_
  rintro y0 f1 ⟨u0, j0, c0, rfl, b1, c1, h1, x0, i1⟩
  have f1 := o0.callMK (i := 0) (j := 1) rfl rfl (by decide) b1 c1 h1
  have h1 := o0.dM 0 f1 x0
  refine ⟨_, rfl, fun f1 x0 => ?_⟩
  have f1 := sWI h1 13 (pB 0 1 pn)
  refine ⟨f1, ?_⟩
  refine dR [12] x0 fun f1 o0 => ?_
  refine wpAnyH_done (by kernel_rfl) (n0 _ _ ?_) _
  refine xn p0 <| wp_ret <| er1 o0 ?_
  refine ⟨u0, j0, c0, ?_, h1.fr, (by rw [show ((hyF cS ck cst cpr cmo (lsts cty) cpl cty.length (cty.length - i) ce cn).2 : Int) = (((piP (hyF cS (ck) cst cpr cmo (lsts cty) cpl cty.length (cty.length - (i + 1)) ((tolE (ce) (cn) cmo (argL (ce) (cn) cst cpl i))) ((cn) + 1)) ((mkI cpr 3)) v0).2)) by (first | exact (congrArg Prod.snd hkE.symm) | (rw [hkE]; done) | (rw [hkE]; simp only [m0, i1]; done) | (rw [hkE]; simp only [*]; done))]; exact h1.res (i := 0) rfl), h1.res (i := 1) rfl, h1.rx 15, (by (rw [hkE]; simp only [*]; done))⟩
  exact cre (ret_s (by rfl))
 refine wcf f0 (decide_eq_false s0) fun h1 => ?_
 refine wsc fun f0 i1 => lR h1 fun f0 c0 => ?_
 refine wn i1 ?_
 rcases Decidable.em (((kdA cS ((nthS cty i).2.2))) = 2) with i1 | i1
 ·
  obtain ⟨_, hkc, f0⟩ := kd_two (show ¬ kdA cS (nthS cty i).2.2 = 0 by omega) (show ¬ kdA cS (nthS cty i).2.2 = 1 by omega)
  obtain ⟨h1, j0⟩ := cr_mark hkc (.inl f0)
  have hkE := hyS_two (k := ck) (e := ce) (a := cn) (st := cst) (pr := cpr) (mo := cmo) (pl := cpl) (show i < cty.length by omega) i1
  have hkz := chk_pos hkc
  refine wct c0 (decide_eq_true i1) fun j0 => ?_
  refine wsc fun h1 f0 => lR j0 fun h1 u0 => ?_
  refine sbi ((((nthS cty i).2.2.length : Nat) : Int) - 1) u0 fun h1 j0 => ?_
  refine ix (((nthS cty i).2.2.length) - (1)) ((((nthS cty i).2.2.length) - (1)) * 4) j0 (nds_elem (t := (nthS cty i).2.2) (k := ((nthS cty i).2.2.length) - (1)) (z0.row (i := 7) rfl).2 (by omega)).some_ fun h1 u0 => ?_
  refine m_fieldE (j' := (((nthS cty i).2.2.length) - (1)) * 4 + 1) sv u0 rfl rfl rfl (nds_elem (t := (nthS cty i).2.2) (k := ((nthS cty i).2.2.length) - (1)) (z0.row (i := 7) rfl).2 (by omega)).some_ Tryz.underlying30 rfl sz3 rfl rfl (by decide) fun h1 j0 => ?_
  refine lde 1 ((((nthS cty i).2.2.length) - (1)) * 4) j0 (nds_elem (t := (nthS cty i).2.2) (k := ((nthS cty i).2.2.length) - (1)) (z0.row (i := 7) rfl).2 (by omega)) fun h1 u0 => ?_
  refine alc u0 z0 fun h1 j0 m0 v0 o0 => ?_
  refine sto 7 v0 o0 fun j0 h1 u0 p0 => ?_
  refine wn f0 <| wsc fun f0 h1 => r_makeFunc sv u0 rfl rfl rfl (by decide) fun f0 j0 => ?_
  refine aw j0 h1 fun f0 u0 => ?_
  refine wp_ret <| x_block_r <| x_then_r <| er1 u0 ?_
  refine ⟨_, rfl, fun u0 h1 => ?_⟩
  refine aw h1 b0 fun u0 f0 => ?_
  refine wp_seq_k fun u0 h1 => wsc fun u0 j0 => mv f0 fun u0 o0 => ?_
  refine r_nofunb sv o0 rfl rfl rfl rfl Tryz.underlying85 (by decide) fun u0 f0 => ?_
  refine wn j0 <| wp_cond_false (f0.ev rfl) ?_
  refine wp_skip <| xn h1 <| wp_seq_k fun h1 j0 => ?_
  obtain ⟨h1, u0⟩ := p0.box_dataG (i := 4) rfl (two_M (i := 4) rfl rfl (by decide) (by decide))
  have p0 := h1.data (dBox k0 [.pointer (some ⟨cg, 0, none⟩)]) u0
  have u0 := p0.nf
  obtain ⟨p0, h1⟩ := u0.box_dataG (i := 6) rfl (two_M (i := 6) rfl rfl (by decide) (by decide))
  have u0 := p0.data (dBox m0 [.int .i64 (((nth ((nthS cty i).2.2) (((nthS cty i).2.2.length) - (1))).N))]) h1
  have h1 := u0.nf
  obtain ⟨u0, p0⟩ := h1.box_dataG (i := 5) rfl (two_M (i := 5) rfl rfl (by decide) (by decide))
  have h1 := u0.data (dBox q0 [.slice ((nthS cty i).1) ((nthS cty i).2.2.length) ((nthS cty i).2.1)]) p0
  have p0 := h1.nf
  obtain ⟨h1, u0⟩ := p0.box_dataG (i := 4) rfl (two_M (i := 4) rfl rfl (by decide) (by decide))
  have p0 := h1.data (dBox h0 [.int .i64 ((i : Nat) : Int)]) u0
  have u0 := p0.nf
  obtain ⟨p0, h1⟩ := u0.box_dataG (i := 2) rfl (two_M (i := 2) rfl rfl (by decide) (by decide))
  have u0 := p0.data (dBox i0 [.pointer (some ⟨cg, 0, none⟩)]) h1
  have h1 := u0.nf
  obtain ⟨u0, p0⟩ := h1.box_dataG (i := 2) rfl (two_M (i := 2) rfl rfl (by decide) (by decide))
  have h1 := u0.data (dBox d0 [.int .i64 ((i : Nat) : Int)]) p0
  have p0 := h1.nf
  obtain ⟨h1, u0, o0⟩ := p0.agree
  refine d_reg3 (n := 13) o0 15 (pB 0 1 pn) (pan_then pan_body) fun h1 p0 v0 n0 f1 x0 => ?_
  refine dt 0 rfl p0 f0 (want_n rfl) (fun x hx => m_loadC (sy f0) f0 rfl rfl rfl (dbox_cell (sdat (u0 13 _ rfl) hx.ag) rfl) Tryz.underlying52 rfl (by decide) gt) x0 fun n0 h1 => ?_
  refine dR [1, 2] h1 fun n0 f0 => ?_
  refine dt 3 rfl p0 f0 (want_n rfl) (fun x hx => m_loadC (sy f0) f0 rfl rfl rfl (dbox_cell (sdat (u0 13 _ rfl) hx.ag) rfl) Tryz.underlying52 rfl (by decide) gt) x0 fun n0 h1 => ?_
  refine dR [4, 5, 6, 8] h1 fun n0 f0 => ?_
  refine dt 10 rfl p0 f0 (want_n rfl) (fun x hx => r_makeFunc (sy f0) f0 rfl rfl rfl (by decide) gt) x0 fun n0 h1 => ?_
  refine d1 7 ?_
  have n0 := f1.nf
  refine kcl h1 ok58 (mark_calls _ _ n0.il cpr 3) ?_
  rintro h1 f1 ⟨rfl, f0⟩
  have f1 := n0.below f0.below
  refine ⟨_, rfl, fun f0 n0 => ?_⟩
  have f0 := sWI f1 15 (pB 0 1 pn)
  refine ⟨f0, ?_⟩
  refine d1 9 ?_
  have f0 := f1.nf
  refine k_callV (xs := []) (st_op rfl (want_n rfl)) n0 rfl rfl rfl rfl (by decide) ok131 (hyp2_calls _ _ f0.il _ _ _ _ _ _ _ _ _ _ _ _ _ _ _ _ _ _ _ _ _ _ _ k0 m0 (((nth ((nthS cty i).2.2) (((nthS cty i).2.2.length) - (1))).N)) q0 _ _ ((nthS cty i).2.2) h0 i (f0.g 0) (f0.z 0) (imm_box (i := 0) rfl) (f0.z 1) (imm_row (i := 1) rfl) (f0.rowne (i := 0) (j := 1) rfl rfl (by decide)) (f0.g 1) (f0.g 2) (f0.g 3) (f0.g 4) (f0.g 9) (f0.g 10) (f0.g 7) (f0.g 11) (f0.g 12)) ?_
  rintro n0 m0 ⟨f1, h1, x0, rfl, p0, u0, o0, c1, b1⟩
  have h1 := f0.callMK (i := 0) (j := 1) rfl rfl (by decide) p0 u0 o0
  have o0 := f0.dM 0 h1 c1
  refine ⟨_, rfl, fun h1 c1 => ?_⟩
  obtain ⟨h1, f0⟩ : x0.length ≤ 8001 ∧ sml x0 := by rw [b1]; exact hy2_Z hmo hts
  have f0 := sWI o0 15 (pB 0 1 pn)
  refine ⟨f0, ?_⟩
  refine d1 11 ?_
  have f0 := o0.nf
  refine kcl c1 ok57 (pi98_calls _ _ f0.il _ _ _ _ _ _ _ _ _ _ _ _ _ _ _ _ _ _ _ _ _ _ _ ((mkI cpr 3)) _ _ _ i0 d0 i (f0.g 0) (f0.z 0) (imm_box (i := 0) rfl) (f0.z 1) (imm_row (i := 1) rfl) (f0.rowne (i := 0) (j := 1) rfl rfl (by decide)) (f0.g 1) (f0.g 2) (f0.g 3) (f0.g 4) (f0.g 16) (f0.g 13) (f0.g 14) (hH := (ih _ (by omega)))) ?_
  rintro c1 o0 ⟨h1, u0, p0, rfl, f1, m0, n0, y0, j1⟩
  have o0 := f0.callMK (i := 0) (j := 1) rfl rfl (by decide) f1 m0 n0
  have n0 := f0.dM 0 o0 y0
  refine ⟨_, rfl, fun o0 y0 => ?_⟩
  have o0 := sWI n0 15 (pB 0 1 pn)
  refine ⟨o0, ?_⟩
  refine dR [12] y0 fun o0 f0 => ?_
  refine wpAnyH_done (by kernel_rfl) (v0 _ _ ?_) _
  refine xn j0 <| wp_ret <| er1 f0 ?_
  refine ⟨h1, u0, p0, ?_, n0.fr, (by rw [show ((hyF cS ck cst cpr cmo (lsts cty) cpl cty.length (cty.length - i) ce cn).2 : Int) = (((piP (hyF cS (ck) cst cpr cmo (lsts cty) cpl cty.length (cty.length - (i + 1)) (((hy2 (ce) (cn) cst cpr cmo ((nthS cty i).2.2) (((nth ((nthS cty i).2.2) (((nthS cty i).2.2.length) - (1))).N)) cpl i).2)) ((cn) + 1)) ((mkI cpr 3)) x0).2)) by (first | exact (congrArg Prod.snd hkE.symm) | (rw [hkE]; done) | (rw [hkE]; simp only [b1, j1]; done) | (rw [hkE]; simp only [*]; done))]; exact n0.res (i := 0) rfl), n0.res (i := 1) rfl, n0.rx 17, (by (rw [hkE]; simp only [*]; done))⟩
  exact cre (ret_s (by rfl))
 have hkE := hyS_skip (k := ck) (e := ce) (a := cn) (st := cst) (pr := cpr) (mo := cmo) (pl := cpl) (show i < cty.length by omega) (kd_no s0 i1)
 refine wcf c0 (decide_eq_false i1) fun s0 => ?_
 refine wp_skip <| x_block_n <| xn t0 <| wsc fun t0 i1 => aw s0 i1 fun t0 c0 => ?_
 refine wp_ret <| er1 c0 ?_
 refine ⟨_, rfl, fun c0 i1 => ?_⟩
 refine aw i1 b0 fun c0 t0 => ?_
 refine wp_seq_k fun b0 c0 => wsc fun c0 b0 => mv t0 fun c0 i1 => ?_
 refine r_nilfunc sv i1 rfl rfl rfl rfl Tryz.underlying85 (by decide) fun c0 t0 => ?_
 refine wn b0 <| wp_cond_true (t0.ev rfl) ?_
 refine wsc fun b0 c0 => lR t0 fun b0 i1 => ?_
 refine adi ((i + 1 : Nat) : Int) i1 fun b0 t0 => ?_
 have b0 := z0.nf
 refine kcl t0 ok56 (ih (cty.length - (i + 1)) (by omega) _ (imm Z w0 [.box cg 59 [.int .i64 (ce), .int .i64 (cn), cK, cL, .string cS, cT, cB, cC, .int .i64 (ck), .slice cstA cst.length cstc, .bool cpr, .slice cmoA cmo.length cmoc, .slice ctyA cty.length ctyc, .slice cplA cpl.length cplc], .row cplA cpl.length cplc 3 1 (encIs cpl), .box i0 52 [.pointer (some ⟨cg, 0, none⟩)], .box d0 3 [.int .i64 ((i : Nat) : Int)], .box k0 52 [.pointer (some ⟨cg, 0, none⟩)], .box h0 3 [.int .i64 ((i : Nat) : Int)], .box q0 22 [.slice ((nthS cty i).1) ((nthS cty i).2.2.length) ((nthS cty i).2.1)]] _) (fun _ h => h.1) _ _ _ _ _ _ _ _ _ _ _ _ _ _ _ _ _ _ _ _ _ _ _ (i + 1) (b0.g 0) (b0.z 0) (imm_box (i := 0) rfl) (b0.z 1) (imm_row (i := 1) rfl) (b0.rowne (i := 0) (j := 1) rfl rfl (by decide)) (b0.g 1) (b0.g 2) (b0.g 3) (b0.g 4) (by assumption) (by assumption) (by assumption) (by assumption) (by assumption) (by assumption) (by assumption) (by assumption) (by assumption) (by omega) rfl) ?_
 rintro t0 q0 ⟨h0, k0, d0, rfl, i0, z0, i1, s0, n0⟩
 have q0 := b0.callMK (i := 0) (j := 1) rfl rfl (by decide) i0 z0 i1
 have i1 := b0.dM 0 q0 s0
 refine ⟨_, rfl, fun q0 s0 => ?_⟩
 refine aw s0 c0 fun q0 b0 => ?_
 refine wp_ret <| x_then_r <| er1 b0 ?_
 refine ⟨h0, k0, d0, ?_, i1.fr, (by rw [show ((hyF cS ck cst cpr cmo (lsts cty) cpl cty.length (cty.length - i) ce cn).2 : Int) = (((hyF cS (ck) cst cpr cmo (lsts cty) cpl cty.length (cty.length - (i + 1)) (ce) (cn)).2)) by (first | exact (congrArg Prod.snd hkE.symm) | (rw [hkE]; done) | (rw [hkE]; simp only [n0]; done) | (rw [hkE]; simp only [*]; done))]; exact i1.res (i := 0) rfl), i1.res (i := 1) rfl, i1.rx 9, (by exact (n0).trans (congrArg Prod.fst hkE.symm))⟩
 exact cre (ret_s (by rfl))
theorem hyps_calls (w0 : World) (Z : Nat → Prop) (hZ : ∀ k, Z k → k < w0.heap.size) (cg : Nat) (ce : Int) (cn : Int) (cK : Value) (cL : Value) (cS : ByteArray) (cT : Value) (cB : Value) (cC : Value) (ck : Int) (cstA : Option Addr) (cstc : Nat) (cst : List Bool) (cpr : Bool) (cmoA : Option Addr) (cmoc : Nat) (cmo : List Nd) (ctyA : Option Addr) (ctyc : Nat) (cty : List Sl) (cplA : Option Addr) (cplc : Nat) (cpl : List Int) (i : Nat) (hShp : Shapes w0 Z) (hc : (Res.box cg 59 [.int .i64 (ce), .int .i64 (cn), cK, cL, .string cS, cT, cB, cC, .int .i64 (ck), .slice cstA cst.length cstc, .bool cpr, .slice cmoA cmo.length cmoc, .slice ctyA cty.length ctyc, .slice cplA cpl.length cplc]).holds w0) (hcz : ¬ Z cg) (hcpl : (Res.row cplA cpl.length cplc 3 1 (encIs cpl)).holds w0) (hcplz : ∀ k, rM cplA k → ¬ Z k) (hcpln : ∀ k, rM cplA k → k ≠ cg) (hcst : (dRow 1 cstA cst.length cstc (encBs cst)).φ w0 Z) (hcmo : (dRow 4 cmoA cmo.length cmoc (encNs cmo)).φ w0 Z) (hcty : (dRow 1 ctyA cty.length ctyc (encSs cty)).φ w0 Z) (hctys : (dAll cty).φ w0 Z) (hmo : sml cmo := by first | assumption | omega | (simp <;> omega)) (hml : cmo.length ≤ 100000 := by first | assumption | omega | (simp <;> omega)) (hpl : ∀ j, -1000 ≤ nthI cpl j ∧ nthI cpl j ≤ 1000 := by first | assumption | omega | (simp <;> omega)) (hlc : cst.length = cty.length := by first | assumption | omega | (simp <;> omega)) (hlp : cpl.length = cty.length := by first | assumption | omega | (simp <;> omega)) (hty : ∀ t ∈ lsts cty, sml t ∧ t.length ≤ 4000 := by first | assumption | omega | (simp <;> omega)) (hn6 : cty.length ≤ 6 := by first | assumption | omega | (simp <;> omega)) (hcS : cS.size < 1000000 := by first | assumption | omega | (simp <;> omega)) (hi : i ≤ cty.length := by first | assumption | omega | (simp <;> omega)) (hbn : -500 ≤ cn ∧ cn + ((cty.length - i : Nat) : Int) ≤ 500 := by first | assumption | omega | (simp <;> omega)) :
    Calls Tryz.prog 56 [.pointer (some ⟨cg, 0, none⟩), .int .i64 ((i : Nat) : Int)].toArray w0 (fun e w' => ∃ (rA0 : Option Addr) (rc0 : Nat) (rL0 : List Nd), e = .returned (.slice rA0 rL0.length rc0) ∧ Fr (fun k => k = cg ∨ rM cplA k) w0 w' ∧ (Res.box cg 59 [.int .i64 (((hyF cS ck cst cpr cmo (lsts cty) cpl cty.length (cty.length - i) ce cn).2)), .int .i64 (cn), cK, cL, .string cS, cT, cB, cC, .int .i64 (ck), .slice cstA cst.length cstc, .bool cpr, .slice cmoA cmo.length cmoc, .slice ctyA cty.length ctyc, .slice cplA cpl.length cplc]).holds w' ∧ (Res.row cplA cpl.length cplc 3 1 (encIs cpl)).holds w' ∧ (dRow 4 rA0 rL0.length rc0 (encNs rL0)).φ w' (nxt Z w0 w') ∧ rL0 = (hyF cS ck cst cpr cmo (lsts cty) cpl cty.length (cty.length - i) ce cn).1) := hyps_calls_rec _ w0 Z hZ cg ce cn cK cL cS cT cB cC ck cstA cstc cst cpr cmoA cmoc cmo ctyA ctyc cty cplA cplc cpl i hShp hc hcz hcpl hcplz hcpln hcst hcmo hcty hctys hmo hml hpl hlc hlp hty hn6 hcS hi hbn rfl
def ArgC (rn : Nat) : Prop := ∀ (w0 : World) (Z : Nat → Prop) (hZ : ∀ k, Z k → k < w0.heap.size) (cg : Nat) (ce : Int) (cn : Int) (cK : Value) (cL : Value) (cS : ByteArray) (cT : Value) (cB : Value) (cC : Value) (ck : Int) (cstA : Option Addr) (cstc : Nat) (cst : List Bool) (cpr : Bool) (cmoA : Option Addr) (cmoc : Nat) (cmo : List Nd) (ctyA : Option Addr) (ctyc : Nat) (cty : List Sl) (cplA : Option Addr) (cplc : Nat) (cpl : List Int) (i : Nat) (hShp : Shapes w0 Z) (hc : (Res.box cg 59 [.int .i64 (ce), .int .i64 (cn), cK, cL, .string cS, cT, cB, cC, .int .i64 (ck), .slice cstA cst.length cstc, .bool cpr, .slice cmoA cmo.length cmoc, .slice ctyA cty.length ctyc, .slice cplA cpl.length cplc]).holds w0) (hcz : ¬ Z cg) (hcpl : (Res.row cplA cpl.length cplc 3 1 (encIs cpl)).holds w0) (hcplz : ∀ k, rM cplA k → ¬ Z k) (hcpln : ∀ k, rM cplA k → k ≠ cg) (hcst : (dRow 1 cstA cst.length cstc (encBs cst)).φ w0 Z) (hcmo : (dRow 4 cmoA cmo.length cmoc (encNs cmo)).φ w0 Z) (hcty : (dRow 1 ctyA cty.length ctyc (encSs cty)).φ w0 Z) (hctys : (dAll cty).φ w0 Z) (hmo : sml cmo) (hml : cmo.length ≤ 100000) (hpl : ∀ j, -1000 ≤ nthI cpl j ∧ nthI cpl j ≤ 1000) (hlc : cst.length = cty.length) (hty : ∀ t ∈ lsts cty, sml t ∧ t.length ≤ 4000) (hn6 : cty.length ≤ 6) (hcS : cS.size < 1000000) (hlp : cpl.length = i) (hi : i ≤ cty.length) (hbn : -300 ≤ cn ∧ cn + ((cty.length - i : Nat) : Int) ≤ 300) (hrn : cty.length - i = rn),
    Calls Tryz.prog 23 [.pointer (some ⟨cg, 0, none⟩), .int .i64 ((i : Nat) : Int)].toArray w0 (fun e w' => ∃ cv : Value, ∃ (rA0 : Option Addr) (rc0 : Nat) (rL0 : List Nd), e = .returned (.slice rA0 rL0.length rc0) ∧ Fr (fun k => k = cg ∨ rM cplA k) w0 w' ∧ (Res.box cg 59 [.int .i64 (((agF cS ck cst cpr cmo (lsts cty) cty.length (cty.length - i) ce cn cpl).2)), .int .i64 (cn), cK, cL, .string cS, cT, cB, cC, .int .i64 (ck), .slice cstA cst.length cstc, .bool cpr, .slice cmoA cmo.length cmoc, .slice ctyA cty.length ctyc, cv]).holds w' ∧ (dRow 4 rA0 rL0.length rc0 (encNs rL0)).φ w' (nxt Z w0 w') ∧ rL0 = (agF cS ck cst cpr cmo (lsts cty) cty.length (cty.length - i) ce cn cpl).1)
theorem args1_calls (w0 : World) (Z : Nat → Prop) (hZ : ∀ k, Z k → k < w0.heap.size) (cg : Nat) (ce : Int) (cn : Int) (cK : Value) (cL : Value) (cS : ByteArray) (cT : Value) (cB : Value) (cC : Value) (ck : Int) (cstA : Option Addr) (cstc : Nat) (cst : List Bool) (cpr : Bool) (cmoA : Option Addr) (cmoc : Nat) (cmo : List Nd) (ctyA : Option Addr) (ctyc : Nat) (cty : List Sl) (cplA : Option Addr) (cplc : Nat) (cpl : List Int) (qq : Int) (uag : Nat) (ubg : Nat) (ubi : Nat) (hShp : Shapes w0 Z) (hc : (Res.box cg 59 [.int .i64 (ce), .int .i64 (cn), cK, cL, .string cS, cT, cB, cC, .int .i64 (ck), .slice cstA cst.length cstc, .bool cpr, .slice cmoA cmo.length cmoc, .slice ctyA cty.length ctyc, .slice cplA cpl.length cplc]).holds w0) (hcz : ¬ Z cg) (hcpl : (Res.row cplA cpl.length cplc 3 1 (encIs cpl)).holds w0) (hcplz : ∀ k, rM cplA k → ¬ Z k) (hcpln : ∀ k, rM cplA k → k ≠ cg) (hcst : (dRow 1 cstA cst.length cstc (encBs cst)).φ w0 Z) (hcmo : (dRow 4 cmoA cmo.length cmoc (encNs cmo)).φ w0 Z) (hcty : (dRow 1 ctyA cty.length ctyc (encSs cty)).φ w0 Z) (hctys : (dAll cty).φ w0 Z) (huaQ : (dBox uag [.pointer (some ⟨cg, 0, none⟩)]).φ w0 Z) (hubQ : (dBox ubg [.int .i64 ((ubi : Nat) : Int)]).φ w0 Z) (hmo : sml cmo := by first | assumption | omega | (simp <;> omega)) (hml : cmo.length ≤ 100000 := by first | assumption | omega | (simp <;> omega)) (hpl : ∀ j, -1000 ≤ nthI cpl j ∧ nthI cpl j ≤ 1000 := by first | assumption | omega | (simp <;> omega)) (hlc : cst.length = cty.length := by first | assumption | omega | (simp <;> omega)) (hty : ∀ t ∈ lsts cty, sml t ∧ t.length ≤ 4000 := by first | assumption | omega | (simp <;> omega)) (hn6 : cty.length ≤ 6 := by first | assumption | omega | (simp <;> omega)) (hcS : cS.size < 1000000 := by first | assumption | omega | (simp <;> omega)) (hlp : cpl.length = ubi := by first | assumption | omega | (simp <;> omega)) (hiu : ubi < cty.length := by first | assumption | omega | (simp <;> omega)) (hbn : -300 ≤ cn ∧ cn + ((cty.length - (ubi + 1) : Nat) : Int) ≤ 300 := by first | assumption | omega | (simp <;> omega)) (hqq : -1000 ≤ qq ∧ qq ≤ 1000 := by first | assumption | omega | (simp <;> omega)) (hH : ArgC (cty.length - (ubi + 1)) := by first | assumption | omega | (simp <;> omega)) :
    Calls Tryz.prog 59 [.int .i64 qq, .pointer (some ⟨uag, 0, none⟩), .pointer (some ⟨ubg, 0, none⟩)].toArray w0 (fun e w' => ∃ cv : Value, ∃ (rA0 : Option Addr) (rc0 : Nat) (rL0 : List Nd), e = .returned (.slice rA0 rL0.length rc0) ∧ Fr (fun k => k = cg ∨ rM cplA k) w0 w' ∧ (Res.box cg 59 [.int .i64 (((agF cS ck cst cpr cmo (lsts cty) cty.length (cty.length - (ubi + 1)) ce cn (cpl ++ [qq])).2)), .int .i64 (cn), cK, cL, .string cS, cT, cB, cC, .int .i64 (ck), .slice cstA cst.length cstc, .bool cpr, .slice cmoA cmo.length cmoc, .slice ctyA cty.length ctyc, cv]).holds w' ∧ (dRow 4 rA0 rL0.length rc0 (encNs rL0)).φ w' (nxt Z w0 w') ∧ rL0 = (agF cS ck cst cpr cmo (lsts cty) cty.length (cty.length - (ubi + 1)) ce cn (cpl ++ [qq])).1) := by
 have hstart : ∀ k, Z k → imm Z w0 [.box cg 59 [.int .i64 (ce), .int .i64 (cn), cK, cL, .string cS, cT, cB, cC, .int .i64 (ck), .slice cstA cst.length cstc, .bool cpr, .slice cmoA cmo.length cmoc, .slice ctyA cty.length ctyc, .slice cplA cpl.length cplc], .row cplA cpl.length cplc 3 1 (encIs cpl)] w0 k ∧ w0.heap[k]? = w0.heap[k]? := fun k hk => imm_startMR hZ hcz hcplz hk
 have b0 : St w0 Z (fun k => k = cg ∨ rM cplA k) w0 [.box cg 59 [.int .i64 (ce), .int .i64 (cn), cK, cL, .string cS, cT, cB, cC, .int .i64 (ck), .slice cstA cst.length cstc, .bool cpr, .slice cmoA cmo.length cmoc, .slice ctyA cty.length ctyc, .slice cplA cpl.length cplc], .row cplA cpl.length cplc 3 1 (encIs cpl)] [dShapes, dRow 1 cstA cst.length cstc (encBs cst), dRow 4 cmoA cmo.length cmoc (encNs cmo), dRow 1 ctyA cty.length ctyc (encSs cty), dAll cty, dBox uag [.pointer (some ⟨cg, 0, none⟩)], dBox ubg [.int .i64 ((ubi : Nat) : Int)]] := St.startMR w0 Z _ hc hcpl hcpln (by
  intro d hd
  simp only [List.mem_cons, List.not_mem_nil, or_false] at hd
  rcases hd with rfl | rfl | rfl | rfl | rfl | rfl | rfl
  · exact Dat.mono _ _ _ _ _ (Nat.le_refl _) hShp hstart
  · exact Dat.mono _ _ _ _ _ (Nat.le_refl _) hcst hstart
  · exact Dat.mono _ _ _ _ _ (Nat.le_refl _) hcmo hstart
  · exact Dat.mono _ _ _ _ _ (Nat.le_refl _) hcty hstart
  · exact Dat.mono _ _ _ _ _ (Nat.le_refl _) hctys hstart
  · exact Dat.mono _ _ _ _ _ (Nat.le_refl _) huaQ hstart
  · exact Dat.mono _ _ _ _ _ (Nat.le_refl _) hubQ hstart
  )
 refine c_enter Tryz.func59 rfl Tryz.ntmps59 rfl fun c0 d0 => ?_
 refine wsc fun c0 f0 => aw d0 f0 fun c0 h0 => ?_
 refine wp_seq_k fun f0 c0 => ?_
 obtain ⟨f0, d0, i0⟩ := b0.agree
 refine d_reg3 (n := 11) i0 7 (pc 0 1 (pc 0 2 (pc 0 3 (pc 0 4 (pc 0 5 (pc 0 6 (pc 0 7 (pc 0 8 (pc 0 9 (pc 0 10 (pc 0 11 (pc 0 12 pn)))))))))))) (pan_then pan_body) fun f0 b0 j0 k0 m0 n0 => ?_
 refine dt 0 rfl b0 h0 (want_n rfl) (fun x hx => m_loadC (sy h0) h0 rfl rfl rfl (dbox_cell (sdat (d0 5 _ rfl) hx.ag) rfl) Tryz.underlying52 rfl (by decide) gt) n0 fun k0 f0 => ?_
 refine dt 1 rfl b0 f0 (want_n rfl) (fun x hx => m_loadC (sy f0) f0 rfl rfl rfl (dbox_cell (sdat (d0 5 _ rfl) hx.ag) rfl) Tryz.underlying52 rfl (by decide) gt) n0 fun k0 h0 => ?_
 refine dR [2, 3, 5] h0 fun k0 f0 => ?_
 refine wpAnyH_all (rs := [4, 6]) (by kernel_rfl) (by simp) ?_
 rintro i k0
 simp only [List.mem_cons, List.not_mem_nil, or_false] at k0
 rcases k0 with rfl | rfl
 ·
  refine m_load (i := 0) (st_opV rfl (want_n rfl)) f0 m0 rfl rfl rfl rfl rfl Tryz.underlying57 rfl (by decide) fun k0 h0 => ?_
  have k0 := sWI m0 7 (pc 0 1 (pc 0 2 (pc 0 3 (pc 0 4 (pc 0 5 (pc 0 6 (pc 0 7 (pc 0 8 (pc 0 9 (pc 0 10 (pc 0 11 (pc 0 12 pn))))))))))))
  refine ⟨k0, ?_⟩
  refine d1 6 ?_
  refine bsl h0 m0 fun k0 n0 b0 d0 i0 => ?_
  have b0 := sWI i0 7 (pc 0 1 (pc 0 2 (pc 0 3 (pc 0 4 (pc 0 5 (pc 0 6 (pc 0 7 (pc 0 8 (pc 0 9 (pc 0 10 (pc 0 11 (pc 0 12 pn))))))))))))
  refine ⟨b0, ?_⟩
  refine d1 7 ?_
  refine m_appendF (f := encI) (i := 1) (cpl) ([(qq)]) (st_opV rfl (want_n rfl)) d0 i0 rfl rfl rfl rfl rfl encI_len (encI_one _) Tryz.underlying57 zi3 rfl rfl (own_lnews (f := encI) (i0.res (i := 2) rfl)) rfl (by (simp only [List.length_cons, List.length_nil]; omega)) (by decide) fun b0 n0 k0 h0 o0 p0 q0 => ?_
  have o0 : (cpl ++ ([(qq)]) : List Int).length = cpl.length + 1 := by (simp only [List.length_append, List.length_take, List.length_cons, List.length_nil]; done)
  have o0 := q0.erase 2
  have q0 := sWI o0 7 (pc 0 1 (pc 0 2 (pc 0 3 (pc 0 4 (pc 0 5 (pc 0 6 (pc 0 7 (pc 0 8 (pc 0 9 (pc 0 10 (pc 0 11 (pc 0 12 pn))))))))))))
  refine ⟨q0, ?_⟩
  refine dR [8, 9] p0 fun q0 n0 => ?_
  refine d1 10 ?_
  refine sto 0 n0 o0 fun q0 p0 b0 i0 => ?_
  have p0 := sWI i0 7 (pc 0 1 (pc 0 2 (pc 0 3 (pc 0 4 (pc 0 5 (pc 0 6 (pc 0 7 (pc 0 8 (pc 0 9 (pc 0 10 (pc 0 11 (pc 0 12 pn))))))))))))
  refine ⟨p0, ?_⟩
  refine wpAnyH_done (by kernel_rfl) (j0 _ _ ?_) _
  refine xn c0 <| wsc fun p0 q0 => m_loadC sv b0 rfl rfl rfl (dbox_cell (i0.get (i := 5) rfl) rfl) Tryz.underlying52 rfl (by decide) fun p0 n0 => ?_
  refine m_loadC sv n0 rfl rfl rfl (dbox_cell (i0.get (i := 6) rfl) rfl) Tryz.underlying3 rfl (by decide) fun p0 b0 => ?_
  refine adi ((ubi + 1 : Nat) : Int) b0 fun p0 n0 => ?_
  have p0 := i0.nf
  refine kcl n0 ok23 (hH _ (imm Z w0 [.box cg 59 [.int .i64 (ce), .int .i64 (cn), cK, cL, .string cS, cT, cB, cC, .int .i64 (ck), .slice cstA cst.length cstc, .bool cpr, .slice cmoA cmo.length cmoc, .slice ctyA cty.length ctyc, .slice k0 ((cpl ++ ([(qq)]) : List Int).length) h0], .row k0 ((cpl ++ ([(qq)]) : List Int).length) h0 3 1 (encIs (cpl ++ ([(qq)])))] _) (fun _ h => h.1) _ _ _ _ _ _ _ _ _ _ _ _ _ _ _ _ _ _ _ _ _ _ (cpl ++ ([(qq)])) (ubi + 1) (p0.g 0) (p0.z 0) (imm_box (i := 0) rfl) (p0.z 1) (imm_row (i := 1) rfl) (p0.rowne (i := 0) (j := 1) rfl rfl (by decide)) (p0.g 1) (p0.g 2) (p0.g 3) (p0.g 4) (by assumption) (by assumption) (fun _ => nthI_app hpl hqq) (by assumption) (by assumption) (by assumption) (by assumption) (by omega) (by assumption) (by assumption) rfl) ?_
  rintro n0 h0 ⟨v79, k0, i0, b0, rfl, o0, d0, s0, t0⟩
  have h0 := p0.callMD (i := 0) (j := 1) rfl rfl (by decide) o0 d0
  have d0 := p0.dMD 0 1 h0 s0
  have h0 := d0.base
  refine ⟨_, rfl, fun s0 p0 => ?_⟩
  refine aw p0 q0 fun s0 o0 => ?_
  refine wp_ret <| er1 o0 ?_
  have o0 := d0.unbase (.inl rfl) h0
  refine ⟨_, k0, i0, b0, ?_, o0.fr, (by rw [show ((agF cS ck cst cpr cmo (lsts cty) cty.length (cty.length - (ubi + 1)) ce cn (cpl ++ [qq])).2 : Int) = (((agF cS (ck) cst cpr cmo (lsts cty) cty.length (cty.length - (ubi + 1)) (ce) (cn) (cpl ++ ([(qq)]))).2)) by (first | rfl | (simp only [lsts_nth, *]; done) | (simp only [lsts_nth, *]; rfl))]; exact o0.res (i := 0) rfl), o0.rx 8, (by exact t0)⟩
  exact cre (ret_s (by rfl))
 refine bsl f0 m0 fun o0 t0 b0 i0 k0 => ?_
 have b0 := sWI k0 7 (pc 0 1 (pc 0 2 (pc 0 3 (pc 0 4 (pc 0 5 (pc 0 6 (pc 0 7 (pc 0 8 (pc 0 9 (pc 0 10 (pc 0 11 (pc 0 12 pn))))))))))))
 refine ⟨b0, ?_⟩
 refine d1 4 ?_
 refine m_load (i := 0) (st_opV rfl (want_n rfl)) i0 k0 rfl rfl rfl rfl rfl Tryz.underlying57 rfl (by decide) fun b0 t0 => ?_
 have b0 := sWI k0 7 (pc 0 1 (pc 0 2 (pc 0 3 (pc 0 4 (pc 0 5 (pc 0 6 (pc 0 7 (pc 0 8 (pc 0 9 (pc 0 10 (pc 0 11 (pc 0 12 pn))))))))))))
 refine ⟨b0, ?_⟩
 refine d1 7 ?_
 refine m_appendF (f := encI) (i := 1) (cpl) ([(qq)]) (st_opV rfl (want_n rfl)) t0 k0 rfl rfl rfl rfl rfl encI_len (encI_one _) Tryz.underlying57 zi3 rfl rfl (own_lnews (f := encI) (k0.res (i := 2) rfl)) rfl (by (simp only [List.length_cons, List.length_nil]; omega)) (by decide) fun b0 i0 o0 f0 m0 h0 d0 => ?_
 have m0 : (cpl ++ ([(qq)]) : List Int).length = cpl.length + 1 := by (simp only [List.length_append, List.length_take, List.length_cons, List.length_nil]; done)
 have m0 := d0.erase 2
 have d0 := sWI m0 7 (pc 0 1 (pc 0 2 (pc 0 3 (pc 0 4 (pc 0 5 (pc 0 6 (pc 0 7 (pc 0 8 (pc 0 9 (pc 0 10 (pc 0 11 (pc 0 12 pn))))))))))))
 refine ⟨d0, ?_⟩
 refine dR [8, 9] h0 fun d0 i0 => ?_
 refine d1 10 ?_
 refine sto 0 i0 m0 fun d0 h0 b0 t0 => ?_
 have h0 := sWI t0 7 (pc 0 1 (pc 0 2 (pc 0 3 (pc 0 4 (pc 0 5 (pc 0 6 (pc 0 7 (pc 0 8 (pc 0 9 (pc 0 10 (pc 0 11 (pc 0 12 pn))))))))))))
 refine ⟨h0, ?_⟩
 refine wpAnyH_done (by kernel_rfl) (j0 _ _ ?_) _
 refine xn c0 <| wsc fun c0 j0 => m_loadC sv b0 rfl rfl rfl (dbox_cell (t0.get (i := 5) rfl) rfl) Tryz.underlying52 rfl (by decide) fun c0 h0 => ?_
 refine m_loadC sv h0 rfl rfl rfl (dbox_cell (t0.get (i := 6) rfl) rfl) Tryz.underlying3 rfl (by decide) fun c0 b0 => ?_
 refine adi ((ubi + 1 : Nat) : Int) b0 fun c0 h0 => ?_
 have c0 := t0.nf
 refine kcl h0 ok23 (hH _ (imm Z w0 [.box cg 59 [.int .i64 (ce), .int .i64 (cn), cK, cL, .string cS, cT, cB, cC, .int .i64 (ck), .slice cstA cst.length cstc, .bool cpr, .slice cmoA cmo.length cmoc, .slice ctyA cty.length ctyc, .slice o0 ((cpl ++ ([(qq)]) : List Int).length) f0], .row o0 ((cpl ++ ([(qq)]) : List Int).length) f0 3 1 (encIs (cpl ++ ([(qq)])))] _) (fun _ h => h.1) _ _ _ _ _ _ _ _ _ _ _ _ _ _ _ _ _ _ _ _ _ _ (cpl ++ ([(qq)])) (ubi + 1) (c0.g 0) (c0.z 0) (imm_box (i := 0) rfl) (c0.z 1) (imm_row (i := 1) rfl) (c0.rowne (i := 0) (j := 1) rfl rfl (by decide)) (c0.g 1) (c0.g 2) (c0.g 3) (c0.g 4) (by assumption) (by assumption) (fun _ => nthI_app hpl hqq) (by assumption) (by assumption) (by assumption) (by assumption) (by omega) (by assumption) (by assumption) rfl) ?_
 rintro h0 f0 ⟨v136, o0, t0, b0, rfl, d0, i0, m0, k0⟩
 have f0 := c0.callMD (i := 0) (j := 1) rfl rfl (by decide) d0 i0
 have i0 := c0.dMD 0 1 f0 m0
 have f0 := i0.base
 refine ⟨_, rfl, fun m0 c0 => ?_⟩
 refine aw c0 j0 fun m0 d0 => ?_
 refine wp_ret <| er1 d0 ?_
 have d0 := i0.unbase (.inl rfl) f0
 refine ⟨_, o0, t0, b0, ?_, d0.fr, (by rw [show ((agF cS ck cst cpr cmo (lsts cty) cty.length (cty.length - (ubi + 1)) ce cn (cpl ++ [qq])).2 : Int) = (((agF cS (ck) cst cpr cmo (lsts cty) cty.length (cty.length - (ubi + 1)) (ce) (cn) (cpl ++ ([(qq)]))).2)) by (first | rfl | (simp only [lsts_nth, *]; done) | (simp only [lsts_nth, *]; rfl))]; exact d0.res (i := 0) rfl), d0.rx 8, (by exact k0)⟩
 exact cre (ret_s (by rfl))
theorem pi99_calls (w0 : World) (Z : Nat → Prop) (hZ : ∀ k, Z k → k < w0.heap.size) (cg : Nat) (ce : Int) (cn : Int) (cK : Value) (cL : Value) (cS : ByteArray) (cT : Value) (cB : Value) (cC : Value) (ck : Int) (cstA : Option Addr) (cstc : Nat) (cst : List Bool) (cpr : Bool) (cmoA : Option Addr) (cmoc : Nat) (cmo : List Nd) (ctyA : Option Addr) (ctyc : Nat) (cty : List Sl) (cplA : Option Addr) (cplc : Nat) (cpl : List Int) (mm : Int) (dA : Option Addr) (dc : Nat) (d : List Nd) (vvpg : Nat) (vvqg : Nat) (vvqi : Nat) (hShp : Shapes w0 Z) (hc : (Res.box cg 59 [.int .i64 (ce), .int .i64 (cn), cK, cL, .string cS, cT, cB, cC, .int .i64 (ck), .slice cstA cst.length cstc, .bool cpr, .slice cmoA cmo.length cmoc, .slice ctyA cty.length ctyc, .slice cplA cpl.length cplc]).holds w0) (hcz : ¬ Z cg) (hcpl : (Res.row cplA cpl.length cplc 3 1 (encIs cpl)).holds w0) (hcplz : ∀ k, rM cplA k → ¬ Z k) (hcpln : ∀ k, rM cplA k → k ≠ cg) (hcst : (dRow 1 cstA cst.length cstc (encBs cst)).φ w0 Z) (hcmo : (dRow 4 cmoA cmo.length cmoc (encNs cmo)).φ w0 Z) (hcty : (dRow 1 ctyA cty.length ctyc (encSs cty)).φ w0 Z) (hctys : (dAll cty).φ w0 Z) (hd : (dRow 4 dA d.length dc (encNs d)).φ w0 Z) (hvvpQ : (dBox vvpg [.pointer (some ⟨cg, 0, none⟩)]).φ w0 Z) (hvvqQ : (dBox vvqg [.int .i64 ((vvqi : Nat) : Int)]).φ w0 Z) (hmo : sml cmo := by first | assumption | omega | (simp <;> omega)) (hml : cmo.length ≤ 100000 := by first | assumption | omega | (simp <;> omega)) (hpl : ∀ j, -1000 ≤ nthI cpl j ∧ nthI cpl j ≤ 1000 := by first | assumption | omega | (simp <;> omega)) (hlc : cst.length = cty.length := by first | assumption | omega | (simp <;> omega)) (hty : ∀ t ∈ lsts cty, sml t ∧ t.length ≤ 4000 := by first | assumption | omega | (simp <;> omega)) (hn6 : cty.length ≤ 6 := by first | assumption | omega | (simp <;> omega)) (hcS : cS.size < 1000000 := by first | assumption | omega | (simp <;> omega)) (hlp : cpl.length = vvqi := by first | assumption | omega | (simp <;> omega)) (hiu : vvqi < cty.length := by first | assumption | omega | (simp <;> omega)) (hbn : -300 ≤ cn + 1 ∧ cn + 1 + ((cty.length - (vvqi + 1) : Nat) : Int) ≤ 300 := by first | assumption | omega | (simp <;> omega)) (hH : ArgC (cty.length - (vvqi + 1)) := by first | assumption | omega | (simp <;> omega)) (hsd : sml d := by first | assumption | omega | (simp <;> omega)) (hld : d.length ≤ 20000 := by first | assumption | omega | (simp <;> omega)) :
    Calls Tryz.prog 57 [.pointer (some ⟨cg, 0, none⟩), .int .i64 mm, .slice dA d.length dc, .func (.func 59) #[] #[.pointer (some ⟨vvpg, 0, none⟩), .pointer (some ⟨vvqg, 0, none⟩)]].toArray w0 (fun e w' => ∃ cv : Value, ∃ (rA0 : Option Addr) (rc0 : Nat) (rL0 : List Nd), e = .returned (.slice rA0 rL0.length rc0) ∧ Fr (fun k => k = cg ∨ rM cplA k) w0 w' ∧ (Res.box cg 59 [.int .i64 (((piP (agF cS ck cst cpr cmo (lsts cty) cty.length (cty.length - (vvqi + 1)) ce (cn + 1) (cpl ++ [cn + 1])) mm d).2)), .int .i64 (cn), cK, cL, .string cS, cT, cB, cC, .int .i64 (ck), .slice cstA cst.length cstc, .bool cpr, .slice cmoA cmo.length cmoc, .slice ctyA cty.length ctyc, cv]).holds w' ∧ (dRow 4 rA0 rL0.length rc0 (encNs rL0)).φ w' (nxt Z w0 w') ∧ rL0 = (piP (agF cS ck cst cpr cmo (lsts cty) cty.length (cty.length - (vvqi + 1)) ce (cn + 1) (cpl ++ [cn + 1])) mm d).1) := by
 have hstart : ∀ k, Z k → imm Z w0 [.box cg 59 [.int .i64 (ce), .int .i64 (cn), cK, cL, .string cS, cT, cB, cC, .int .i64 (ck), .slice cstA cst.length cstc, .bool cpr, .slice cmoA cmo.length cmoc, .slice ctyA cty.length ctyc, .slice cplA cpl.length cplc], .row cplA cpl.length cplc 3 1 (encIs cpl)] w0 k ∧ w0.heap[k]? = w0.heap[k]? := fun k hk => imm_startMR hZ hcz hcplz hk
 have b0 : St w0 Z (fun k => k = cg ∨ rM cplA k) w0 [.box cg 59 [.int .i64 (ce), .int .i64 (cn), cK, cL, .string cS, cT, cB, cC, .int .i64 (ck), .slice cstA cst.length cstc, .bool cpr, .slice cmoA cmo.length cmoc, .slice ctyA cty.length ctyc, .slice cplA cpl.length cplc], .row cplA cpl.length cplc 3 1 (encIs cpl)] [dShapes, dRow 1 cstA cst.length cstc (encBs cst), dRow 4 cmoA cmo.length cmoc (encNs cmo), dRow 1 ctyA cty.length ctyc (encSs cty), dAll cty, dRow 4 dA d.length dc (encNs d), dBox vvpg [.pointer (some ⟨cg, 0, none⟩)], dBox vvqg [.int .i64 ((vvqi : Nat) : Int)]] := St.startMR w0 Z _ hc hcpl hcpln (by
  intro d hd
  simp only [List.mem_cons, List.not_mem_nil, or_false] at hd
  rcases hd with rfl | rfl | rfl | rfl | rfl | rfl | rfl | rfl
  · exact Dat.mono _ _ _ _ _ (Nat.le_refl _) hShp hstart
  · exact Dat.mono _ _ _ _ _ (Nat.le_refl _) hcst hstart
  · exact Dat.mono _ _ _ _ _ (Nat.le_refl _) hcmo hstart
  · exact Dat.mono _ _ _ _ _ (Nat.le_refl _) hcty hstart
  · exact Dat.mono _ _ _ _ _ (Nat.le_refl _) hctys hstart
  · exact Dat.mono _ _ _ _ _ (Nat.le_refl _) hd hstart
  · exact Dat.mono _ _ _ _ _ (Nat.le_refl _) hvvpQ hstart
  · exact Dat.mono _ _ _ _ _ (Nat.le_refl _) hvvqQ hstart
  )
 refine c_enter Tryz.func57 rfl Tryz.ntmps57 rfl fun c0 d0 => ?_
 refine wsc fun c0 f0 => aw d0 f0 fun c0 h0 => ?_
 refine wsc fun f0 c0 => lR h0 fun f0 d0 => ?_
 refine adi (cn + 1) d0 fun f0 h0 => ?_
 refine lR h0 fun f0 d0 => ?_
 refine sto 0 d0 b0 fun f0 h0 i0 j0 => ?_
 refine wn c0 <| wsc fun c0 h0 => lR i0 fun c0 f0 => ?_
 have c0 := j0.nf
 refine k_callV (xs := [.tmp 21]) se f0 rfl rfl rfl rfl (by decide) ok59 (args1_calls _ _ c0.il _ _ _ _ _ _ _ _ _ _ _ _ _ _ _ _ _ _ _ _ _ _ _ (cn + 1) vvpg vvqg vvqi (c0.g 0) (c0.z 0) (imm_box (i := 0) rfl) (c0.z 1) (imm_row (i := 1) rfl) (c0.rowne (i := 0) (j := 1) rfl rfl (by decide)) (c0.g 1) (c0.g 2) (c0.g 3) (c0.g 4) (c0.g 6) (c0.g 7)) ?_
 rintro f0 j0 ⟨v52, i0, d0, b0, rfl, k0, m0, n0, o0⟩
 have j0 := c0.callMD (i := 0) (j := 1) rfl rfl (by decide) k0 m0
 have m0 := c0.dMD 0 1 j0 n0
 have j0 := m0.base
 refine ⟨_, rfl, fun n0 c0 => ?_⟩
 obtain ⟨n0, k0⟩ := (show b0.length ≤ 90000 ∧ sml b0 by rw [o0]; have zz := agF_Z (S := cS) (k := ck) (st := cst) (pr := cpr) hcS hmo hty (lsts_len _).symm (cty.length - (vvqi + 1)) (by omega) ce (cn + 1) (cpl ++ [cn + 1]); exact ⟨by omega, zz.2⟩)
 refine aw c0 h0 fun k0 n0 => ?_
 refine wsc fun h0 k0 => lR n0 fun h0 c0 => ?_
 refine sbi (cn) c0 fun h0 n0 => ?_
 refine lR n0 fun h0 c0 => ?_
 refine sto 0 c0 j0 fun h0 n0 o0 f0 => ?_
 refine wn k0 <| wsc fun k0 n0 => lR o0 fun k0 h0 => ?_
 refine bld h0 fun k0 o0 => ?_
 refine lR o0 fun k0 h0 => ?_
 have k0 := f0.data (dAll [((dA, dc, d) : Sl), ((i0, d0, b0) : Sl)]) (all_cons (f0.get (i := 5) rfl) (all_cons (f0.get (i := 8) rfl) all_nil))
 refine bsl h0 k0 fun f0 o0 c0 j0 p0 => ?_
 have o0 := p0.nf
 have p0 := own_cap (o0.res (i := 1) rfl)
 obtain ⟨f0, k0⟩ := o0.row_dataM (i := 1) rfl (j := 0) rfl (by decide)
 have o0 := f0.data (dRow 1 (some ⟨c0, 0, none⟩) 2 2 (encSs ([((dA, dc, d) : Sl), ((i0, d0, b0) : Sl)]))) ⟨p0, k0⟩
 refine kcl j0 ok96 (node_calls _ _ o0.il _ _ _ _ (⟨3, (mm), 0, (⟨#[]⟩ : ByteArray)⟩ : Nd) _ _ ([((dA, dc, d) : Sl), ((i0, d0, b0) : Sl)]) (o0.z 0) (imm_box (i := 0) rfl) (o0.g 10) (o0.g 9) (hb := (by simp; omega))) ?_
 rintro j0 b0 ⟨d0, i0, k0, rfl, f0, p0, c0, h0⟩
 have h0 := o0.callM (i := 0) rfl f0 p0
 have p0 := o0.dM 0 h0 c0
 refine ⟨_, rfl, fun h0 c0 => ?_⟩
 refine aw c0 n0 fun h0 o0 => ?_
 refine wp_ret <| er1 o0 ?_
 have o0 := m0.unbase (.inl rfl) p0
 refine ⟨_, d0, i0, k0, ?_, o0.fr, (by rw [show ((piP (agF cS ck cst cpr cmo (lsts cty) cty.length (cty.length - (vvqi + 1)) ce (cn + 1) (cpl ++ [cn + 1])) mm d).2 : Int) = ((((agF cS (ck) cst cpr cmo (lsts cty) cty.length (cty.length - (vvqi + 1)) (ce) (cn + 1) (cpl ++ [(cn + 1)])).2))) by (first | rfl | (simp only [lsts_nth, *]; done) | (simp only [lsts_nth, *]; rfl))]; exact o0.res (i := 0) rfl), o0.rx 11, (by (simp only [lsts_nth, *]; rfl))⟩
 exact cre (ret_s (by rfl))
theorem cargs_calls_rec (rn : Nat) : ArgC rn := by
 induction rn using Nat.strongRecOn
 rename_i rn ih
 intro w0 Z hZ cg ce cn cK cL cS cT cB cC ck cstA cstc cst cpr cmoA cmoc cmo ctyA ctyc cty cplA cplc cpl i hShp hc hcz hcpl hcplz hcpln hcst hcmo hcty hctys hmo hml hpl hlc hty hn6 hcS hlp hi hbn hrn
 have hstart : ∀ k, Z k → imm Z w0 [.box cg 59 [.int .i64 (ce), .int .i64 (cn), cK, cL, .string cS, cT, cB, cC, .int .i64 (ck), .slice cstA cst.length cstc, .bool cpr, .slice cmoA cmo.length cmoc, .slice ctyA cty.length ctyc, .slice cplA cpl.length cplc], .row cplA cpl.length cplc 3 1 (encIs cpl)] w0 k ∧ w0.heap[k]? = w0.heap[k]? := fun k hk => imm_startMR hZ hcz hcplz hk
 have b0 : St w0 Z (fun k => k = cg ∨ rM cplA k) w0 [.box cg 59 [.int .i64 (ce), .int .i64 (cn), cK, cL, .string cS, cT, cB, cC, .int .i64 (ck), .slice cstA cst.length cstc, .bool cpr, .slice cmoA cmo.length cmoc, .slice ctyA cty.length ctyc, .slice cplA cpl.length cplc], .row cplA cpl.length cplc 3 1 (encIs cpl)] [dShapes, dRow 1 cstA cst.length cstc (encBs cst), dRow 4 cmoA cmo.length cmoc (encNs cmo), dRow 1 ctyA cty.length ctyc (encSs cty), dAll cty] := St.startMR w0 Z _ hc hcpl hcpln (by
  intro d hd
  simp only [List.mem_cons, List.not_mem_nil, or_false] at hd
  rcases hd with rfl | rfl | rfl | rfl | rfl
  · exact Dat.mono _ _ _ _ _ (Nat.le_refl _) hShp hstart
  · exact Dat.mono _ _ _ _ _ (Nat.le_refl _) hcst hstart
  · exact Dat.mono _ _ _ _ _ (Nat.le_refl _) hcmo hstart
  · exact Dat.mono _ _ _ _ _ (Nat.le_refl _) hcty hstart
  · exact Dat.mono _ _ _ _ _ (Nat.le_refl _) hctys hstart
  )
 refine c_enter Tryz.func23 rfl Tryz.ntmps23 rfl fun c0 d0 => ?_
 refine wsc fun c0 f0 => bxx d0 b0 fun c0 h0 i0 j0 k0 => ?_
 refine bxx j0 k0 fun h0 c0 d0 b0 m0 => ?_
 refine aw b0 f0 fun c0 h0 => ?_
 refine wp_seq_k fun f0 c0 => wp_seq_k fun f0 b0 => ?_
 obtain ⟨f0, k0, j0⟩ := m0.agree
 refine d_reg3 (n := 7) j0 5 (pc 0 1 (pc 0 2 (pc 0 3 (pc 0 4 (pc 0 5 (pc 0 6 (pc 0 7 (pc 0 8 (pc 0 9 (pc 0 10 (pc 0 11 (pc 0 12 (pc 2 0 (pc 3 0 pn)))))))))))))) (pan_then (pan_then pan_body)) fun k0 f0 m0 n0 o0 p0 => ?_
 refine dR [0, 1, 2, 3, 4, 5, 6] h0 fun p0 n0 => ?_
 refine wpAnyH_done (by kernel_rfl) (m0 _ _ ?_) _
 refine xn b0 ?_
 rcases Decidable.em (((i : Nat) : Int) = ((cty.length : Nat) : Int)) with b0 | b0
 ·
  have hkE := agS_end (ty := cty) (S := cS) (k := ck) (e := ce) (a := cn) (st := cst) (pr := cpr) (mo := cmo) (pl := cpl) (i := i) (Eq.refl cty.length) (show cty.length ≤ i by omega)
  refine wct n0 (decide_eq_true b0) fun m0 => ?_
  refine wsc fun p0 h0 => lR m0 fun p0 f0 => ?_
  have p0 := o0.nf
  refine kcl f0 ok56 (hyps_calls _ _ p0.il _ _ _ _ _ _ _ _ _ _ _ _ _ _ _ _ _ _ _ _ _ _ _ 0 (p0.g 0) (p0.z 0) (imm_box (i := 0) rfl) (p0.z 1) (imm_row (i := 1) rfl) (p0.rowne (i := 0) (j := 1) rfl rfl (by decide)) (p0.g 1) (p0.g 2) (p0.g 3) (p0.g 4)) ?_
  rintro f0 m0 ⟨k0, j0, q0, rfl, s0, t0, u0, v0, x0⟩
  have m0 := p0.callMK (i := 0) (j := 1) rfl rfl (by decide) s0 t0 u0
  have u0 := p0.dM 0 m0 v0
  refine ⟨_, rfl, fun m0 v0 => ?_⟩
  refine aw v0 h0 fun m0 p0 => ?_
  refine wp_ret <| x_then_r <| er1 p0 ?_
  refine ⟨_, k0, j0, q0, ?_, u0.fr, (by rw [show ((agF cS ck cst cpr cmo (lsts cty) cty.length (cty.length - i) ce cn cpl).2 : Int) = (((hyF cS (ck) cst cpr cmo (lsts cty) cpl cty.length (cty.length - 0) (ce) (cn)).2)) by (first | exact (congrArg Prod.snd hkE.symm) | (rw [hkE]; done) | (rw [hkE]; simp only [x0]; done) | (rw [hkE]; simp only [*]; done))]; exact u0.res (i := 0) rfl), u0.rx 6, (by exact (x0).trans (congrArg Prod.fst hkE.symm))⟩
  exact cre (ret_s (by rfl))
 have hiu : i < cty.length := by omega
 obtain ⟨hts, htl⟩ := ty_at hty hiu
 have hkE := agS_some (ty := cty) (S := cS) (k := ck) (e := ce) (a := cn) (st := cst) (pr := cpr) (mo := cmo) (pl := cpl) hiu
 refine wcf n0 (decide_eq_false b0) fun u0 => ?_
 refine wp_skip <| xn c0 <| wp_seq_k fun c0 b0 => ?_
 obtain ⟨c0, n0⟩ := o0.box_dataG (i := 2) rfl (two_M (i := 2) rfl rfl (by decide) (by decide))
 have o0 := c0.data (dBox i0 [.pointer (some ⟨cg, 0, none⟩)]) n0
 have n0 := o0.nf
 obtain ⟨o0, c0⟩ := n0.box_dataG (i := 2) rfl (two_M (i := 2) rfl rfl (by decide) (by decide))
 have n0 := o0.data (dBox d0 [.int .i64 ((i : Nat) : Int)]) c0
 have c0 := n0.nf
 obtain ⟨n0, o0, x0⟩ := c0.agree
 refine d_reg3 (n := 27) x0 8 (pc 0 1 (pc 0 2 (pc 0 3 (pc 0 4 (pc 0 5 (pc 0 6 (pc 0 7 (pc 0 8 (pc 0 9 (pc 0 10 (pc 0 11 (pc 0 12 pn)))))))))))) (pan_then pan_body) fun n0 c0 q0 j0 k0 p0 => ?_
 refine dt 0 rfl c0 u0 (want_n rfl) (fun x hx => m_loadC (sy u0) u0 rfl rfl rfl (dbox_cell (sdat (o0 6 _ rfl) hx.ag) rfl) Tryz.underlying52 rfl (by decide) gt) p0 fun j0 n0 => ?_
 refine dR [1, 2] n0 fun j0 u0 => ?_
 refine dt 3 rfl c0 u0 (want_n rfl) (fun x hx => m_loadC (sy u0) u0 rfl rfl rfl (dbox_cell (sdat (o0 6 _ rfl) hx.ag) rfl) Tryz.underlying52 rfl (by decide) gt) p0 fun j0 n0 => ?_
 refine dR [4, 5, 6] n0 fun j0 u0 => ?_
 refine dt 7 rfl c0 u0 (want_n rfl) (fun x hx => m_loadC (sy u0) u0 rfl rfl rfl (dbox_cell (sdat (o0 7 _ rfl) hx.ag) rfl) Tryz.underlying3 rfl (by decide) gt) p0 fun j0 n0 => ?_
 refine dix 8 i (i * 1) n0 (fun x hx => (bs_elem (t := cst) (k := i) (sdat (o0 1 _ rfl) hx.ag).2 (by omega)).some_) fun j0 u0 => ?_
 refine dle 9 0 (i * 1) u0 (fun x hx => bs_elem (t := cst) (k := i) (sdat (o0 1 _ rfl) hx.ag).2 (by omega)) fun j0 n0 => ?_
 refine dt 11 rfl c0 n0 (want_n rfl) (fun x hx => m_loadC (sy n0) n0 rfl rfl rfl (dbox_cell (sdat (o0 6 _ rfl) hx.ag) rfl) Tryz.underlying52 rfl (by decide) gt) p0 fun j0 u0 => ?_
 refine dR [12, 13, 14] u0 fun j0 n0 => ?_
 refine dt 17 rfl c0 n0 (want_n rfl) (fun x hx => m_loadC (sy n0) n0 rfl rfl rfl (dbox_cell (sdat (o0 6 _ rfl) hx.ag) rfl) Tryz.underlying52 rfl (by decide) gt) p0 fun j0 u0 => ?_
 refine dR [18, 19, 20] u0 fun j0 n0 => ?_
 refine dt 21 rfl c0 n0 (want_n rfl) (fun x hx => m_loadC (sy n0) n0 rfl rfl rfl (dbox_cell (sdat (o0 7 _ rfl) hx.ag) rfl) Tryz.underlying3 rfl (by decide) gt) p0 fun j0 u0 => ?_
 refine dix 22 i (i * 1) u0 (fun x hx => (ss_elem (t := cty) (k := i) (sdat (o0 3 _ rfl) hx.ag).2 (by omega)).some_) fun j0 n0 => ?_
 refine dle 23 0 (i * 1) n0 (fun x hx => ss_elem (t := cty) (k := i) (sdat (o0 3 _ rfl) hx.ag).2 (by omega)) fun j0 u0 => ?_
 have j0 := k0.el 4 i
 refine dt 24 rfl c0 u0 (want_n rfl) (fun x hx => r_makeFunc (sy u0) u0 rfl rfl rfl (by decide) gt) p0 fun k0 n0 => ?_
 refine d1 10 ?_
 have k0 := j0.nf
 refine kcl n0 ok58 (mark_calls _ _ k0.il (nthB cst i) 2) ?_
 rintro n0 j0 ⟨rfl, u0⟩
 have j0 := k0.below u0.below
 refine ⟨_, rfl, fun u0 k0 => ?_⟩
 have u0 := sWI j0 8 (pc 0 1 (pc 0 2 (pc 0 3 (pc 0 4 (pc 0 5 (pc 0 6 (pc 0 7 (pc 0 8 (pc 0 9 (pc 0 10 (pc 0 11 (pc 0 12 pn))))))))))))
 refine ⟨u0, ?_⟩
 refine d1 15 ?_
 have u0 := j0.nf
 refine kcl k0 ok58 (mark_calls _ _ u0.il cpr 1) ?_
 rintro k0 j0 ⟨rfl, n0⟩
 have j0 := u0.below n0.below
 refine ⟨_, rfl, fun n0 u0 => ?_⟩
 have n0 := sWI j0 8 (pc 0 1 (pc 0 2 (pc 0 3 (pc 0 4 (pc 0 5 (pc 0 6 (pc 0 7 (pc 0 8 (pc 0 9 (pc 0 10 (pc 0 11 (pc 0 12 pn))))))))))))
 refine ⟨n0, ?_⟩
 refine dt 16 rfl c0 u0 (want_n rfl) (fun x hx => r_int (v := .int .i64 ((orI ((mkI (nthB cst i) 2)) ((mkI cpr 1))))) (sy u0) u0 rfl rfl rfl rfl (by decide) (run_orI (by exact mkI_0 (by decide)) (by exact mkI_k (by decide)) (by exact mkI_0 (by decide)) (by exact mkI_k (by decide))) gt) n0 fun k0 p0 => ?_
 refine d1 25 ?_
 have k0 := j0.nf
 refine kcl p0 ok57 (pi99_calls _ _ k0.il _ _ _ _ _ _ _ _ _ _ _ _ _ _ _ _ _ _ _ _ _ _ _ ((orI ((mkI (nthB cst i) 2)) ((mkI cpr 1)))) _ _ ((nthS cty i).2.2) i0 d0 i (k0.g 0) (k0.z 0) (imm_box (i := 0) rfl) (k0.z 1) (imm_row (i := 1) rfl) (k0.rowne (i := 0) (j := 1) rfl rfl (by decide)) (k0.g 1) (k0.g 2) (k0.g 3) (k0.g 4) (k0.g 9) (k0.g 6) (k0.g 7) (hH := (ih _ (by omega)))) ?_
 rintro p0 d0 ⟨v168, i0, j0, n0, rfl, u0, c0, o0, x0⟩
 have d0 := k0.callMD (i := 0) (j := 1) rfl rfl (by decide) u0 c0
 have c0 := k0.dMD 0 1 d0 o0
 have d0 := c0.base
 refine ⟨_, rfl, fun o0 k0 => ?_⟩
 have o0 := sWI d0 8 (pc 0 1 (pc 0 2 (pc 0 3 (pc 0 4 (pc 0 5 (pc 0 6 (pc 0 7 (pc 0 8 (pc 0 9 (pc 0 10 (pc 0 11 (pc 0 12 pn))))))))))))
 refine ⟨o0, ?_⟩
 refine dR [26] k0 fun o0 u0 => ?_
 refine wpAnyH_done (by kernel_rfl) (q0 _ _ ?_) _
 refine xn b0 <| wp_ret <| er1 u0 ?_
 have u0 := c0.unbase (.inl rfl) d0
 refine ⟨_, i0, j0, n0, ?_, u0.fr, (by rw [show ((agF cS ck cst cpr cmo (lsts cty) cty.length (cty.length - i) ce cn cpl).2 : Int) = (((piP (agF cS (ck) cst cpr cmo (lsts cty) cty.length (cty.length - (i + 1)) (ce) ((cn) + 1) (cpl ++ [(cn) + 1])) ((orI ((mkI (nthB cst i) 2)) ((mkI cpr 1)))) ((nthS cty i).2.2)).2)) by (first | exact (congrArg Prod.snd hkE.symm) | (rw [hkE]; done) | (rw [hkE]; simp only [x0]; done) | (rw [hkE]; simp only [*]; done))]; exact u0.res (i := 0) rfl), u0.rx 10, (by exact (x0).trans (congrArg Prod.fst hkE.symm))⟩
 exact cre (ret_s (by rfl))
theorem cargs_calls (w0 : World) (Z : Nat → Prop) (hZ : ∀ k, Z k → k < w0.heap.size) (cg : Nat) (ce : Int) (cn : Int) (cK : Value) (cL : Value) (cS : ByteArray) (cT : Value) (cB : Value) (cC : Value) (ck : Int) (cstA : Option Addr) (cstc : Nat) (cst : List Bool) (cpr : Bool) (cmoA : Option Addr) (cmoc : Nat) (cmo : List Nd) (ctyA : Option Addr) (ctyc : Nat) (cty : List Sl) (cplA : Option Addr) (cplc : Nat) (cpl : List Int) (i : Nat) (hShp : Shapes w0 Z) (hc : (Res.box cg 59 [.int .i64 (ce), .int .i64 (cn), cK, cL, .string cS, cT, cB, cC, .int .i64 (ck), .slice cstA cst.length cstc, .bool cpr, .slice cmoA cmo.length cmoc, .slice ctyA cty.length ctyc, .slice cplA cpl.length cplc]).holds w0) (hcz : ¬ Z cg) (hcpl : (Res.row cplA cpl.length cplc 3 1 (encIs cpl)).holds w0) (hcplz : ∀ k, rM cplA k → ¬ Z k) (hcpln : ∀ k, rM cplA k → k ≠ cg) (hcst : (dRow 1 cstA cst.length cstc (encBs cst)).φ w0 Z) (hcmo : (dRow 4 cmoA cmo.length cmoc (encNs cmo)).φ w0 Z) (hcty : (dRow 1 ctyA cty.length ctyc (encSs cty)).φ w0 Z) (hctys : (dAll cty).φ w0 Z) (hmo : sml cmo := by first | assumption | omega | (simp <;> omega)) (hml : cmo.length ≤ 100000 := by first | assumption | omega | (simp <;> omega)) (hpl : ∀ j, -1000 ≤ nthI cpl j ∧ nthI cpl j ≤ 1000 := by first | assumption | omega | (simp <;> omega)) (hlc : cst.length = cty.length := by first | assumption | omega | (simp <;> omega)) (hty : ∀ t ∈ lsts cty, sml t ∧ t.length ≤ 4000 := by first | assumption | omega | (simp <;> omega)) (hn6 : cty.length ≤ 6 := by first | assumption | omega | (simp <;> omega)) (hcS : cS.size < 1000000 := by first | assumption | omega | (simp <;> omega)) (hlp : cpl.length = i := by first | assumption | omega | (simp <;> omega)) (hi : i ≤ cty.length := by first | assumption | omega | (simp <;> omega)) (hbn : -300 ≤ cn ∧ cn + ((cty.length - i : Nat) : Int) ≤ 300 := by first | assumption | omega | (simp <;> omega)) :
    Calls Tryz.prog 23 [.pointer (some ⟨cg, 0, none⟩), .int .i64 ((i : Nat) : Int)].toArray w0 (fun e w' => ∃ cv : Value, ∃ (rA0 : Option Addr) (rc0 : Nat) (rL0 : List Nd), e = .returned (.slice rA0 rL0.length rc0) ∧ Fr (fun k => k = cg ∨ rM cplA k) w0 w' ∧ (Res.box cg 59 [.int .i64 (((agF cS ck cst cpr cmo (lsts cty) cty.length (cty.length - i) ce cn cpl).2)), .int .i64 (cn), cK, cL, .string cS, cT, cB, cC, .int .i64 (ck), .slice cstA cst.length cstc, .bool cpr, .slice cmoA cmo.length cmoc, .slice ctyA cty.length ctyc, cv]).holds w' ∧ (dRow 4 rA0 rL0.length rc0 (encNs rL0)).φ w' (nxt Z w0 w') ∧ rL0 = (agF cS ck cst cpr cmo (lsts cty) cty.length (cty.length - i) ce cn cpl).1) := cargs_calls_rec _ w0 Z hZ cg ce cn cK cL cS cT cB cC ck cstA cstc cst cpr cmoA cmoc cmo ctyA ctyc cty cplA cplc cpl i hShp hc hcz hcpl hcplz hcpln hcst hcmo hcty hctys hmo hml hpl hlc hty hn6 hcS hlp hi hbn rfl
end Go.Proofs.YtpfmnpaifchleaaGreatDoor
