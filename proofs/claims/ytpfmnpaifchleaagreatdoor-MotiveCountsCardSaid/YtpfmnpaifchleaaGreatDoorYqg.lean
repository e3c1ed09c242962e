import Derived.Test.YtpfmnpaifchleaaGreatDoorYqf
namespace Go.Proofs.YtpfmnpaifchleaaGreatDoor
open Go Go.RowKit
set_option linter.defProp false
def AY := @Tryz.underlying172
end Go.Proofs.YtpfmnpaifchleaaGreatDoor
namespace Go.Proofs.YtpfmnpaifchleaaGreatDoor
open Go Go.RowKit
set_option linter.unusedSimpArgs false
set_option linter.unusedVariables false
set_option maxRecDepth 100000
set_option maxHeartbeats 4000000
theorem DO (w0 : World) (Z : Nat → Prop) (hZ : HZ w0 Z) (n : Nd) (hs : n.S.size < 1000000 := by exact ax) :
    Calls Tryz.prog 35 [.agg #[.int .i64 (n.K), .int .i64 (n.N), .int .i64 (n.M), .string n.S]].toArray w0 (fun e w' => ∃ (rA0 : Option Addr) (rc0 : Nat), e = .returned (.tuple #[.slice rA0 (BX n).length rc0, .bool (right n)]) ∧ Fr A6 w0 w' ∧ (Bw 1 rA0 ((BX n).length) rc0 (BN (BX n))).φ w' (nxt Z w0 w')) := by
 have b0 := s0 (M := A6) hZ zn
 refine AE Tryz.func35 rfl Tryz.ntmps35 rfl fun c0 d0 => ?_
 refine wsc fun c0 f0 => bxx d0 b0 fun c0 h0 i0 j0 k0 => ?_
 refine lR j0 fun h0 c0 => ?_
 refine wn f0 <| wsc fun f0 h0 => bsl c0 k0 fun f0 j0 d0 b0 m0 => ?_
 refine aw b0 h0 fun j0 f0 => ?_
 refine Ac fun h0 j0 => rR f0 fun h0 b0 => ?_
 refine A4 ?_
 refine rR b0 fun h0 f0 => ?_
 refine wcd f0 (fun h0 b0 => ?_) fun h0 c0 => ?_
 refine Ac fun h0 f0 => ?_
 obtain ⟨h0, k0, n0⟩ := m0.agree
 refine Cj (n := 21) n0 0 (pB 0 0 pn) (A5 (B3 (A5 BC))) fun k0 h0 o0 p0 q0 t0 => ?_
 refine dR [0, 1, 2, 3, 4] b0 fun t0 p0 => ?_
 refine dAn 5 [6, 7] 8 (decide ((n.N) ≤ 99)) p0 fun t0 b0 => ?_
 refine dR [9] b0 fun t0 p0 => ?_
 refine dAn 10 [11, 12] 13 (decide ((n.M) = 0)) p0 fun t0 b0 => ?_
 refine dR [14] b0 fun t0 p0 => ?_
 refine dAn 15 [16, 17] 18 (decide (n.S = (⟨#[]⟩ : ByteArray))) p0 fun t0 b0 => ?_
 refine dR [19, 20] b0 fun t0 p0 => ?_
 refine AL (by kernel_rfl) (o0 _ _ ?_) _
 refine xn f0 <| rt2 p0 ?_
 have p0 : BX n = [] := by rcases (show n.K = 0 by omega) with h <;> simp [BX, h, shp]
 rw [p0]
 have p0 := q0.pub 1 (Bw 1 (some ⟨d0, 0, none⟩) 0 0 (BN ([])))
 refine ⟨(some ⟨d0, 0, none⟩), 0, ?_, p0.fr, p0.rx 1⟩
 exact Bj rfl (BQ (by (rw [(Fu (by omega)), Bool.eq_iff_iff]; simp [and_assoc]; done) ))
 refine Gc (fun ga gw => Reg ga 228 [(1, .pointer (some ⟨i0, 0, none⟩)), (2, .slice none 0 0), (3, .bool false), (4, .slice (some ⟨d0, 0, none⟩) 0 0), (7, .int .i64 (n.K)), (29, .bool ((decide ((n.K) = 1)) || (decide ((n.K) = 25)))), (1000000, .bool false)] ∧ St w0 Z A6 gw [.box i0 30 [.int .i64 (n.K), .int .i64 (n.N), .int .i64 (n.M), .string n.S], .row (some ⟨d0, 0, none⟩) 0 0 3 1 (BN ([]))] []) ?_ ?_
 refine rR c0 fun p0 q0 => ?_
 refine wcd q0 (fun p0 c0 => ?_) fun p0 f0 => ?_
 refine Am ?_
 exact AC ⟨(c0.sub (rc4 (rc rfl (rc (rb rfl (by (simp only [Aw p0, At p0, bl]; done))) (rc rfl rnl))))), m0⟩
 refine A0 ?_
 refine lR f0 fun c0 q0 => ?_
 refine Ae ?_
 exact AC ⟨(q0.sub (rc4 (rc rfl (rc (rb rfl (by (simp only [Ai p0, Aq p0, bl]; done))) (rc rfl rnl))))), m0⟩
 rintro q0 p0 ⟨m0, c0⟩
 refine wcg m0 (fun p0 q0 => ?_) fun p0 f0 => ?_
 have m0 := p0
 try simp only [bz] at m0
 refine wsc fun m0 o0 => lR q0 fun m0 t0 => ?_
 refine lAn 3 (decide ((n.M) = 0)) t0 fun m0 q0 => ?_
 refine mv q0 fun m0 t0 => ?_
 refine EA (fun ga gw => Reg ga 228 [(2, .slice none 0 0), (3, .bool false), (4, .slice (some ⟨d0, 0, none⟩) 0 0), (32, .slice (some ⟨d0, 0, none⟩) 0 0), (45, .bool (((decide ((n.N) = 0)) && (decide ((n.M) = 0))) && (CJ n.S))), (1000000, .bool false)] ∧ St w0 Z A6 gw [.box i0 30 [.int .i64 (n.K), .int .i64 (n.N), .int .i64 (n.M), .string n.S], .row (some ⟨d0, 0, none⟩) 0 0 3 1 (BN ([]))] []) 4 ?_ ?_
 refine spg 41 t0 (fun m0 q0 => ?_) fun m0 b0 => ?_
 have t0 := Eu m0
 have h0 := A9 t0
 have h0 := Et m0
 have t0 := A9 h0
 refine lR q0 fun t0 h0 => ?_
 have t0 := c0.nf
 refine kra h0 t0 ok70 (FD _ _ t0.il n.S) fun q0 k0 n0 u0 => ?_
 refine lR u0 fun n0 q0 => ?_
 refine Ae ?_
 exact AC ⟨(q0.sub (rc4 (rc (rb rfl (by (simp only [m0, bl]; done))) (rc rfl rnl)))), k0⟩
 have q0 := m0
 try simp only [bz] at q0
 refine lR b0 fun q0 k0 => ?_
 refine Ae ?_
 exact AC ⟨(k0.sub (rc4 (rc (rb rfl (by (simp only [m0, bl]; done))) (rc rfl rnl)))), c0⟩
 rintro k0 m0 ⟨q0, b0⟩
 refine lR q0 fun m0 k0 => ?_
 refine wn o0 <| rt2 k0 ?_
 have k0 : BX n = [] := by rcases (show n.K = 1 ∨ n.K = 25 by omega) with h | h <;> simp [BX, h, shp]
 rw [k0]
 have k0 := b0.pub 1 (Bw 1 (some ⟨d0, 0, none⟩) 0 0 (BN ([])))
 refine ⟨(some ⟨d0, 0, none⟩), 0, ?_, k0.fr, k0.rx 0⟩
 exact Bj rfl (BQ (by (rw [(QR (by omega)), Bool.eq_iff_iff]; simp [and_assoc]; done) ))
 have k0 := CU p0
 have b0 := Ak k0
 have b0 := CT p0
 have p0 := Ak b0
 refine rR f0 fun p0 b0 => ?_
 refine wcd b0 (fun p0 f0 => ?_) fun p0 k0 => ?_
 refine Ac fun p0 b0 => ?_
 obtain ⟨p0, o0, m0⟩ := c0.agree
 refine Cj (n := 17) m0 0 (pB 0 0 pn) (A5 (B3 (A5 BC))) fun o0 p0 q0 n0 u0 t0 => ?_
 refine dR [0, 1, 2] f0 fun t0 n0 => ?_
 refine d1 3 ?_
 have t0 := u0.nf
 refine kra n0 t0 ok71 (J1 _ _ t0.il (n.N)) fun u0 f0 p0 o0 => ?_
 have p0 := sWI f0 0 (pB 0 0 pn)
 refine ⟨p0, ?_⟩
 refine dR [4, 5] o0 fun p0 u0 => ?_
 refine dAn 6 [7, 8] 9 (decide ((n.M) = 0)) u0 fun p0 o0 => ?_
 refine dR [10] o0 fun p0 u0 => ?_
 refine dAn 11 [12, 13] 14 (decide (n.S = (⟨#[]⟩ : ByteArray))) u0 fun p0 o0 => ?_
 refine dR [15, 16] o0 fun p0 u0 => ?_
 refine AL (by kernel_rfl) (q0 _ _ ?_) _
 refine xn b0 <| rt2 u0 ?_
 have u0 : BX n = [] := by rcases (show n.K = 2 by omega) with h <;> simp [BX, h, shp]
 rw [u0]
 have u0 := f0.pub 1 (Bw 1 (some ⟨d0, 0, none⟩) 0 0 (BN ([])))
 refine ⟨(some ⟨d0, 0, none⟩), 0, ?_, u0.fr, u0.rx 1⟩
 exact Bj rfl (BQ (by (rw [(Nc (by omega)), Bool.eq_iff_iff]; simp [and_assoc]; done) ))
 refine Gc (fun ga gw => Reg ga 228 [(1, .pointer (some ⟨i0, 0, none⟩)), (2, .slice none 0 0), (3, .bool false), (4, .slice (some ⟨d0, 0, none⟩) 0 0), (7, .int .i64 (n.K)), (63, .bool ((decide ((n.K) = 3)) || (decide ((n.K) = 6)))), (1000000, .bool false)] ∧ St w0 Z A6 gw [.box i0 30 [.int .i64 (n.K), .int .i64 (n.N), .int .i64 (n.M), .string n.S], .row (some ⟨d0, 0, none⟩) 0 0 3 1 (BN ([]))] []) ?_ ?_
 refine rR k0 fun u0 f0 => ?_
 refine wcd f0 (fun u0 k0 => ?_) fun u0 b0 => ?_
 refine Am ?_
 exact AC ⟨(k0.sub (rc4 (rc rfl (rc (rb rfl (by (simp only [Aw u0, At u0, bl]; done))) (rc rfl rnl))))), c0⟩
 refine A0 ?_
 refine lR b0 fun k0 f0 => ?_
 refine Ae ?_
 exact AC ⟨(f0.sub (rc4 (rc rfl (rc (rb rfl (by (simp only [Ai u0, Aq u0, bl]; done))) (rc rfl rnl))))), c0⟩
 rintro f0 u0 ⟨c0, k0⟩
 refine wcg c0 (fun u0 f0 => ?_) fun u0 b0 => ?_
 have c0 := u0
 try simp only [bz] at c0
 refine Ac fun c0 q0 => ?_
 obtain ⟨c0, p0, o0⟩ := k0.agree
 refine Cj (n := 23) o0 0 (pB 0 0 pn) (A5 (B3 (A5 BC))) fun p0 c0 t0 n0 m0 h0 => ?_
 refine dR [0, 3, 4, 5] f0 fun h0 n0 => ?_
 refine d1 1 ?_
 refine bsl n0 m0 fun h0 f0 c0 p0 o0 => ?_
 have c0 := sWI o0 0 (pB 0 0 pn)
 refine ⟨c0, ?_⟩
 refine d1 2 ?_
 refine BL (f := EI) (i := 1) ([]) ([0, 1]) (CY rfl (AJ rfl)) p0 o0 rfl rfl rfl rfl rfl CC (Do _) AU zi3 rfl rfl (BU (f := EI) (o0.res (i := 2) rfl)) rfl (by (simp only [Ad, Aj]; omega)) (by decide) fun c0 f0 h0 n0 m0 v0 x0 => ?_
 have m0 : (([]) ++ ([0, 1]) : List Int).length = 2 := by (simp only [Ab, Ah, Ad, Aj]; done)
 have m0 := x0.erase 2
 have x0 := sWI m0 0 (pB 0 0 pn)
 refine ⟨x0, ?_⟩
 refine dR [6] v0 fun x0 f0 => ?_
 refine dAn 7 [8, 9] 10 (decide ((n.N) ≤ 3)) f0 fun x0 v0 => ?_
 refine dR [11] v0 fun x0 f0 => ?_
 refine dAn 12 [13, 14] 15 (decide ((n.M) = 0)) f0 fun x0 v0 => ?_
 refine dR [16] v0 fun x0 f0 => ?_
 refine dAn 17 [18, 19] 20 (decide (n.S = (⟨#[]⟩ : ByteArray))) f0 fun x0 v0 => ?_
 refine dR [21, 22] v0 fun x0 f0 => ?_
 refine AL (by kernel_rfl) (t0 _ _ ?_) _
 refine xn q0 <| rt2 f0 ?_
 have f0 : BX n = ([]) ++ ([0, 1]) := by rcases (show n.K = 3 ∨ n.K = 6 by omega) with h | h <;> simp [BX, h, shp]
 rw [f0]
 have f0 := m0.pub 1 (Bw 1 h0 ((([]) ++ ([0, 1]) : List Int).length) n0 (BN (([]) ++ ([0, 1]))))
 refine ⟨h0, n0, ?_, f0.fr, f0.rx 1⟩
 exact Bj rfl (BQ (by (rw [(KH (by omega)), Bool.eq_iff_iff]; simp [and_assoc]; done) ))
 have f0 := CU u0
 have n0 := Ak f0
 have n0 := CT u0
 have u0 := Ak n0
 refine rR b0 fun u0 n0 => ?_
 refine wcd n0 (fun u0 b0 => ?_) fun u0 f0 => ?_
 refine Ac fun u0 n0 => ?_
 obtain ⟨u0, h0, m0⟩ := k0.agree
 refine Cj (n := 7) m0 0 (pB 0 0 pn) (A5 (B3 (A5 BC))) fun h0 u0 q0 t0 x0 v0 => ?_
 refine dR [0] b0 fun t0 h0 => ?_
 refine dt 3 rfl u0 h0 (AJ rfl) (fun x hx => C9 (sy h0) h0 rfl rfl rfl (Ay (hx.c 0) (Ay (hx.c 1) (Ay (hx.c 2) (Ay (hx.c 3) (CellsAt.nil _ _))))) Ar rfl DK (by decide) gt) v0 fun t0 b0 => ?_
 refine d1 1 ?_
 refine bsl b0 x0 fun t0 h0 v0 u0 m0 => ?_
 have v0 := sWI m0 0 (pB 0 0 pn)
 refine ⟨v0, ?_⟩
 refine d1 2 ?_
 refine BL (f := EI) (i := 1) ([]) ([0, 1]) (CY rfl (AJ rfl)) u0 m0 rfl rfl rfl rfl rfl CC (Do _) AU zi3 rfl rfl (BU (f := EI) (m0.res (i := 2) rfl)) rfl (by (simp only [Ad, Aj]; omega)) (by decide) fun v0 h0 t0 b0 x0 c0 o0 => ?_
 have x0 : (([]) ++ ([0, 1]) : List Int).length = 2 := by (simp only [Ab, Ah, Ad, Aj]; done)
 have x0 := o0.erase 2
 have o0 := sWI x0 0 (pB 0 0 pn)
 refine ⟨o0, ?_⟩
 refine d1 4 ?_
 have o0 := x0.nf
 refine kra c0 o0 Tg (Dd _ _ o0.il n) fun x0 h0 v0 m0 => ?_
 have v0 := sWI h0 0 (pB 0 0 pn)
 refine ⟨v0, ?_⟩
 refine dR [5, 6] m0 fun v0 x0 => ?_
 refine AL (by kernel_rfl) (q0 _ _ ?_) _
 refine xn n0 <| rt2 x0 ?_
 have x0 : BX n = ([]) ++ ([0, 1]) := by rcases (show n.K = 4 by omega) with h <;> simp [BX, h, shp]
 rw [x0]
 have x0 := h0.pub 1 (Bw 1 t0 ((([]) ++ ([0, 1]) : List Int).length) b0 (BN (([]) ++ ([0, 1]))))
 refine ⟨t0, b0, ?_, x0.fr, x0.rx 1⟩
 exact Bj rfl (BQ (by (rw [(Dv (by omega) (by omega) (by omega))]; done) ))
 refine Gc (fun ga gw => Reg ga 228 [(1, .pointer (some ⟨i0, 0, none⟩)), (2, .slice none 0 0), (3, .bool false), (4, .slice (some ⟨d0, 0, none⟩) 0 0), (7, .int .i64 (n.K)), (94, .bool ((decide ((n.K) = 5)) || ((decide ((n.K) = 15)) || ((decide ((n.K) = 19)) || (decide ((n.K) = 23)))))), (1000000, .bool false)] ∧ St w0 Z A6 gw [.box i0 30 [.int .i64 (n.K), .int .i64 (n.N), .int .i64 (n.M), .string n.S], .row (some ⟨d0, 0, none⟩) 0 0 3 1 (BN ([]))] []) ?_ ?_
 refine rR f0 fun x0 b0 => ?_
 refine wcd b0 (fun x0 f0 => ?_) fun x0 t0 => ?_
 refine Am ?_
 exact AC ⟨(f0.sub (rc4 (rc rfl (rc (rb rfl (by (simp only [Aw x0, At x0, bl]; done))) (rc rfl rnl))))), k0⟩
 refine rR t0 fun f0 b0 => ?_
 refine wcd b0 (fun f0 t0 => ?_) fun f0 h0 => ?_
 refine Am ?_
 exact AC ⟨(t0.sub (rc4 (rc rfl (rc (rb rfl (by (simp only [Ai x0, Aq x0, Aw f0, At f0, bl]; done))) (rc rfl rnl))))), k0⟩
 refine rR h0 fun t0 b0 => ?_
 refine wcd b0 (fun t0 h0 => ?_) fun t0 n0 => ?_
 refine Am ?_
 exact AC ⟨(h0.sub (rc4 (rc rfl (rc (rb rfl (by (simp only [Ai x0, Aq x0, Ai f0, Aq f0, Aw t0, At t0, bl]; done))) (rc rfl rnl))))), k0⟩
 refine A0 ?_
 refine lR n0 fun h0 b0 => ?_
 refine Ae ?_
 exact AC ⟨(b0.sub (rc4 (rc rfl (rc (rb rfl (by (simp only [Ai x0, Aq x0, Ai f0, Aq f0, Ai t0, Aq t0, bl]; done))) (rc rfl rnl))))), k0⟩
 rintro b0 t0 ⟨f0, x0⟩
 refine wcg f0 (fun t0 b0 => ?_) fun t0 k0 => ?_
 have f0 := t0
 try simp only [bz] at f0
 refine Ac fun f0 h0 => ?_
 obtain ⟨f0, n0, q0⟩ := x0.agree
 refine Cj (n := 7) q0 0 (pB 0 0 pn) (A5 (B3 (A5 BC))) fun n0 f0 v0 m0 o0 c0 => ?_
 refine dR [0] b0 fun m0 n0 => ?_
 refine dt 3 rfl f0 n0 (AJ rfl) (fun x hx => C9 (sy n0) n0 rfl rfl rfl (Ay (hx.c 0) (Ay (hx.c 1) (Ay (hx.c 2) (Ay (hx.c 3) (CellsAt.nil _ _))))) Ar rfl DK (by decide) gt) c0 fun m0 b0 => ?_
 refine d1 1 ?_
 refine bsl b0 o0 fun m0 n0 c0 f0 q0 => ?_
 have c0 := sWI q0 0 (pB 0 0 pn)
 refine ⟨c0, ?_⟩
 refine d1 2 ?_
 refine BL (f := EI) (i := 1) ([]) ([0, 0]) (CY rfl (AJ rfl)) f0 q0 rfl rfl rfl rfl rfl CC (Do _) AU zi3 rfl rfl (BU (f := EI) (q0.res (i := 2) rfl)) rfl (by (simp only [Ad, Aj]; omega)) (by decide) fun c0 n0 m0 b0 o0 u0 p0 => ?_
 have o0 : (([]) ++ ([0, 0]) : List Int).length = 2 := by (simp only [Ab, Ah, Ad, Aj]; done)
 have o0 := p0.erase 2
 have p0 := sWI o0 0 (pB 0 0 pn)
 refine ⟨p0, ?_⟩
 refine d1 4 ?_
 have p0 := o0.nf
 refine kra u0 p0 Tg (Dd _ _ p0.il n) fun o0 n0 c0 q0 => ?_
 have c0 := sWI n0 0 (pB 0 0 pn)
 refine ⟨c0, ?_⟩
 refine dR [5, 6] q0 fun c0 o0 => ?_
 refine AL (by kernel_rfl) (v0 _ _ ?_) _
 refine xn h0 <| rt2 o0 ?_
 have o0 : BX n = ([]) ++ ([0, 0]) := by rcases (show n.K = 5 ∨ n.K = 15 ∨ n.K = 19 ∨ n.K = 23 by omega) with h | h | h | h <;> simp [BX, h, shp]
 rw [o0]
 have o0 := n0.pub 1 (Bw 1 m0 ((([]) ++ ([0, 0]) : List Int).length) b0 (BN (([]) ++ ([0, 0]))))
 refine ⟨m0, b0, ?_, o0.fr, o0.rx 1⟩
 exact Bj rfl (BQ (by (rw [(Dv (by omega) (by omega) (by omega))]; done) ))
 have o0 := CU t0
 have b0 := Ak o0
 have b0 := CT t0
 have t0 := CU b0
 have o0 := Ak t0
 have o0 := CT b0
 have b0 := CU o0
 have t0 := Ak b0
 have t0 := CT o0
 have o0 := Ak t0
 refine Gc (fun ga gw => Reg ga 228 [(1, .pointer (some ⟨i0, 0, none⟩)), (2, .slice none 0 0), (3, .bool false), (4, .slice (some ⟨d0, 0, none⟩) 0 0), (7, .int .i64 (n.K)), (104, .bool ((decide ((n.K) = 7)) || (decide ((n.K) = 18)))), (1000000, .bool false)] ∧ St w0 Z A6 gw [.box i0 30 [.int .i64 (n.K), .int .i64 (n.N), .int .i64 (n.M), .string n.S], .row (some ⟨d0, 0, none⟩) 0 0 3 1 (BN ([]))] []) ?_ ?_
 refine rR k0 fun o0 t0 => ?_
 refine wcd t0 (fun o0 k0 => ?_) fun o0 b0 => ?_
 refine Am ?_
 exact AC ⟨(k0.sub (rc4 (rc rfl (rc (rb rfl (by (simp only [Aw o0, At o0, bl]; done))) (rc rfl rnl))))), x0⟩
 refine A0 ?_
 refine lR b0 fun k0 t0 => ?_
 refine Ae ?_
 exact AC ⟨(t0.sub (rc4 (rc rfl (rc (rb rfl (by (simp only [Ai o0, Aq o0, bl]; done))) (rc rfl rnl))))), x0⟩
 rintro t0 o0 ⟨x0, k0⟩
 refine wcg x0 (fun o0 t0 => ?_) fun o0 b0 => ?_
 have x0 := o0
 try simp only [bz] at x0
 refine Ac fun x0 m0 => ?_
 obtain ⟨x0, n0, h0⟩ := k0.agree
 refine Cj (n := 7) h0 0 (pB 0 0 pn) (A5 (B3 (A5 BC))) fun n0 x0 v0 c0 q0 p0 => ?_
 refine dR [0] t0 fun c0 n0 => ?_
 refine dt 3 rfl x0 n0 (AJ rfl) (fun x hx => C9 (sy n0) n0 rfl rfl rfl (Ay (hx.c 0) (Ay (hx.c 1) (Ay (hx.c 2) (Ay (hx.c 3) (CellsAt.nil _ _))))) Ar rfl DK (by decide) gt) p0 fun c0 t0 => ?_
 refine d1 1 ?_
 refine bsl t0 q0 fun c0 n0 p0 x0 h0 => ?_
 have p0 := sWI h0 0 (pB 0 0 pn)
 refine ⟨p0, ?_⟩
 refine d1 2 ?_
 refine BL (f := EI) (i := 1) ([]) ([0, 0, 0]) (CY rfl (AJ rfl)) x0 h0 rfl rfl rfl rfl rfl CC (Do _) AU zi3 rfl rfl (BU (f := EI) (h0.res (i := 2) rfl)) rfl (by (simp only [Ad, Aj]; omega)) (by decide) fun p0 n0 c0 t0 q0 u0 f0 => ?_
 have q0 : (([]) ++ ([0, 0, 0]) : List Int).length = 3 := by (simp only [Ab, Ah, Ad, Aj]; done)
 have q0 := f0.erase 2
 have f0 := sWI q0 0 (pB 0 0 pn)
 refine ⟨f0, ?_⟩
 refine d1 4 ?_
 have f0 := q0.nf
 refine kra u0 f0 Tg (Dd _ _ f0.il n) fun q0 n0 p0 h0 => ?_
 have p0 := sWI n0 0 (pB 0 0 pn)
 refine ⟨p0, ?_⟩
 refine dR [5, 6] h0 fun p0 q0 => ?_
 refine AL (by kernel_rfl) (v0 _ _ ?_) _
 refine xn m0 <| rt2 q0 ?_
 have q0 : BX n = ([]) ++ ([0, 0, 0]) := by rcases (show n.K = 7 ∨ n.K = 18 by omega) with h | h <;> simp [BX, h, shp]
 rw [q0]
 have q0 := n0.pub 1 (Bw 1 c0 ((([]) ++ ([0, 0, 0]) : List Int).length) t0 (BN (([]) ++ ([0, 0, 0]))))
 refine ⟨c0, t0, ?_, q0.fr, q0.rx 1⟩
 exact Bj rfl (BQ (by (rw [(Dv (by omega) (by omega) (by omega))]; done) ))
 have q0 := CU o0
 have t0 := Ak q0
 have t0 := CT o0
 have o0 := Ak t0
 refine Gc (fun ga gw => Reg ga 228 [(1, .pointer (some ⟨i0, 0, none⟩)), (2, .slice none 0 0), (3, .bool false), (4, .slice (some ⟨d0, 0, none⟩) 0 0), (7, .int .i64 (n.K)), (112, .bool ((decide ((n.K) = 8)) || ((decide ((n.K) = 9)) || ((decide ((n.K) = 12)) || (decide ((n.K) = 28)))))), (1000000, .bool false)] ∧ St w0 Z A6 gw [.box i0 30 [.int .i64 (n.K), .int .i64 (n.N), .int .i64 (n.M), .string n.S], .row (some ⟨d0, 0, none⟩) 0 0 3 1 (BN ([]))] []) ?_ ?_
 refine rR b0 fun o0 t0 => ?_
 refine wcd t0 (fun o0 b0 => ?_) fun o0 q0 => ?_
 refine Am ?_
 exact AC ⟨(b0.sub (rc4 (rc rfl (rc (rb rfl (by (simp only [Aw o0, At o0, bl]; done))) (rc rfl rnl))))), k0⟩
 refine rR q0 fun b0 t0 => ?_
 refine wcd t0 (fun b0 q0 => ?_) fun b0 c0 => ?_
 refine Am ?_
 exact AC ⟨(q0.sub (rc4 (rc rfl (rc (rb rfl (by (simp only [Ai o0, Aq o0, Aw b0, At b0, bl]; done))) (rc rfl rnl))))), k0⟩
 refine rR c0 fun q0 t0 => ?_
 refine wcd t0 (fun q0 c0 => ?_) fun q0 n0 => ?_
 refine Am ?_
 exact AC ⟨(c0.sub (rc4 (rc rfl (rc (rb rfl (by (simp only [Ai o0, Aq o0, Ai b0, Aq b0, Aw q0, At q0, bl]; done))) (rc rfl rnl))))), k0⟩
 refine A0 ?_
 refine lR n0 fun c0 t0 => ?_
 refine Ae ?_
 exact AC ⟨(t0.sub (rc4 (rc rfl (rc (rb rfl (by (simp only [Ai o0, Aq o0, Ai b0, Aq b0, Ai q0, Aq q0, bl]; done))) (rc rfl rnl))))), k0⟩
 rintro t0 q0 ⟨b0, o0⟩
 refine wcg b0 (fun q0 t0 => ?_) fun q0 k0 => ?_
 have b0 := q0
 try simp only [bz] at b0
 refine Ac fun b0 c0 => ?_
 obtain ⟨b0, n0, m0⟩ := o0.agree
 refine Cj (n := 7) m0 0 (pB 0 0 pn) (A5 (B3 (A5 BC))) fun n0 b0 v0 p0 h0 f0 => ?_
 refine dR [0] t0 fun p0 n0 => ?_
 refine dt 3 rfl b0 n0 (AJ rfl) (fun x hx => C9 (sy n0) n0 rfl rfl rfl (Ay (hx.c 0) (Ay (hx.c 1) (Ay (hx.c 2) (Ay (hx.c 3) (CellsAt.nil _ _))))) Ar rfl DK (by decide) gt) f0 fun p0 t0 => ?_
 refine d1 1 ?_
 refine bsl t0 h0 fun p0 n0 f0 b0 m0 => ?_
 have f0 := sWI m0 0 (pB 0 0 pn)
 refine ⟨f0, ?_⟩
 refine d1 2 ?_
 refine BL (f := EI) (i := 1) ([]) ([0]) (CY rfl (AJ rfl)) b0 m0 rfl rfl rfl rfl rfl CC (Do _) AU zi3 rfl rfl (BU (f := EI) (m0.res (i := 2) rfl)) rfl (by (simp only [Ad, Aj]; omega)) (by decide) fun f0 n0 p0 t0 h0 u0 x0 => ?_
 have h0 : (([]) ++ ([0]) : List Int).length = 1 := by (simp only [Ab, Ah, Ad, Aj]; done)
 have h0 := x0.erase 2
 have x0 := sWI h0 0 (pB 0 0 pn)
 refine ⟨x0, ?_⟩
 refine d1 4 ?_
 have x0 := h0.nf
 refine kra u0 x0 Tg (Dd _ _ x0.il n) fun h0 n0 f0 m0 => ?_
 have f0 := sWI n0 0 (pB 0 0 pn)
 refine ⟨f0, ?_⟩
 refine dR [5, 6] m0 fun f0 h0 => ?_
 refine AL (by kernel_rfl) (v0 _ _ ?_) _
 refine xn c0 <| rt2 h0 ?_
 have h0 : BX n = ([]) ++ ([0]) := by rcases (show n.K = 8 ∨ n.K = 9 ∨ n.K = 12 ∨ n.K = 28 by omega) with h | h | h | h <;> simp [BX, h, shp]
 rw [h0]
 have h0 := n0.pub 1 (Bw 1 p0 ((([]) ++ ([0]) : List Int).length) t0 (BN (([]) ++ ([0]))))
 refine ⟨p0, t0, ?_, h0.fr, h0.rx 1⟩
 exact Bj rfl (BQ (by (rw [(Dv (by omega) (by omega) (by omega))]; done) ))
 have h0 := CU q0
 have t0 := Ak h0
 have t0 := CT q0
 have q0 := CU t0
 have h0 := Ak q0
 have h0 := CT t0
 have t0 := CU h0
 have q0 := Ak t0
 have q0 := CT h0
 have h0 := Ak q0
 refine Gc (fun ga gw => Reg ga 228 [(1, .pointer (some ⟨i0, 0, none⟩)), (2, .slice none 0 0), (3, .bool false), (4, .slice (some ⟨d0, 0, none⟩) 0 0), (7, .int .i64 (n.K)), (122, .bool ((decide ((n.K) = 10)) || ((decide ((n.K) = 11)) || ((decide ((n.K) = 14)) || ((decide ((n.K) = 16)) || ((decide ((n.K) = 17)) || (decide ((n.K) = 29)))))))), (1000000, .bool false)] ∧ St w0 Z A6 gw [.box i0 30 [.int .i64 (n.K), .int .i64 (n.N), .int .i64 (n.M), .string n.S], .row (some ⟨d0, 0, none⟩) 0 0 3 1 (BN ([]))] []) ?_ ?_
 refine rR k0 fun i0 h0 => ?_
 refine wcd h0 (fun i0 k0 => ?_) fun i0 q0 => ?_
 refine Am ?_
 exact AC ⟨(k0.sub (rc4 (rc rfl (rc (rb rfl (by (simp only [Aw i0, At i0, bl]; done))) (rc rfl rnl))))), o0⟩
 refine rR q0 fun k0 h0 => ?_
 refine wcd h0 (fun k0 q0 => ?_) fun k0 t0 => ?_
 refine Am ?_
 exact AC ⟨(q0.sub (rc4 (rc rfl (rc (rb rfl (by (simp only [Ai i0, Aq i0, Aw k0, At k0, bl]; done))) (rc rfl rnl))))), o0⟩
 refine rR t0 fun q0 h0 => ?_
 refine wcd h0 (fun q0 t0 => ?_) fun q0 p0 => ?_
 refine Am ?_
 exact AC ⟨(t0.sub (rc4 (rc rfl (rc (rb rfl (by (simp only [Ai i0, Aq i0, Ai k0, Aq k0, Aw q0, At q0, bl]; done))) (rc rfl rnl))))), o0⟩
 refine rR p0 fun t0 h0 => ?_
 refine wcd h0 (fun t0 p0 => ?_) fun t0 n0 => ?_
 refine Am ?_
 exact AC ⟨(p0.sub (rc4 (rc rfl (rc (rb rfl (by (simp only [Ai i0, Aq i0, Ai k0, Aq k0, Ai q0, Aq q0, Aw t0, At t0, bl]; done))) (rc rfl rnl))))), o0⟩
 refine rR n0 fun p0 h0 => ?_
 refine wcd h0 (fun p0 n0 => ?_) fun p0 c0 => ?_
 refine Am ?_
 exact AC ⟨(n0.sub (rc4 (rc rfl (rc (rb rfl (by (simp only [Ai i0, Aq i0, Ai k0, Aq k0, Ai q0, Aq q0, Ai t0, Aq t0, Aw p0, At p0, bl]; done))) (rc rfl rnl))))), o0⟩
 refine A0 ?_
 refine lR c0 fun n0 h0 => ?_
 refine Ae ?_
 exact AC ⟨(h0.sub (rc4 (rc rfl (rc (rb rfl (by (simp only [Ai i0, Aq i0, Ai k0, Aq k0, Ai q0, Aq q0, Ai t0, Aq t0, Ai p0, Aq p0, bl]; done))) (rc rfl rnl))))), o0⟩
 rintro h0 p0 ⟨t0, q0⟩
 refine wcg t0 (fun p0 h0 => ?_) fun p0 k0 => ?_
 have t0 := p0
 try simp only [bz] at t0
 refine wsc fun t0 i0 => lR h0 fun t0 o0 => ?_
 have t0 := q0.nf
 refine kra o0 t0 Tg (Dd _ _ t0.il n) fun h0 n0 c0 v0 => ?_
 refine lR v0 fun c0 h0 => ?_
 refine wn i0 <| rt2 h0 ?_
 have h0 : BX n = [] := by rcases (show n.K = 10 ∨ n.K = 11 ∨ n.K = 14 ∨ n.K = 16 ∨ n.K = 17 ∨ n.K = 29 by omega) with h | h | h | h | h | h <;> simp [BX, h, shp]
 rw [h0]
 have h0 := n0.pub 1 (Bw 1 (some ⟨d0, 0, none⟩) 0 0 (BN ([])))
 refine ⟨(some ⟨d0, 0, none⟩), 0, ?_, h0.fr, h0.rx 0⟩
 exact Bj rfl (BQ (by (rw [(Dv (by omega) (by omega) (by omega))]; done) ))
 have h0 := CU p0
 have n0 := Ak h0
 have n0 := CT p0
 have p0 := CU n0
 have h0 := Ak p0
 have h0 := CT n0
 have n0 := CU h0
 have p0 := Ak n0
 have p0 := CT h0
 have h0 := CU p0
 have n0 := Ak h0
 have n0 := CT p0
 have p0 := CU n0
 have h0 := Ak p0
 have h0 := CT n0
 have n0 := Ak h0
 refine rR k0 fun n0 h0 => ?_
 refine wcd h0 (fun n0 k0 => ?_) fun n0 p0 => ?_
 refine Ac fun n0 h0 => ?_
 obtain ⟨n0, i0, c0⟩ := q0.agree
 refine Cj (n := 7) c0 0 (pB 0 0 pn) (A5 (B3 (A5 BC))) fun i0 n0 v0 t0 o0 f0 => ?_
 refine dR [0] k0 fun t0 i0 => ?_
 refine dt 3 rfl n0 i0 (AJ rfl) (fun x hx => C9 (sy i0) i0 rfl rfl rfl (Ay (hx.c 0) (Ay (hx.c 1) (Ay (hx.c 2) (Ay (hx.c 3) (CellsAt.nil _ _))))) Ar rfl DK (by decide) gt) f0 fun t0 k0 => ?_
 refine d1 1 ?_
 refine bsl k0 o0 fun t0 i0 f0 n0 c0 => ?_
 have f0 := sWI c0 0 (pB 0 0 pn)
 refine ⟨f0, ?_⟩
 refine d1 2 ?_
 refine BL (f := EI) (i := 1) ([]) ([1, 0, 2, 0]) (CY rfl (AJ rfl)) n0 c0 rfl rfl rfl rfl rfl CC (Do _) AU zi3 rfl rfl (BU (f := EI) (c0.res (i := 2) rfl)) rfl (by (simp only [Ad, Aj]; omega)) (by decide) fun f0 i0 t0 k0 o0 m0 x0 => ?_
 have o0 : (([]) ++ ([1, 0, 2, 0]) : List Int).length = 4 := by (simp only [Ab, Ah, Ad, Aj]; done)
 have o0 := x0.erase 2
 have x0 := sWI o0 0 (pB 0 0 pn)
 refine ⟨x0, ?_⟩
 refine d1 4 ?_
 have x0 := o0.nf
 refine kra m0 x0 Tg (Dd _ _ x0.il n) fun o0 i0 f0 c0 => ?_
 have f0 := sWI i0 0 (pB 0 0 pn)
 refine ⟨f0, ?_⟩
 refine dR [5, 6] c0 fun f0 o0 => ?_
 refine AL (by kernel_rfl) (v0 _ _ ?_) _
 refine xn h0 <| rt2 o0 ?_
 have o0 : BX n = ([]) ++ ([1, 0, 2, 0]) := by rcases (show n.K = 13 by omega) with h <;> simp [BX, h, shp]
 rw [o0]
 have o0 := i0.pub 1 (Bw 1 t0 ((([]) ++ ([1, 0, 2, 0]) : List Int).length) k0 (BN (([]) ++ ([1, 0, 2, 0]))))
 refine ⟨t0, k0, ?_, o0.fr, o0.rx 1⟩
 exact Bj rfl (BQ (by (rw [(Dv (by omega) (by omega) (by omega))]; done) ))
 refine rR p0 fun o0 k0 => ?_
 refine wcd k0 (fun o0 p0 => ?_) fun o0 t0 => ?_
 refine Ac fun o0 k0 => ?_
 obtain ⟨o0, i0, h0⟩ := q0.agree
 refine Cj (n := 7) h0 0 (pB 0 0 pn) (A5 (B3 (A5 BC))) fun i0 o0 v0 f0 c0 x0 => ?_
 refine dR [0] p0 fun f0 i0 => ?_
 refine dt 3 rfl o0 i0 (AJ rfl) (fun x hx => C9 (sy i0) i0 rfl rfl rfl (Ay (hx.c 0) (Ay (hx.c 1) (Ay (hx.c 2) (Ay (hx.c 3) (CellsAt.nil _ _))))) Ar rfl DK (by decide) gt) x0 fun f0 p0 => ?_
 refine d1 1 ?_
 refine bsl p0 c0 fun f0 i0 x0 o0 h0 => ?_
 have x0 := sWI h0 0 (pB 0 0 pn)
 refine ⟨x0, ?_⟩
 refine d1 2 ?_
 refine BL (f := EI) (i := 1) ([]) ([0, 0, 0, 0]) (CY rfl (AJ rfl)) o0 h0 rfl rfl rfl rfl rfl CC (Do _) AU zi3 rfl rfl (BU (f := EI) (h0.res (i := 2) rfl)) rfl (by (simp only [Ad, Aj]; omega)) (by decide) fun x0 i0 f0 p0 c0 m0 n0 => ?_
 have c0 : (([]) ++ ([0, 0, 0, 0]) : List Int).length = 4 := by (simp only [Ab, Ah, Ad, Aj]; done)
 have c0 := n0.erase 2
 have n0 := sWI c0 0 (pB 0 0 pn)
 refine ⟨n0, ?_⟩
 refine d1 4 ?_
 have n0 := c0.nf
 refine kra m0 n0 Tg (Dd _ _ n0.il n) fun c0 i0 x0 h0 => ?_
 have x0 := sWI i0 0 (pB 0 0 pn)
 refine ⟨x0, ?_⟩
 refine dR [5, 6] h0 fun x0 c0 => ?_
 refine AL (by kernel_rfl) (v0 _ _ ?_) _
 refine xn k0 <| rt2 c0 ?_
 have c0 : BX n = ([]) ++ ([0, 0, 0, 0]) := by rcases (show n.K = 20 by omega) with h <;> simp [BX, h, shp]
 rw [c0]
 have c0 := i0.pub 1 (Bw 1 f0 ((([]) ++ ([0, 0, 0, 0]) : List Int).length) p0 (BN (([]) ++ ([0, 0, 0, 0]))))
 refine ⟨f0, p0, ?_, c0.fr, c0.rx 1⟩
 exact Bj rfl (BQ (by (rw [(Dv (by omega) (by omega) (by omega))]; done) ))
 refine rR t0 fun c0 p0 => ?_
 refine wcd p0 (fun c0 t0 => ?_) fun c0 f0 => ?_
 refine Ac fun c0 p0 => ?_
 obtain ⟨c0, i0, k0⟩ := q0.agree
 refine Cj (n := 7) k0 0 (pB 0 0 pn) (A5 (B3 (A5 BC))) fun i0 c0 v0 x0 h0 n0 => ?_
 refine dR [0] t0 fun x0 i0 => ?_
 refine dt 3 rfl c0 i0 (AJ rfl) (fun x hx => C9 (sy i0) i0 rfl rfl rfl (Ay (hx.c 0) (Ay (hx.c 1) (Ay (hx.c 2) (Ay (hx.c 3) (CellsAt.nil _ _))))) Ar rfl DK (by decide) gt) n0 fun x0 t0 => ?_
 refine d1 1 ?_
 refine bsl t0 h0 fun x0 i0 n0 c0 k0 => ?_
 have n0 := sWI k0 0 (pB 0 0 pn)
 refine ⟨n0, ?_⟩
 refine d1 2 ?_
 refine BL (f := EI) (i := 1) ([]) ([0, 0, 1, 0, 0, 0]) (CY rfl (AJ rfl)) c0 k0 rfl rfl rfl rfl rfl CC (Do _) AU zi3 rfl rfl (BU (f := EI) (k0.res (i := 2) rfl)) rfl (by (simp only [Ad, Aj]; omega)) (by decide) fun n0 i0 x0 t0 h0 m0 o0 => ?_
 have h0 : (([]) ++ ([0, 0, 1, 0, 0, 0]) : List Int).length = 6 := by (simp only [Ab, Ah, Ad, Aj]; done)
 have h0 := o0.erase 2
 have o0 := sWI h0 0 (pB 0 0 pn)
 refine ⟨o0, ?_⟩
 refine d1 4 ?_
 have o0 := h0.nf
 refine kra m0 o0 Tg (Dd _ _ o0.il n) fun h0 i0 n0 k0 => ?_
 have n0 := sWI i0 0 (pB 0 0 pn)
 refine ⟨n0, ?_⟩
 refine dR [5, 6] k0 fun n0 h0 => ?_
 refine AL (by kernel_rfl) (v0 _ _ ?_) _
 refine xn p0 <| rt2 h0 ?_
 have h0 : BX n = ([]) ++ ([0, 0, 1, 0, 0, 0]) := by rcases (show n.K = 21 by omega) with h <;> simp [BX, h, shp]
 rw [h0]
 have h0 := i0.pub 1 (Bw 1 x0 ((([]) ++ ([0, 0, 1, 0, 0, 0]) : List Int).length) t0 (BN (([]) ++ ([0, 0, 1, 0, 0, 0]))))
 refine ⟨x0, t0, ?_, h0.fr, h0.rx 1⟩
 exact Bj rfl (BQ (by (rw [(Dv (by omega) (by omega) (by omega))]; done) ))
 refine rR f0 fun h0 t0 => ?_
 refine wcd t0 (fun h0 f0 => ?_) fun h0 x0 => ?_
 refine Ac fun h0 t0 => ?_
 obtain ⟨h0, i0, p0⟩ := q0.agree
 refine Cj (n := 7) p0 0 (pB 0 0 pn) (A5 (B3 (A5 BC))) fun i0 h0 v0 n0 k0 o0 => ?_
 refine dR [0] f0 fun n0 i0 => ?_
 refine dt 3 rfl h0 i0 (AJ rfl) (fun x hx => C9 (sy i0) i0 rfl rfl rfl (Ay (hx.c 0) (Ay (hx.c 1) (Ay (hx.c 2) (Ay (hx.c 3) (CellsAt.nil _ _))))) Ar rfl DK (by decide) gt) o0 fun n0 f0 => ?_
 refine d1 1 ?_
 refine bsl f0 k0 fun n0 i0 o0 h0 p0 => ?_
 have o0 := sWI p0 0 (pB 0 0 pn)
 refine ⟨o0, ?_⟩
 refine d1 2 ?_
 refine BL (f := EI) (i := 1) ([]) ([0, 2, 0, 0, 0]) (CY rfl (AJ rfl)) h0 p0 rfl rfl rfl rfl rfl CC (Do _) AU zi3 rfl rfl (BU (f := EI) (p0.res (i := 2) rfl)) rfl (by (simp only [Ad, Aj]; omega)) (by decide) fun o0 i0 n0 f0 k0 m0 c0 => ?_
 have k0 : (([]) ++ ([0, 2, 0, 0, 0]) : List Int).length = 5 := by (simp only [Ab, Ah, Ad, Aj]; done)
 have k0 := c0.erase 2
 have c0 := sWI k0 0 (pB 0 0 pn)
 refine ⟨c0, ?_⟩
 refine d1 4 ?_
 have c0 := k0.nf
 refine kra m0 c0 Tg (Dd _ _ c0.il n) fun k0 i0 o0 p0 => ?_
 have o0 := sWI i0 0 (pB 0 0 pn)
 refine ⟨o0, ?_⟩
 refine dR [5, 6] p0 fun o0 k0 => ?_
 refine AL (by kernel_rfl) (v0 _ _ ?_) _
 refine xn t0 <| rt2 k0 ?_
 have k0 : BX n = ([]) ++ ([0, 2, 0, 0, 0]) := by rcases (show n.K = 22 by omega) with h <;> simp [BX, h, shp]
 rw [k0]
 have k0 := i0.pub 1 (Bw 1 n0 ((([]) ++ ([0, 2, 0, 0, 0]) : List Int).length) f0 (BN (([]) ++ ([0, 2, 0, 0, 0]))))
 refine ⟨n0, f0, ?_, k0.fr, k0.rx 1⟩
 exact Bj rfl (BQ (by (rw [(Dv (by omega) (by omega) (by omega))]; done) ))
 refine rR x0 fun k0 f0 => ?_
 refine wcd f0 (fun k0 x0 => ?_) fun k0 n0 => ?_
 refine Ac fun k0 f0 => ?_
 obtain ⟨k0, i0, t0⟩ := q0.agree
 refine Cj (n := 7) t0 0 (pB 0 0 pn) (A5 (B3 (A5 BC))) fun i0 k0 v0 o0 p0 c0 => ?_
 refine dR [0] x0 fun o0 i0 => ?_
 refine dt 3 rfl k0 i0 (AJ rfl) (fun x hx => C9 (sy i0) i0 rfl rfl rfl (Ay (hx.c 0) (Ay (hx.c 1) (Ay (hx.c 2) (Ay (hx.c 3) (CellsAt.nil _ _))))) Ar rfl DK (by decide) gt) c0 fun o0 x0 => ?_
 refine d1 1 ?_
 refine bsl x0 p0 fun o0 i0 c0 k0 t0 => ?_
 have c0 := sWI t0 0 (pB 0 0 pn)
 refine ⟨c0, ?_⟩
 refine d1 2 ?_
 refine BL (f := EI) (i := 1) ([]) ([0, 1, 0, 0]) (CY rfl (AJ rfl)) k0 t0 rfl rfl rfl rfl rfl CC (Do _) AU zi3 rfl rfl (BU (f := EI) (t0.res (i := 2) rfl)) rfl (by (simp only [Ad, Aj]; omega)) (by decide) fun c0 i0 o0 x0 p0 m0 h0 => ?_
 have p0 : (([]) ++ ([0, 1, 0, 0]) : List Int).length = 4 := by (simp only [Ab, Ah, Ad, Aj]; done)
 have p0 := h0.erase 2
 have h0 := sWI p0 0 (pB 0 0 pn)
 refine ⟨h0, ?_⟩
 refine d1 4 ?_
 have h0 := p0.nf
 refine kra m0 h0 Tg (Dd _ _ h0.il n) fun p0 i0 c0 t0 => ?_
 have c0 := sWI i0 0 (pB 0 0 pn)
 refine ⟨c0, ?_⟩
 refine dR [5, 6] t0 fun c0 p0 => ?_
 refine AL (by kernel_rfl) (v0 _ _ ?_) _
 refine xn f0 <| rt2 p0 ?_
 have p0 : BX n = ([]) ++ ([0, 1, 0, 0]) := by rcases (show n.K = 24 by omega) with h <;> simp [BX, h, shp]
 rw [p0]
 have p0 := i0.pub 1 (Bw 1 o0 ((([]) ++ ([0, 1, 0, 0]) : List Int).length) x0 (BN (([]) ++ ([0, 1, 0, 0]))))
 refine ⟨o0, x0, ?_, p0.fr, p0.rx 1⟩
 exact Bj rfl (BQ (by (rw [(Dv (by omega) (by omega) (by omega))]; done) ))
 refine rR n0 fun p0 x0 => ?_
 refine wcd x0 (fun p0 n0 => ?_) fun p0 o0 => ?_
 refine Ac fun p0 x0 => wsc fun p0 i0 => lR n0 fun p0 f0 => ?_
 have p0 := q0.nf
 refine kra f0 p0 ok70 (FD _ _ p0.il n.S) fun n0 v0 c0 t0 => ?_
 refine lR t0 fun c0 n0 => ?_
 refine lOr 3 (decide ((n.N) < 0)) n0 fun c0 t0 => ?_
 refine mv t0 fun c0 n0 => ?_
 refine lOr 3 (decide (6 ≤ (n.N))) n0 fun c0 t0 => ?_
 refine mv t0 fun c0 n0 => ?_
 refine lOr 3 (decide ((n.M) < 0)) n0 fun c0 t0 => ?_
 refine mv t0 fun c0 n0 => ?_
 refine lOr 3 (decide (6 < (n.M))) n0 fun c0 t0 => ?_
 refine wn i0 <| wcg t0 (fun i0 c0 => ?_) fun i0 n0 => ?_
 have t0 := i0
 try simp only [bz] at t0
 refine rR c0 fun p0 f0 => ?_
 refine rt2 f0 ?_
 have f0 : BX n = [] := MI (by omega) (show right n = false by rw [(Fv (by omega))]; exact Ai (by rintro ⟨z1, z2⟩; have hq' := t0; rw [z1] at hq'; simp only [Bool.true_eq_false, false_or] at hq'; omega))
 rw [f0]
 have f0 := v0.pub 1 (Bw 1 (some ⟨d0, 0, none⟩) 0 0 (BN ([])))
 refine ⟨(some ⟨d0, 0, none⟩), 0, ?_, f0.fr, f0.rx 0⟩
 exact Bj rfl (BQ (by exact (show right n = false by rw [(Fv (by omega))]; exact Ai (by rintro ⟨z1, z2⟩; have hq' := t0; rw [z1] at hq'; simp only [Bool.true_eq_false, false_or] at hq'; omega)).symm))
 have t0 := CU i0
 have f0 := CU t0
 have p0 := CU f0
 have c0 := CU p0
 have h0 := He c0
 have c0 := CT p0
 have p0 := Ak c0
 have c0 := CT f0
 have f0 := Ak c0
 have c0 := CT t0
 have t0 := Ak c0
 have c0 := CT i0
 have m0 := Ak c0
 refine Am <| xn x0 <| wsc fun x0 c0 => lR n0 fun x0 k0 => ?_
 have x0 : (n.M) = ((n.M.toNat : Nat) : Int) := by omega
 refine Ke (n := n.M.toNat) sv k0 v0 rfl rfl rfl rfl x0 x0 AU zi3 (by omega) (by decide) fun n0 u0 b0 y0 z0 => ?_
 have u0 : (List.replicate (n.M.toNat) (0 : Int)).length = n.M.toNat := by simp
 refine lR y0 fun u0 n0 => ?_
 refine wn c0 <| rt2 n0 ?_
 have n0 : BX n = List.replicate (n.M.toNat) (0 : Int) := SI (by omega) (by rw [(Fv (by omega))]; first | (simp [i0, h0, p0, f0, t0, m0]; done) | (simp [i0, h0, p0, f0, t0, m0]; omega))
 rw [n0]
 have n0 := z0.pub 2 (Bw 1 (some ⟨b0, 0, none⟩) ((List.replicate (n.M.toNat) (0 : Int) : List Int).length) ((List.replicate (n.M.toNat) (0 : Int) : List Int).length) (BN (List.replicate (n.M.toNat) (0 : Int))))
 refine ⟨(some ⟨b0, 0, none⟩), ((List.replicate (n.M.toNat) (0 : Int) : List Int).length), ?_, n0.fr, n0.rx 0⟩
 exact Bj rfl (BQ (by (rw [(Fv (by omega))]; simp [i0, h0, p0, f0, t0, m0] <;> omega) ))
 refine rR o0 fun m0 t0 => ?_
 refine wcd t0 (fun m0 o0 => ?_) fun m0 f0 => ?_
 refine Ac fun m0 t0 => wsc fun m0 p0 => lR o0 fun m0 h0 => ?_
 have m0 := q0.nf
 refine kra h0 m0 ok70 (FD _ _ m0.il n.S) fun o0 i0 n0 b0 => ?_
 refine lR b0 fun n0 o0 => ?_
 refine lOr 3 (!(decide ((n.N) = 0))) o0 fun n0 b0 => ?_
 refine mv b0 fun n0 o0 => ?_
 refine lOr 3 (decide ((n.M) < 0)) o0 fun n0 b0 => ?_
 refine mv b0 fun n0 o0 => ?_
 refine lOr 3 (decide (6 < (n.M))) o0 fun n0 b0 => ?_
 refine wn p0 <| wcg b0 (fun p0 n0 => ?_) fun p0 o0 => ?_
 have b0 := p0
 try simp only [bz] at b0
 refine rR n0 fun m0 h0 => ?_
 refine rt2 h0 ?_
 have h0 : BX n = [] := MI (by omega) (show right n = false by rw [(FF (by omega))]; exact Ai (by rintro ⟨z1, z2⟩; have hq' := b0; rw [z1] at hq'; simp only [Bool.true_eq_false, false_or] at hq'; omega))
 rw [h0]
 have h0 := i0.pub 1 (Bw 1 (some ⟨d0, 0, none⟩) 0 0 (BN ([])))
 refine ⟨(some ⟨d0, 0, none⟩), 0, ?_, h0.fr, h0.rx 0⟩
 exact Bj rfl (BQ (by exact (show right n = false by rw [(FF (by omega))]; exact Ai (by rintro ⟨z1, z2⟩; have hq' := b0; rw [z1] at hq'; simp only [Bool.true_eq_false, false_or] at hq'; omega)).symm))
 have b0 := CU p0
 have h0 := CU b0
 have m0 := CU h0
 have n0 := He m0
 have m0 := CT h0
 have h0 := He m0
 have m0 := A9 h0
 have h0 := CT b0
 have b0 := Ak h0
 have h0 := CT p0
 have z0 := Ak h0
 refine Am <| xn t0 <| wsc fun t0 h0 => mv o0 fun t0 c0 => ?_
 refine bsl c0 i0 fun t0 o0 u0 y0 x0 => ?_
 refine BL (f := EI) (i := 1) ([]) ([1]) sv y0 x0 rfl rfl rfl rfl rfl CC (Do _) AU zi3 rfl rfl (BU (f := EI) (x0.res (i := 2) rfl)) rfl (by (simp only [Ad, Aj]; omega)) (by decide) fun u0 o0 t0 c0 i0 k0 v0 => ?_
 have i0 : (([]) ++ ([1]) : List Int).length = 1 := by (simp only [Ab, Ah, Ad, Aj]; done)
 have i0 := v0.erase 2
 refine aw k0 h0 fun v0 c0 => ?_
 refine wsc fun h0 v0 => lR c0 fun h0 k0 => ?_
 refine adi (n.M + 1) k0 fun h0 c0 => ?_
 have h0 : (n.M + 1) = ((n.M.toNat + 1 : Nat) : Int) := by omega
 refine Ml (i := 1) (([]) ++ ([1])) (n.M.toNat + 1) sv c0 i0 rfl rfl rfl rfl rfl h0 (by omega) (by simp) (by simp; omega) AU Bl zi3 (by decide) fun k0 t0 o0 u0 x0 y0 b1 => ?_
 refine lR y0 fun x0 t0 => ?_
 refine wn v0 <| rt2 t0 ?_
 have t0 : BX n = (([]) ++ ([1])) ++ List.replicate (n.M.toNat + 1) 0 := Qh (by omega) (by rw [(FF (by omega))]; first | (simp [p0, n0, m0, b0, z0]; done) | (simp [p0, n0, m0, b0, z0]; omega))
 rw [t0]
 have t0 := b1.pub 1 (Bw 1 o0 (((([]) ++ ([1])) ++ List.replicate (n.M.toNat + 1) 0 : List Int).length) u0 (BN ((([]) ++ ([1])) ++ List.replicate (n.M.toNat + 1) 0)))
 refine ⟨o0, u0, ?_, t0.fr, t0.rx 0⟩
 exact Bj rfl (BQ (by (rw [(FF (by omega))]; simp [p0, n0, m0, b0, z0] <;> omega) ))
 refine Am <| A7 <| xn j0 <| rR f0 fun j0 z0 => ?_
 refine rt2 z0 ?_
 have z0 : BX n = [] := Qg (by omega)
 rw [z0]
 have z0 := q0.pub 1 (Bw 1 (some ⟨d0, 0, none⟩) 0 0 (BN ([])))
 refine ⟨(some ⟨d0, 0, none⟩), 0, ?_, z0.fr, z0.rx 0⟩
 exact Bj rfl (BQ (by (rw [(LU (by omega))]; done) ))
theorem LQ (w0 : World) (Z : Nat → Prop) (hZ : HZ w0 Z) (tA : Option Addr) (tc : Nat) (t : List Nd) (ht : N4 tA tc t w0 Z) (hl : t.length ≤ 1000000 := by exact ax) (hsm : sml t := by exact ax) :
    Calls Tryz.prog 62 [.slice tA t.length tc].toArray w0 (fun e w' => e = .returned (.bool (BW t)) ∧ Fr A6 w0 w') := by
 have b0 := s0 (M := A6) hZ (zc ht zn)
 refine AE Tryz.func62 rfl Tryz.ntmps62 rfl fun c0 d0 => ?_
 refine rR d0 fun c0 f0 => ?_
 refine rR f0 fun c0 d0 => ?_
 refine Ac fun c0 f0 => rR d0 fun c0 h0 => ?_
 refine A4 ?_
 refine AH (fun gn ga gw => ∃ k : Nat, ∃ st : List T, (Reg ga 36 [(1000000, .bool false), (0, .slice tA t.length tc), (4, .int .i64 (k : Int)), (3, .int .i64 (st.length : Int))]) ∧ (St w0 Z A6 gw [] [n4 tA tc t]) ∧ (k ≤ t.length) ∧ (CM [] (t.take k) = some st) ∧ (t.length - k) = gn) _ ⟨0, [], (h0.sub (rc2 (rc rfl (rc rfl rnl)))), b0, by omega, rfl, rfl⟩ ?_
 rintro h0 b0 c0 ⟨k, st, d0, i0, hk, hsc, j0⟩
 have hfl := Gk hsc hk
 have hsl := Fc st
 have hbl := Uw (nth t k)
 refine Ac fun j0 c0 => rR d0 fun j0 b0 => ?_
 refine wcd b0 (fun j0 d0 => ?_) fun j0 h0 => ?_
 refine Am <| xn c0 <| Ac fun c0 j0 => A4 ?_
 refine wsc fun c0 b0 => lR d0 fun c0 k0 => ?_
 refine ix k (k * 4) k0 (Bp (t := t) (k := k) (i0.row (i := 0) rfl).2 (by omega)).some_ fun c0 d0 => ?_
 refine Cw sv d0 rfl rfl rfl (Bp (t := t) (k := k) (i0.row (i := 0) rfl).2 (by omega)) Ar rfl DK (by decide) fun c0 k0 => ?_
 have c0 := i0.nf
 refine krb k0 c0 Wh (DO _ _ c0.il (nth t k) (hs := (hsm _ (by omega)))) fun d0 m0 n0 o0 p0 q0 => ?_
 refine lR q0 fun p0 n0 => ?_
 refine wn b0 <| Ac fun b0 p0 => wsc fun b0 q0 => lR n0 fun b0 m0 => ?_
 refine lOr 4 (decide ((st.length : Int) < ((BX (nth t k)).length : Int))) m0 fun b0 n0 => ?_
 refine wn q0 <| wcg n0 (fun q0 b0 => ?_) fun q0 m0 => ?_
 have n0 := q0
 try simp only [bz] at n0
 refine rR b0 fun d0 c0 => ?_
 refine rt c0 o0.fr ?_
 exact BQ (by exact (Tj hsc (by omega) n0).symm)
 have n0 := CU q0
 have c0 := He n0
 have c0 := CT q0
 have q0 := Ak c0
 have hbm := DU (n := nth t k) (by assumption)
 refine Am <| xn p0 <| A0 ?_
 refine lR m0 fun p0 q0 => ?_
 refine sbi ((st.length : Int) - ((BX (nth t k)).length : Int)) q0 fun p0 m0 => ?_
 refine adi ((st.length : Int) - ((BX (nth t k)).length : Int) + 1) m0 fun p0 q0 => ?_
 refine asg q0 fun p0 m0 => ?_
 refine Ae ?_
 refine A7 <| xn j0 <| A0 ?_
 refine mv m0 fun j0 p0 => ?_
 refine adi ((k + 1 : Nat) : Int) p0 fun j0 m0 => ?_
 refine asg m0 fun j0 p0 => ?_
 refine Ae ?_
 obtain ⟨st', hp, hpl⟩ := FV (st := st) (n := nth t k) (by assumption) (by omega)
 have j0 := o0.forget 1
 exact ⟨_, by omega, k + 1, st', (p0.sub (rc2 (rc rfl (rc (ri rfl (by rw [hpl]; omega)) rnl)))), j0, by omega, (EK hsc (by omega)).trans hp, rfl⟩
 refine xe ?_
 refine xn f0 <| rR h0 fun f0 j0 => ?_
 refine rt j0 i0.fr ?_
 exact BQ (by (rw [Mk (by rw [← hsc, AM (by omega)])]; done))
theorem KJ (w0 : World) (Z : Nat → Prop) (hZ : HZ w0 Z) (tA : Option Addr) (tc : Nat) (t : List Nd) (ht : N4 tA tc t w0 Z) (hl : t.length ≤ 4000 := by exact ax) (hsm : sml t := by exact ax) (hb : BW t = true := by exact ax) :
    Calls Tryz.prog 63 [.slice tA t.length tc].toArray w0 (fun e w' => e = .returned (.bool (NT t)) ∧ Fr A6 w0 w') := by
 have b0 := s0 (M := A6) hZ (zc ht zn)
 refine AE Tryz.func63 rfl Tryz.ntmps63 rfl fun c0 d0 => ?_
 refine rR d0 fun c0 f0 => ?_
 refine wsc fun c0 d0 => bsl f0 b0 fun c0 h0 i0 j0 k0 => ?_
 refine aw j0 d0 fun h0 c0 => ?_
 refine Ac fun d0 h0 => rR c0 fun d0 j0 => ?_
 refine A4 ?_
 refine AH (fun gn ga gw => ∃ k : Nat, ∃ st : List T, ∃ Al : Option Addr, ∃ cl : Nat, (Reg ga 51 [(1000000, .bool false), (0, .slice tA t.length tc), (4, .int .i64 (k : Int)), (3, .slice Al ((dl st).length) cl)]) ∧ (St w0 Z A6 gw [.row Al ((dl st).length) cl 3 1 (BN (dl st))] [n4 tA tc t]) ∧ (k ≤ t.length) ∧ (CM [] (t.take k) = some st) ∧ (KC st) ∧ (t.length - k) = gn) _ ⟨0, [], (some ⟨i0, 0, none⟩), 0, (j0.sub (rc2 (rc rfl (rc rfl rnl)))), k0, by omega, rfl, (fun _ h => by cases h), rfl⟩ ?_
 rintro j0 k0 i0 ⟨k, st, Al, cl, d0, c0, hk, hsc, hsh, f0⟩
 have hfl := Gk hsc hk
 have hsl := Fc st
 have hdl := Je st
 refine Ac fun f0 i0 => rR d0 fun f0 k0 => ?_
 refine wcd k0 (fun f0 d0 => ?_) fun f0 j0 => ?_
 obtain ⟨hrk, hmk⟩ := OG hb hsc (by omega)
 have hbm := DU hrk
 refine Am <| xn i0 <| Ac fun i0 f0 => A4 ?_
 refine wsc fun i0 k0 => lR d0 fun i0 b0 => ?_
 refine ix k (k * 4) b0 (Bp (t := t) (k := k) (c0.row (i := 0) rfl).2 (by omega)).some_ fun i0 d0 => ?_
 refine Cw sv d0 rfl rfl rfl (Bp (t := t) (k := k) (c0.row (i := 0) rfl).2 (by omega)) Ar rfl DK (by decide) fun i0 b0 => ?_
 have i0 := c0.nf
 refine krb b0 i0 Wh (DO _ _ i0.il (nth t k) (hs := (hsm _ (by omega)))) fun d0 m0 n0 o0 p0 q0 => ?_
 refine lR q0 fun p0 d0 => ?_
 refine wn k0 <| rR d0 fun k0 p0 => ?_
 refine Ac fun k0 d0 => rR p0 fun k0 q0 => ?_
 refine A4 ?_
 refine AH (fun gn ga gw => ∃ j : Nat, (Reg ga 51 [(1000000, .bool false), (0, .slice tA t.length tc), (4, .int .i64 (k : Int)), (5, .slice m0 ((BX (nth t k)).length) n0), (8, .int .i64 (j : Int)), (7, .int .i64 (Ju st j)), (3, .slice Al ((dl st).length - j) cl)]) ∧ (St w0 Z A6 gw [.row Al ((dl st).length) cl 3 1 (BN (dl st))] [n4 tA tc t, Bw 1 m0 ((BX (nth t k)).length) n0 (BN (BX (nth t k)))]) ∧ (j ≤ many (nth t k)) ∧ (many (nth t k) - j) = gn) _ ⟨0, (q0.sub (rc4 (rc rfl (rc (ri rfl (by rw [RH])) (rc rfl rnl))))), o0, by omega, rfl⟩ ?_
 rintro q0 o0 n0 ⟨j, m0, k0, hj, p0⟩
 have hmx := Wp (st := st) (j := j)
 refine Ac fun p0 n0 => rR m0 fun p0 o0 => ?_
 refine wcd o0 (fun p0 m0 => ?_) fun p0 q0 => ?_
 refine Am <| xn n0 <| Ac fun n0 p0 => A4 ?_
 refine wsc fun n0 o0 => lR m0 fun n0 i0 => ?_
 refine sbi ((((dl st).length - j : Nat) : Int) - 1) i0 fun n0 m0 => ?_
 refine ix (((dl st).length - j) - (1)) ((((dl st).length - j) - (1)) * 1) m0 (EZ (t := dl st) (k := ((dl st).length - j) - (1)) (k0.res (i := 0) rfl) (by omega)).some_ fun n0 i0 => ?_
 refine lde 0 ((((dl st).length - j) - (1)) * 1) i0 (EZ (t := dl st) (k := ((dl st).length - j) - (1)) (k0.res (i := 0) rfl) (by omega)) fun n0 m0 => ?_
 refine LY sv m0 rfl rfl rfl rfl rfl (by decide) fun n0 i0 => ?_
 refine asg i0 fun n0 m0 => ?_
 refine Ae (AC (o0 _ _ (A0 ?_)))
 refine lR m0 fun o0 n0 => ?_
 refine sbi ((((dl st).length - j : Nat) : Int) - 1) n0 fun o0 m0 => ?_
 have o0 := Db (k0.res (i := 0) rfl)
 refine Ez (q := ((dl st).length - j) - (1)) sv m0 rfl rfl rfl rfl (by omega) AU sz3 (by omega) (by decide) fun o0 n0 => ?_
 refine asg n0 fun o0 m0 => ?_
 refine Ae ?_
 refine A7 <| xn p0 <| A0 ?_
 refine mv m0 fun p0 o0 => ?_
 refine adi ((j + 1 : Nat) : Int) o0 fun p0 m0 => ?_
 refine asg m0 fun p0 o0 => ?_
 refine Ae ?_
 exact ⟨_, by omega, j + 1, (o0.sub (rc4 (rc rfl (rc (ri rfl (by rw [Je]; exact (RI (by omega)).symm)) (rc rfl rnl))))), k0, by omega, rfl⟩
 refine xe ?_
 refine xn d0 <| Ac fun d0 o0 => wsc fun d0 p0 => mv q0 fun d0 m0 => ?_
 refine adi ((Ju st j) + 1) m0 fun d0 q0 => ?_
 refine lR q0 fun d0 m0 => ?_
 refine wn p0 <| wcd m0 (fun p0 d0 => ?_) fun p0 q0 => ?_
 refine rR d0 fun p0 m0 => ?_
 refine rt m0 k0.fr ?_
 exact BQ (by exact (PZ (k := k) hb hsc (by omega) hrk (by omega) (by rw [← show j = many (nth t k) by omega]; omega)).symm)
 refine Am <| xn o0 <| A0 ?_
 refine lR q0 fun o0 m0 => ?_
 refine adi ((Ju st j) + 1) m0 fun o0 q0 => ?_
 refine bsl q0 k0 fun o0 m0 p0 d0 n0 => ?_
 refine Mm (f := EI) (i := 0) (dl st) ([((Ju st j) + 1)]) sv d0 n0 rfl rfl rfl rfl rfl (by omega) CC (Do _) AU zi3 rfl rfl (BU (f := EI) (n0.res (i := 1) rfl)) rfl (by (simp only [Ad, Aj]; omega)) (by decide) fun p0 m0 o0 q0 k0 i0 b0 => ?_
 have k0 : ((dl st).take ((dl st).length - j) ++ ([((Ju st j) + 1)]) : List Int).length = (dl st).length - j + 1 := by (simp only [Ab, Ah, Ad, Aj]; omega)
 have k0 := b0.erase 1
 refine asg i0 fun b0 m0 => ?_
 refine Ae ?_
 refine A7 <| xn f0 <| A0 ?_
 refine mv m0 fun f0 b0 => ?_
 refine adi ((k + 1 : Nat) : Int) b0 fun f0 m0 => ?_
 refine asg m0 fun f0 b0 => ?_
 refine Ae ?_
 obtain ⟨st', hp, hpl⟩ := FV (st := st) (n := nth t k) hrk (by omega)
 have hpd := (Nq hp).1
 have hjq : j = many (nth t k) := by omega
 have f0 : (dl st).take ((dl st).length - j) ++ ([((Ju st j) + 1)]) = dl st' := by rw [hpd, hjq, Je]
 have m0 := b0
 have b0 := k0
 rw [f0] at m0 b0
 have f0 := b0.forget 1
 exact ⟨_, by omega, k + 1, st', o0, q0, (m0.sub (rc2 (rc rfl (rc rfl rnl)))), f0, by omega, (EK hsc (by omega)).trans hp, LK hp hsh (by rw [← hjq]; omega), rfl⟩
 refine xe ?_
 refine xn h0 <| rR j0 fun h0 f0 => ?_
 refine rt f0 c0.fr ?_
 exact BQ (by exact (NS (by rw [← hsc, AM (by omega)]) hsh).symm)
theorem De (w0 : World) (Z : Nat → Prop) (hZ : HZ w0 Z) (tA : Option Addr) (tc : Nat) (t : List Nd) (ht : N4 tA tc t w0 Z) (hl : t.length ≤ 100000000 := by exact ax) (hsm : sml t := by exact ax) :
    Calls Tryz.prog 25 [.slice tA t.length tc].toArray w0 (fun e w' => e = .returned (.int .i64 (chk t)) ∧ Fr A6 w0 w') := by
 have b0 := s0 (M := A6) hZ (zc ht zn)
 refine AE Tryz.func25 rfl Tryz.ntmps25 rfl fun c0 d0 => ?_
 refine rR d0 fun c0 f0 => ?_
 refine Ac fun c0 d0 => rR f0 fun c0 h0 => ?_
 refine wcd h0 (fun c0 f0 => ?_) fun c0 i0 => ?_
 refine rR f0 fun h0 j0 => ?_
 refine rt j0 b0.fr ?_
 exact Bz (by exact (Ho (by omega)).symm)
 refine Am <| xn d0 <| Ac fun d0 j0 => wsc fun d0 h0 => mv i0 fun d0 f0 => ?_
 have d0 := b0.nf
 refine kra f0 d0 ok62 (LQ _ _ d0.il _ _ _ (d0.g 0)) fun b0 i0 k0 m0 => ?_
 refine lR m0 fun k0 b0 => ?_
 refine wn h0 <| wch b0 (fun h0 k0 => ?_) fun h0 m0 => ?_
 refine Am <| xn j0 <| Ac fun j0 b0 => wsc fun j0 d0 => mv k0 fun j0 f0 => ?_
 have j0 := i0.nf
 refine kra f0 j0 ok63 (KJ _ _ j0.il _ _ _ (j0.g 0)) fun k0 n0 o0 p0 => ?_
 refine wn d0 <| wcg p0 (fun d0 o0 => ?_) fun d0 k0 => ?_
 refine rR o0 fun p0 j0 => ?_
 refine rt j0 n0.fr ?_
 exact Bz (by (rw [MA (by omega) (by assumption)]; simp [c0, h0, d0]))
 refine Am <| xn b0 <| rR k0 fun b0 j0 => ?_
 refine rt j0 n0.fr ?_
 exact Bz (by (rw [MA (by omega) (by assumption)]; simp [c0, h0, d0]))
 refine rR m0 fun d0 h0 => ?_
 refine rt h0 i0.fr ?_
 exact Bz (by exact (Lu (by omega) (by assumption)).symm)
theorem Dl (w0 : World) (Z : Nat → Prop) (hZ : HZ w0 Z) (tA : Option Addr) (tc : Nat) (t : List Nd) (ht : N4 tA tc t w0 Z) (hl : t.length ≤ 1000000 := by exact ax) (h0 : 0 < t.length := by exact ax) :
    Calls Tryz.prog 12 [.slice tA t.length tc].toArray w0 (fun e w' => e = .returned (.agg #[.int .i64 ((nth t (t.length - 1)).K), .int .i64 ((nth t (t.length - 1)).N), .int .i64 ((nth t (t.length - 1)).M), .string ((nth t (t.length - 1)).S)]) ∧ Fr A6 w0 w') := by
 have b0 := s0 (M := A6) hZ (zc ht zn)
 refine AE Tryz.func12 rfl Tryz.ntmps12 rfl fun c0 d0 => ?_
 refine wsc fun c0 f0 => alc d0 b0 fun c0 i0 j0 k0 m0 => ?_
 refine wn f0 <| wsc fun f0 j0 => lR k0 fun f0 i0 => ?_
 refine sbi ((t.length : Int) - 1) i0 fun f0 k0 => ?_
 refine ix ((t.length) - (1)) (((t.length) - (1)) * 4) k0 (Bp (t := t) (k := (t.length) - (1)) (m0.row (i := 0) rfl).2 (by omega)).some_ fun f0 i0 => ?_
 refine Cw sv i0 rfl rfl rfl (Bp (t := t) (k := (t.length) - (1)) (m0.row (i := 0) rfl).2 (by omega)) Ar rfl DK (by decide) fun f0 k0 => ?_
 refine sto 0 k0 m0 fun f0 i0 c0 d0 => ?_
 refine wn j0 <| BV <| Ev (i := 0) (vs := [.int .i64 ((nth t ((t.length) - (1))).K), .int .i64 ((nth t ((t.length) - (1))).N), .int .i64 ((nth t ((t.length) - (1))).M), .string ((nth t ((t.length) - (1))).S)]) (.inl rfl) c0 d0 rfl rfl rfl rfl Ar rfl DK ?_
 refine ⟨?_, d0.fr⟩
 exact cre rfl
theorem Na (w0 : World) (Z : Nat → Prop) (hZ : HZ w0 Z) (tA : Option Addr) (tc : Nat) (t : List Nd) (uA : Option Addr) (uc : Nat) (u : List Nd) (ht : N4 tA tc t w0 Z) (hu : N4 uA uc u w0 Z) (hl : t.length ≤ 1000000 := by exact ax) :
    Calls Tryz.prog 13 [.slice tA t.length tc, .slice uA u.length uc].toArray w0 (fun e w' => e = .returned (.bool (decide (t = u))) ∧ Fr A6 w0 w') := by
 have b0 := s0 (M := A6) hZ (zc ht (zc hu zn))
 refine AE Tryz.func13 rfl Tryz.ntmps13 rfl fun c0 d0 => ?_
 refine rR d0 fun c0 f0 => ?_
 refine Ac fun c0 d0 => rR f0 fun c0 h0 => ?_
 refine wce h0 (fun c0 f0 => ?_) fun c0 i0 => ?_
 refine Am <| xn d0 <| Ac fun d0 c0 => rR f0 fun d0 h0 => ?_
 refine A4 ?_
 refine AH (fun gn ga gw => ∃ k : Nat, (Reg ga 26 [(1000000, .bool false), (0, .slice tA t.length tc), (1, .slice uA u.length uc), (5, .int .i64 (k : Int))]) ∧ (St w0 Z A6 gw [] [n4 tA tc t, n4 uA uc u]) ∧ (k ≤ t.length) ∧ (t.take k = u.take k) ∧ (t.length - k) = gn) _ ⟨0, (h0.sub (rc2 (rc rfl (rc rfl rnl)))), b0, by omega, rfl, rfl⟩ ?_
 rintro h0 d0 f0 ⟨k, j0, k0, hk, hi, m0⟩
 refine Ac fun m0 f0 => rR j0 fun m0 d0 => ?_
 refine wcd d0 (fun m0 j0 => ?_) fun m0 h0 => ?_
 refine Am <| xn f0 <| Ac fun f0 m0 => A4 ?_
 refine Ac fun f0 d0 => ?_
 obtain ⟨f0, n0, o0⟩ := k0.agree
 refine Cj (n := 9) o0 2 pn (A5 (B3 (A5 (A5 (B3 (A5 BC)))))) fun f0 p0 q0 t0 u0 v0 => ?_
 refine dR [0, 1] j0 fun t0 f0 => ?_
 refine dix 2 k (k * 4) f0 (fun x hx => (Bp (t := t) (k := k) (D6 (n0 0 _ rfl) hx.ag).2 (by omega)).some_) fun t0 j0 => ?_
 refine dt 3 rfl p0 j0 (AJ rfl) (fun x hx => Cw (sy j0) j0 rfl rfl rfl (Bp (t := t) (k := k) (D6 (n0 0 _ rfl) hx.ag).2 (by omega)) Ar rfl DK (by decide) gt) v0 fun t0 f0 => ?_
 refine dR [4, 5] f0 fun t0 j0 => ?_
 refine dix 6 k (k * 4) j0 (fun x hx => (Bp (t := u) (k := k) (D6 (n0 1 _ rfl) hx.ag).2 (by omega)).some_) fun t0 f0 => ?_
 refine dt 7 rfl p0 f0 (AJ rfl) (fun x hx => Cw (sy f0) f0 rfl rfl rfl (Bp (t := u) (k := k) (D6 (n0 1 _ rfl) hx.ag).2 (by omega)) Ar rfl DK (by decide) gt) v0 fun t0 j0 => ?_
 refine dt 8 rfl p0 j0 (AJ rfl) (fun x hx => Oz (m := (nth t k)) (n := (nth u k)) (sy j0) j0 rfl rfl rfl rfl (by decide) gt) v0 fun t0 f0 => ?_
 refine AL (by kernel_rfl) (q0 _ _ ?_) _
 refine xn d0 <| wce f0 (fun d0 q0 => ?_) fun d0 t0 => ?_
 refine Am <| A7 <| xn m0 <| A0 ?_
 refine mv q0 fun m0 d0 => ?_
 refine adi ((k + 1 : Nat) : Int) d0 fun m0 q0 => ?_
 refine asg q0 fun m0 d0 => ?_
 refine Ae ?_
 have m0 := u0.forget 2
 exact ⟨_, by omega, k + 1, (d0.sub (rc2 (rc rfl (rc rfl rnl)))), m0, by omega, LO hi (by omega) (by omega) (by assumption), rfl⟩
 refine rR t0 fun m0 d0 => ?_
 refine rt d0 u0.fr ?_
 exact BQ (by exact (QJ (k := k) (by omega) (by omega) (by assumption)).symm)
 refine xe ?_
 refine xn c0 <| rR h0 fun c0 d0 => ?_
 refine rt d0 k0.fr ?_
 exact BQ (by exact (Or hi (by omega) (by omega)).symm)
 refine rR i0 fun d0 k0 => ?_
 refine rt k0 b0.fr ?_
 exact BQ (by exact (Oq (by omega)).symm)
theorem I7 (rn : Nat) : ∀ (w0 : World) (Z : Nat → Prop) (hZ : HZ w0 Z) (tA : Option Addr) (tc : Nat) (t : List Nd) (ed : Int) (ht : N4 tA tc t w0 Z) (hl : t.length ≤ 1000000) (hsm : sml t) (hb : BW t = true) (he0 : 0 ≤ ed) (he1 : ed < t.length) (hrn : ed.toNat = rn),
    Calls Tryz.prog 36 [.slice tA t.length tc, .int .i64 ed].toArray w0 (fun e w' => e = .returned (.int .i64 ((frL t ed.toNat : Nat) : Int)) ∧ Fr A6 w0 w') := by
 induction rn using Nat.strongRecOn
 rename_i rn ih
 intro w0 Z hZ tA tc t ed ht hl hsm hb he0 he1 hrn
 have b0 := s0 (M := A6) hZ (zc ht zn)
 have hm8 := FY (Dn hb (show ed.toNat < t.length by omega))
 have hbm := DU (Dn hb (show ed.toNat < t.length by omega))
 refine AE Tryz.func36 rfl Tryz.ntmps36 rfl fun c0 d0 => ?_
 refine rR d0 fun c0 f0 => ?_
 refine Ac fun c0 d0 => rR f0 fun c0 h0 => ?_
 have c0 : ¬ (ed < 0) := by omega
 refine wcf h0 (Ai c0) fun f0 => ?_
 refine Am <| xn d0 <| wsc fun d0 c0 => lR f0 fun d0 h0 => ?_
 refine ix ((ed).toNat) (((ed).toNat) * 4) h0 (Bp (t := t) (k := (ed).toNat) (b0.row (i := 0) rfl).2 (by omega)).some_ fun d0 f0 => ?_
 refine Cw sv f0 rfl rfl rfl (Bp (t := t) (k := (ed).toNat) (b0.row (i := 0) rfl).2 (by omega)) Ar rfl DK (by decide) fun d0 h0 => ?_
 have d0 := b0.nf
 refine krb h0 d0 Wh (DO _ _ d0.il (nth t ((ed).toNat)) (hs := (hsm _ (by omega)))) fun b0 f0 i0 j0 k0 m0 => ?_
 refine lR m0 fun k0 b0 => ?_
 refine wn c0 <| Ac fun c0 k0 => rR b0 fun c0 m0 => ?_
 have c0 : (right (nth t ((ed).toNat))) = true := Dn hb (by omega)
 refine U1 m0 rfl (by rw [c0]; rfl) fun b0 => ?_
 refine Am <| xn k0 <| rR b0 fun k0 c0 => ?_
 refine Ac fun k0 b0 => rR c0 fun k0 m0 => ?_
 refine A4 ?_
 refine AH (fun gn ga gw => ∃ k : Nat, (Reg ga 35 [(1000000, .bool false), (0, .slice tA t.length tc), (5, .slice f0 ((BX (nth t ((ed).toNat))).length) i0), (8, .int .i64 (k : Int)), (7, .int .i64 ((C5 t ed.toNat k : Nat) : Int))]) ∧ (St w0 Z A6 gw [] [n4 tA tc t, Bw 1 f0 ((BX (nth t ((ed).toNat))).length) i0 (BN (BX (nth t ((ed).toNat))))]) ∧ (k ≤ many (nth t ed.toNat)) ∧ (many (nth t ed.toNat) - k) = gn) _ ⟨0, (m0.sub (rc4 (rc (ri rfl (by rw [IE hb (by omega)]; omega)) rnl))), j0, by omega, rfl⟩ ?_
 rintro m0 j0 i0 ⟨k, f0, k0, hk, c0⟩
 refine Ac fun c0 i0 => rR f0 fun c0 j0 => ?_
 refine wcd j0 (fun c0 f0 => ?_) fun c0 m0 => ?_
 obtain ⟨hps1, hps2, hps3, hps4⟩ := IF hb (show ed.toNat < t.length by omega) (show k < many (nth t ed.toNat) by omega)
 refine Am <| xn i0 <| Ac fun i0 c0 => A4 ?_
 refine wsc fun i0 j0 => lR f0 fun i0 d0 => ?_
 refine sbi (((C5 t ed.toNat k : Nat) : Int) - 1) d0 fun i0 f0 => ?_
 have i0 := k0.nf
 refine kcl f0 ok36 (ih ((((C5 t ed.toNat k : Nat) : Int) - 1).toNat) (by omega) _ (imm Z w0 [] _) (fun _ h => h.1) _ _ _ (((C5 t ed.toNat k : Nat) : Int) - 1) (i0.g 0) (by assumption) (by assumption) (by assumption) (by omega) (by omega) rfl) ?_
 rintro f0 d0 ⟨rfl, h0⟩
 have d0 := i0.below h0.below
 refine ⟨_, rfl, fun h0 i0 => ?_⟩
 refine aw i0 j0 fun h0 f0 => ?_
 refine rR f0 fun j0 h0 => ?_
 have j0 : ¬ (((frL t (((C5 t ed.toNat k : Nat) : Int) - 1).toNat : Nat) : Int) < 0) := by omega
 refine wcf h0 (Ai j0) fun f0 => ?_
 refine Am <| A7 <| xn c0 <| A0 ?_
 refine mv f0 fun c0 j0 => ?_
 refine adi ((k + 1 : Nat) : Int) j0 fun c0 f0 => ?_
 refine asg f0 fun c0 j0 => ?_
 refine Ae ?_
 exact ⟨_, by omega, k + 1, (j0.sub (rc4 (rc (ri rfl (by rw [show (((C5 t ed.toNat k : Nat) : Int) - 1).toNat = C5 t ed.toNat k - 1 by omega, hps3])) rnl))), d0, by omega, rfl⟩
 refine xe ?_
 refine xn b0 <| rR m0 fun b0 j0 => ?_
 refine rt j0 k0.fr ?_
 exact Bz (by rw [← O5 hb (by omega), show k = many (nth t ed.toNat) by omega])
theorem Nh (w0 : World) (Z : Nat → Prop) (hZ : HZ w0 Z) (tA : Option Addr) (tc : Nat) (t : List Nd) (ed : Int) (ht : N4 tA tc t w0 Z) (hl : t.length ≤ 1000000 := by exact ax) (hsm : sml t := by exact ax) (hb : BW t = true := by exact ax) (he0 : 0 ≤ ed := by exact ax) (he1 : ed < t.length := by exact ax) :
    Calls Tryz.prog 36 [.slice tA t.length tc, .int .i64 ed].toArray w0 (fun e w' => e = .returned (.int .i64 ((frL t ed.toNat : Nat) : Int)) ∧ Fr A6 w0 w') := I7 _ w0 Z hZ tA tc t ed ht hl hsm hb he0 he1 rfl
theorem CN (w0 : World) (Z : Nat → Prop) (hZ : HZ w0 Z) (tA : Option Addr) (tc : Nat) (t : List Nd) (ht : N4 tA tc t w0 Z) (hl : t.length ≤ 1000000 := by exact ax) (hsm : sml t := by exact ax) (hb : BW t = true := by exact ax) :
    Calls Tryz.prog 10 [.slice tA t.length tc].toArray w0 (fun e w' => ∃ (rA0 : Option Addr) (rc0 : Nat) (rL0 : List Sl), e = .returned (.slice rA0 rL0.length rc0) ∧ Fr A6 w0 w' ∧ (Bw 1 rA0 rL0.length rc0 (B7 rL0)).φ w' (nxt Z w0 w') ∧ (Cl rL0).φ w' (nxt Z w0 w') ∧ Bt rL0 = ptL t) := by
 have b0 := s0 (M := A6) hZ (zc ht zn)
 have hp0 := Dy hb
 have hm8 := FY (Dn hb (show t.length - 1 < t.length by omega))
 have hbm := DU (Dn hb (show t.length - 1 < t.length by omega))
 refine AE Tryz.func10 rfl Tryz.ntmps10 rfl fun c0 d0 => ?_
 refine rR d0 fun c0 f0 => ?_
 refine wsc fun c0 d0 => lR f0 fun c0 h0 => ?_
 refine sbi ((t.length : Int) - 1) h0 fun c0 f0 => ?_
 refine aw f0 d0 fun c0 h0 => ?_
 refine wsc fun d0 c0 => lR h0 fun d0 f0 => ?_
 refine ix ((t.length) - (1)) (((t.length) - (1)) * 4) f0 (Bp (t := t) (k := (t.length) - (1)) (b0.row (i := 0) rfl).2 (by omega)).some_ fun d0 h0 => ?_
 refine Cw sv h0 rfl rfl rfl (Bp (t := t) (k := (t.length) - (1)) (b0.row (i := 0) rfl).2 (by omega)) Ar rfl DK (by decide) fun d0 f0 => ?_
 have d0 := b0.nf
 refine krb f0 d0 Wh (DO _ _ d0.il (nth t ((t.length) - (1))) (hs := (hsm _ (by omega)))) fun b0 h0 i0 j0 k0 m0 => ?_
 refine lR m0 fun k0 b0 => ?_
 refine wn c0 <| wsc fun c0 k0 => ?_
 have c0 := j0.data (Cl []) Cp
 refine bsl b0 c0 fun j0 m0 d0 f0 n0 => ?_
 refine aw f0 k0 fun m0 j0 => ?_
 refine Ac fun k0 m0 => rR j0 fun k0 f0 => ?_
 refine A4 ?_
 refine AH (fun gn ga gw => ∃ k : Nat, ∃ Ls : List Sl, ∃ Ao : Option Addr, ∃ co : Nat, (Reg ga 42 [(1000000, .bool false), (0, .slice tA t.length tc), (2, .slice none 0 0), (4, .slice h0 ((BX (nth t ((t.length) - (1)))).length) i0), (7, .int .i64 (k : Int)), (3, .int .i64 ((C5 t (t.length - 1) k : Nat) : Int)), (6, .slice Ao ((Ls).length) co)]) ∧ (St w0 Z A6 gw [.row Ao ((Ls).length) co 22 1 (B7 Ls)] [n4 tA tc t, Bw 1 h0 ((BX (nth t ((t.length) - (1)))).length) i0 (BN (BX (nth t ((t.length) - (1))))), Cl Ls]) ∧ (k ≤ many (nth t (t.length - 1))) ∧ (Bt Ls = ptD t k) ∧ (many (nth t (t.length - 1)) - k) = gn) _ ⟨0, [], (some ⟨d0, 0, none⟩), 0, (f0.sub (rc4 (rc rfl (rc (ri rfl (by rw [IE hb (by omega)]; omega)) (rc rfl rnl))))), n0, by omega, (O2 t).symm, rfl⟩ ?_
 rintro f0 n0 d0 ⟨k, Ls, Ao, co, i0, h0, hk, hL, k0⟩
 have hLn : Ls.length = k := by rw [← Bs, hL, P7 hb hk]
 refine Ac fun k0 d0 => rR i0 fun k0 n0 => ?_
 rcases Cb ((k : Int) < ((BX (nth t ((t.length) - (1)))).length : Int)) with k0 | k0
 obtain ⟨hps1, hps2, hps3, hps4⟩ := IF hb (show t.length - 1 < t.length by omega) (show k < many (nth t (t.length - 1)) by omega)
 have hps5 := hps3
 rw [show C5 t (t.length - 1) k - 1 = (((C5 t (t.length - 1) k : Nat) : Int) - 1).toNat by omega] at hps5
 refine wct n0 (Aw k0) fun i0 => ?_
 refine Am <| xn d0 <| Ac fun d0 f0 => A4 ?_
 refine wsc fun d0 j0 => lR i0 fun d0 c0 => ?_
 refine sbi (((C5 t (t.length - 1) k : Nat) : Int) - 1) c0 fun d0 i0 => ?_
 have d0 := h0.nf
 refine kra i0 d0 ok36 (Nh _ _ d0.il _ _ _ (((C5 t (t.length - 1) k : Nat) : Int) - 1) (d0.g 0)) fun c0 b0 o0 p0 => ?_
 refine aw p0 j0 fun o0 c0 => ?_
 refine wsc fun j0 o0 => lR c0 fun j0 p0 => ?_
 refine TP (f := Eb) (lo := some (.tmp 33)) (hi := some (.tmp 34)) (vlo := (some (.int .i64 ((frL t (((C5 t (t.length - 1) k : Nat) : Int) - 1).toNat : Nat) : Int)))) (vhi := (some (.int .i64 ((C5 t (t.length - 1) k : Nat) : Int)))) (kd := .i64) (kd' := .i64) sv p0 rfl rfl rfl rfl rfl (frL t (((C5 t (t.length - 1) k : Nat) : Int) - 1).toNat) ((C5 t (t.length - 1) k) - (frL t (((C5 t (t.length - 1) k : Nat) : Int) - 1).toNat)) (.inl (by rfl)) (.inl (by congr 2; omega)) (((t).drop (frL t (((C5 t (t.length - 1) k : Nat) : Int) - 1).toNat)).take ((C5 t (t.length - 1) k) - (frL t (((C5 t (t.length - 1) k : Nat) : Int) - 1).toNat))) rfl Cq (b0.row (i := 0) rfl) Au DK (by omega) (by decide) fun j0 c0 d0 i0 q0 => ?_
 have j0 : (((t).drop (frL t (((C5 t (t.length - 1) k : Nat) : Int) - 1).toNat)).take ((C5 t (t.length - 1) k) - (frL t (((C5 t (t.length - 1) k : Nat) : Int) - 1).toNat))).length = (C5 t (t.length - 1) k) - (frL t (((C5 t (t.length - 1) k : Nat) : Int) - 1).toNat) := by (simp only [BK, Ah]; omega)
 have j0 := b0.data (Bw 4 c0 ((((t).drop (frL t (((C5 t (t.length - 1) k : Nat) : Int) - 1).toNat)).take ((C5 t (t.length - 1) k) - (frL t (((C5 t (t.length - 1) k : Nat) : Int) - 1).toNat))).length) d0 (Cd (((t).drop (frL t (((C5 t (t.length - 1) k : Nat) : Int) - 1).toNat)).take ((C5 t (t.length - 1) k) - (frL t (((C5 t (t.length - 1) k : Nat) : Int) - 1).toNat))))) i0
 have i0 := j0.data (Cl [((c0, d0, ((t).drop (frL t (((C5 t (t.length - 1) k : Nat) : Int) - 1).toNat)).take ((C5 t (t.length - 1) k) - (frL t (((C5 t (t.length - 1) k : Nat) : Int) - 1).toNat))) : Sl)]) (Cy (j0.get (i := 3) rfl) Cp)
 refine bsl q0 i0 fun j0 b0 p0 t0 u0 => ?_
 refine aw t0 o0 fun p0 b0 => ?_
 refine wsc fun o0 p0 => lR b0 fun o0 t0 => ?_
 refine BL (f := FK) (i := 1) ([((c0, d0, ((t).drop (frL t (((C5 t (t.length - 1) k : Nat) : Int) - 1).toNat)).take ((C5 t (t.length - 1) k) - (frL t (((C5 t (t.length - 1) k : Nat) : Int) - 1).toNat))) : Sl)]) Ls sv t0 u0 rfl rfl rfl rfl rfl Dc (D7 _) Be L3 rfl rfl (BU (f := FK) (u0.res (i := 0) rfl)) rfl (by (simp only [Ad, Aj]; omega)) (by decide) fun o0 b0 j0 i0 q0 v0 x0 => ?_
 have q0 : (([((c0, d0, ((t).drop (frL t (((C5 t (t.length - 1) k : Nat) : Int) - 1).toNat)).take ((C5 t (t.length - 1) k) - (frL t (((C5 t (t.length - 1) k : Nat) : Int) - 1).toNat))) : Sl)]) ++ Ls : List Sl).length = (Ls).length + 1 := by (simp only [Ab, Ah, Ad, Aj]; omega)
 have q0 := x0.erase 0
 have x0 := q0.data (Cl (([((c0, d0, ((t).drop (frL t (((C5 t (t.length - 1) k : Nat) : Int) - 1).toNat)).take ((C5 t (t.length - 1) k) - (frL t (((C5 t (t.length - 1) k : Nat) : Int) - 1).toNat))) : Sl)]) ++ Ls)) (CH (q0.get (i := 4) rfl) (q0.get (i := 2) rfl))
 refine asg v0 fun q0 b0 => ?_
 refine Ae (AC (p0 _ _ (A0 ?_)))
 refine lR b0 fun p0 q0 => ?_
 refine Ae ?_
 refine A7 <| xn f0 <| A0 ?_
 refine mv q0 fun f0 p0 => ?_
 refine adi ((k + 1 : Nat) : Int) p0 fun f0 q0 => ?_
 refine asg q0 fun f0 p0 => ?_
 refine Ae ?_
 have f0 := x0.forget 4
 have x0 := f0.forget 3
 have f0 := x0.forget 2
 exact ⟨_, by omega, k + 1, ([((c0, d0, ((t).drop (frL t (((C5 t (t.length - 1) k : Nat) : Int) - 1).toNat)).take ((C5 t (t.length - 1) k) - (frL t (((C5 t (t.length - 1) k : Nat) : Int) - 1).toNat))) : Sl)]) ++ Ls, j0, i0, (p0.sub (rc4 (rc rfl (rc (ri rfl (by rw [show (((C5 t (t.length - 1) k : Nat) : Int) - 1).toNat = C5 t (t.length - 1) k - 1 by omega, hps3])) (rc rfl rnl))))), f0, by omega, JQ hb hL (by omega) (by rw [show (((C5 t (t.length - 1) k : Nat) : Int) - 1).toNat = C5 t (t.length - 1) k - 1 by omega, hps3]) rfl, rfl⟩
 refine wcf n0 (Ai k0) fun f0 => ?_
 refine xe ?_
 refine xn m0 <| rR f0 fun m0 k0 => ?_
 refine rt1 k0 ?_
 have k0 := h0.pub 0 (Bw 1 Ao ((Ls).length) co (B7 Ls))
 refine ⟨Ao, co, Ls, ?_, k0.fr, k0.rx 3, k0.rx 2, (by rw [hL, ← Rh hb, show k = many (nth t (t.length - 1)) by omega])⟩
 exact cre (CZ (by rfl))
theorem GV (w0 : World) (Z : Nat → Prop) (hZ : HZ w0 Z) (n : Nd) (pA : Option Addr) (pc : Nat) (p : List Sl) (hp : (Bw 1 pA p.length pc (B7 p)).φ w0 Z) (hps : (Cl p).φ w0 Z) (hl : p.length ≤ 10 := by exact ax) (hb : (Bt p).flatten.length ≤ 50000000 := by exact ax) :
    Calls Tryz.prog 68 [.agg #[.int .i64 (n.K), .int .i64 (n.N), .int .i64 (n.M), .string n.S], .slice pA p.length pc].toArray w0 (fun e w' => ∃ (rA0 : Option Addr) (rc0 : Nat), e = .returned (.slice rA0 ((Bt p).flatten ++ [n]).length rc0) ∧ Fr A6 w0 w' ∧ N4 rA0 rc0 ((Bt p).flatten ++ [n]) w' (nxt Z w0 w')) := by
 have b0 := s0 (M := A6) hZ (zc hp (zc hps zn))
 refine AE Tryz.func68 rfl Tryz.ntmps68 rfl fun c0 d0 => ?_
 refine wsc fun c0 f0 => bxx d0 b0 fun c0 h0 i0 j0 k0 => ?_
 refine aw j0 f0 fun h0 c0 => ?_
 refine wsc fun f0 h0 => bsl c0 k0 fun f0 j0 d0 b0 m0 => ?_
 refine aw b0 h0 fun j0 f0 => ?_
 refine Ac fun h0 j0 => rR f0 fun h0 b0 => ?_
 refine A4 ?_
 refine AH (fun gn ga gw => ∃ k : Nat, ∃ Ao : Option Addr, ∃ co : Nat, (Reg ga 24 [(1000000, .bool false), (1, .slice pA p.length pc), (2, .pointer (some ⟨i0, 0, none⟩)), (4, .slice none 0 0), (6, .int .i64 (k : Int)), (5, .slice Ao (((Bt (p.take k)).flatten).length) co)]) ∧ (St w0 Z A6 gw [.box i0 30 [.int .i64 (n.K), .int .i64 (n.N), .int .i64 (n.M), .string n.S], .row Ao (((Bt (p.take k)).flatten).length) co 30 4 (Cd ((Bt (p.take k)).flatten))] [Bw 1 pA p.length pc (B7 p), Cl p]) ∧ (k ≤ p.length) ∧ (p.length - k) = gn) _ ⟨0, (some ⟨d0, 0, none⟩), 0, (b0.sub (rc4 (rc rfl (rc rfl rnl)))), m0, by omega, rfl⟩ ?_
 rintro b0 m0 d0 ⟨k, Ao, co, i0, h0, hk, f0⟩
 have hfl := Ko p k
 refine Ac fun f0 d0 => rR i0 fun f0 m0 => ?_
 rcases Cb ((k : Int) < (p.length : Int)) with f0 | f0
 have hfl2 := Ko p (k + 1)
 rw [Hl (by omega), Ab] at hfl2
 refine wct m0 (Aw f0) fun i0 => ?_
 refine Am <| xn d0 <| Ac fun d0 b0 => A4 ?_
 refine A0 ?_
 refine lR i0 fun d0 c0 => ?_
 refine ix k (k * 1) c0 (BD (t := p) (k := k) (h0.row (i := 0) rfl).2 (by omega)).some_ fun d0 i0 => ?_
 refine lde 0 (k * 1) i0 (BD (t := p) (k := k) (h0.row (i := 0) rfl).2 (by omega)) fun d0 c0 => ?_
 have d0 := h0.el 1 k
 refine BL (f := Eb) (i := 1) ((Bt (p.take k)).flatten) ((BF p k).2.2) sv c0 d0 rfl rfl rfl rfl rfl Cq (Dz _) Au Qj rfl rfl (d0.row (i := 2) rfl).2.news rfl (by omega) (by decide) fun i0 k0 n0 o0 p0 q0 t0 => ?_
 have p0 : (((Bt (p.take k)).flatten) ++ ((BF p k).2.2)).length = ((Bt (p.take k)).flatten).length + (BF p k).2.2.length := by (simp only [Ab, Ah, Ad, Aj]; done)
 refine asg q0 fun p0 k0 => ?_
 refine Ae ?_
 refine A7 <| xn b0 <| A0 ?_
 refine mv k0 fun b0 p0 => ?_
 refine adi ((k + 1 : Nat) : Int) p0 fun b0 k0 => ?_
 refine asg k0 fun b0 p0 => ?_
 refine Ae ?_
 have b0 : ((Bt (p.take k)).flatten) ++ ((BF p k).2.2) = (Bt (p.take (k + 1))).flatten := (Hl (by omega)).symm
 have k0 := p0
 have p0 := t0
 rw [b0] at k0 p0
 have b0 := p0.forget 2
 exact ⟨_, by omega, k + 1, n0, o0, (k0.sub (rc4 (rc rfl (rc rfl rnl)))), b0, by omega, rfl⟩
 refine wcf m0 (Ai f0) fun b0 => ?_
 refine xe ?_
 refine xn j0 <| wsc fun j0 f0 => lR b0 fun j0 m0 => ?_
 refine bsl m0 h0 fun j0 b0 k0 o0 n0 => ?_
 refine BL (f := Eb) (i := 1) ((Bt (p.take k)).flatten) ([n]) sv o0 n0 rfl rfl rfl rfl rfl Cq (Dz _) Au Qj rfl rfl (BU (f := Eb) (n0.res (i := 2) rfl)) rfl (by (simp only [Ad, Aj]; omega)) (by decide) fun k0 b0 j0 m0 h0 p0 t0 => ?_
 have h0 : (((Bt (p.take k)).flatten) ++ ([n]) : List Nd).length = ((Bt (p.take k)).flatten).length + 1 := by (simp only [Ab, Ah, Ad, Aj]; done)
 have h0 := t0.erase 2
 refine aw p0 f0 fun t0 b0 => ?_
 refine rt1 b0 ?_
 have b0 : (Bt p).flatten ++ [n] = ((Bt (p.take k)).flatten) ++ ([n]) := by rw [AM (by omega)]
 rw [b0]
 have b0 := h0.pub 1 (Bw 4 j0 ((((Bt (p.take k)).flatten) ++ ([n]) : List Nd).length) m0 (Cd (((Bt (p.take k)).flatten) ++ ([n]))))
 refine ⟨j0, m0, ?_, b0.fr, b0.rx 2⟩
 exact cre rfl
theorem HF (w0 : World) (Z : Nat → Prop) (hZ : HZ w0 Z) (n : Int)  :
    Calls Tryz.prog 106 [.int .i64 n].toArray w0 (fun e w' => e = .returned (.int .i64 (As n)) ∧ Fr A6 w0 w') := by
 have b0 := s0 (M := A6) hZ zn
 refine AE Tryz.func106 rfl Tryz.ntmps106 rfl fun c0 d0 => ?_
 refine rR d0 fun c0 f0 => ?_
 refine wsc fun c0 d0 => mv f0 fun c0 h0 => ?_
 refine r_min sv h0 rfl rfl rfl rfl rfl (by decide) fun c0 f0 => ?_
 refine LY sv f0 rfl rfl rfl rfl rfl (by decide) fun c0 h0 => ?_
 refine aw h0 d0 fun c0 f0 => ?_
 refine rt f0 b0.fr ?_
 exact Bz (by unfold As; omega)
theorem HY (rn : Nat) : ∀ (w0 : World) (Z : Nat → Prop) (hZ : HZ w0 Z) (tA : Option Addr) (tc : Nat) (t : List Nd) (b : Int) (fr : Int) (u : Int) (ht : N4 tA tc t w0 Z) (hl : t.length ≤ 1000000) (hsm : sml t) (hb : BW t = true) (hu0 : 0 ≤ u) (hub : u + 2 * t.length ≤ 10000000) (hb1 : -1000000 ≤ b) (hb2 : b ≤ 1000000) (hrn : t.length = rn),
    Calls Tryz.prog 105 [.slice tA t.length tc, .int .i64 b, .int .i64 fr, .int .i64 u].toArray w0 (fun e w' => ∃ (rA0 : Option Addr) (rc0 : Nat), e = .returned (.tuple #[.slice rA0 (trL (shV b fr) t u).length rc0, .int .i64 (E4 (shV b fr) t u)]) ∧ Fr A6 w0 w' ∧ N4 rA0 rc0 (trL (shV b fr) t u) w' (nxt Z w0 w')) := by
 induction rn using Nat.strongRecOn
 rename_i rn ih
 intro w0 Z hZ tA tc t b fr u ht hl hsm hb hu0 hub hb1 hb2 hrn
 have b0 := s0 (M := A6) hZ (zc ht zn)
 have hp0 := Dy hb
 have hrt := Dn hb (show t.length - 1 < t.length by omega)
 have hbl := FO hrt
 have hbm := DU hrt
 have hpm := Cz hb
 refine AE Tryz.func105 rfl Tryz.ntmps105 rfl fun c0 d0 => ?_
 refine rR d0 fun c0 f0 => ?_
 refine wsc fun c0 d0 => mv f0 fun c0 h0 => ?_
 have c0 := b0.nf
 refine kra h0 c0 R3 (Dl _ _ c0.il _ _ _ (c0.g 0)) fun b0 f0 i0 j0 => ?_
 refine alc j0 f0 fun i0 b0 c0 h0 k0 => ?_
 refine sto 0 h0 k0 fun b0 i0 j0 f0 => ?_
 refine wn d0 <| Ac fun d0 i0 => wsc fun d0 b0 => lR j0 fun d0 k0 => ?_
 refine TU 6 (decide (fr ≤ (((nth t (t.length - 1)).N) - u))) k0 (fun d0 j0 h0 => ?_) fun m0 n0 => ?_
 have m0 := A9 d0
 obtain ⟨d0, k0⟩ := Oh hb m0
 refine H5 (j' := 1) (Bb (wt j0)) j0 rfl rfl rfl Ar rfl sz3 rfl rfl (by decide) fun m0 o0 => ?_
 refine Hj (i := 0) (Bb (wt o0)) o0 f0 rfl rfl rfl rfl rfl Bl rfl (by decide) fun m0 j0 => ?_
 refine CI (Bb (wt j0)) j0 rfl rfl rfl (by decide) fun m0 o0 => ?_
 refine sbi (((nth t (t.length - 1)).N) - u) o0 fun m0 j0 => ?_
 refine CI (Bb (wt j0)) j0 rfl rfl rfl (by decide) fun m0 o0 => ?_
 refine r_geq (Bb (wt o0)) o0 rfl rfl rfl rfl (by decide) fun m0 j0 => ?_
 refine EX sv j0 rfl rfl rfl rfl (by decide) fun m0 o0 => ?_
 exact h0.fin o0
 refine wn b0 <| wcg n0 (fun b0 o0 => ?_) fun b0 h0 => ?_
 have n0 := Eu b0
 have m0 := A9 n0
 obtain ⟨d0, k0⟩ := Oh hb m0
 have m0 := Et b0
 have k0 := A9 m0
 refine wsc fun k0 m0 => lR o0 fun k0 d0 => ?_
 refine adi (((nth t (t.length - 1)).N) + b) d0 fun k0 o0 => ?_
 refine aw o0 m0 fun k0 d0 => ?_
 refine Ac fun m0 k0 => wsc fun m0 o0 => lR d0 fun m0 n0 => ?_
 refine sbi (((nth t (t.length - 1)).N) + b - u) n0 fun m0 d0 => ?_
 refine lR d0 fun m0 n0 => ?_
 refine wn o0 <| wcd n0 (fun o0 m0 => ?_) fun o0 d0 => ?_
 refine rR m0 fun o0 n0 => ?_
 refine rt2 n0 ?_
 have n0 : trL (shV b fr) t u = [] := by exact (QE hb (by omega) (by omega) (by omega)).2
 rw [n0]
 refine ⟨none, 0, ?_, f0.fr, ⟨Af _, RowI.nil _ _ _ _⟩⟩
 exact Bj rfl (Bz (by first | omega | (rw [(QE hb (by omega) (by omega) (by omega)).1])))
 refine Am <| xn k0 <| Ac fun k0 n0 => rR d0 fun k0 o0 => ?_
 refine wcd o0 (fun k0 d0 => ?_) fun k0 m0 => ?_
 refine rR d0 fun k0 o0 => ?_
 refine rt2 o0 ?_
 have o0 : trL (shV b fr) t u = [] := by exact (KD hb (by omega) (by omega) (by omega) (by omega)).2
 rw [o0]
 refine ⟨none, 0, ?_, f0.fr, ⟨Af _, RowI.nil _ _ _ _⟩⟩
 exact Bj rfl (Bz (by first | (rw [(KD hb (by omega) (by omega) (by omega) (by omega)).1]) | (rw [(KE hb (by omega) (by omega) (by omega) (by omega)).1]) | (rw [hs1, hpe, hbl]; done)))
 refine Am <| xn n0 <| wsc fun n0 o0 => mv m0 fun n0 k0 => ?_
 refine bld k0 fun n0 m0 => ?_
 refine bsl m0 f0 fun n0 k0 d0 j0 p0 => ?_
 refine lR j0 fun k0 n0 => ?_
 refine wn o0 <| rt2 n0 ?_
 have n0 : trL (shV b fr) t u = [(⟨0, (((nth t (t.length - 1)).N) + b), 0, (⟨#[]⟩ : ByteArray)⟩ : Nd)] := (KE hb (by omega) (by omega) (by omega) (by omega)).2
 rw [n0]
 have n0 := p0.pub 1 (Bw 4 (some ⟨d0, 0, none⟩) 1 1 (Cd ([(⟨0, (((nth t (t.length - 1)).N) + b), 0, (⟨#[]⟩ : ByteArray)⟩ : Nd)])))
 refine ⟨(some ⟨d0, 0, none⟩), 1, ?_, n0.fr, n0.rx 1⟩
 exact Bj rfl (Bz (by first | (rw [(KD hb (by omega) (by omega) (by omega) (by omega)).1]) | (rw [(KE hb (by omega) (by omega) (by omega) (by omega)).1]) | (rw [hs1, hpe, hbl]; done)))
 have n0 := b0
 try simp only [bz] at n0
 refine Am <| xn i0 <| wsc fun i0 n0 => lR h0 fun i0 b0 => ?_
 have i0 := f0.nf
 refine krb b0 i0 Wh (DO _ _ i0.il (nth t (t.length - 1)) (hs := (hsm _ (by omega)))) fun f0 h0 d0 p0 o0 k0 => ?_
 refine lR k0 fun o0 f0 => ?_
 refine wn n0 <| wsc fun n0 o0 => mv f0 fun n0 k0 => ?_
 have n0 := p0.nf
 refine krd k0 n0 R4 (CN _ _ n0.il _ _ _ (n0.g 0)) fun p0 f0 i0 b0 j0 m0 q0 t0 => ?_
 refine aw t0 o0 fun q0 p0 => ?_
 refine wsc fun o0 q0 => ?_
 have o0 := m0.data (Cl []) Cp
 refine bsl p0 o0 fun m0 t0 n0 k0 u0 => ?_
 refine aw k0 q0 fun t0 m0 => ?_
 refine Ac fun q0 t0 => rR m0 fun q0 k0 => ?_
 refine A4 ?_
 refine AH (fun gn ga gw => ∃ j : Nat, ∃ Ls : List Sl, ∃ Ao : Option Addr, ∃ co : Nat, (Reg ga 86 [(1000000, .bool false), (1, .int .i64 b), (2, .int .i64 fr), (3, .int .i64 u), (10, .pointer (some ⟨c0, 0, none⟩)), (12, .slice h0 ((BX (nth t (t.length - 1))).length) d0), (14, .slice f0 b0.length i0), (16, .int .i64 (j : Int)), (15, .slice Ao ((Ls).length) co)]) ∧ (St w0 Z A6 gw [.box c0 30 [.int .i64 ((nth t (t.length - 1)).K), .int .i64 ((nth t (t.length - 1)).N), .int .i64 ((nth t (t.length - 1)).M), .string ((nth t (t.length - 1)).S)], .row Ao ((Ls).length) co 22 1 (B7 Ls)] [n4 tA tc t, Bw 1 h0 ((BX (nth t (t.length - 1))).length) d0 (BN (BX (nth t (t.length - 1)))), Bw 1 f0 b0.length i0 (B7 b0), Cl b0, Cl Ls]) ∧ (j ≤ b0.length) ∧ (Bt Ls = MP (shV b fr) t u j) ∧ (K5 (shV b fr) t u j = 0) ∧ (b0.length - j) = gn) _ ⟨0, [], (some ⟨n0, 0, none⟩), 0, (k0.sub (rc4 (rc4 (rc rfl rnl)))), u0, by omega, by rw [(Iv _ _ _).2]; rfl, (Iv _ _ _).1, rfl⟩ ?_
 rintro k0 u0 n0 ⟨j, Ls, Ao, co, i0, f0, hj, hL, hE, d0⟩
 have hrl : b0.length = (ptL t).length := by rw [← Bs, j0]
 have hp8 := Md hb
 have hbj : 0 ≤ Ci (BX (nth t (t.length - 1))) j ∧ Ci (BX (nth t (t.length - 1))) j ≤ 2 := by rw [hbl]; exact Hp j
 have hLn : Ls.length = j := by rw [← Bs, hL]; exact Ol hb (by omega)
 refine Ac fun d0 n0 => rR i0 fun d0 u0 => ?_
 rcases Cb ((j : Int) < (b0.length : Int)) with d0 | d0
 obtain ⟨hpe, hpk, hpb, hpl, hps, hp0'⟩ := KQ hb hsm j0 (show j < b0.length by omega)
 refine wct u0 (Aw d0) fun j0 => ?_
 refine Am <| xn n0 <| Ac fun n0 i0 => A4 ?_
 refine Ac fun n0 k0 => ?_
 obtain ⟨n0, h0, q0⟩ := f0.agree
 refine Cj (n := 18) q0 5 pn (A5 (B3 (A5 (A5 (B3 (A5 BC)))))) fun n0 m0 o0 p0 v0 x0 => ?_
 refine dR [0, 1] j0 fun p0 n0 => ?_
 refine dix 2 j (j * 1) n0 (fun x hx => (BD (t := b0) (k := j) (D6 (h0 2 _ rfl) hx.ag).2 (by omega)).some_) fun p0 j0 => ?_
 refine dle 3 0 (j * 1) j0 (fun x hx => BD (t := b0) (k := j) (D6 (h0 2 _ rfl) hx.ag).2 (by omega)) fun p0 n0 => ?_
 have p0 := v0.el 3 j
 refine dR [4, 5, 6, 7, 8] n0 fun v0 j0 => ?_
 refine dix 9 j (j * 1) j0 (fun x hx => (Ds (t := BX (nth t (t.length - 1))) (k := j) (D6 (h0 1 _ rfl) hx.ag).2 (by omega)).some_) fun v0 n0 => ?_
 refine dle 10 0 (j * 1) n0 (fun x hx => Ds (t := BX (nth t (t.length - 1))) (k := j) (D6 (h0 1 _ rfl) hx.ag).2 (by omega)) fun v0 j0 => ?_
 refine dt 11 rfl m0 j0 (AJ rfl) (fun x hx => IB (z := (u + (Ci (BX (nth t (t.length - 1))) j))) (sy j0) j0 rfl rfl rfl rfl (by decide) (by omega) (by omega) (by omega) gt) x0 fun v0 n0 => ?_
 refine d1 12 ?_
 have v0 := p0.nf
 refine kcl n0 ok105 (ih (((BF b0 j).2.2).length) (by omega) _ (imm Z w0 [.box c0 30 [.int .i64 ((nth t (t.length - 1)).K), .int .i64 ((nth t (t.length - 1)).N), .int .i64 ((nth t (t.length - 1)).M), .string ((nth t (t.length - 1)).S)], .row Ao ((Ls).length) co 22 1 (B7 Ls)] _) (fun _ h => h.1) _ _ ((BF b0 j).2.2) b fr (u + (Ci (BX (nth t (t.length - 1))) j)) (v0.g 6) (by omega) (by assumption) (by assumption) (by omega) (by omega) (by assumption) (by assumption) rfl) ?_
 rintro n0 c0 ⟨p0, j0, rfl, x0, m0⟩
 have c0 := v0.below x0.below
 have x0 := v0.dN c0 m0
 refine ⟨_, rfl, fun c0 m0 => ?_⟩
 have c0 := sWI x0 5 pn
 refine ⟨c0, ?_⟩
 refine dR [13, 14, 15, 16, 17] m0 fun c0 v0 => ?_
 refine AL (by kernel_rfl) (o0 _ _ ?_) _
 refine xn k0 <| Ac fun k0 o0 => rR v0 fun k0 c0 => ?_
 refine wce c0 (fun k0 v0 => ?_) fun k0 m0 => ?_
 obtain ⟨hs1, hs2⟩ := Qw (V := shV b fr) (u := u) hb hpk hE (by rw [← hpe, ← hbl]; exact k0)
 refine Am <| xn o0 <| A0 ?_
 refine lR v0 fun o0 c0 => ?_
 have o0 := x0.data (Cl [((p0, j0, trL (shV b fr) ((BF b0 j).2.2) (u + (Ci (BX (nth t (t.length - 1))) j))) : Sl)]) (Cy (x0.get (i := 7) rfl) Cp)
 refine bsl c0 o0 fun v0 n0 h0 q0 y0 => ?_
 refine BL (f := FK) (i := 1) Ls ([((p0, j0, trL (shV b fr) ((BF b0 j).2.2) (u + (Ci (BX (nth t (t.length - 1))) j))) : Sl)]) sv q0 y0 rfl rfl rfl rfl rfl Dc (D7 _) Be L3 rfl rfl (BU (f := FK) (y0.res (i := 2) rfl)) rfl (by (simp only [Ad, Aj]; omega)) (by decide) fun h0 n0 v0 o0 c0 z0 b1 => ?_
 have c0 : (Ls ++ ([((p0, j0, trL (shV b fr) ((BF b0 j).2.2) (u + (Ci (BX (nth t (t.length - 1))) j))) : Sl)]) : List Sl).length = (Ls).length + 1 := by (simp only [Ab, Ah, Ad, Aj]; done)
 have c0 := b1.erase 2
 have b1 := c0.data (Cl (Ls ++ ([((p0, j0, trL (shV b fr) ((BF b0 j).2.2) (u + (Ci (BX (nth t (t.length - 1))) j))) : Sl)]))) (CH (c0.get (i := 4) rfl) (c0.get (i := 8) rfl))
 refine asg z0 fun c0 n0 => ?_
 refine Ae ?_
 refine A7 <| xn i0 <| A0 ?_
 refine mv n0 fun i0 c0 => ?_
 refine adi ((j + 1 : Nat) : Int) c0 fun i0 n0 => ?_
 refine asg n0 fun i0 c0 => ?_
 refine Ae ?_
 have i0 := b1.forget 8
 have b1 := i0.forget 7
 have i0 := b1.forget 6
 have b1 := i0.forget 5
 have i0 := b1.forget 4
 exact ⟨_, by omega, j + 1, Ls ++ ([((p0, j0, trL (shV b fr) ((BF b0 j).2.2) (u + (Ci (BX (nth t (t.length - 1))) j))) : Sl)]), v0, o0, (c0.sub (rc4 (rc4 (rc rfl rnl)))), i0, by omega, (by rw [Er, Gr, hL, hs2, hpe, hbl]), hs1, rfl⟩
 obtain ⟨hs1, hs2⟩ := UA (V := shV b fr) (u := u) hb hpk hE (by rw [← hpe, ← hbl]; exact k0)
 refine rR m0 fun k0 i0 => ?_
 refine rt2 i0 ?_
 have i0 : trL (shV b fr) t u = [] := by exact hs2
 rw [i0]
 refine ⟨none, 0, ?_, x0.fr, ⟨Af _, RowI.nil _ _ _ _⟩⟩
 exact Bj rfl (Bz (by first | (rw [(KD hb (by omega) (by omega) (by omega) (by omega)).1]) | (rw [(KE hb (by omega) (by omega) (by omega) (by omega)).1]) | (rw [hs1, hpe, hbl]; done)))
 have hj2 : j = (ptL t).length := by omega
 rw [hj2] at hE hL
 have hvv : (nth t (t.length - 1)).K = 0 → (shV b fr) (nth t (t.length - 1)) u = (0, .mk (nth t (t.length - 1)) []) := by intro hk; unfold shV; rw [Aq (by omega)]
 obtain ⟨x0, i0⟩ := Q1 hb hvv hE
 have hdn := tr_nm (V := shV b fr) (b := 1) (by omega) (fun n u _ => QF _ _ n u) hb hvv hE
 refine wcf u0 (Ai d0) fun x0 => ?_
 refine xe ?_
 refine xn t0 <| wsc fun t0 d0 => lR x0 fun t0 u0 => ?_
 have t0 := f0.nf
 have f0 := t0.pub 1 (Bw 1 Ao ((Ls).length) co (B7 Ls))
 refine krb u0 f0 ok68 (GV _ _ f0.il (nth t (t.length - 1)) _ _ _ (f0.g 5) (f0.g 4) (hl := (by omega)) (hb := (by rw [hL]; omega))) fun t0 x0 k0 m0 c0 o0 => ?_
 refine lR o0 fun c0 t0 => ?_
 refine wn d0 <| rt2 t0 ?_
 have t0 : trL (shV b fr) t u = (Bt Ls).flatten ++ [(nth t (t.length - 1))] := by rw [i0, hL]
 rw [t0]
 refine ⟨x0, k0, ?_, m0.fr, m0.rx 6⟩
 exact Bj rfl (Bz (by first | omega | (rw [(QE hb (by omega) (by omega) (by omega)).1])))
theorem LS (w0 : World) (Z : Nat → Prop) (hZ : HZ w0 Z) (tA : Option Addr) (tc : Nat) (t : List Nd) (b : Int) (fr : Int) (u : Int) (ht : N4 tA tc t w0 Z) (hl : t.length ≤ 1000000 := by exact ax) (hsm : sml t := by exact ax) (hb : BW t = true := by exact ax) (hu0 : 0 ≤ u := by exact ax) (hub : u + 2 * t.length ≤ 10000000 := by exact ax) (hb1 : -1000000 ≤ b := by exact ax) (hb2 : b ≤ 1000000 := by exact ax) :
    Calls Tryz.prog 105 [.slice tA t.length tc, .int .i64 b, .int .i64 fr, .int .i64 u].toArray w0 (fun e w' => ∃ (rA0 : Option Addr) (rc0 : Nat), e = .returned (.tuple #[.slice rA0 (trL (shV b fr) t u).length rc0, .int .i64 (E4 (shV b fr) t u)]) ∧ Fr A6 w0 w' ∧ N4 rA0 rc0 (trL (shV b fr) t u) w' (nxt Z w0 w')) := HY _ w0 Z hZ tA tc t b fr u ht hl hsm hb hu0 hub hb1 hb2 rfl
theorem HH (w0 : World) (Z : Nat → Prop) (hZ : HZ w0 Z) (tA : Option Addr) (tc : Nat) (t : List Nd) (b : Int) (fr : Int) (ht : N4 tA tc t w0 Z) (hl : t.length ≤ 1000000 := by exact ax) (hsm : sml t := by exact ax) :
    Calls Tryz.prog 69 [.slice tA t.length tc, .int .i64 b, .int .i64 fr].toArray w0 (fun e w' => ∃ (rA0 : Option Addr) (rc0 : Nat), e = .returned (.tuple #[.slice rA0 (sfA t b fr).length rc0, .int .i64 (sfE t b fr)]) ∧ Fr A6 w0 w' ∧ N4 rA0 rc0 (sfA t b fr) w' (nxt Z w0 w')) := by
 have b0 := s0 (M := A6) hZ (zc ht zn)
 refine AE Tryz.func69 rfl Tryz.ntmps69 rfl fun c0 d0 => ?_
 refine rR d0 fun c0 f0 => ?_
 refine wsc fun c0 d0 => mv f0 fun c0 h0 => ?_
 have c0 := b0.nf
 refine kra h0 c0 Th (De _ _ c0.il _ _ _ (c0.g 0)) fun b0 f0 i0 j0 => ?_
 refine aw j0 d0 fun i0 b0 => ?_
 refine Ac fun d0 i0 => rR b0 fun d0 j0 => ?_
 refine wce j0 (fun d0 b0 => ?_) fun d0 c0 => ?_
 refine Am <| xn i0 <| wsc fun i0 d0 => lR b0 fun i0 j0 => ?_
 have i0 := f0.nf
 refine kra j0 i0 ok106 (HF _ _ i0.il b) fun b0 h0 k0 m0 => ?_
 refine mv m0 fun k0 b0 => ?_
 have k0 := h0.nf
 refine kra b0 k0 ok106 (HF _ _ k0.il fr) fun h0 m0 i0 j0 => ?_
 refine LY sv j0 rfl rfl rfl rfl rfl (by decide) fun i0 h0 => ?_
 have i0 := m0.nf
 refine krb h0 i0 ok105 (LS _ _ i0.il _ _ _ (As b) (max 0 (As fr)) 0 (i0.g 0) (hl := hl) (hsm := hsm) (hb := (BO (by omega))) (hu0 := (by omega)) (hub := (by omega)) (hb1 := (by unfold As; omega)) (hb2 := (by unfold As; omega))) fun m0 j0 k0 b0 n0 o0 => ?_
 refine lR o0 fun n0 m0 => ?_
 refine wn d0 <| rt2 m0 ?_
 have m0 : sfA t b fr = trL (shV (As b) (max 0 (As fr))) t 0 := (Fq (by omega)).2
 rw [m0]
 refine ⟨j0, k0, ?_, b0.fr, b0.rx 1⟩
 exact Bj rfl (Bz (by first | (rw [(GP (by omega)).1]; done) | (rw [(Fq (by omega)).1]; done)))
 refine rR c0 fun b0 k0 => ?_
 refine rt2 k0 ?_
 have k0 : sfA t b fr = [] := (GP (by omega)).2
 rw [k0]
 refine ⟨none, 0, ?_, f0.fr, ⟨Af _, RowI.nil _ _ _ _⟩⟩
 exact Bj rfl (Bz (by first | (rw [(GP (by omega)).1]; done) | (rw [(Fq (by omega)).1]; done)))
theorem J0 (rn : Nat) : ∀ (w0 : World) (Z : Nat → Prop) (hZ : HZ w0 Z) (tA : Option Addr) (tc : Nat) (t : List Nd) (k : Int) (u : Int) (pA : Option Addr) (pc : Nat) (p : List Sl) (ht : N4 tA tc t w0 Z) (hp : (Bw 1 pA p.length pc (B7 p)).φ w0 Z) (hps : (Cl p).φ w0 Z) (hl : t.length ≤ 1000000) (hsm : sml t) (hb : BW t = true) (hu0 : 0 ≤ u) (hub : u + 2 * t.length ≤ 10000000) (hl4 : t.length ≤ 4000) (hp1 : p.length ≤ 1000) (hp2 : ∀ x ∈ Bt p, x.length ≤ 4000) (hp3 : ∀ x ∈ Bt p, sml x) (hk0 : 0 ≤ k) (hk1 : k ≤ 1000000) (hrn : t.length = rn),
    Calls Tryz.prog 160 [.slice tA t.length tc, .int .i64 k, .int .i64 u, .slice pA p.length pc].toArray w0 (fun e w' => ∃ (rA0 : Option Addr) (rc0 : Nat), e = .returned (.tuple #[.slice rA0 (trL (puV k (Bt p)) t u).length rc0, .int .i64 (E4 (puV k (Bt p)) t u)]) ∧ Fr A6 w0 w' ∧ (Bw 4 rA0 ((trL (puV k (Bt p)) t u).length) rc0 (Cd (trL (puV k (Bt p)) t u))).φ w' (nxt Z w0 w')) := by
 induction rn using Nat.strongRecOn
 rename_i rn ih
 intro w0 Z hZ tA tc t k u pA pc p ht hp hps hl hsm hb hu0 hub hl4 hp1 hp2 hp3 hk0 hk1 hrn
 have b0 := s0 (M := A6) hZ (zc ht (zc hp (zc hps zn)))
 have hp0 := Dy hb
 have hrt := Dn hb (show t.length - 1 < t.length by omega)
 have hbl := FO hrt
 have hbm := DU hrt
 have hpm := Cz hb
 have hpl4 := hp2
 refine AE Tryz.func160 rfl Tryz.ntmps160 rfl fun c0 d0 => ?_
 refine rR d0 fun c0 f0 => ?_
 refine wsc fun c0 d0 => mv f0 fun c0 h0 => ?_
 have c0 := b0.nf
 refine kra h0 c0 R3 (Dl _ _ c0.il _ _ _ (c0.g 0)) fun b0 f0 i0 j0 => ?_
 refine alc j0 f0 fun i0 b0 c0 h0 k0 => ?_
 refine sto 0 h0 k0 fun b0 i0 j0 f0 => ?_
 refine wn d0 <| Ac fun d0 i0 => rR j0 fun d0 b0 => ?_
 refine wcd b0 (fun d0 j0 => ?_) fun d0 k0 => ?_
 obtain ⟨b0, h0⟩ := Oh hb d0
 refine wsc fun h0 b0 => lR j0 fun h0 d0 => ?_
 refine sbi (((nth t (t.length - 1)).N) - u) d0 fun h0 j0 => ?_
 refine aw j0 b0 fun h0 d0 => ?_
 refine Ac fun b0 h0 => rR d0 fun b0 j0 => ?_
 refine wcd j0 (fun b0 d0 => ?_) fun b0 m0 => ?_
 refine rR d0 fun b0 j0 => ?_
 refine rt2 j0 ?_
 have j0 : trL (puV k (Bt p)) t u = t := (VU hb (by omega) (by omega)).2
 rw [j0]
 refine ⟨tA, tc, ?_, f0.fr, f0.rx 0⟩
 exact Bj rfl (Bz (by first | (rw [(VU hb (by omega) (by omega)).1]; done) | (rw [j0]; done)))
 refine Am <| xn h0 <| Ac fun h0 b0 => wsc fun h0 d0 => lR m0 fun h0 n0 => ?_
 refine adi (k + (p.length : Int)) n0 fun h0 m0 => ?_
 refine lR m0 fun h0 n0 => ?_
 refine wn d0 <| wcd n0 (fun d0 h0 => ?_) fun d0 m0 => ?_
 refine wsc fun d0 n0 => lR h0 fun d0 o0 => ?_
 refine sbi (((nth t (t.length - 1)).N) - u - k) o0 fun d0 h0 => ?_
 refine ix ((((nth t (t.length - 1)).N) - u - k).toNat) (((((nth t (t.length - 1)).N) - u - k).toNat) * 1) h0 (BD (t := p) (k := (((nth t (t.length - 1)).N) - u - k).toNat) (f0.row (i := 1) rfl).2 (by omega)).some_ fun d0 o0 => ?_
 refine lde 0 (((((nth t (t.length - 1)).N) - u - k).toNat) * 1) o0 (BD (t := p) (k := (((nth t (t.length - 1)).N) - u - k).toNat) (f0.row (i := 1) rfl).2 (by omega)) fun d0 h0 => ?_
 have d0 := f0.el 2 ((((nth t (t.length - 1)).N) - u - k).toNat)
 refine lR h0 fun o0 p0 => ?_
 refine adi (u + k) p0 fun o0 h0 => ?_
 have o0 := d0.nf
 refine krb h0 o0 ok69 (HH _ _ o0.il _ _ ((BF p ((((nth t (t.length - 1)).N) - u - k).toNat)).2.2) (u + k) 0 (o0.g 3) (hl := (Bo (hp2 _ (by rw [AQ]; exact CR (by rw [Bs]; omega))) (by omega))) (hsm := (hp3 _ (by rw [AQ]; exact CR (by rw [Bs]; omega))))) fun d0 p0 q0 t0 u0 v0 => ?_
 refine lR v0 fun u0 d0 => ?_
 refine wn n0 <| rt2 d0 ?_
 have d0 : trL (puV k (Bt p)) t u = sfA ((BF p ((((nth t (t.length - 1)).N) - u - k).toNat)).2.2) (u + k) 0 := by rw [(T6 hb (by omega) (by omega) (by rw [Bs]; omega)).2, AQ]; rfl
 rw [d0]
 refine ⟨p0, q0, ?_, t0.fr, t0.rx 4⟩
 exact Bj rfl (Bz (by first | (rw [(T6 hb (by omega) (by omega) (by rw [Bs]; omega)).1, AQ]; rfl) | (rw [(T7 hb (by omega) (by omega) (by rw [Bs]; omega)).1]; done) | (rw [hs1, hpe, hbl]; done)))
 refine Am <| xn b0 <| wsc fun b0 t0 => lR m0 fun b0 q0 => ?_
 refine sbi (((nth t (t.length - 1)).N) - (p.length : Int)) q0 fun b0 m0 => ?_
 refine bld m0 fun b0 q0 => ?_
 refine bsl q0 f0 fun b0 m0 p0 d0 n0 => ?_
 refine lR d0 fun m0 b0 => ?_
 refine wn t0 <| rt2 b0 ?_
 have b0 : trL (puV k (Bt p)) t u = [(⟨0, (((nth t (t.length - 1)).N) - (p.length : Int)), 0, (⟨#[]⟩ : ByteArray)⟩ : Nd)] := by rw [(T7 hb (by omega) (by omega) (by rw [Bs]; omega)).2, Bs]
 rw [b0]
 have b0 := n0.pub 1 (Bw 4 (some ⟨p0, 0, none⟩) 1 1 (Cd ([(⟨0, (((nth t (t.length - 1)).N) - (p.length : Int)), 0, (⟨#[]⟩ : ByteArray)⟩ : Nd)])))
 refine ⟨(some ⟨p0, 0, none⟩), 1, ?_, b0.fr, b0.rx 3⟩
 exact Bj rfl (Bz (by first | (rw [(T6 hb (by omega) (by omega) (by rw [Bs]; omega)).1, AQ]; rfl) | (rw [(T7 hb (by omega) (by omega) (by rw [Bs]; omega)).1]; done) | (rw [hs1, hpe, hbl]; done)))
 refine Am <| xn i0 <| wsc fun i0 b0 => lR k0 fun i0 p0 => ?_
 have i0 := f0.nf
 refine krb p0 i0 Wh (DO _ _ i0.il (nth t (t.length - 1)) (hs := (hsm _ (by omega)))) fun f0 k0 n0 t0 m0 d0 => ?_
 refine lR d0 fun m0 f0 => ?_
 refine wn b0 <| wsc fun b0 m0 => mv f0 fun b0 d0 => ?_
 have b0 := t0.nf
 refine krd d0 b0 R4 (CN _ _ b0.il _ _ _ (b0.g 0)) fun t0 f0 i0 p0 q0 u0 v0 o0 => ?_
 refine aw o0 m0 fun v0 t0 => ?_
 refine wsc fun m0 v0 => ?_
 have m0 := u0.data (Cl []) Cp
 refine bsl t0 m0 fun u0 o0 b0 d0 h0 => ?_
 refine aw d0 v0 fun o0 u0 => ?_
 refine Ac fun v0 o0 => rR u0 fun v0 d0 => ?_
 refine A4 ?_
 refine AH (fun gn ga gw => ∃ j : Nat, ∃ Ls : List Sl, ∃ Ao : Option Addr, ∃ co : Nat, (Reg ga 97 [(1000000, .bool false), (1, .int .i64 k), (2, .int .i64 u), (3, .slice pA p.length pc), (10, .pointer (some ⟨c0, 0, none⟩)), (12, .slice k0 ((BX (nth t (t.length - 1))).length) n0), (14, .slice f0 p0.length i0), (16, .int .i64 (j : Int)), (15, .slice Ao ((Ls).length) co)]) ∧ (St w0 Z A6 gw [.box c0 30 [.int .i64 ((nth t (t.length - 1)).K), .int .i64 ((nth t (t.length - 1)).N), .int .i64 ((nth t (t.length - 1)).M), .string ((nth t (t.length - 1)).S)], .row Ao ((Ls).length) co 22 1 (B7 Ls)] [n4 tA tc t, Bw 1 pA p.length pc (B7 p), Cl p, Bw 1 k0 ((BX (nth t (t.length - 1))).length) n0 (BN (BX (nth t (t.length - 1)))), Bw 1 f0 p0.length i0 (B7 p0), Cl p0, Cl Ls]) ∧ (j ≤ p0.length) ∧ (Bt Ls = MP (puV k (Bt p)) t u j) ∧ (K5 (puV k (Bt p)) t u j = 0) ∧ (p0.length - j) = gn) _ ⟨0, [], (some ⟨b0, 0, none⟩), 0, (d0.sub (rc4 (rc4 (rc rfl rnl)))), h0, by omega, by rw [(Iv _ _ _).2]; rfl, (Iv _ _ _).1, rfl⟩ ?_
 rintro d0 h0 b0 ⟨j, Ls, Ao, co, i0, f0, hj, hL, hE, n0⟩
 have hrl : p0.length = (ptL t).length := by rw [← Bs, q0]
 have hp8 := Md hb
 have hbj : 0 ≤ Ci (BX (nth t (t.length - 1))) j ∧ Ci (BX (nth t (t.length - 1))) j ≤ 2 := by rw [hbl]; exact Hp j
 have hLn : Ls.length = j := by rw [← Bs, hL]; exact Ol hb (by omega)
 refine Ac fun n0 b0 => rR i0 fun n0 h0 => ?_
 rcases Cb ((j : Int) < (p0.length : Int)) with n0 | n0
 obtain ⟨hpe, hpk, hpb, hpl, hps, hp0'⟩ := KQ hb hsm q0 (show j < p0.length by omega)
 refine wct h0 (Aw n0) fun q0 => ?_
 refine Am <| xn b0 <| Ac fun b0 i0 => A4 ?_
 refine Ac fun b0 d0 => ?_
 obtain ⟨b0, k0, v0⟩ := f0.agree
 refine Cj (n := 18) v0 7 pn (A5 (B3 (A5 (A5 (B3 (A5 BC)))))) fun b0 u0 m0 t0 x0 y0 => ?_
 refine dR [0, 1] q0 fun t0 b0 => ?_
 refine dix 2 j (j * 1) b0 (fun x hx => (BD (t := p0) (k := j) (D6 (k0 4 _ rfl) hx.ag).2 (by omega)).some_) fun t0 q0 => ?_
 refine dle 3 0 (j * 1) q0 (fun x hx => BD (t := p0) (k := j) (D6 (k0 4 _ rfl) hx.ag).2 (by omega)) fun t0 b0 => ?_
 have t0 := x0.el 5 j
 refine dR [4, 5, 6, 7] b0 fun x0 q0 => ?_
 refine dix 8 j (j * 1) q0 (fun x hx => (Ds (t := BX (nth t (t.length - 1))) (k := j) (D6 (k0 3 _ rfl) hx.ag).2 (by omega)).some_) fun x0 b0 => ?_
 refine dle 9 0 (j * 1) b0 (fun x hx => Ds (t := BX (nth t (t.length - 1))) (k := j) (D6 (k0 3 _ rfl) hx.ag).2 (by omega)) fun x0 q0 => ?_
 refine dt 10 rfl u0 q0 (AJ rfl) (fun x hx => IB (z := (u + (Ci (BX (nth t (t.length - 1))) j))) (sy q0) q0 rfl rfl rfl rfl (by decide) (by omega) (by omega) (by omega) gt) y0 fun x0 b0 => ?_
 refine dR [11] b0 fun x0 q0 => ?_
 refine d1 12 ?_
 have x0 := t0.nf
 refine kcl q0 ok160 (ih (((BF p0 j).2.2).length) (by omega) _ (imm Z w0 [.box c0 30 [.int .i64 ((nth t (t.length - 1)).K), .int .i64 ((nth t (t.length - 1)).N), .int .i64 ((nth t (t.length - 1)).M), .string ((nth t (t.length - 1)).S)], .row Ao ((Ls).length) co 22 1 (B7 Ls)] _) (fun _ h => h.1) _ _ ((BF p0 j).2.2) k (u + (Ci (BX (nth t (t.length - 1))) j)) _ _ _ (x0.g 8) (x0.g 1) (x0.g 2) (by omega) (by assumption) (by assumption) (by omega) (by omega) (by omega) (by assumption) (by assumption) (by assumption) (by assumption) (by assumption) rfl) ?_
 rintro q0 c0 ⟨t0, b0, rfl, y0, u0⟩
 have c0 := x0.below y0.below
 have y0 := x0.dN c0 u0
 refine ⟨_, rfl, fun c0 u0 => ?_⟩
 have c0 := sWI y0 7 pn
 refine ⟨c0, ?_⟩
 refine dR [13, 14, 15, 16, 17] u0 fun c0 x0 => ?_
 refine AL (by kernel_rfl) (m0 _ _ ?_) _
 refine xn d0 <| Ac fun d0 m0 => rR x0 fun d0 c0 => ?_
 refine wce c0 (fun d0 x0 => ?_) fun d0 u0 => ?_
 obtain ⟨hs1, hs2⟩ := Qw (V := puV k (Bt p)) (u := u) hb hpk hE (by rw [← hpe, ← hbl]; exact d0)
 refine Am <| xn m0 <| A0 ?_
 refine lR x0 fun m0 c0 => ?_
 have m0 := y0.data (Cl [((t0, b0, trL (puV k (Bt p)) ((BF p0 j).2.2) (u + (Ci (BX (nth t (t.length - 1))) j))) : Sl)]) (Cy (y0.get (i := 9) rfl) Cp)
 refine bsl c0 m0 fun x0 q0 k0 v0 z0 => ?_
 refine BL (f := FK) (i := 1) Ls ([((t0, b0, trL (puV k (Bt p)) ((BF p0 j).2.2) (u + (Ci (BX (nth t (t.length - 1))) j))) : Sl)]) sv v0 z0 rfl rfl rfl rfl rfl Dc (D7 _) Be L3 rfl rfl (BU (f := FK) (z0.res (i := 2) rfl)) rfl (by (simp only [Ad, Aj]; omega)) (by decide) fun k0 q0 x0 m0 c0 b1 c1 => ?_
 have c0 : (Ls ++ ([((t0, b0, trL (puV k (Bt p)) ((BF p0 j).2.2) (u + (Ci (BX (nth t (t.length - 1))) j))) : Sl)]) : List Sl).length = (Ls).length + 1 := by (simp only [Ab, Ah, Ad, Aj]; done)
 have c0 := c1.erase 2
 have c1 := c0.data (Cl (Ls ++ ([((t0, b0, trL (puV k (Bt p)) ((BF p0 j).2.2) (u + (Ci (BX (nth t (t.length - 1))) j))) : Sl)]))) (CH (c0.get (i := 6) rfl) (c0.get (i := 10) rfl))
 refine asg b1 fun c0 q0 => ?_
 refine Ae ?_
 refine A7 <| xn i0 <| A0 ?_
 refine mv q0 fun i0 c0 => ?_
 refine adi ((j + 1 : Nat) : Int) c0 fun i0 q0 => ?_
 refine asg q0 fun i0 c0 => ?_
 refine Ae ?_
 have i0 := c1.forget 10
 have c1 := i0.forget 9
 have i0 := c1.forget 8
 have c1 := i0.forget 7
 have i0 := c1.forget 6
 exact ⟨_, by omega, j + 1, Ls ++ ([((t0, b0, trL (puV k (Bt p)) ((BF p0 j).2.2) (u + (Ci (BX (nth t (t.length - 1))) j))) : Sl)]), x0, m0, (c0.sub (rc4 (rc4 (rc rfl rnl)))), i0, by omega, (by rw [Er, Gr, hL, hs2, hpe, hbl]), hs1, rfl⟩
 obtain ⟨hs1, hs2⟩ := UA (V := puV k (Bt p)) (u := u) hb hpk hE (by rw [← hpe, ← hbl]; exact d0)
 refine rR u0 fun d0 i0 => ?_
 refine rt2 i0 ?_
 have i0 : trL (puV k (Bt p)) t u = [] := hs2
 rw [i0]
 refine ⟨none, 0, ?_, y0.fr, ⟨Af _, RowI.nil _ _ _ _⟩⟩
 exact Bj rfl (Bz (by first | (rw [(T6 hb (by omega) (by omega) (by rw [Bs]; omega)).1, AQ]; rfl) | (rw [(T7 hb (by omega) (by omega) (by rw [Bs]; omega)).1]; done) | (rw [hs1, hpe, hbl]; done)))
 have hj2 : j = (ptL t).length := by omega
 rw [hj2] at hE hL
 have hvv : (nth t (t.length - 1)).K = 0 → (puV k (Bt p)) (nth t (t.length - 1)) u = (0, .mk (nth t (t.length - 1)) []) := by intro hk; omega
 obtain ⟨j0, y0⟩ := Q1 hb hvv hE
 have hdn := tr_nm (V := puV k (Bt p)) (b := 4000) (by omega) (Re (by omega) hpl4) hb hvv hE
 refine wcf h0 (Ai n0) fun i0 => ?_
 refine xe ?_
 refine xn o0 <| wsc fun o0 n0 => lR i0 fun o0 h0 => ?_
 have o0 := f0.nf
 have f0 := o0.pub 1 (Bw 1 Ao ((Ls).length) co (B7 Ls))
 refine krb h0 f0 ok68 (GV _ _ f0.il (nth t (t.length - 1)) _ _ _ (f0.g 7) (f0.g 6) (hl := (by omega)) (hb := (by rw [hL]; omega))) fun o0 i0 d0 u0 c0 m0 => ?_
 refine lR m0 fun c0 o0 => ?_
 refine wn n0 <| rt2 o0 ?_
 have o0 : trL (puV k (Bt p)) t u = (Bt Ls).flatten ++ [(nth t (t.length - 1))] := by rw [y0, hL]
 rw [o0]
 refine ⟨i0, d0, ?_, u0.fr, u0.rx 8⟩
 exact Bj rfl (Bz (by first | (rw [(VU hb (by omega) (by omega)).1]; done) | (rw [j0]; done)))
theorem Px (w0 : World) (Z : Nat → Prop) (hZ : HZ w0 Z) (tA : Option Addr) (tc : Nat) (t : List Nd) (k : Int) (u : Int) (pA : Option Addr) (pc : Nat) (p : List Sl) (ht : N4 tA tc t w0 Z) (hp : (Bw 1 pA p.length pc (B7 p)).φ w0 Z) (hps : (Cl p).φ w0 Z) (hl : t.length ≤ 1000000 := by exact ax) (hsm : sml t := by exact ax) (hb : BW t = true := by exact ax) (hu0 : 0 ≤ u := by exact ax) (hub : u + 2 * t.length ≤ 10000000 := by exact ax) (hl4 : t.length ≤ 4000 := by exact ax) (hp1 : p.length ≤ 1000 := by exact ax) (hp2 : ∀ x ∈ Bt p, x.length ≤ 4000 := by exact ax) (hp3 : ∀ x ∈ Bt p, sml x := by exact ax) (hk0 : 0 ≤ k := by exact ax) (hk1 : k ≤ 1000000 := by exact ax) :
    Calls Tryz.prog 160 [.slice tA t.length tc, .int .i64 k, .int .i64 u, .slice pA p.length pc].toArray w0 (fun e w' => ∃ (rA0 : Option Addr) (rc0 : Nat), e = .returned (.tuple #[.slice rA0 (trL (puV k (Bt p)) t u).length rc0, .int .i64 (E4 (puV k (Bt p)) t u)]) ∧ Fr A6 w0 w' ∧ (Bw 4 rA0 ((trL (puV k (Bt p)) t u).length) rc0 (Cd (trL (puV k (Bt p)) t u))).φ w' (nxt Z w0 w')) := J0 _ w0 Z hZ tA tc t k u pA pc p ht hp hps hl hsm hb hu0 hub hl4 hp1 hp2 hp3 hk0 hk1 rfl
theorem P5 (w0 : World) (Z : Nat → Prop) (hZ : HZ w0 Z) (tA : Option Addr) (tc : Nat) (t : List Nd) (k : Int) (pA : Option Addr) (pc : Nat) (p : List Sl) (ht : N4 tA tc t w0 Z) (hp : (Bw 1 pA p.length pc (B7 p)).φ w0 Z) (hps : (Cl p).φ w0 Z) (hl : t.length ≤ 1000000 := by exact ax) (hsm : sml t := by exact ax) (hb : BW t = true := by exact ax) (hl4 : t.length ≤ 4000 := by exact ax) (hp1 : p.length ≤ 1000 := by exact ax) (hp2 : ∀ x ∈ Bt p, x.length ≤ 4000 := by exact ax) (hp3 : ∀ x ∈ Bt p, sml x := by exact ax) (hk0 : 0 ≤ k := by exact ax) (hk1 : k ≤ 1000000 := by exact ax) :
    Calls Tryz.prog 152 [.slice tA t.length tc, .int .i64 k, .slice pA p.length pc].toArray w0 (fun e w' => ∃ (rA0 : Option Addr) (rc0 : Nat), e = .returned (.tuple #[.slice rA0 (poA t k (Bt p)).length rc0, .int .i64 (poE t k (Bt p))]) ∧ Fr A6 w0 w' ∧ N4 rA0 rc0 (poA t k (Bt p)) w' (nxt Z w0 w')) := by
 have b0 := s0 (M := A6) hZ (zc ht (zc hp (zc hps zn)))
 have hxl := MS (b := 4000) (by omega) (Re (k := k) (by omega) hp2) hb 0
 have hxs := K3 (Nr (k := k) hp3) hb hsm 0
 refine AE Tryz.func152 rfl Tryz.ntmps152 rfl fun c0 d0 => ?_
 refine rR d0 fun c0 f0 => ?_
 refine wsc fun c0 d0 => lR f0 fun c0 h0 => ?_
 have c0 := b0.nf
 refine krb h0 c0 ok160 (Px _ _ c0.il _ _ _ k 0 _ _ _ (c0.g 0) (c0.g 1) (c0.g 2)) fun b0 f0 i0 j0 k0 m0 => ?_
 refine lR m0 fun k0 b0 => ?_
 refine wn d0 <| Ac fun d0 k0 => rR b0 fun d0 m0 => ?_
 refine wcd m0 (fun d0 b0 => ?_) fun d0 c0 => ?_
 refine A0 ?_
 refine mv b0 fun m0 h0 => ?_
 have m0 := j0.nf
 refine kra h0 m0 Th (De _ _ m0.il _ _ (trL (puV k (Bt p)) t 0) (m0.g 3)) fun b0 n0 o0 p0 => ?_
 refine aw p0 k0 fun o0 b0 => ?_
 refine Ac fun o0 p0 => rR b0 fun o0 m0 => ?_
 refine wce m0 (fun o0 b0 => ?_) fun o0 h0 => ?_
 refine Am <| xn p0 <| rR b0 fun p0 o0 => ?_
 refine rt2 o0 ?_
 have o0 : poA t k (Bt p) = trL (puV k (Bt p)) t 0 := by rw [(GY (by omega)).2, At (by omega)]
 rw [o0]
 refine ⟨f0, i0, ?_, n0.fr, n0.rx 3⟩
 exact Bj rfl (Bz (by first | (rw [(GY (by omega)).1]; done) | (rw [(GY (by omega)).1]; omega)))
 refine rR h0 fun i0 f0 => ?_
 refine rt2 f0 ?_
 have f0 : poA t k (Bt p) = [] := by (rw [(GY (by omega)).2, Aq (by omega)])
 rw [f0]
 refine ⟨none, 0, ?_, n0.fr, ⟨Af _, RowI.nil _ _ _ _⟩⟩
 exact Bj rfl (Bz (by first | (rw [(GY (by omega)).1]; done) | (rw [(GY (by omega)).1]; omega)))
 refine Am <| xn k0 <| Ac fun k0 n0 => rR c0 fun n0 k0 => ?_
 refine wctb k0 rfl (by rw [(Ai d0)]; rfl) fun n0 => ?_
 refine rR n0 fun k0 d0 => ?_
 refine rt2 d0 ?_
 have d0 : poA t k (Bt p) = [] := by exact (Ro (by omega)).2
 rw [d0]
 refine ⟨none, 0, ?_, j0.fr, ⟨Af _, RowI.nil _ _ _ _⟩⟩
 exact Bj rfl (Bz (by (rw [(Ro (by omega)).1]; done)))
theorem Jo (w0 : World) (Z : Nat → Prop) (hZ : HZ w0 Z) (n : Nd)  :
    Calls Tryz.prog 103 [.agg #[.int .i64 (n.K), .int .i64 (n.N), .int .i64 (n.M), .string n.S]].toArray w0 (fun e w' => ∃ (rA0 : Option Addr) (rc0 : Nat) (rL0 : List Nd), e = .returned (.agg #[.slice rA0 rL0.length rc0, .int .i64 (0)]) ∧ Fr A6 w0 w' ∧ N4 rA0 rc0 rL0 w' (nxt Z w0 w') ∧ rL0 = [n]) := by
 have b0 := s0 (M := A6) hZ zn
 refine AE Tryz.func103 rfl Tryz.ntmps103 rfl fun c0 d0 => ?_
 refine wsc fun c0 f0 => bxx d0 b0 fun c0 h0 i0 j0 k0 => ?_
 refine alc j0 k0 fun i0 h0 c0 d0 b0 => ?_
 refine wn f0 <| wsc fun f0 c0 => lR d0 fun f0 h0 => ?_
 refine bsl h0 b0 fun f0 d0 i0 k0 j0 => ?_
 refine bld k0 fun d0 f0 => ?_
 refine sto 1 f0 j0 fun d0 k0 h0 b0 => ?_
 refine wn c0 <| BV ?_
 have c0 := b0.pub 2 (Bw 4 (some ⟨i0, 0, none⟩) 1 1 (Cd ([n])))
 refine Ev (i := 1) (vs := [.slice (some ⟨i0, 0, none⟩) 1 1, .int .i64 0]) (.inl rfl) h0 c0 rfl rfl rfl rfl AO rfl Hs ?_
 refine ⟨(some ⟨i0, 0, none⟩), 1, ([n]), ?_, c0.fr, c0.rx 0, (by rfl)⟩
 exact cre (Gw (by rfl) (by rfl))
theorem NY (w0 : World) (Z : Nat → Prop) (hZ : HZ w0 Z)   :
    Calls Tryz.prog 65 [].toArray w0 (fun e w' => ∃ (rA0 : Option Addr) (rc0 : Nat) (rL0 : List Nd), e = .returned (.agg #[.slice rA0 rL0.length rc0, .int .i64 (0)]) ∧ Fr A6 w0 w' ∧ N4 rA0 rc0 rL0 w' (nxt Z w0 w') ∧ rL0 = [⟨29, 0, 0, ⟨#[]⟩⟩]) := by
 have b0 := s0 (M := A6) hZ zn
 refine AE Tryz.func65 rfl Tryz.ntmps65 rfl fun c0 d0 => ?_
 refine wsc fun c0 f0 => alc d0 b0 fun c0 h0 i0 j0 k0 => ?_
 refine wn f0 <| wsc fun f0 i0 => bld j0 fun f0 h0 => ?_
 have f0 := k0.nf
 refine krc h0 f0 ok103 (Jo _ _ f0.il (⟨29, 0, 0, (⟨#[]⟩ : ByteArray)⟩ : Nd)) fun k0 j0 c0 d0 b0 m0 n0 o0 => ?_
 refine sto 0 o0 m0 fun n0 k0 f0 h0 => ?_
 refine wn i0 <| BV <| Ev (i := 0) (vs := [.slice j0 d0.length c0, .int .i64 (0)]) (.inl rfl) f0 h0 rfl rfl rfl rfl AO rfl Hs ?_
 refine ⟨j0, c0, d0, ?_, h0.fr, h0.rx 0, b0⟩
 exact cre (Gw (by rfl) (by rfl))
theorem Qf (w0 : World) (Z : Nat → Prop) (hZ : HZ w0 Z) (n : Int)  :
    Calls Tryz.prog 66 [.int .i64 n].toArray w0 (fun e w' => ∃ (rA0 : Option Addr) (rc0 : Nat) (rL0 : List Nd), e = .returned (.agg #[.slice rA0 rL0.length rc0, .int .i64 (0)]) ∧ Fr A6 w0 w' ∧ N4 rA0 rc0 rL0 w' (nxt Z w0 w') ∧ rL0 = [⟨0, n, 0, ⟨#[]⟩⟩]) := by
 have b0 := s0 (M := A6) hZ zn
 refine AE Tryz.func66 rfl Tryz.ntmps66 rfl fun c0 d0 => ?_
 refine wsc fun c0 f0 => alc d0 b0 fun c0 h0 i0 j0 k0 => ?_
 refine wn f0 <| wsc fun f0 i0 => mv j0 fun f0 h0 => ?_
 refine bld h0 fun f0 j0 => ?_
 have f0 := k0.nf
 refine krc j0 f0 ok103 (Jo _ _ f0.il (⟨0, n, 0, (⟨#[]⟩ : ByteArray)⟩ : Nd)) fun k0 h0 c0 d0 b0 m0 n0 o0 => ?_
 refine sto 0 o0 m0 fun n0 k0 f0 j0 => ?_
 refine wn i0 <| BV <| Ev (i := 0) (vs := [.slice h0 d0.length c0, .int .i64 (0)]) (.inl rfl) f0 j0 rfl rfl rfl rfl AO rfl Hs ?_
 refine ⟨h0, c0, d0, ?_, j0.fr, j0.rx 0, b0⟩
 exact cre (Gw (by rfl) (by rfl))
theorem ME (w0 : World) (Z : Nat → Prop) (hZ : HZ w0 Z) (n : Nd) (lA : Option Addr) (lc : Nat) (l : List Bu) (hl : (Bw 2 lA l.length lc (Hn l)).φ w0 Z) (hls : (Fo l).φ w0 Z) (hln : l.length ≤ 10 := by exact ax) (hbn : ∀ x ∈ EG l, x.1.length ≤ 1000000 := by exact ax) :
    Calls Tryz.prog 29 [.agg #[.int .i64 (n.K), .int .i64 (n.N), .int .i64 (n.M), .string n.S], .slice lA l.length lc].toArray w0 (fun e w' => ∃ (rA0 : Option Addr) (rc0 : Nat) (rL0 : List Nd), e = .returned (.agg #[.slice rA0 rL0.length rc0, .int .i64 ((bOf n (EG l)).2)]) ∧ Fr A6 w0 w' ∧ N4 rA0 rc0 rL0 w' (nxt Z w0 w') ∧ rL0 = (bOf n (EG l)).1) := by
 have b0 := s0 (M := A6) hZ (zc hl (zc hls zn))
 refine AE Tryz.func29 rfl Tryz.ntmps29 rfl fun c0 d0 => ?_
 refine wsc fun c0 f0 => bxx d0 b0 fun c0 h0 i0 j0 k0 => ?_
 refine alc j0 k0 fun h0 c0 d0 b0 m0 => ?_
 refine wn f0 <| wsc fun f0 c0 => ?_
 have f0 := m0.data (Cl []) Cp
 refine bsl b0 f0 fun m0 h0 k0 j0 n0 => ?_
 refine aw j0 c0 fun h0 m0 => ?_
 refine Ac fun c0 h0 => rR m0 fun c0 j0 => ?_
 refine A4 ?_
 refine AH (fun gn ga gw => ∃ k : Nat, ∃ Ys : List Sl, ∃ yA : Option Addr, ∃ yc : Nat, (Reg ga 38 [(1000000, .bool false), (1, .slice lA l.length lc), (2, .pointer (some ⟨i0, 0, none⟩)), (4, .pointer (some ⟨d0, 0, none⟩)), (6, .int .i64 (k : Int)), (5, .slice yA ((Ys).length) yc)]) ∧ (St w0 Z A6 gw [.box i0 30 [.int .i64 (n.K), .int .i64 (n.N), .int .i64 (n.M), .string n.S], .box d0 65 [.slice none 0 0, .int .i64 0], .row yA ((Ys).length) yc 22 1 (B7 Ys)] [Bw 2 lA l.length lc (Hn l), Fo l, Cl Ys]) ∧ (k ≤ l.length) ∧ (∀ i, i < k → (DR l i).2 = 0) ∧ (Bt Ys = (EG (l.take k)).map (·.1)) ∧ (l.length - k) = gn) _ ⟨0, [], (some ⟨k0, 0, none⟩), 0, (j0.sub (rc4 (rc rfl (rc rfl rnl)))), n0, by omega, (fun _ h => by omega), rfl, rfl⟩ ?_
 rintro j0 n0 k0 ⟨k, Ys, yA, yc, d0, i0, hk, hE, hYs, c0⟩
 have hyl : Ys.length = k := by rw [← Bs, hYs, BT, Fe, Ah]; omega
 refine Ac fun c0 k0 => rR d0 fun c0 n0 => ?_
 refine wcd n0 (fun c0 d0 => ?_) fun c0 j0 => ?_
 refine Am <| xn k0 <| Ac fun k0 c0 => A4 ?_
 refine Ac fun k0 n0 => wsc fun k0 m0 => lR d0 fun k0 f0 => ?_
 refine ix k (k * 2) f0 (DM (t := l) (k := k) (i0.row (i := 0) rfl).2 (by omega)).some_ fun k0 d0 => ?_
 refine CB (j' := k * 2 + 1) sv d0 rfl rfl rfl (DM (t := l) (k := k) (i0.row (i := 0) rfl).2 (by omega)).some_ AO rfl V6 rfl rfl (by decide) fun k0 f0 => ?_
 refine lde 1 (k * 2) f0 (DM (t := l) (k := k) (i0.row (i := 0) rfl).2 (by omega)) fun k0 d0 => ?_
 refine lR d0 fun k0 f0 => ?_
 refine wn m0 <| wce f0 (fun m0 k0 => ?_) fun m0 d0 => ?_
 refine Am <| xn n0 <| A0 ?_
 refine lR k0 fun n0 f0 => ?_
 refine ix k (k * 2) f0 (DM (t := l) (k := k) (i0.row (i := 0) rfl).2 (by omega)).some_ fun n0 k0 => ?_
 refine CB (j' := k * 2) sv k0 rfl rfl rfl (DM (t := l) (k := k) (i0.row (i := 0) rfl).2 (by omega)).some_ AO rfl LG rfl rfl (by decide) fun n0 f0 => ?_
 refine lde 0 (k * 2) f0 (DM (t := l) (k := k) (i0.row (i := 0) rfl).2 (by omega)) fun n0 k0 => ?_
 have n0 := i0.elU 1 k
 have f0 := n0.data (Cl [(((DR l k).1.1, (DR l k).1.2.1, (DR l k).1.2.2) : Sl)]) (Cy (n0.get (i := 3) rfl) Cp)
 refine bsl k0 f0 fun n0 b0 o0 p0 q0 => ?_
 refine BL (f := FK) (i := 2) Ys ([(((DR l k).1.1, (DR l k).1.2.1, (DR l k).1.2.2) : Sl)]) sv p0 q0 rfl rfl rfl rfl rfl Dc (D7 _) Be L3 rfl rfl (BU (f := FK) (q0.res (i := 3) rfl)) rfl (by (simp only [Ad, Aj]; omega)) (by decide) fun o0 b0 n0 f0 k0 t0 u0 => ?_
 have k0 : (Ys ++ ([(((DR l k).1.1, (DR l k).1.2.1, (DR l k).1.2.2) : Sl)]) : List Sl).length = (Ys).length + 1 := by (simp only [Ab, Ah, Ad, Aj]; done)
 have k0 := u0.erase 3
 have u0 := k0.data (Cl (Ys ++ ([(((DR l k).1.1, (DR l k).1.2.1, (DR l k).1.2.2) : Sl)]))) (CH (k0.get (i := 2) rfl) (k0.get (i := 4) rfl))
 refine asg t0 fun k0 b0 => ?_
 refine Ae ?_
 refine A7 <| xn c0 <| A0 ?_
 refine mv b0 fun c0 k0 => ?_
 refine adi ((k + 1 : Nat) : Int) k0 fun c0 b0 => ?_
 refine asg b0 fun c0 k0 => ?_
 refine Ae ?_
 have c0 := u0.forget 4
 have u0 := c0.forget 3
 have c0 := u0.forget 2
 exact ⟨_, by omega, k + 1, Ys ++ ([(((DR l k).1.1, (DR l k).1.2.1, (DR l k).1.2.2) : Sl)]), n0, f0, (k0.sub (rc4 (rc rfl (rc rfl rnl)))), c0, by omega, U6 hE (by assumption), by rw [Er, hYs, MH (by omega)]; rfl, rfl⟩
 refine wsc fun c0 k0 => lR d0 fun c0 f0 => ?_
 refine ix k (k * 2) f0 (DM (t := l) (k := k) (i0.row (i := 0) rfl).2 (by omega)).some_ fun c0 d0 => ?_
 refine CB (j' := k * 2 + 1) sv d0 rfl rfl rfl (DM (t := l) (k := k) (i0.row (i := 0) rfl).2 (by omega)).some_ AO rfl V6 rfl rfl (by decide) fun c0 f0 => ?_
 refine lde 1 (k * 2) f0 (DM (t := l) (k := k) (i0.row (i := 0) rfl).2 (by omega)) fun c0 d0 => ?_
 refine bld d0 fun c0 f0 => ?_
 refine sto 1 f0 i0 fun c0 d0 n0 u0 => ?_
 refine wn k0 <| BV <| AX <| Bf <| AX <| AX <| Bf <| AX <| Ev (i := 1) (vs := [.slice none 0 0, .int .i64 ((DR l k).2)]) (.inl rfl) n0 u0 rfl rfl rfl rfl AO rfl Hs ?_
 refine ⟨none, 0, [], ?_, u0.fr, ⟨Af _, RowI.nil _ _ _ _⟩, (by rw [SL hE (by omega) m0])⟩
 exact cre (Gw (by rfl) (by rw [SL hE (by omega) m0]))
 refine xe ?_
 refine xn h0 <| wsc fun h0 m0 => lR j0 fun h0 u0 => ?_
 have h0 := i0.nf
 have i0 := h0.pub 2 (Bw 1 yA ((Ys).length) yc (B7 Ys))
 refine krb u0 i0 ok68 (GV _ _ i0.il n _ _ _ (i0.g 3) (i0.g 2) (hl := (by omega)) (hb := (by rw [hYs]; exact WW hbn hln (by omega)))) fun h0 j0 n0 k0 d0 c0 => ?_
 refine bld c0 fun d0 h0 => ?_
 refine sto 1 h0 k0 fun d0 c0 i0 u0 => ?_
 refine wn m0 <| BV <| Ev (i := 1) (vs := [.slice j0 (((Bt Ys).flatten ++ [n]).length) n0, .int .i64 0]) (.inl rfl) i0 u0 rfl rfl rfl rfl AO rfl Hs ?_
 refine ⟨j0, n0, ((Bt Ys).flatten ++ [n]), ?_, u0.fr, u0.rx 4, (by rw [Vu (fun i hi => hE i (by omega)), hYs, AM (by omega)])⟩
 exact cre (Gw (by rfl) (by rw [Vu (fun i hi => hE i (by omega))]))
theorem Gu (w0 : World) (Z : Nat → Prop) (hZ : HZ w0 Z) (kk : Int) (nn : Int) (aA : Option Addr) (ac : Nat) (a : List Nd) (ae : Int) (bA : Option Addr) (bc : Nat) (b : List Nd) (be : Int) (ha : N4 aA ac a w0 Z) (hb : N4 bA bc b w0 Z) (hla : a.length ≤ 1000000 := by exact ax) (hlb : b.length ≤ 1000000 := by exact ax) :
    Calls Tryz.prog 30 [.int .i64 kk, .int .i64 nn, .agg #[.slice aA a.length ac, .int .i64 ae], .agg #[.slice bA b.length bc, .int .i64 be]].toArray w0 (fun e w' => ∃ (rA0 : Option Addr) (rc0 : Nat) (rL0 : List Nd), e = .returned (.agg #[.slice rA0 rL0.length rc0, .int .i64 ((bOf ⟨kk, nn, 0, ⟨#[]⟩⟩ [(a, ae), (b, be)]).2)]) ∧ Fr A6 w0 w' ∧ N4 rA0 rc0 rL0 w' (nxt Z w0 w') ∧ rL0 = (bOf ⟨kk, nn, 0, ⟨#[]⟩⟩ [(a, ae), (b, be)]).1) := by
 have b0 := s0 (M := A6) hZ (zc ha (zc hb zn))
 refine AE Tryz.func30 rfl Tryz.ntmps30 rfl fun c0 d0 => ?_
 refine wsc fun c0 f0 => bxx d0 b0 fun c0 h0 i0 j0 k0 => ?_
 refine bxx j0 k0 fun i0 h0 c0 d0 b0 => ?_
 refine alc d0 b0 fun c0 h0 i0 k0 j0 => ?_
 refine wn f0 <| wsc fun f0 i0 => lR k0 fun f0 h0 => ?_
 refine bld h0 fun f0 k0 => ?_
 refine lR k0 fun f0 h0 => ?_
 have f0 := j0.data (Fo [((((aA, ac, a) : Sl), (ae : Int)) : Bu), ((((bA, bc, b) : Sl), (be : Int)) : Bu)]) (Hr (j0.get (i := 0) rfl) (Hr (j0.get (i := 1) rfl) Ir))
 refine bsl h0 f0 fun j0 k0 c0 b0 d0 => ?_
 have k0 := d0.nf
 have d0 := k0.pub 3 (Bw 2 (some ⟨c0, 0, none⟩) 2 2 (Hn ([((((aA, ac, a) : Sl), (ae : Int)) : Bu), ((((bA, bc, b) : Sl), (be : Int)) : Bu)])))
 refine krc b0 d0 ok29 (ME _ _ d0.il (⟨kk, nn, 0, (⟨#[]⟩ : ByteArray)⟩ : Nd) _ _ ([((((aA, ac, a) : Sl), (ae : Int)) : Bu), ((((bA, bc, b) : Sl), (be : Int)) : Bu)]) (d0.g 3) (d0.g 2) (hln := (by simp)) (hbn := (by intro x hx; simp only [Jn, Ly, AD, AG, or_false] at hx; rcases hx with rfl | rfl; exact hla; exact hlb))) fun k0 c0 j0 f0 h0 m0 n0 o0 => ?_
 refine sto 2 o0 m0 fun n0 k0 d0 b0 => ?_
 refine wn i0 <| BV <| Ev (i := 2) (vs := [.slice c0 f0.length j0, .int .i64 ((bOf (⟨kk, nn, 0, (⟨#[]⟩ : ByteArray)⟩ : Nd) (EG ([((((aA, ac, a) : Sl), (ae : Int)) : Bu), ((((bA, bc, b) : Sl), (be : Int)) : Bu)]))).2)]) (.inl rfl) d0 b0 rfl rfl rfl rfl AO rfl Hs ?_
 refine ⟨c0, j0, f0, ?_, b0.fr, b0.rx 4, h0⟩
 exact cre (Gw (by rfl) (by rfl))
theorem Jm (w0 : World) (Z : Nat → Prop) (hZ : HZ w0 Z) (aA : Option Addr) (ac : Nat) (a : List Nd) (ae : Int) (n : Int) (k : Int) (ha : N4 aA ac a w0 Z) (hla : a.length ≤ 1000000 := by exact ax) (hsa : sml a := by exact ax) :
    Calls Tryz.prog 31 [.agg #[.slice aA a.length ac, .int .i64 ae], .int .i64 n, .int .i64 k].toArray w0 (fun e w' => ∃ (rA0 : Option Addr) (rc0 : Nat) (rL0 : List Nd), e = .returned (.agg #[.slice rA0 rL0.length rc0, .int .i64 ((bUp (a, ae) n k).2)]) ∧ Fr A6 w0 w' ∧ N4 rA0 rc0 rL0 w' (nxt Z w0 w') ∧ rL0 = (bUp (a, ae) n k).1) := by
 have b0 := s0 (M := A6) hZ (zc ha zn)
 refine AE Tryz.func31 rfl Tryz.ntmps31 rfl fun c0 d0 => ?_
 refine wsc fun c0 f0 => bxx d0 b0 fun c0 h0 i0 j0 k0 => ?_
 refine alc j0 k0 fun i0 h0 c0 d0 b0 => ?_
 refine wn f0 <| Ac fun f0 c0 => rR d0 fun f0 h0 => ?_
 refine wce h0 (fun f0 d0 => ?_) fun f0 i0 => ?_
 refine Am <| xn c0 <| wsc fun c0 h0 => lR d0 fun c0 k0 => ?_
 have c0 := b0.nf
 refine krb k0 c0 ok69 (HH _ _ c0.il _ _ _ n k (c0.g 0) (hl := hla) (hsm := hsa)) fun d0 j0 m0 n0 o0 p0 => ?_
 refine lR p0 fun o0 d0 => ?_
 refine wn h0 <| wsc fun h0 o0 => lR d0 fun h0 p0 => ?_
 refine bld p0 fun h0 d0 => ?_
 refine sto 1 d0 n0 fun h0 p0 c0 k0 => ?_
 refine wn o0 <| BV <| Ev (i := 1) (vs := [.slice j0 ((sfA a n k).length) m0, .int .i64 (sfE a n k)]) (.inl rfl) c0 k0 rfl rfl rfl rfl AO rfl Hs ?_
 refine ⟨j0, m0, (sfA a n k), ?_, k0.fr, k0.rx 1, (by unfold bUp; rw [At f0])⟩
 exact cre (Gw (by rfl) (by (unfold bUp; rw [At f0])))
 refine wsc fun k0 m0 => lR i0 fun k0 j0 => ?_
 refine sto 1 j0 b0 fun k0 i0 c0 o0 => ?_
 refine wn m0 <| BV <| AX <| Ev (i := 1) (vs := [.slice aA a.length ac, .int .i64 ae]) (.inl rfl) c0 o0 rfl rfl rfl rfl AO rfl Hs ?_
 refine ⟨aA, ac, a, ?_, o0.fr, o0.rx 0, (by unfold bUp; rw [Aq f0])⟩
 exact cre (Gw (by rfl) (by (unfold bUp; rw [Aq f0])))
theorem Np (w0 : World) (Z : Nat → Prop) (hZ : HZ w0 Z) (tA : Option Addr) (tc : Nat) (t : List Nd) (lA : Option Addr) (lc : Nat) (l : List Sl) (ht : N4 tA tc t w0 Z) (hl : (Bw 1 lA l.length lc (B7 l)).φ w0 Z) (hls : (Cl l).φ w0 Z) (htn : t.length ≤ 1000000 := by exact ax) (hsm : sml t := by exact ax) (hl9 : l.length ≤ 9 := by exact ax) (hlq : ∀ x ∈ Bt l, sml x ∧ x.length ≤ 1000000 := by exact ax) :
    Calls Tryz.prog 136 [.slice tA t.length tc, .slice lA l.length lc].toArray w0 (fun e w' => ∃ (rA0 : Option Addr) (rc0 : Nat), e = .returned (.tuple #[.slice rA0 (inA t (Bt l)).length rc0, .int .i64 (inE t (Bt l))]) ∧ Fr A6 w0 w' ∧ N4 rA0 rc0 (inA t (Bt l)) w' (nxt Z w0 w')) := by
 have b0 := s0 (M := A6) hZ (zc ht (zc hl (zc hls zn)))
 refine AE Tryz.func136 rfl Tryz.ntmps136 rfl fun c0 d0 => ?_
 refine rR d0 fun c0 f0 => ?_
 refine wsc fun c0 d0 => mv f0 fun c0 h0 => ?_
 have c0 := b0.nf
 refine kra h0 c0 Th (De _ _ c0.il _ _ _ (c0.g 0) (hl := (by omega)) (hsm := (by exact hsm))) fun b0 f0 i0 j0 => ?_
 refine aw j0 d0 fun i0 b0 => ?_
 refine Ac fun d0 i0 => rR b0 fun d0 j0 => ?_
 refine A4 ?_
 refine AH (fun gn ga gw => ∃ k : Nat, ∃ ev : Int, (Reg ga 33 [(1000000, .bool false), (0, .slice tA t.length tc), (1, .slice lA l.length lc), (4, .slice none 0 0), (5, .int .i64 0), (7, .int .i64 (k : Int)), (6, .int .i64 ev)]) ∧ (St w0 Z A6 gw [] [n4 tA tc t, Bw 1 lA l.length lc (B7 l), Cl l]) ∧ (k ≤ l.length) ∧ (ev = ckE (t :: (Bt l).take k)) ∧ (l.length - k) = gn) _ ⟨0, chk t, (j0.sub (rc4 (rc2 (rc rfl rnl)))), f0, by omega, by simp only [List.take_zero, ckE]; split <;> simp_all, rfl⟩ ?_
 rintro j0 f0 d0 ⟨k, ev, b0, c0, hk, hev, h0⟩
 refine Ac fun h0 d0 => wsc fun h0 f0 => lR b0 fun h0 j0 => ?_
 refine lAn 2 (decide (ev = 0)) j0 fun h0 b0 => ?_
 refine wn f0 <| wcg b0 (fun f0 h0 => ?_) fun f0 j0 => ?_
 have b0 := Eu f0
 have k0 := A9 b0
 have k0 := Et f0
 have b0 := A9 k0
 obtain ⟨hkl, b0⟩ := Xe f0
 refine Am <| xn d0 <| Ac fun d0 k0 => A4 ?_
 refine A0 ?_
 refine lR h0 fun d0 m0 => ?_
 refine ix k (k * 1) m0 (BD (t := l) (k := k) (c0.row (i := 1) rfl).2 (by omega)).some_ fun d0 h0 => ?_
 refine lde 0 (k * 1) h0 (BD (t := l) (k := k) (c0.row (i := 1) rfl).2 (by omega)) fun d0 m0 => ?_
 have d0 := c0.el 2 k
 have h0 := d0.nf
 refine kra m0 h0 Th (De _ _ h0.il _ _ ((BF l k).2.2) (h0.g 3) (hl := (by exact Bo (hlq _ (R8 (by omega))).2 (by decide))) (hsm := (by exact (hlq _ (R8 (by omega))).1))) fun d0 n0 o0 p0 => ?_
 refine asg p0 fun o0 d0 => ?_
 refine Ae ?_
 refine A7 <| xn k0 <| A0 ?_
 refine mv d0 fun k0 o0 => ?_
 refine adi ((k + 1 : Nat) : Int) o0 fun k0 d0 => ?_
 refine asg d0 fun k0 o0 => ?_
 refine Ae ?_
 have k0 := n0.forget 3
 exact ⟨_, by omega, k + 1, (chk ((BF l k).2.2)), (o0.sub (rc4 (rc2 (rc rfl rnl)))), k0, by omega, WQ (by omega) (by rw [← hev]; exact b0), rfl⟩
 have k0 := f0
 try simp only [bz] at k0
 refine xe ?_
 refine xn i0 <| Ac fun i0 k0 => rR j0 fun i0 o0 => ?_
 refine wce o0 (fun i0 j0 => ?_) fun i0 b0 => ?_
 obtain ⟨hz1, hz2, hz3⟩ := WP (by rw [← (H7 hev f0)]; exact i0)
 refine Am <| xn k0 <| wsc fun k0 o0 => lR j0 fun k0 n0 => ?_
 have k0 := c0.nf
 refine krb n0 k0 ok152 (P5 _ _ k0.il _ _ _ 0 _ _ _ (k0.g 0) (k0.g 1) (k0.g 2) (hl := (by omega)) (hsm := hsm) (hb := hz1) (hl4 := hz2) (hp1 := (by omega)) (hp2 := hz3) (hp3 := (fun x hx => (hlq x hx).1)) (hk0 := (by omega)) (hk1 := (by omega))) fun j0 d0 p0 h0 m0 q0 => ?_
 refine lR q0 fun m0 j0 => ?_
 refine wn o0 <| rt2 j0 ?_
 have j0 : inA t (Bt l) = poA t 0 (Bt l) := (PO (by rw [← (H7 hev f0)]; exact i0)).2
 rw [j0]
 refine ⟨d0, p0, ?_, h0.fr, h0.rx 3⟩
 exact Bj rfl (Bz (by exact (PO (by rw [← (H7 hev f0)]; exact i0)).1.symm))
 refine rR b0 fun h0 p0 => ?_
 refine rt2 p0 ?_
 have p0 : inA t (Bt l) = [] := (Mu (by rw [← (H7 hev f0)]; exact i0)).2
 rw [p0]
 refine ⟨none, 0, ?_, c0.fr, ⟨Af _, RowI.nil _ _ _ _⟩⟩
 exact Bj rfl (Bz (by (rw [(Mu (by rw [← (H7 hev f0)]; exact i0)).1]; exact (H7 hev f0))))
theorem SJ (w0 : World) (Z : Nat → Prop) (hZ : HZ w0 Z) (aA : Option Addr) (ac : Nat) (a : List Nd) (ae : Int) (lA : Option Addr) (lc : Nat) (l : List Bu) (ha : N4 aA ac a w0 Z) (hl : (Bw 2 lA l.length lc (Hn l)).φ w0 Z) (hls : (Fo l).φ w0 Z) (hsa : sml a := by exact ax) (hla : a.length ≤ 1000000 := by exact ax) (hln : l.length ≤ 9 := by exact ax) (hbn : ∀ x ∈ EG l, sml x.1 ∧ x.1.length ≤ 1000000 := by exact ax) :
    Calls Tryz.prog 104 [.agg #[.slice aA a.length ac, .int .i64 ae], .slice lA l.length lc].toArray w0 (fun e w' => ∃ (rA0 : Option Addr) (rc0 : Nat) (rL0 : List Nd), e = .returned (.agg #[.slice rA0 rL0.length rc0, .int .i64 ((bAt (a, ae) (EG l)).2)]) ∧ Fr A6 w0 w' ∧ N4 rA0 rc0 rL0 w' (nxt Z w0 w') ∧ rL0 = (bAt (a, ae) (EG l)).1) := by
 have b0 := s0 (M := A6) hZ (zc ha (zc hl (zc hls zn)))
 refine AE Tryz.func104 rfl Tryz.ntmps104 rfl fun c0 d0 => ?_
 refine wsc fun c0 f0 => bxx d0 b0 fun c0 h0 i0 j0 k0 => ?_
 refine alc j0 k0 fun h0 c0 d0 b0 m0 => ?_
 refine wn f0 <| Ac fun f0 c0 => rR b0 fun f0 h0 => ?_
 refine wce h0 (fun f0 b0 => ?_) fun f0 k0 => ?_
 have hae := f0
 refine Am <| xn c0 <| wsc fun c0 h0 => ?_
 have c0 := m0.data (Cl []) Cp
 refine bsl b0 c0 fun j0 n0 o0 p0 q0 => ?_
 refine aw p0 h0 fun n0 j0 => ?_
 refine Ac fun h0 n0 => rR j0 fun h0 p0 => ?_
 refine A4 ?_
 refine AH (fun gn ga gw => ∃ k : Nat, ∃ Ys : List Sl, ∃ yA : Option Addr, ∃ yc : Nat, (Reg ga 48 [(1000000, .bool false), (1, .slice lA l.length lc), (2, .pointer (some ⟨i0, 0, none⟩)), (4, .pointer (some ⟨d0, 0, none⟩)), (6, .int .i64 (k : Int)), (5, .slice yA ((Ys).length) yc)]) ∧ (St w0 Z A6 gw [.box i0 65 [.slice aA a.length ac, .int .i64 ae], .box d0 65 [.slice none 0 0, .int .i64 0], .row yA ((Ys).length) yc 22 1 (B7 Ys)] [n4 aA ac a, Bw 2 lA l.length lc (Hn l), Fo l, Cl Ys]) ∧ (k ≤ l.length) ∧ (∀ i, i < k → (DR l i).2 = 0) ∧ (Bt Ys = (EG (l.take k)).map (·.1)) ∧ (l.length - k) = gn) _ ⟨0, [], (some ⟨o0, 0, none⟩), 0, (p0.sub (rc4 (rc rfl (rc rfl rnl)))), q0, by omega, (fun _ h => by omega), rfl, rfl⟩ ?_
 rintro p0 q0 o0 ⟨k, Ys, yA, yc, d0, i0, hk, hE, hYs, h0⟩
 have hyl : Ys.length = k := by rw [← Bs, hYs, BT, Fe, Ah]; omega
 refine Ac fun h0 o0 => rR d0 fun h0 q0 => ?_
 refine wcd q0 (fun h0 d0 => ?_) fun h0 p0 => ?_
 refine Am <| xn o0 <| Ac fun o0 h0 => A4 ?_
 refine Ac fun o0 q0 => wsc fun o0 j0 => lR d0 fun o0 c0 => ?_
 refine ix k (k * 2) c0 (DM (t := l) (k := k) (i0.row (i := 1) rfl).2 (by omega)).some_ fun o0 d0 => ?_
 refine CB (j' := k * 2 + 1) sv d0 rfl rfl rfl (DM (t := l) (k := k) (i0.row (i := 1) rfl).2 (by omega)).some_ AO rfl V6 rfl rfl (by decide) fun o0 c0 => ?_
 refine lde 1 (k * 2) c0 (DM (t := l) (k := k) (i0.row (i := 1) rfl).2 (by omega)) fun o0 d0 => ?_
 refine lR d0 fun o0 c0 => ?_
 refine wn j0 <| wce c0 (fun j0 o0 => ?_) fun j0 d0 => ?_
 refine Am <| xn q0 <| A0 ?_
 refine lR o0 fun q0 c0 => ?_
 refine ix k (k * 2) c0 (DM (t := l) (k := k) (i0.row (i := 1) rfl).2 (by omega)).some_ fun q0 o0 => ?_
 refine CB (j' := k * 2) sv o0 rfl rfl rfl (DM (t := l) (k := k) (i0.row (i := 1) rfl).2 (by omega)).some_ AO rfl LG rfl rfl (by decide) fun q0 c0 => ?_
 refine lde 0 (k * 2) c0 (DM (t := l) (k := k) (i0.row (i := 1) rfl).2 (by omega)) fun q0 o0 => ?_
 have q0 := i0.elU 2 k
 have c0 := q0.data (Cl [(((DR l k).1.1, (DR l k).1.2.1, (DR l k).1.2.2) : Sl)]) (Cy (q0.get (i := 4) rfl) Cp)
 refine bsl o0 c0 fun q0 b0 t0 u0 v0 => ?_
 refine BL (f := FK) (i := 2) Ys ([(((DR l k).1.1, (DR l k).1.2.1, (DR l k).1.2.2) : Sl)]) sv u0 v0 rfl rfl rfl rfl rfl Dc (D7 _) Be L3 rfl rfl (BU (f := FK) (v0.res (i := 3) rfl)) rfl (by (simp only [Ad, Aj]; omega)) (by decide) fun t0 b0 q0 c0 o0 x0 y0 => ?_
 have o0 : (Ys ++ ([(((DR l k).1.1, (DR l k).1.2.1, (DR l k).1.2.2) : Sl)]) : List Sl).length = (Ys).length + 1 := by (simp only [Ab, Ah, Ad, Aj]; done)
 have o0 := y0.erase 3
 have y0 := o0.data (Cl (Ys ++ ([(((DR l k).1.1, (DR l k).1.2.1, (DR l k).1.2.2) : Sl)]))) (CH (o0.get (i := 3) rfl) (o0.get (i := 5) rfl))
 refine asg x0 fun o0 b0 => ?_
 refine Ae ?_
 refine A7 <| xn h0 <| A0 ?_
 refine mv b0 fun h0 o0 => ?_
 refine adi ((k + 1 : Nat) : Int) o0 fun h0 b0 => ?_
 refine asg b0 fun h0 o0 => ?_
 refine Ae ?_
 have h0 := y0.forget 5
 have y0 := h0.forget 4
 have h0 := y0.forget 3
 exact ⟨_, by omega, k + 1, Ys ++ ([(((DR l k).1.1, (DR l k).1.2.1, (DR l k).1.2.2) : Sl)]), q0, c0, (o0.sub (rc4 (rc rfl (rc rfl rnl)))), h0, by omega, U6 hE (by assumption), by rw [Er, hYs, MH (by omega)]; rfl, rfl⟩
 refine wsc fun h0 o0 => lR d0 fun h0 c0 => ?_
 refine ix k (k * 2) c0 (DM (t := l) (k := k) (i0.row (i := 1) rfl).2 (by omega)).some_ fun h0 d0 => ?_
 refine Cw sv d0 rfl rfl rfl (DM (t := l) (k := k) (i0.row (i := 1) rfl).2 (by omega)) AO rfl Hs (by decide) fun h0 c0 => ?_
 have h0 := i0.elU 2 k
 refine sto 1 c0 h0 fun d0 q0 y0 b0 => ?_
 refine wn o0 <| BV <| AX <| Bf <| AX <| AX <| Bf <| AX <| Ev (i := 1) (vs := [.slice ((DR l k).1.1) ((DR l k).1.2.2.length) ((DR l k).1.2.1), .int .i64 ((DR l k).2)]) (.inl rfl) y0 b0 rfl rfl rfl rfl AO rfl Hs ?_
 refine ⟨((DR l k).1.1), ((DR l k).1.2.1), ((DR l k).1.2.2), ?_, b0.fr, b0.rx 4, (by (rw [hae, SM hE (by omega) j0]))⟩
 exact cre (Gw (by rfl) (by (rw [hae, SM hE (by omega) j0])))
 refine xe ?_
 refine xn n0 <| wsc fun n0 j0 => lR p0 fun n0 b0 => ?_
 have n0 := i0.nf
 have i0 := n0.pub 2 (Bw 1 yA ((Ys).length) yc (B7 Ys))
 refine krb b0 i0 ok136 (Np _ _ i0.il _ _ _ _ _ _ (i0.g 0) (i0.g 4) (i0.g 3) (htn := hla) (hsm := hsa) (hl9 := (by omega)) (hlq := (by rw [hYs]; intro x hx; obtain ⟨y, hy, rfl⟩ := Ch.1 hx; rw [MG] at hy; exact hbn y (List.mem_of_mem_take hy)))) fun n0 p0 y0 o0 q0 d0 => ?_
 refine lR d0 fun q0 n0 => ?_
 refine wn j0 <| wsc fun j0 q0 => lR n0 fun j0 d0 => ?_
 refine bld d0 fun j0 n0 => ?_
 refine sto 1 n0 o0 fun j0 d0 i0 b0 => ?_
 refine wn q0 <| BV <| Ev (i := 1) (vs := [.slice p0 ((inA a (Bt Ys)).length) y0, .int .i64 (inE a (Bt Ys))]) (.inl rfl) i0 b0 rfl rfl rfl rfl AO rfl Hs ?_
 refine ⟨p0, y0, (inA a (Bt Ys)), ?_, b0.fr, b0.rx 5, (by (rw [hae, Vv (fun i hi => hE i (by omega)), hYs, AM (by omega)]))⟩
 exact cre (Gw (by rfl) (by (rw [hae, Vv (fun i hi => hE i (by omega)), hYs, AM (by omega)])))
 refine wsc fun b0 y0 => lR k0 fun b0 p0 => ?_
 refine sto 1 p0 m0 fun b0 k0 i0 q0 => ?_
 refine wn y0 <| BV <| AX <| Ev (i := 1) (vs := [.slice aA a.length ac, .int .i64 ae]) (.inl rfl) i0 q0 rfl rfl rfl rfl AO rfl Hs ?_
 refine ⟨aA, ac, a, ?_, q0.fr, q0.rx 0, (by (unfold bAt; rw [At f0]))⟩
 exact cre (Gw (by rfl) (by (unfold bAt; rw [At f0])))
theorem NX (w0 : World) (Z : Nat → Prop) (hZ : HZ w0 Z) (aA : Option Addr) (ac : Nat) (a : List Nd) (ae : Int) (xA : Option Addr) (xc : Nat) (x : List Nd) (xe : Int) (ha : N4 aA ac a w0 Z) (hx : N4 xA xc x w0 Z) (hsa : sml a := by exact ax) (hla : a.length ≤ 1000000 := by exact ax) (hsx : sml x := by exact ax) (hlx : x.length ≤ 1000000 := by exact ax) :
    Calls Tryz.prog 67 [.agg #[.slice aA a.length ac, .int .i64 ae], .agg #[.slice xA x.length xc, .int .i64 xe]].toArray w0 (fun e w' => ∃ (rA0 : Option Addr) (rc0 : Nat) (rL0 : List Nd), e = .returned (.agg #[.slice rA0 rL0.length rc0, .int .i64 ((bAt (a, ae) [(x, xe)]).2)]) ∧ Fr A6 w0 w' ∧ N4 rA0 rc0 rL0 w' (nxt Z w0 w') ∧ rL0 = (bAt (a, ae) [(x, xe)]).1) := by
 have b0 := s0 (M := A6) hZ (zc ha (zc hx zn))
 refine AE Tryz.func67 rfl Tryz.ntmps67 rfl fun c0 d0 => ?_
 refine wsc fun c0 f0 => bxx d0 b0 fun c0 h0 i0 j0 k0 => ?_
 refine bxx j0 k0 fun i0 h0 c0 d0 b0 => ?_
 refine alc d0 b0 fun c0 h0 i0 k0 j0 => ?_
 refine wn f0 <| wsc fun f0 i0 => lR k0 fun f0 h0 => ?_
 have f0 := j0.data (Fo [((((xA, xc, x) : Sl), (xe : Int)) : Bu)]) (Hr (j0.get (i := 1) rfl) Ir)
 refine bsl h0 f0 fun j0 k0 c0 b0 d0 => ?_
 have k0 := d0.nf
 have d0 := k0.pub 3 (Bw 2 (some ⟨c0, 0, none⟩) 1 1 (Hn ([((((xA, xc, x) : Sl), (xe : Int)) : Bu)])))
 refine krc b0 d0 ok104 (SJ _ _ d0.il _ _ _ ae _ _ ([((((xA, xc, x) : Sl), (xe : Int)) : Bu)]) (d0.g 0) (d0.g 3) (d0.g 2) (hsa := hsa) (hla := hla) (hln := (by simp)) (hbn := (by intro y hy; simp only [Jn, Ly, AD, AG, or_false] at hy; subst hy; exact ⟨hsx, hlx⟩))) fun k0 c0 j0 f0 h0 m0 n0 o0 => ?_
 refine sto 2 o0 m0 fun n0 k0 d0 b0 => ?_
 refine wn i0 <| BV <| Ev (i := 2) (vs := [.slice c0 f0.length j0, .int .i64 ((bAt (a, ae) (EG ([((((xA, xc, x) : Sl), (xe : Int)) : Bu)]))).2)]) (.inl rfl) d0 b0 rfl rfl rfl rfl AO rfl Hs ?_
 refine ⟨c0, j0, f0, ?_, b0.fr, b0.rx 4, h0⟩
 exact cre (Gw (by rfl) (by rfl))
theorem Oa (w0 : World) (Z : Nat → Prop) (hZ : HZ w0 Z) (aA : Option Addr) (ac : Nat) (a : List Nd) (ae : Int) (ha : N4 aA ac a w0 Z) (hsa : sml a := by exact ax) (hla : a.length ≤ 1000000 := by exact ax) :
    Calls Tryz.prog 34 [.agg #[.slice aA a.length ac, .int .i64 ae]].toArray w0 (fun e w' => ∃ (rA0 : Option Addr) (rc0 : Nat), e = .returned (.tuple #[.slice rA0 ((Ge (a, ae)).1).length rc0, .int .i64 ((Ge (a, ae)).2)]) ∧ Fr A6 w0 w' ∧ (Bw 4 rA0 (((Ge (a, ae)).1).length) rc0 (Cd ((Ge (a, ae)).1))).φ w' (nxt Z w0 w')) := by
 have b0 := s0 (M := A6) hZ (zc ha zn)
 refine AE Tryz.func34 rfl Tryz.ntmps34 rfl fun c0 d0 => ?_
 refine wsc fun c0 f0 => bxx d0 b0 fun c0 h0 i0 j0 k0 => ?_
 refine lR j0 fun i0 h0 => ?_
 refine wn f0 <| Ac fun f0 i0 => rR h0 fun f0 j0 => ?_
 refine wce j0 (fun f0 h0 => ?_) fun f0 c0 => ?_
 refine Am <| xn i0 <| wsc fun i0 j0 => lR h0 fun i0 d0 => ?_
 have i0 := k0.nf
 refine kra d0 i0 Th (De _ _ i0.il _ _ _ (i0.g 0) (hl := (by omega)) (hsm := hsa)) fun h0 b0 m0 n0 => ?_
 refine aw n0 j0 fun m0 h0 => ?_
 refine Ac fun j0 m0 => rR h0 fun j0 n0 => ?_
 refine wce n0 (fun j0 h0 => ?_) fun j0 i0 => ?_
 refine Am <| xn m0 <| rR h0 fun m0 n0 => ?_
 refine rt2 n0 ?_
 have n0 : (Ge (a, ae)).1 = a := (by (unfold Ge; rw [At f0]; rw [At j0]))
 rw [n0]
 refine ⟨aA, ac, ?_, b0.fr, b0.rx 0⟩
 exact Bj rfl (Bz (by (unfold Ge; simp [f0, j0])))
 refine rR i0 fun n0 m0 => ?_
 refine rt2 m0 ?_
 have m0 : (Ge (a, ae)).1 = [] := (by (unfold Ge; rw [At f0]; rw [Aq j0]))
 rw [m0]
 refine ⟨none, 0, ?_, b0.fr, ⟨Af _, RowI.nil _ _ _ _⟩⟩
 exact Bj rfl (Bz (by (unfold Ge; simp [f0, j0])))
 refine Ac fun j0 b0 => ?_
 obtain ⟨j0, m0, n0⟩ := k0.agree
 refine Cj (n := 4) n0 1 (pB 0 0 pn) (A5 (A5 BC)) fun m0 j0 k0 i0 h0 d0 => ?_
 refine dR [0, 1, 2, 3] c0 fun d0 i0 => ?_
 refine AL (by kernel_rfl) (k0 _ _ ?_) _
 refine xn b0 <| rt2 i0 ?_
 have i0 : (Ge (a, ae)).1 = [] := (by (unfold Ge; rw [Aq f0]))
 rw [i0]
 refine ⟨none, 0, ?_, h0.fr, ⟨Af _, RowI.nil _ _ _ _⟩⟩
 exact Bj rfl (Bz (by (unfold Ge; simp [f0])))
end Go.Proofs.YtpfmnpaifchleaaGreatDoor
namespace Go.Proofs.YtpfmnpaifchleaaGreatDoor
set_option linter.unusedSimpArgs false
set_option linter.unusedVariables false
section
/- The document's rules, of terms that may have an error. -/
open Go Go.RowKit
theorem UU {z : ByteArray} {t : List Nd} (h : ¬ ((t.length : Nat) : Int) = 1) : false = decide (t = Tf z) := by
 rw [Ai]
 intro q
 apply h
 rw [q]
 rfl
theorem own_eq {z : ByteArray} {t : List Nd} (h : ((t.length : Nat) : Int) = 1) : t = [nth t 0] := by
 match t, h with
 | [x], _ => rfl
 | [], h => simp at h
 | _ :: _ :: _, h => simp at h; omega
theorem UX {z : ByteArray} {t : List Nd} (h : ((t.length : Nat) : Int) = 1) : decide (nth t 0 = (⟨25, 0, 0, z⟩ : Nd)) = decide (t = Tf z) := by
 have e := own_eq (z := z) h
 by_cases q : nth t 0 = (⟨25, 0, 0, z⟩ : Nd)
 ·
  rw [Aw q, Aw]
  rw [e, q]
  rfl
 ·
  rw [Ai q, Ai]
  intro q2
  apply q
  rw [q2]
  rfl
theorem Ot {P : Program} {w : World} {t : TypeId} {n : Int} (h0 : 0 ≤ n) (hn : n < 4) : (Go.binOp .quo t (.int .i64 n) (.int .i64 2)).run P w = .ok (.int .i64 (n.tdiv 2)) w := by
 have : n = 0 ∨ n = 1 ∨ n = 2 ∨ n = 3 := by omega
 rcases this with rfl | rfl | rfl | rfl <;> rfl
section
variable {n : Nd} {p : List Bd} {t : List Nd} {a : Bd} {kd : Int}
end
end
section
/- The type of a case into a successor: what it comes to, part by part. -/
open Go Go.RowKit
abbrev UD : Nd := ⟨12, 0, 0, ⟨#[]⟩⟩
def m2L : List Nd := [⟨0, 0, 0, ⟨#[]⟩⟩, ⟨12, 0, 0, ⟨#[]⟩⟩]
def Iy (x : List Nd) : List Nd := [x].flatten ++ [UD]
def FP (st : List Bool) (a : Int) (i : Nat) : List Nd := if H1 st i = true then [tkN] else [vN (a - 1 - (i : Int))]
def M7 (S : ByteArray) (k : Int) (st : List Bool) (n : Nat) (a : Int) : List Nd := ((List.range n).map (FP st a)).flatten ++ [⟨26, k, ((n : Nat) : Int), S⟩]
def piX (m : Int) (d b : List Nd) : List Nd := [d, b].flatten ++ [piN m]
def yX (m : Int) : List Nd := if 0 < m then [tkN] else [vN 0]
def Pr (x y : List Nd) : List Nd := [x, y].flatten ++ [⟨5, 0, 0, ⟨#[]⟩⟩]
def mkX (t : List Nd) : Int := (nth t (t.length - 1)).N.tdiv 2 * 2
def hyX (S : ByteArray) (st : List Bool) (pr : Bool) (ty : List (List Nd)) (a : Int) (i : Nat) : List Nd :=
 if kdA S (Ce ty i) = 2 then piX (mkX (Ce ty i) + mkI pr 1) (Ce (agA (Ce ty i)) 0) (Iy (Pr (FP st (a + 1) i) (yX (mkX (Ce ty i))))) else Iy (FP st a i)
def hoX (S : ByteArray) (k : Int) (st : List Bool) (pr : Bool) (ty : List (List Nd)) (n : Nat) : List Nat → Int → List Nd
 | [], a => Iy (M7 S k st n a)
 | i :: l, a => piX (mkI pr 3) (hyX S st pr ty a i) (hoX S k st pr ty n l (a + 1))
def Te (S : ByteArray) (ty : List (List Nd)) (i : Nat) : Bool := decide (0 < kdA S (Ce ty i))
def Ea (S : ByteArray) (ty : List (List Nd)) (n : Nat) : List Nat := (List.range n).filter (Te S ty)
def arX (S : ByteArray) (k : Int) (st : List Bool) (pr : Bool) (ty : List (List Nd)) (n : Nat) : Nat → List Nd
 | 0 => hoX S k st pr ty n (Ea S ty n) n
 | m + 1 => piX (mkI (H1 st (n - (m + 1))) 2 + mkI pr 1) (Ce ty (n - (m + 1))) (arX S k st pr ty n m)
def OX (t : List Nd) : Prop := chk t = 0 ∧ t.length ≤ 20 ∧ dpL t ≤ 5
theorem N9 : Bk m2L = .mk UD [.mk (vN 0) []] := by kernel_rfl
theorem Kg : chk m2L = 0 := by kernel_rfl
theorem OK : sml m2L := D5.2 fun m hm => by
 simp only [m2L, AD, AG, or_false] at hm
 rcases hm with rfl | rfl <;> decide
theorem PI {a : Int} : sfE m2L a 1 = 0 ∧ sfA m2L a 1 = m2L := by
 obtain ⟨h1, h2⟩ := Fq (b := a) (f := 1) Kg
 have hc : max 0 (As 1) = 1 := by decide
 have e : E4 (shV (As a) 1) m2L 0 = 0 ∧ (trT (shV (As a) 1) 0 (Bk m2L)).flat = m2L := by
  unfold E4
  rw [N9]
  constructor <;> rfl
 rw [hc] at h1 h2
 refine ⟨h1.trans e.1, ?_⟩
 rw [h2]
 unfold trL
 rw [At e.1]
 exact e.2
theorem Wt {x : List Nd} (hx : OX x) : inE m2L [x] = 0 ∧ inA m2L [x] = Iy x := by
 obtain ⟨hc, hl, hd⟩ := hx
 have hm := BO hc
 obtain ⟨b1, b2, b3, b4⟩ := Lx (n := UD) (p := [x]) (by decide) rfl (by intro y hy; rw [AB.1 hy]; exact hm)
 have hk : chk (Iy x) = 0 := Pg b1 (by show ([x].flatten ++ [UD]).length ≤ 4000; rw [Ab, Em, List.flatten_nil, CL, Bv]; omega) (Bo (HA (n := UD) (p := [x]) (b := 5) (by decide) rfl (by intro y hy; rw [AB.1 hy]; exact hm) (by intro y hy; rw [AB.1 hy]; exact hd)) (by decide))
 have hck : ckE [m2L, x] = 0 := by simp [ckE, Kg, hc]
 obtain ⟨s1, s2⟩ := VD (f := 0) hc
 have e1 : E4 (puV 0 [x]) m2L 0 = 0 := by
  unfold E4
  rw [N9]
  show (if sfE x 0 0 = 0 then (0 : Int) else sfE x 0 0) = 0
  rw [s1]
  rfl
 have e2 : trL (puV 0 [x]) m2L 0 = Iy x := by
  unfold trL
  rw [At e1, N9]
  show (T.mk UD [Bk (sfA x 0 0)]).flat = Iy x
  rw [s2, Bi]
  unfold Iy
  have := (C7 hm).2
  rw [Bh, AZ, this]
  simp
 obtain ⟨i1, i2⟩ := PO hck
 obtain ⟨p1, p2⟩ := GY e1
 rw [e2] at p1 p2
 rw [hk] at p1 p2
 exact ⟨i1.trans p1, by rw [i2, p2]; rfl⟩
theorem V5 {a : Int} {x : List Nd} (hx : OX x) : K6 0 a m2L x = Iy x ∧ HD 0 a m2L x = 0 := by
 unfold K6 HD
 have e : upE 0 m2L a 1 = 0 := (At rfl).trans PI.1
 rw [e, To, PI.2, TV]
 exact ⟨(Wt hx).2, (At rfl).trans (Wt hx).1⟩
theorem UB {a : Int} {x : List Nd} (hx : OX x) : bAt (bUp (m2L, 0) a 1) [(x, 0)] = (Iy x, 0) := by
 unfold bUp
 rw [At rfl, PI.1, PI.2]
 unfold bAt fsE fsE
 simp [Wt hx]
theorem NQ : dpL [tkN] = 1 := by kernel_rfl
theorem Ta : OX [tkN] := ⟨by kernel_rfl, by decide, by rw [NQ]; decide⟩
theorem Vw {i : Int} (h0 : 0 ≤ i) (h : i ≤ 99) : OX [vN i] := by
 obtain ⟨b1, b2, _, _⟩ := Lx (n := vN i) (p := []) (by rw [Fu rfl]; exact Aw ⟨h0, h, rfl, rfl⟩) rfl (fun _ h => by cases h)
 have hd : dpL [vN i] = 1 := by
  unfold dpL
  rw [show [vN i] = [].flatten ++ [vN i] from rfl, b2]
  rfl
 exact ⟨Pg b1 (by simp) (by show dpL [vN i] ≤ 60; omega), by simp, by omega⟩
theorem HW {st : List Bool} {a : Int} {i : Nat} (h0 : (i : Int) + 1 ≤ a) (h : a ≤ 100) : OX (FP st a i) ∧ (FP st a i).length = 1 ∧ dpL (FP st a i) ≤ 2 := by
 unfold FP
 split
 · exact ⟨Ta, rfl, by rw [NQ]; decide⟩
 ·
  have h1 := Vw (i := a - 1 - (i : Int)) (by omega) (by omega)
  refine ⟨h1, rfl, ?_⟩
  have := Vr (BO h1.1)
  exact Bo this (by simp)
theorem OX_y (m : Int) : OX (yX m) ∧ (yX m).length = 1 ∧ dpL (yX m) ≤ 2 := by
 unfold yX
 split
 · exact ⟨Ta, rfl, by rw [NQ]; decide⟩
 ·
  have h1 := Vw (i := 0) (by omega) (by omega)
  exact ⟨h1, rfl, Bo (Vr (BO h1.1)) (by simp)⟩
theorem Tb {x y : List Nd} (hx : OX x ∧ x.length = 1 ∧ dpL x ≤ 2) (hy : OX y ∧ y.length = 1 ∧ dpL y ≤ 2) : OX (Pr x y) := by
 have hp : ∀ z ∈ [x, y], BW z = true := by
  intro z hz
  simp only [AD, AG, or_false] at hz
  rcases hz with rfl | rfl
  · exact BO hx.1.1
  · exact BO hy.1.1
 have hd : dpL (Pr x y) ≤ 2 + 1 := HA (n := ⟨5, 0, 0, ⟨#[]⟩⟩) (p := [x, y]) (b := 2) (by decide) rfl hp (by
  intro z hz
  simp only [AD, AG, or_false] at hz
  rcases hz with rfl | rfl
  · exact hx.2.2
  · exact hy.2.2)
 have hl : (Pr x y).length = 3 := by unfold Pr; simp [hx.2.1, hy.2.1]
 exact ⟨Pg (Lx (n := ⟨5, 0, 0, ⟨#[]⟩⟩) (p := [x, y]) (by decide) rfl hp).1 (by omega) (by omega), by omega, by omega⟩
section
variable {S : ByteArray} {k a : Int} {st : List Bool} {pr : Bool} {ty : List (List Nd)} {n i m : Nat}
theorem M5 (hS : CJ S = true) (hk : 0 ≤ k ∧ k < 6) (hn : n ≤ 6) : right ⟨26, k, ((n : Nat) : Int), S⟩ = true := by
 rw [Fv rfl]
 exact Aw ⟨hS, hk.1, hk.2, by show (0 : Int) ≤ (n : Int); omega, by show (n : Int) ≤ 6; omega⟩
theorem M6 (h0 : (n : Int) ≤ a) (h : a ≤ 100) : ∀ z ∈ (List.range n).map (FP st a), OX z ∧ z.length = 1 ∧ dpL z ≤ 2 := fun z hz => by
 obtain ⟨j, hj, rfl⟩ := Ch.1 hz
 exact HW (by have := List.mem_range.1 hj; omega) h
theorem Ln : ∀ l : List (List Nd), (∀ z ∈ l, z.length = 1) → l.flatten.length = l.length
 | [], _ => rfl
 | z :: l, h => by
  rw [Em, Ab, Ad, Ln l (fun y hy => h y (by simp [hy])), h z (by simp)]
  omega
theorem Jh (hS : CJ S = true) (hk : 0 ≤ k ∧ k < 6) (hn : n ≤ 6) (h0 : (n : Int) ≤ a) (h : a ≤ 100) : BW (M7 S k st n a) = true ∧ ptL (M7 S k st n a) = (List.range n).map (FP st a) ∧ nth (M7 S k st n a) ((M7 S k st n a).length - 1) = ⟨26, k, ((n : Nat) : Int), S⟩ := by
 obtain ⟨b1, _, b3, b4⟩ := Lx (n := ⟨26, k, ((n : Nat) : Int), S⟩) (p := (List.range n).map (FP st a)) (M5 hS hk hn) (by simp [many, binds]) (fun z hz => BO (M6 h0 h z hz).1.1)
 exact ⟨b1, b3, b4⟩
theorem Vx (hS : CJ S = true) (hk : 0 ≤ k ∧ k < 6) (hn : n ≤ 6) (h0 : (n : Int) ≤ a) (h : a ≤ 100) : OX (M7 S k st n a) := by
 have hp := M6 (st := st) h0 h
 have hl : (M7 S k st n a).length = n + 1 := by
  unfold M7
  rw [Ab, Ln _ (fun z hz => (hp z hz).2.1)]
  simp
 have hd : dpL (M7 S k st n a) ≤ 2 + 1 := HA (M5 hS hk hn) (by simp [many, binds]) (fun z hz => BO (hp z hz).1.1) (fun z hz => (hp z hz).2.2)
 exact ⟨Pg (Jh hS hk hn h0 h).1 (by omega) (by omega), by omega, by omega⟩
theorem UZ {x y : Int} (hx : x = 0 ∨ x = 2) (hy : y = 0 ∨ y = 1) : orI x y = x + y := by
 rcases hx with rfl | rfl <;> rcases hy with rfl | rfl <;> rfl
theorem JY {b : Bool} : mkI b 1 = 0 ∨ mkI b 1 = 1 := by unfold mkI; split <;> omega
theorem RE {b : Bool} : mkI b 2 = 0 ∨ mkI b 2 = 2 := by unfold mkI; split <;> omega
theorem SK {z : Int} (h0 : 0 ≤ z) (h : z ≤ 3) : GF z 2 = z.tdiv 2 * 2 ∧ (GF z 2 = 0 ∨ GF z 2 = 2) := by
 have : z = 0 ∨ z = 1 ∨ z = 2 ∨ z = 3 := by omega
 rcases this with rfl | rfl | rfl | rfl <;> exact ⟨rfl, by decide⟩
def plX (n : Nat) : List Int := (List.range n).map fun i : Nat => (i : Int) + 1
theorem Wd (h : i < n) : Ci (plX n) i = (i : Int) + 1 := by simp [Ci, plX, h]
theorem TC : plX (n + 1) = plX n ++ [(n : Int) + 1] := by unfold plX; rw [Qaz, C3]; rfl
theorem Xd (h : i < n) : Gf 0 a st (plX n) i = FP st a i := by
 unfold Gf FP atL
 rw [Wd h]
 split
 · rfl
 ·
  show [⟨0, a - ((i : Int) + 1), 0, ⟨#[]⟩⟩] = [vN (a - 1 - (i : Int))]
  rw [show a - ((i : Int) + 1) = a - 1 - (i : Int) by omega]
theorem hyA_X (hi : i < n) (h0 : (n : Int) ≤ a) (ha : a ≤ 90) (hk : ¬ kdA S (Ce ty i) = 0) : hyA 0 a S st pr m2L ty (plX n) i = (hyX S st pr ty a i, 0) := by
 by_cases h1 : kdA S (Ce ty i) = 1
 ·
  rw [RY h1]
  unfold hyX
  rw [Aq (by omega), Xd hi]
  obtain ⟨t1, t2⟩ := V5 (a := a) (HW (st := st) (a := a) (i := i) (by omega) (by omega)).1
  rw [t1, t2]
 ·
  obtain ⟨h2, hc, h3⟩ := IX hk h1
  obtain ⟨hN0, hN4⟩ := Ll hc (.inl h3)
  obtain ⟨m1, m2⟩ := SK hN0 (by omega)
  rw [RX h1]
  unfold hyX
  rw [At h2]
  have e1 : hfX 0 (a + 1) st (plX n) i (nth (Ce ty i) ((Ce ty i).length - 1)).N (a + 1) = Pr (FP st (a + 1) i) (yX (mkX (Ce ty i))) := by
   unfold hfX Pr yX plL mkX
   rw [Xd hi, ← m1]
   have e2 : atL 0 (a + 1) (a + 1) = [vN 0] := by
    unfold atL
    rw [show a + 1 - (a + 1) = 0 by omega]
    rfl
   rw [e2]
   rfl
  unfold hy2
  rw [e1]
  obtain ⟨t1, t2⟩ := V5 (a := a + 1) (Tb (HW (st := st) (a := a + 1) (i := i) (by omega) (by omega)) (OX_y (mkX (Ce ty i))))
  rw [t1, t2]
  unfold hfM piP
  rw [UZ m2 JY, m1]
  rfl
theorem Rw (hm : m < n) : (List.range' (n - (m + 1)) (m + 1)).filter (Te S ty) = if 0 < kdA S (Ce ty (n - (m + 1))) then (n - (m + 1)) :: (List.range' (n - m) m).filter (Te S ty) else (List.range' (n - m) m).filter (Te S ty) := by
 rw [List.range'_succ, show n - (m + 1) + 1 = n - m by omega, List.filter_cons]
 unfold Te
 simp only [B8]
theorem kd_0 {t : List Nd} : ¬ kdA S t = 0 ↔ 0 < kdA S t := by
 unfold kdA
 (repeat' split) <;> omega
theorem WB (hS : CJ S = true) (hk : 0 ≤ k ∧ k < 6) (h6 : n ≤ 6) : ∀ m, m ≤ n → ∀ a : Int, (n : Int) ≤ a → a + m ≤ 80 → hyF S k st pr m2L ty (plX n) n m 0 a = (hoX S k st pr ty n ((List.range' (n - m) m).filter (Te S ty)) a, 0)
 | 0, _, a, h0, h1 => by
  have e : (List.range n).map (Gf 0 a st (plX n)) = (List.range n).map (FP st a) := List.map_congr_left fun i hi => Xd (List.mem_range.1 hi)
  rw [hyF, e]
  obtain ⟨t1, t2⟩ := V5 (a := a) (Vx (st := st) hS hk h6 h0 (by omega))
  have e2 : noL 0 ⟨26, k, ((n : Nat) : Int), S⟩ ((List.range n).map (FP st a)) = M7 S k st n a := At rfl
  rw [e2, t1, t2]
  rfl
 | m + 1, hmn, a, h0, h1 => by
  rw [hyF, Rw (by omega)]
  by_cases hz : kdA S (Ce ty (n - (m + 1))) = 0
  ·
   rw [At hz, Aq (by omega)]
   exact WB hS hk h6 m (by omega) a h0 (by omega)
  ·
   rw [Aq hz, At (kd_0.1 hz), hyA_X (by omega) h0 (by omega) hz]
   rw [WB hS hk h6 m (by omega) (a + 1) (by omega) (by omega)]
   rfl
theorem agF_X (hS : CJ S = true) (hk : 0 ≤ k ∧ k < 6) (h6 : n ≤ 6) : ∀ m, m ≤ n → agF S k st pr m2L ty n m 0 ((n - m : Nat) : Int) (plX (n - m)) = (arX S k st pr ty n m, 0)
 | 0, _ => by
  rw [agF]
  rw [show n - 0 = n from rfl, WB hS hk h6 n (Af _) n (Int.le_refl _) (by omega), Nat.sub_self, ← List.range_eq_range']
  rfl
 | m + 1, hmn => by
  rw [agF]
  have e : plX (n - (m + 1)) ++ [((n - (m + 1) : Nat) : Int) + 1] = plX (n - m) := by
   rw [← TC, show n - (m + 1) + 1 = n - m by omega]
  have e2 : ((n - (m + 1) : Nat) : Int) + 1 = ((n - m : Nat) : Int) := by omega
  rw [e, e2, agF_X hS hk h6 m (by omega), UZ RE JY]
  rfl
theorem csP_X {C : List (List (List Nd))} (hS : CJ S = true) (hk : 0 ≤ k ∧ k < 6) (h6 : (csT C k).length ≤ 6) : csP S C k st pr m2L = (arX S k st pr (csT C k) (csT C k).length (csT C k).length, 0) := by
 have := agF_X (S := S) (st := st) (pr := pr) (ty := csT C k) (n := (csT C k).length) hS hk h6 (csT C k).length (Af _)
 rw [Nat.sub_self] at this
 exact this
end
end
section
/- The document's case: lemmas for the walk. -/
open Go Go.RowKit
theorem up_X {a : Int} : bUp (m2L, 0) a 1 = (m2L, 0) := by
 unfold bUp
 rw [At rfl, PI.1, PI.2]
theorem WU {S : ByteArray} {k a : Int} {st : List Bool} {n : Nat} {Zs : List Bu} (h : EG Zs = (List.range n).map fun i => (FP st a i, (0 : Int))) : bOf ⟨26, k, ((n : Nat) : Int), S⟩ (EG Zs) = (M7 S k st n a, 0) := by
 have e : (fsE (EG Zs)).2 = 0 := NM fun i hi => by
  rw [h] at hi ⊢
  rw [BT, List.length_range] at hi
  simp [TH, hi]
 unfold bOf
 rw [At e, h, List.map_map]
 rfl
theorem U5 {st : List Bool} {a : Int} {i : Nat} (h0 : (i : Int) + 1 ≤ a) (h : a ≤ 90) : bUp (FP st a i, 0) 1 0 = (FP st (a + 1) i, 0) := by
 have hx := (HW (st := st) h0 (by omega : a ≤ 100)).1
 unfold bUp
 rw [At rfl]
 have hc1 : As 1 = 1 := by decide
 have hc0 : max 0 (As 0) = 0 := by decide
 obtain ⟨s1, s2⟩ := Fq (b := 1) (f := 0) hx.1
 rw [hc1, hc0] at s1 s2
 unfold FP at s1 s2 ⊢
 by_cases hb : H1 st i = true
 ·
  rw [At hb] at s1 s2 ⊢
  rw [At hb]
  have e : Bk [tkN] = .mk tkN [] := by kernel_rfl
  have e1 : E4 (shV 1 0) [tkN] 0 = 0 := by unfold E4; rw [e]; rfl
  rw [s1, s2, e1]
  unfold trL
  rw [At e1, e]
  rfl
 ·
  rw [Aq hb] at s1 s2 ⊢
  rw [Aq hb]
  have hw : (T.mk (vN (a - 1 - (i : Int))) []).wf = true := by
   rw [E8]
   simp only [AK, beq_iff_eq]
   exact ⟨⟨by rw [Fu rfl]; exact Aw ⟨by show 0 ≤ a - 1 - (i : Int); omega, by show a - 1 - (i : Int) ≤ 99; omega, rfl, rfl⟩, rfl⟩, rfl⟩
  have e : Bk [vN (a - 1 - (i : Int))] = .mk (vN (a - 1 - (i : Int))) [] := Du hw
  have e0 : shV 1 0 (vN (a - 1 - (i : Int))) 0 = (0, .mk (vN (a - 1 - (i : Int) + 1)) []) := by
   unfold shV
   rw [At (by show (0 : Int) ≤ a - 1 - (i : Int) - 0; omega), Aq (by show ¬ a - 1 - (i : Int) + 1 - 0 < 0; omega), Aq (by show ¬ 99 < a - 1 - (i : Int) + 1; omega)]
  have e1 : E4 (shV 1 0) [vN (a - 1 - (i : Int))] 0 = 0 := by
   unfold E4
   rw [e]
   show (shV 1 0 (vN (a - 1 - (i : Int))) 0).1 = 0
   rw [e0]
  rw [s1, s2, e1]
  unfold trL
  rw [At e1, e]
  show ((shV 1 0 (vN (a - 1 - (i : Int))) 0).2.flat, (0 : Int)) = _
  rw [e0, show a - 1 - (i : Int) + 1 = a + 1 - 1 - (i : Int) by omega]
  rfl
theorem S3 {C : List Tl} {k : Int} {i : Nat} (h : i < (Bm C k.toNat).2.2.length) : Ce (csT (B1 C) k) i = erA (BF (Bm C k.toNat).2.2 i).2.2 := by
 have hi : i < (EE (B1 C) k.toNat).length := by rw [← Fy, Bs]; exact h
 have e : Ce (csT (B1 C) k) i = erA (Ce (EE (B1 C) k.toNat) i) := by simp [csT, Ce, hi]
 rw [e, ← Fy, AQ]
theorem H6 {C : List Tl} {k : Int} : (csT (B1 C) k).length = (Bm C k.toNat).2.2.length := by
 unfold csT
 rw [BT, ← Fy, Bs]
def Qk (l : List Nat) : List Int := l.map fun i : Nat => (i : Int)
section
variable {S : ByteArray} {ty : List (List Nd)} {us : List Int} {i n : Nat}
theorem ow_yes (h : us = Qk (Ea S ty i)) (hk : 0 < kdA S (Ce ty i)) : us ++ [(i : Int)] = Qk (Ea S ty (i + 1)) := by
 have e : Ea S ty (i + 1) = Ea S ty i ++ [i] := by
  unfold Ea
  rw [Qaz, E9]
  simp [Te, hk]
 rw [e, h]
 unfold Qk
 rw [C3]
 rfl
theorem ow_no (h : us = Qk (Ea S ty i)) (hk : ¬ 0 < kdA S (Ce ty i)) : us = Qk (Ea S ty (i + 1)) := by
 have e : Ea S ty (i + 1) = Ea S ty i := by
  unfold Ea
  rw [Qaz, E9]
  simp [Te, hk]
 rw [e, h]
theorem Lo {l : List Nat} : (Qk l).length = l.length := by simp [Qk]
theorem Up {l : List Nat} {j : Nat} : Ci (Qk l) j = ((l.getD j 0 : Nat) : Int) := by
 unfold Ci Qk
 by_cases h : j < l.length
 · simp [h]
 · simp [AP, List.getElem?_eq_none (by omega : l.length ≤ j)]
theorem G5 : (Ea S ty n).length ≤ n := by
 have := List.length_filter_le (Te S ty) (List.range n)
 rw [List.length_range] at this
 exact this
theorem Rx {j : Nat} (h : j < (Ea S ty n).length) : (Ea S ty n).getD j 0 < n ∧ 0 < kdA S (Ce ty ((Ea S ty n).getD j 0)) := by
 have hm : (Ea S ty n).getD j 0 ∈ Ea S ty n := by
  have e : (Ea S ty n).getD j 0 = (Ea S ty n)[j] := by simp [h]
  rw [e]
  exact List.getElem_mem h
 obtain ⟨h1, h2⟩ := List.mem_filter.1 hm
 exact ⟨List.mem_range.1 h1, A9 h2⟩
theorem WG {l : List Nat} {j : Nat} (h : j < l.length) : l.drop j = l.getD j 0 :: l.drop (j + 1) := by
 rw [List.drop_eq_getElem_cons h]
 simp [h]
end
section
variable {S : ByteArray} {k a : Int} {st : List Bool} {pr : Bool} {ty : List (List Nd)} {n i q : Nat}
theorem RZ (h : q < (Ea S ty n).length) : hoX S k st pr ty n ((Ea S ty n).drop q) a = piX (mkI pr 3) (hyX S st pr ty a ((Ea S ty n).getD q 0)) (hoX S k st pr ty n ((Ea S ty n).drop (q + 1)) (a + 1)) := by
 rw [WG h, hoX]
theorem SO (h : i < n) : arX S k st pr ty n (n - i) = piX (mkI (H1 st i) 2 + mkI pr 1) (Ce ty i) (arX S k st pr ty n (n - (i + 1))) := by
 rw [show n - i = (n - (i + 1)) + 1 by omega, arX, show n - (n - (i + 1) + 1) = i by omega]
theorem LJ {n : Nd} (h : n.S.size < 1000000) : sml [n] := D5.2 fun m hm => by rw [AB.1 hm]; exact h
theorem Hw {x y : List Nd} (hx : sml x) (hy : sml y) : sml (x ++ y) := D5.2 fun m hm => by
 rcases B5.1 hm with h | h
 · exact D5.1 hx m h
 · exact D5.1 hy m h
theorem pi_Z {m : Int} {d b : List Nd} (hd : sml d) (hb : sml b) : (piX m d b).length = d.length + b.length + 1 ∧ sml (piX m d b) := by
 unfold piX
 refine ⟨by simp; omega, Hw (by simpa using Hw hd hb) (LJ (show (⟨#[]⟩ : ByteArray).size < 1000000 by decide))⟩
theorem V7 {x : List Nd} (h : sml x) : (Iy x).length = x.length + 1 ∧ sml (Iy x) := by
 unfold Iy
 exact ⟨by simp, Hw (by simpa using h) (LJ (by decide))⟩
theorem Jr : (FP st a i).length = 1 ∧ sml (FP st a i) := by
 unfold FP
 split
 · exact ⟨rfl, LJ (by decide)⟩
 · exact ⟨rfl, LJ (show (⟨#[]⟩ : ByteArray).size < 1000000 by decide)⟩
theorem Uo (hS : S.size < 1000000) : (M7 S k st n a).length = n + 1 ∧ sml (M7 S k st n a) := by
 unfold M7
 refine ⟨?_, Hw (D5.2 fun m hm => ?_) (LJ hS)⟩
 ·
  rw [Ab, Ln _ (fun z hz => by obtain ⟨j, _, rfl⟩ := Ch.1 hz; exact Jr.1)]
  simp
 ·
  obtain ⟨z, hz, hm⟩ := List.mem_flatten.1 hm
  obtain ⟨j, _, rfl⟩ := Ch.1 hz
  exact D5.1 Jr.2 m hm
theorem y_Z {m : Int} : (yX m).length = 1 ∧ sml (yX m) := by
 unfold yX
 split
 · exact ⟨rfl, LJ (by decide)⟩
 · exact ⟨rfl, LJ (by decide)⟩
theorem app_Z {x y : List Nd} (hx : sml x) (hy : sml y) : (Pr x y).length = x.length + y.length + 1 ∧ sml (Pr x y) := by
 unfold Pr
 exact ⟨by simp; omega, Hw (by simpa using Hw hx hy) (LJ (by decide))⟩
def TyZ (ty : List (List Nd)) : Prop := ∀ i, sml (Ce ty i) ∧ (Ce ty i).length ≤ 4000
theorem hy_Z (hty : TyZ ty) : (hyX S st pr ty a i).length ≤ 4010 ∧ sml (hyX S st pr ty a i) := by
 unfold hyX
 split
 ·
  have h1 := WH (hty i).1
  have h2 := Jr (st := st) (a := a + 1) (i := i)
  have h3 := y_Z (m := mkX (Ce ty i))
  have h4 := app_Z h2.2 h3.2
  have h5 := V7 h4.2
  have h6 := pi_Z (m := mkX (Ce ty i) + mkI pr 1) h1.2 h5.2
  exact ⟨by omega, h6.2⟩
 ·
  have h2 := Jr (st := st) (a := a) (i := i)
  have h5 := V7 h2.2
  exact ⟨by omega, h5.2⟩
theorem ho_Z (hS : S.size < 1000000) (hty : TyZ ty) : ∀ (l : List Nat) (a : Int), (hoX S k st pr ty n l a).length ≤ n + 2 + 4011 * l.length ∧ sml (hoX S k st pr ty n l a)
 | [], a => by
  have h1 := Uo (k := k) (st := st) (n := n) (a := a) hS
  have h2 := V7 h1.2
  rw [hoX]
  exact ⟨by rw [h2.1, h1.1]; simp, h2.2⟩
 | i :: l, a => by
  have h1 := ho_Z hS hty l (a + 1)
  have h2 := hy_Z (S := S) (st := st) (pr := pr) (a := a) (i := i) hty
  have h3 := pi_Z (m := mkI pr 3) h2.2 h1.2
  rw [hoX]
  exact ⟨by rw [h3.1, Ad]; omega, h3.2⟩
theorem ar_Z (hS : S.size < 1000000) (hty : TyZ ty) : ∀ m, (arX S k st pr ty n m).length ≤ n + 2 + 4011 * n + 4001 * m ∧ sml (arX S k st pr ty n m)
 | 0 => by
  have h1 := ho_Z (k := k) (st := st) (pr := pr) (n := n) hS hty (Ea S ty n) n
  have h2 := G5 (S := S) (ty := ty) (n := n)
  rw [arX]
  exact ⟨by omega, h1.2⟩
 | m + 1 => by
  have h1 := ar_Z hS hty m
  have h2 := hty (n - (m + 1))
  have h3 := pi_Z (m := mkI (H1 st (n - (m + 1))) 2 + mkI pr 1) h2.1 h1.2
  rw [arX]
  exact ⟨by rw [h3.1]; omega, h3.2⟩
end
theorem Pa {C : List Tl} {k : Int} (h : ∀ x ∈ Bt (Bm C k.toNat).2.2, chk x = 0 ∧ sml x) : TyZ (csT (B1 C) k) := fun i => by
 by_cases hi : i < (Bm C k.toNat).2.2.length
 ·
  rw [S3 hi]
  have hm := h _ (CR (l := Bt (Bm C k.toNat).2.2) (k := i) (by rw [Bs]; exact hi))
  rw [← AQ] at hm
  have h3 := (Co hm.1).2.2.2
  have h4 := Vq (BF (Bm C k.toNat).2.2 i).2.2
  exact ⟨(G1 hm.1 hm.2).1.1, by omega⟩
 ·
  have : Ce (csT (B1 C) k) i = [] := by
   unfold Ce
   rw [AP, List.getElem?_eq_none (by rw [H6]; omega)]
   rfl
  rw [this]
  exact ⟨VA, by simp⟩
def cqE (K L : Int) (S : ByteArray) (T B : List Nd) (C : List Tl) (k : Int) (st : List Bool) (pr : Bool) : Int :=
 if ¬ csC K L S T B C k st m2L = 0 then csC K L S T B C k st m2L else chk (arX S k st pr (csT (B1 C) k) (Bm C k.toNat).2.2.length (Bm C k.toNat).2.2.length)
def cqL (K L : Int) (S : ByteArray) (T B : List Nd) (C : List Tl) (k : Int) (st : List Bool) (pr : Bool) : List Nd :=
 if cqE K L S T B C k st pr = 0 then arX S k st pr (csT (B1 C) k) (Bm C k.toNat).2.2.length (Bm C k.toNat).2.2.length else []
section
variable {K L k : Int} {S : ByteArray} {T B : List Nd} {C : List Tl} {st : List Bool} {pr : Bool}
theorem cq_no {e : Int} (h : csC K L S T B C k st m2L = e) (he : ¬ e = 0) : cqL K L S T B C k st pr = [] ∧ cqE K L S T B C k st pr = e := by
 have h1 : cqE K L S T B C k st pr = e := by unfold cqE; rw [h, At he]
 exact ⟨by unfold cqL; rw [h1, Aq he], h1⟩
theorem Qc (h : ¬ scE K L S T B C = 0) : cqL K L S T B C k st pr = [] ∧ cqE K L S T B C k st pr = scE K L S T B C := cq_no (Un h) h
theorem M4 (h : scE K L S T B C = 0) (h3 : k < 0 ∨ ((C.length : Nat) : Int) ≤ k ∨ ¬ st.length = (Bm C k.toNat).2.2.length) : cqL K L S T B C k st pr = [] ∧ cqE K L S T B C k st pr = 1 := cq_no (WN h Kg h3) (by decide)
theorem Qd {x : List Nd} (h : scE K L S T B C = 0) (h3 : ¬ (k < 0 ∨ ((C.length : Nat) : Int) ≤ k ∨ ¬ st.length = (Bm C k.toNat).2.2.length)) (hx : x = arX S k st pr (csT (B1 C) k) (Bm C k.toNat).2.2.length (Bm C k.toNat).2.2.length) : cqL K L S T B C k st pr = (Ge (x, 0)).1 ∧ cqE K L S T B C k st pr = (Ge (x, 0)).2 := by
 have h1 : cqE K L S T B C k st pr = chk x := by unfold cqE; rw [csC_0 h Kg h3, Aq (AR rfl), hx]
 unfold Ge
 rw [At rfl]
 unfold cqL
 rw [h1, ← hx]
 by_cases hc : chk x = 0
 ·
  rw [At hc, At hc]
  exact ⟨rfl, hc⟩
 ·
  rw [Aq hc, Aq hc]
  exact ⟨rfl, rfl⟩
end
theorem QI {K L : Int} {S : ByteArray} {T B : List Nd} {C : List Tl} (h : scE K L S T B C = 0) : CJ S = true := by
 refine WJ (K := K) (L := L) (t := T) (b := B) (c := C) (Classical.byContradiction fun hn => ?_)
 unfold scE at h
 rw [At hn] at h
 exact hn h
section
variable {S : ByteArray} {k : Int} {st : List Bool} {pr : Bool} {ty : List (List Nd)} {n q : Nat} {us : List Int} {rT rL oL H rO : List Nd} {Zs : List Bu}
theorem VH (hus : us = Qk (Ea S ty n)) (hT : rT = Iy rL) (hR : rL = (bOf ⟨26, k, ((n : Nat) : Int), S⟩ (EG Zs)).1) (hZ : EG Zs = (List.range n).map fun i => (FP st (((n : Nat) : Int) + ((us.length : Nat) : Int)) i, (0 : Int))) :
  rT = hoX S k st pr ty n ((Ea S ty n).drop us.length) (((n : Nat) : Int) + ((us.length : Nat) : Int)) := by
 have e : (Ea S ty n).drop us.length = [] := by rw [hus, Lo]; exact List.drop_length
 rw [e, hT, hR, WU hZ]
 rfl
theorem QN (hO : oL = hoX S k st pr ty n ((Ea S ty n).drop q) (((n : Nat) : Int) + ((q : Nat) : Int))) (hq : 1 ≤ q) (hl : q - 1 < (Ea S ty n).length) (hh : H = hyX S st pr ty (((n : Nat) : Int) + ((q : Nat) : Int) - 1) ((Ea S ty n).getD (q - 1) 0)) (hr : rO = piX (mkI pr 3) H oL) :
  rO = hoX S k st pr ty n ((Ea S ty n).drop (q - 1)) (((n : Nat) : Int) + (((q - 1 : Nat)) : Int)) := by
 rw [RZ hl, show q - 1 + 1 = q by omega, show ((n : Nat) : Int) + ((q - 1 : Nat) : Int) + 1 = ((n : Nat) : Int) + ((q : Nat) : Int) by omega, show ((n : Nat) : Int) + ((q - 1 : Nat) : Int) = ((n : Nat) : Int) + ((q : Nat) : Int) - 1 by omega, ← hO, ← hh]
 exact hr
end
theorem td_bd {z : Int} (h0 : 0 ≤ z) (h : z ≤ 3) : 0 ≤ z.tdiv 2 ∧ z.tdiv 2 ≤ 1 := by
 have : z = 0 ∨ z = 1 ∨ z = 2 ∨ z = 3 := by omega
 rcases this with rfl | rfl | rfl | rfl <;> decide
theorem F5 {x : List Nd} (h : OX x) : (Iy x).length ≤ 30 := by
 have := h.2.1
 unfold Iy
 rw [Ab, Em, List.flatten_nil, CL, Bv]
 omega
theorem pi_len {m : Int} {d b : List Nd} : (piX m d b).length = d.length + b.length + 1 := by unfold piX; simp; omega
end
end Go.Proofs.YtpfmnpaifchleaaGreatDoor
namespace Go.Proofs.YtpfmnpaifchleaaGreatDoor
open Go Go.RowKit
set_option linter.unusedSimpArgs false
set_option linter.unusedVariables false
set_option maxRecDepth 100000
set_option maxHeartbeats 4000000
theorem EN (w0 : World) (Z : Nat → Prop) (hZ : HZ w0 Z) (b : Bool) (n : Int)  :
    Calls Tryz.prog 33 [.bool b, .int .i64 n].toArray w0 (fun e w' => e = .returned (.int .i64 (mkI b n)) ∧ Fr A6 w0 w') := by
 have b0 := s0 (M := A6) hZ zn
 refine AE Tryz.func33 rfl Tryz.ntmps33 rfl fun c0 d0 => ?_
 refine rR d0 fun c0 f0 => ?_
 refine Ac fun c0 d0 => rR f0 fun c0 h0 => ?_
 refine wcg h0 (fun c0 f0 => ?_) fun c0 i0 => ?_
 refine rR f0 fun h0 j0 => ?_
 refine rt j0 b0.fr ?_
 exact Bz (by (unfold mkI; simp [c0]))
 refine Am <| xn d0 <| rR i0 fun d0 j0 => ?_
 refine rt j0 b0.fr ?_
 exact Bz (by (unfold mkI; simp [c0]))
theorem Hy (w0 : World) (Z : Nat → Prop) (hZ : HZ w0 Z) (n : Int) (b : Bool)  :
    Calls Tryz.prog 27 [.int .i64 n, .bool b].toArray w0 (fun e w' => ∃ (rA0 : Option Addr) (rc0 : Nat) (rL0 : List Nd), e = .returned (.agg #[.slice rA0 rL0.length rc0, .int .i64 (0)]) ∧ Fr A6 w0 w' ∧ N4 rA0 rc0 rL0 w' (nxt Z w0 w') ∧ rL0 = (if b = true then [tkN] else [vN n])) := by
 have b0 := s0 (M := A6) hZ zn
 refine AE Tryz.func27 rfl Tryz.ntmps27 rfl fun c0 d0 => ?_
 refine wsc fun c0 f0 => alc d0 b0 fun c0 h0 i0 j0 k0 => ?_
 refine wn f0 <| Ac fun f0 i0 => rR j0 fun f0 h0 => ?_
 refine wcg h0 (fun f0 j0 => ?_) fun f0 c0 => ?_
 refine wsc fun h0 d0 => ?_
 have h0 := k0.nf
 refine krc j0 h0 ok65 (NY _ _ h0.il ) fun b0 m0 n0 o0 p0 q0 t0 u0 => ?_
 refine sto 0 u0 q0 fun t0 b0 h0 j0 => ?_
 refine wn d0 <| BV <| AX <| Ev (i := 0) (vs := [.slice m0 o0.length n0, .int .i64 (0)]) (.inl rfl) h0 j0 rfl rfl rfl rfl AO rfl Hs ?_
 refine ⟨m0, n0, o0, ?_, j0.fr, j0.rx 0, (by rw [p0]; first | (rw [At (by assumption)]; done) | (rw [Aq (by simp [f0])]; done))⟩
 exact cre (Gw (by rfl) (by rfl))
 refine Am <| xn i0 <| wsc fun i0 j0 => mv c0 fun i0 p0 => ?_
 have i0 := k0.nf
 refine krc p0 i0 ok66 (Qf _ _ i0.il n) fun k0 c0 o0 n0 m0 h0 d0 b0 => ?_
 refine sto 0 b0 h0 fun d0 k0 i0 p0 => ?_
 refine wn j0 <| BV <| Ev (i := 0) (vs := [.slice c0 n0.length o0, .int .i64 (0)]) (.inl rfl) i0 p0 rfl rfl rfl rfl AO rfl Hs ?_
 refine ⟨c0, o0, n0, ?_, p0.fr, p0.rx 0, (by rw [m0]; first | (rw [At (by assumption)]; done) | (rw [Aq (by simp [f0])]; done))⟩
 exact cre (Gw (by rfl) (by rfl))
theorem G2 (w0 : World) (Z : Nat → Prop) (hZ : HZ w0 Z) (moA : Option Addr) (moc : Nat) (mo : List Nd) (a : Int) (xA : Option Addr) (xc : Nat) (x : List Nd) (xe : Int) (hmo : N4 moA moc mo w0 Z) (hx : N4 xA xc x w0 Z) (hm2 : mo = m2L := by exact ax) (hxe : xe = 0 := by exact ax) (hox : OX x := by exact ax) (hsx : sml x := by exact ax) :
    Calls Tryz.prog 28 [.slice moA mo.length moc, .int .i64 a, .agg #[.slice xA x.length xc, .int .i64 xe]].toArray w0 (fun e w' => ∃ (rA0 : Option Addr) (rc0 : Nat) (rL0 : List Nd), e = .returned (.agg #[.slice rA0 rL0.length rc0, .int .i64 (0)]) ∧ Fr A6 w0 w' ∧ N4 rA0 rc0 rL0 w' (nxt Z w0 w') ∧ rL0 = (Iy x)) := by
 have b0 := s0 (M := A6) hZ (zc hmo (zc hx zn))
 refine AE Tryz.func28 rfl Tryz.ntmps28 rfl fun c0 d0 => ?_
 refine wsc fun c0 f0 => bxx d0 b0 fun c0 h0 i0 j0 k0 => ?_
 refine alc j0 k0 fun i0 h0 c0 d0 b0 => ?_
 refine wn f0 <| Ac fun f0 c0 => ?_
 obtain ⟨f0, h0, i0⟩ := b0.agree
 refine Cj (n := 7) i0 2 (pB 0 0 pn) (A5 BC) fun h0 f0 b0 k0 j0 m0 => ?_
 refine dR [0] d0 fun k0 h0 => ?_
 refine dt 1 rfl f0 h0 (AJ rfl) (fun x hx => WV h0) m0 fun k0 d0 => ?_
 refine dR [2] d0 fun k0 h0 => ?_
 refine dt 4 rfl f0 h0 (AJ rfl) (fun x hx => C9 (sy h0) h0 rfl rfl rfl (Ay (hx.c 0) (Ay (hx.c 1) (CellsAt.nil _ _))) AO rfl Hs (by decide) gt) m0 fun k0 d0 => ?_
 refine d1 3 ?_
 have k0 := j0.nf
 refine krc d0 k0 ok31 (Jm _ _ k0.il _ _ _ 0 a 1 (k0.g 0) (hla := (by rw [hm2]; decide)) (hsa := (hm2 ▸ OK))) fun j0 h0 m0 f0 i0 n0 o0 p0 => ?_
 obtain ⟨hus, hul⟩ : sml f0 ∧ f0.length ≤ 10 := by rw [i0, hm2, up_X]; exact ⟨OK, by decide⟩
 have o0 := sWI n0 2 (pB 0 0 pn)
 refine ⟨o0, ?_⟩
 refine d1 5 ?_
 have o0 := n0.nf
 refine krc p0 o0 ok67 (NX _ _ o0.il _ _ _ ((bUp (mo, 0) a 1).2) _ _ _ xe (o0.g 3) (o0.g 1) (hsa := hus) (hla := (by omega)) (hsx := hsx) (hlx := (by have := hox.2.1; omega))) fun n0 m0 h0 j0 k0 d0 q0 t0 => ?_
 have q0 := sWI d0 2 (pB 0 0 pn)
 refine ⟨q0, ?_⟩
 refine d1 6 ?_
 refine sto 1 t0 d0 fun q0 n0 o0 p0 => ?_
 have n0 := sWI p0 2 (pB 0 0 pn)
 refine ⟨n0, ?_⟩
 refine AL (by kernel_rfl) (b0 _ _ ?_) _
 refine xn c0 <| BV <| Ev (i := 1) (vs := [.slice m0 j0.length h0, .int .i64 ((bAt (f0, ((bUp (mo, 0) a 1).2)) [(x, xe)]).2)]) (.inl rfl) o0 p0 rfl rfl rfl rfl AO rfl Hs ?_
 refine ⟨m0, h0, j0, ?_, p0.fr, p0.rx 4, (by rw [k0, i0, hm2, hxe]; exact congrArg Prod.fst (UB hox))⟩
 exact cre (Gw (by rfl) (by (rw [i0, hm2, hxe]; exact congrArg Prod.snd (UB hox))))
theorem GS (w0 : World) (Z : Nat → Prop) (hZ : HZ w0 Z) (n : Int) (aA : Option Addr) (ac : Nat) (a : List Nd) (ae : Int) (bA : Option Addr) (bc : Nat) (b : List Nd) (be : Int) (ha : N4 aA ac a w0 Z) (hb : N4 bA bc b w0 Z) (hae : ae = 0 := by exact ax) (hbe : be = 0 := by exact ax) (hla : a.length ≤ 1000000 := by exact ax) (hlb : b.length ≤ 1000000 := by exact ax) :
    Calls Tryz.prog 32 [.int .i64 n, .agg #[.slice aA a.length ac, .int .i64 ae], .agg #[.slice bA b.length bc, .int .i64 be]].toArray w0 (fun e w' => ∃ (rA0 : Option Addr) (rc0 : Nat) (rL0 : List Nd), e = .returned (.agg #[.slice rA0 rL0.length rc0, .int .i64 (0)]) ∧ Fr A6 w0 w' ∧ N4 rA0 rc0 rL0 w' (nxt Z w0 w') ∧ rL0 = (piX n a b)) := by
 have b0 := s0 (M := A6) hZ (zc ha (zc hb zn))
 refine AE Tryz.func32 rfl Tryz.ntmps32 rfl fun c0 d0 => ?_
 refine wsc fun c0 f0 => bxx d0 b0 fun c0 h0 i0 j0 k0 => ?_
 refine bxx j0 k0 fun i0 h0 c0 d0 b0 => ?_
 refine alc d0 b0 fun c0 h0 i0 k0 j0 => ?_
 refine wn f0 <| wsc fun f0 i0 => lR k0 fun f0 h0 => ?_
 have f0 := j0.nf
 refine krc h0 f0 ok30 (Gu _ _ f0.il 3 n _ _ _ ae _ _ _ be (f0.g 0) (f0.g 1) (hla := hla) (hlb := hlb)) fun j0 k0 c0 b0 d0 m0 n0 o0 => ?_
 refine sto 2 o0 m0 fun n0 j0 f0 h0 => ?_
 refine wn i0 <| BV <| Ev (i := 2) (vs := [.slice k0 b0.length c0, .int .i64 ((bOf ⟨3, n, 0, ⟨#[]⟩⟩ [(a, ae), (b, be)]).2)]) (.inl rfl) f0 h0 rfl rfl rfl rfl AO rfl Hs ?_
 refine ⟨k0, c0, b0, ?_, h0.fr, h0.rx 2, (by rw [d0, hae, hbe]; rfl)⟩
 exact cre (Gw (by rfl) (by (rw [hae, hbe]; rfl)))
end Go.Proofs.YtpfmnpaifchleaaGreatDoor
namespace Go.Proofs.YtpfmnpaifchleaaGreatDoor
set_option linter.unusedSimpArgs false
set_option linter.unusedVariables false
section
/- What is asked of a declaration, told as the document has it. -/
open Go Go.RowKit
def mnE (c : List Tl) : Int := if 6 < c.length then 21 else if (c.any fun s => decide (6 < s.2.2.length)) = true then 21 else 0
theorem fr4 (b4 b5 b6 b7 : Bool) (x : Int) : frE [mkI (!b4) 1, mkI (!b5) 1, mkI (!b6) 1, mkI (!b7) 1, x] = if (((b4 && b5) && b6) && b7) = true then frE [x] else 1 := by
 cases b4 <;> cases b5 <;> cases b6 <;> cases b7 <;> simp [frE, mkI]
theorem WK {K L : Int} {S : ByteArray} {t b : List Nd} {c : List Tl} : dkE K L S t b c = if K < 1 ∨ 3 < K then 1 else if nmB S = false then 20 else if ¬ clD K t b (B1 c) = 0 then clD K t b (B1 c) else
  if K = 3 then (if (((0 < t.length ∨ 0 < b.length) ∨ L < 1) ∨ 9 < L) then 1 else mnE c) else if ((0 < c.length ∨ ¬ L = 0) ∨ K = 2 ∧ 0 < b.length) then 1 else mnE c := by
 unfold dkE dkB
 have hm : frE [mkI (!(!(decide (6 < ((c.length : Nat) : Int)) || c.any fun s => decide (6 < s.2.2.length)))) 21] = mnE c := by
  unfold mnE mkI frE frE
  by_cases h1 : 6 < c.length
  ·
   have : (6 : Int) < ((c.length : Nat) : Int) := by omega
   simp [h1, this]
  ·
   have : ¬ (6 : Int) < ((c.length : Nat) : Int) := by omega
   simp only [h1, this, decide_false, Bool.false_or, Bool.not_not, if_false]
   cases (c.any fun s => decide (6 < s.2.2.length)) <;> rfl
 by_cases h1 : K < 1 ∨ 3 < K
 ·
  rw [At h1, show (decide (1 ≤ K) && decide (K ≤ 3)) = false by rcases h1 with h | h <;> simp <;> omega]
  rfl
 ·
  rw [Aq h1, show (decide (1 ≤ K) && decide (K ≤ 3)) = true by simp; omega]
  cases h2 : nmB S with
  | false => rfl
  | true =>
   rw [Aq (by simp)]
   have e1 : ∀ l, frE (mkI (!true) 1 :: mkI (!true) 20 :: clD K t b (B1 c) :: l) = if ¬ clD K t b (B1 c) = 0 then clD K t b (B1 c) else frE l := fun l => by
    show frE (0 :: 0 :: clD K t b (B1 c) :: l) = _
    rw [frE, At rfl, frE, At rfl, frE]
    by_cases h : clD K t b (B1 c) = 0
    · rw [At h, Aq (AR h)]
    · rw [Aq h, At h]
   rw [e1]
   by_cases h3 : clD K t b (B1 c) = 0
   ·
    rw [Aq (AR h3), Aq (AR h3), fr4, hm]
    by_cases hK : K = 3
    ·
     rw [At hK]
     by_cases h4 : ((0 < t.length ∨ 0 < b.length) ∨ L < 1) ∨ 9 < L
     ·
      rw [At h4, Aq]
      simp only [AK, FT, B8, ET, Di]
      omega
     ·
      rw [Aq h4, At]
      simp only [AK, FT, B8, ET, Di]
      omega
    ·
     rw [Aq hK]
     by_cases h4 : (0 < c.length ∨ ¬ L = 0) ∨ K = 2 ∧ 0 < b.length
     ·
      rw [At h4, Aq]
      simp only [AK, FT, B8, ET, Di]
      omega
     ·
      rw [Aq h4, At]
      simp only [AK, FT, B8, ET, Di]
      omega
   · rw [At h3, At h3]
section
variable {K L : Int} {S : ByteArray} {t b : List Nd} {c : List Tl}
theorem Nk {Q : Nat → Prop} {k : Nat} (h : ∀ j, j < k → Q j) (hk : Q k) : ∀ j, j < k + 1 → Q j := fun j hj => by
 by_cases e : j = k
 · rw [e]; exact hk
 · exact h j (by omega)
theorem rd_1 (h : K < 1 ∨ 3 < K) : dkE K L S t b c = 1 := by rw [WK, At h]
theorem rd_2 (h : ¬ (K < 1 ∨ 3 < K)) (h2 : nmB S = false) : dkE K L S t b c = 20 := by rw [WK, Aq h, At h2]
theorem rd_c (h : ¬ (K < 1 ∨ 3 < K)) (h2 : nmB S = true) : dkE K L S t b c = if ¬ clD K t b (B1 c) = 0 then clD K t b (B1 c) else
  if K = 3 then (if (((0 < t.length ∨ 0 < b.length) ∨ L < 1) ∨ 9 < L) then 1 else mnE c) else if ((0 < c.length ∨ ¬ L = 0) ∨ K = 2 ∧ 0 < b.length) then 1 else mnE c := by rw [WK, Aq h, Aq (by rw [h2]; decide)]
theorem T3 {k : Nat} (h : ¬ (K < 1 ∨ 3 < K)) (h2 : nmB S = true) (hi : ∀ i, i < k → clT (Ce (tmD K t b (B1 c)) i) = 0) (hk : k < (tmD K t b (B1 c)).length) (h3 : ¬ clT (Ce (tmD K t b (B1 c)) k) = 0) : dkE K L S t b c = clT (Ce (tmD K t b (B1 c)) k) := by
 have e : clD K t b (B1 c) = clT (Ce (tmD K t b (B1 c)) k) := WO hi hk h3
 rw [rd_c h h2, e, At h3]
theorem rd_0 (h : ¬ (K < 1 ∨ 3 < K)) (h2 : nmB S = true) (h3 : clD K t b (B1 c) = 0) : dkE K L S t b c = if K = 3 then (if (((0 < t.length ∨ 0 < b.length) ∨ L < 1) ∨ 9 < L) then 1 else mnE c) else if ((0 < c.length ∨ ¬ L = 0) ∨ K = 2 ∧ 0 < b.length) then 1 else mnE c := by
 rw [rd_c h h2, Aq (AR h3)]
theorem T2 (h : ¬ (K < 1 ∨ 3 < K)) (h2 : nmB S = true) (h3 : clD K t b (B1 c) = 0) (h4 : (K = 3 ∧ (((0 < t.length ∨ 0 < b.length) ∨ L < 1) ∨ 9 < L)) ∨ (¬ K = 3 ∧ ((0 < c.length ∨ ¬ L = 0) ∨ K = 2 ∧ 0 < b.length))) : dkE K L S t b c = 1 := by
 rw [rd_0 h h2 h3]
 rcases h4 with ⟨h4, h5⟩ | ⟨h4, h5⟩
 · rw [At h4, At h5]
 · rw [Aq h4, At h5]
theorem Hx (h : ¬ (K < 1 ∨ 3 < K)) (h2 : nmB S = true) (h3 : clD K t b (B1 c) = 0) (h4 : (K = 3 ∧ ¬ (((0 < t.length ∨ 0 < b.length) ∨ L < 1) ∨ 9 < L)) ∨ (¬ K = 3 ∧ ¬ ((0 < c.length ∨ ¬ L = 0) ∨ K = 2 ∧ 0 < b.length))) : dkE K L S t b c = mnE c := by
 rw [rd_0 h h2 h3]
 rcases h4 with ⟨h4, h5⟩ | ⟨h4, h5⟩
 · rw [At h4, Aq h5]
 · rw [Aq h4, Aq h5]
theorem TL (h : 6 < c.length) : mnE c = 21 := At h
theorem TK {j : Nat} (h : j < c.length) (h2 : 6 < (Bm c j).2.2.length) : mnE c = 21 := by
 unfold mnE
 split
 · rfl
 ·
  rw [At]
  rw [F3]
  exact ⟨Bm c j, DT h, Aw h2⟩
theorem TM (h : ¬ 6 < c.length) (h2 : ∀ i, i < c.length → (fun s : Tl => decide (6 < s.2.2.length)) (Bm c i) = false) : mnE c = 0 := by
 unfold mnE
 rw [Aq h, Aq]
 rw [Bool.not_eq_true, List.any_eq_false]
 intro x hx
 obtain ⟨i, hi, rfl⟩ := List.getElem_of_mem hx
 have := h2 i hi
 have e : Bm c i = c[i] := by simp [Bm, hi]
 rw [e] at this
 simpa using this
end
end
section
/- What is asked of an inductive type, told as the document has it. -/
open Go Go.RowKit
section
variable {q : ByteArray} {n : Nd} {t : List Nd} {k : Nat}
theorem rs_me : meN q n = (((decide (n.K = 25) || decide (n.K = 26)) || decide (n.K = 27)) && decide (n.S = q)) := by
 unfold meN
 rw [Bool.and_comm, Bool.or_assoc]
theorem rs_no (h : (((decide ((nth t k).K = 25) || decide ((nth t k).K = 26)) || decide ((nth t k).K = 27)) && decide ((nth t k).S = q)) = false) : meN q (nth t k) = false := rs_me.trans h
theorem rs_yes (hk : k < t.length) (h : (((decide ((nth t k).K = 25) || decide ((nth t k).K = 26)) || decide ((nth t k).K = 27)) && decide ((nth t k).S = q)) = true) : t.any (meN q) = true := by
 rw [F3]
 exact ⟨nth t k, G6 hk, rs_me.trans h⟩
theorem rs_all (h : ∀ j, j < t.length → meN q (nth t j) = false) : t.any (meN q) = false := by
 rw [List.any_eq_false]
 intro x hx
 obtain ⟨i, hi, rfl⟩ := List.getElem_of_mem hx
 have := h i hi
 have e : nth t i = t[i] := by simp [nth, hi]
 rw [e] at this
 simp [this]
end
end
section
/- The words of the language, told by comparing. -/
open Go Go.RowKit
theorem Es {s c : ByteArray} (h : s = c) (hc : fmM.any (Fk c) = true) : fmM.any (Fk s) = true := by rw [h]; exact hc
theorem Mq {s c : ByteArray} (h : s = c) (hc : alM.any (Fk c) = true) : alM.any (Fk s) = true := by rw [h]; exact hc
end
end Go.Proofs.YtpfmnpaifchleaaGreatDoor
namespace Go.Proofs.YtpfmnpaifchleaaGreatDoor
open Go Go.RowKit
set_option linter.unusedSimpArgs false
set_option linter.unusedVariables false
set_option maxRecDepth 100000
set_option maxHeartbeats 4000000
theorem Nj (w0 : World) (Z : Nat → Prop) (hZ : HZ w0 Z) (s : ByteArray)  :
    Calls Tryz.prog 150 [.string s].toArray w0 (fun e w' => ∃ z0_0 : Int, ∃ z0_1 : Int, ∃ z0_2 : ByteArray, e = .returned (.tuple #[.agg #[.int .i64 z0_0, .int .i64 z0_1, .string z0_2], .bool (fmM.any (Fk s))]) ∧ Fr A6 w0 w') := by
 have b0 := s0 (M := A6) hZ zn
 refine AE Tryz.func150 rfl Tryz.ntmps150 rfl fun c0 d0 => ?_
 refine wsc fun c0 f0 => alc d0 b0 fun c0 h0 i0 j0 k0 => ?_
 refine aw j0 f0 fun i0 h0 => ?_
 refine Ac fun f0 i0 => rR h0 fun f0 j0 => ?_
 refine A4 ?_
 refine rR j0 fun f0 h0 => ?_
 refine wcd h0 (fun f0 j0 => ?_) fun f0 c0 => ?_
 refine wsc fun h0 d0 => bld j0 fun h0 b0 => ?_
 refine sto 0 b0 k0 fun h0 j0 m0 n0 => ?_
 refine aw m0 d0 fun j0 h0 => ?_
 refine BV <| Bf <| AX <| Cr (i := 0) (vs := [.int .i64 2, .int .i64 0, .string (⟨#[110]⟩ : ByteArray)]) h0 n0 rfl rfl rfl rfl rfl AY rfl Ei ?_
 refine ⟨2, 0, (⟨#[110]⟩ : ByteArray), ?_, n0.fr⟩
 exact Bj rfl (BQ (by exact (Es (by assumption) (by decide)).symm))
 refine rR c0 fun n0 h0 => ?_
 refine wcd h0 (fun n0 c0 => ?_) fun n0 d0 => ?_
 refine wsc fun h0 j0 => bld c0 fun h0 m0 => ?_
 refine sto 0 m0 k0 fun h0 c0 b0 o0 => ?_
 refine aw b0 j0 fun c0 h0 => ?_
 refine BV <| Bf <| AX <| Cr (i := 0) (vs := [.int .i64 3, .int .i64 0, .string (⟨#[46, 118, 46]⟩ : ByteArray)]) h0 o0 rfl rfl rfl rfl rfl AY rfl Ei ?_
 refine ⟨3, 0, (⟨#[46, 118, 46]⟩ : ByteArray), ?_, o0.fr⟩
 exact Bj rfl (BQ (by exact (Es (by assumption) (by decide)).symm))
 refine rR d0 fun o0 h0 => ?_
 refine wcd h0 (fun o0 d0 => ?_) fun o0 j0 => ?_
 refine wsc fun h0 c0 => bld d0 fun h0 b0 => ?_
 refine sto 0 b0 k0 fun h0 d0 m0 p0 => ?_
 refine aw m0 c0 fun d0 h0 => ?_
 refine BV <| Bf <| AX <| Cr (i := 0) (vs := [.int .i64 3, .int .i64 1, .string (⟨#[46, 118, 46]⟩ : ByteArray)]) h0 p0 rfl rfl rfl rfl rfl AY rfl Ei ?_
 refine ⟨3, 1, (⟨#[46, 118, 46]⟩ : ByteArray), ?_, p0.fr⟩
 exact Bj rfl (BQ (by exact (Es (by assumption) (by decide)).symm))
 refine rR j0 fun p0 h0 => ?_
 refine wcd h0 (fun p0 j0 => ?_) fun p0 c0 => ?_
 refine wsc fun h0 d0 => bld j0 fun h0 m0 => ?_
 refine sto 0 m0 k0 fun h0 j0 b0 q0 => ?_
 refine aw b0 d0 fun j0 h0 => ?_
 refine BV <| Bf <| AX <| Cr (i := 0) (vs := [.int .i64 3, .int .i64 2, .string (⟨#[46, 118, 46]⟩ : ByteArray)]) h0 q0 rfl rfl rfl rfl rfl AY rfl Ei ?_
 refine ⟨3, 2, (⟨#[46, 118, 46]⟩ : ByteArray), ?_, q0.fr⟩
 exact Bj rfl (BQ (by exact (Es (by assumption) (by decide)).symm))
 refine rR c0 fun q0 h0 => ?_
 refine wcd h0 (fun q0 c0 => ?_) fun q0 d0 => ?_
 refine wsc fun h0 j0 => bld c0 fun h0 b0 => ?_
 refine sto 0 b0 k0 fun h0 c0 m0 t0 => ?_
 refine aw m0 j0 fun c0 h0 => ?_
 refine BV <| Bf <| AX <| Cr (i := 0) (vs := [.int .i64 3, .int .i64 3, .string (⟨#[46, 118, 46]⟩ : ByteArray)]) h0 t0 rfl rfl rfl rfl rfl AY rfl Ei ?_
 refine ⟨3, 3, (⟨#[46, 118, 46]⟩ : ByteArray), ?_, t0.fr⟩
 exact Bj rfl (BQ (by exact (Es (by assumption) (by decide)).symm))
 refine rR d0 fun t0 h0 => ?_
 refine wcd h0 (fun t0 d0 => ?_) fun t0 j0 => ?_
 refine wsc fun h0 c0 => bld d0 fun h0 m0 => ?_
 refine sto 0 m0 k0 fun h0 d0 b0 u0 => ?_
 refine aw b0 c0 fun d0 h0 => ?_
 refine BV <| Bf <| AX <| Cr (i := 0) (vs := [.int .i64 6, .int .i64 0, .string (⟨#[46, 118, 46]⟩ : ByteArray)]) h0 u0 rfl rfl rfl rfl rfl AY rfl Ei ?_
 refine ⟨6, 0, (⟨#[46, 118, 46]⟩ : ByteArray), ?_, u0.fr⟩
 exact Bj rfl (BQ (by exact (Es (by assumption) (by decide)).symm))
 refine rR j0 fun u0 h0 => ?_
 refine wcd h0 (fun u0 j0 => ?_) fun u0 c0 => ?_
 refine wsc fun h0 d0 => bld j0 fun h0 b0 => ?_
 refine sto 0 b0 k0 fun h0 j0 m0 v0 => ?_
 refine aw m0 d0 fun j0 h0 => ?_
 refine BV <| Bf <| AX <| Cr (i := 0) (vs := [.int .i64 6, .int .i64 1, .string (⟨#[46, 118, 46]⟩ : ByteArray)]) h0 v0 rfl rfl rfl rfl rfl AY rfl Ei ?_
 refine ⟨6, 1, (⟨#[46, 118, 46]⟩ : ByteArray), ?_, v0.fr⟩
 exact Bj rfl (BQ (by exact (Es (by assumption) (by decide)).symm))
 refine rR c0 fun v0 h0 => ?_
 refine wcd h0 (fun v0 c0 => ?_) fun v0 d0 => ?_
 refine wsc fun h0 j0 => bld c0 fun h0 m0 => ?_
 refine sto 0 m0 k0 fun h0 c0 b0 x0 => ?_
 refine aw b0 j0 fun c0 h0 => ?_
 refine BV <| Bf <| AX <| Cr (i := 0) (vs := [.int .i64 6, .int .i64 2, .string (⟨#[46, 118, 46]⟩ : ByteArray)]) h0 x0 rfl rfl rfl rfl rfl AY rfl Ei ?_
 refine ⟨6, 2, (⟨#[46, 118, 46]⟩ : ByteArray), ?_, x0.fr⟩
 exact Bj rfl (BQ (by exact (Es (by assumption) (by decide)).symm))
 refine rR d0 fun x0 h0 => ?_
 refine wcd h0 (fun x0 d0 => ?_) fun x0 j0 => ?_
 refine wsc fun h0 c0 => bld d0 fun h0 b0 => ?_
 refine sto 0 b0 k0 fun h0 d0 m0 y0 => ?_
 refine aw m0 c0 fun d0 h0 => ?_
 refine BV <| Bf <| AX <| Cr (i := 0) (vs := [.int .i64 6, .int .i64 3, .string (⟨#[46, 118, 46]⟩ : ByteArray)]) h0 y0 rfl rfl rfl rfl rfl AY rfl Ei ?_
 refine ⟨6, 3, (⟨#[46, 118, 46]⟩ : ByteArray), ?_, y0.fr⟩
 exact Bj rfl (BQ (by exact (Es (by assumption) (by decide)).symm))
 refine rR j0 fun y0 h0 => ?_
 refine wcd h0 (fun y0 j0 => ?_) fun y0 c0 => ?_
 refine wsc fun h0 d0 => bld j0 fun h0 m0 => ?_
 refine sto 0 m0 k0 fun h0 j0 b0 z0 => ?_
 refine aw b0 d0 fun j0 h0 => ?_
 refine BV <| Bf <| AX <| Cr (i := 0) (vs := [.int .i64 4, .int .i64 0, .string (⟨#[46, 118, 46]⟩ : ByteArray)]) h0 z0 rfl rfl rfl rfl rfl AY rfl Ei ?_
 refine ⟨4, 0, (⟨#[46, 118, 46]⟩ : ByteArray), ?_, z0.fr⟩
 exact Bj rfl (BQ (by exact (Es (by assumption) (by decide)).symm))
 refine rR c0 fun z0 h0 => ?_
 refine wcd h0 (fun z0 c0 => ?_) fun z0 d0 => ?_
 refine wsc fun h0 j0 => bld c0 fun h0 b0 => ?_
 refine sto 0 b0 k0 fun h0 c0 m0 b1 => ?_
 refine aw m0 j0 fun c0 h0 => ?_
 refine BV <| Bf <| AX <| Cr (i := 0) (vs := [.int .i64 5, .int .i64 0, .string (⟨#[46, 46]⟩ : ByteArray)]) h0 b1 rfl rfl rfl rfl rfl AY rfl Ei ?_
 refine ⟨5, 0, (⟨#[46, 46]⟩ : ByteArray), ?_, b1.fr⟩
 exact Bj rfl (BQ (by exact (Es (by assumption) (by decide)).symm))
 refine rR d0 fun b1 h0 => ?_
 refine wcd h0 (fun b1 d0 => ?_) fun b1 j0 => ?_
 refine wsc fun h0 c0 => bld d0 fun h0 m0 => ?_
 refine sto 0 m0 k0 fun h0 d0 b0 c1 => ?_
 refine aw b0 c0 fun d0 h0 => ?_
 refine BV <| Bf <| AX <| Cr (i := 0) (vs := [.int .i64 7, .int .i64 0, .string (⟨#[46, 46, 46]⟩ : ByteArray)]) h0 c1 rfl rfl rfl rfl rfl AY rfl Ei ?_
 refine ⟨7, 0, (⟨#[46, 46, 46]⟩ : ByteArray), ?_, c1.fr⟩
 exact Bj rfl (BQ (by exact (Es (by assumption) (by decide)).symm))
 refine rR j0 fun c1 h0 => ?_
 refine wcd h0 (fun c1 j0 => ?_) fun c1 c0 => ?_
 refine wsc fun h0 d0 => bld j0 fun h0 b0 => ?_
 refine sto 0 b0 k0 fun h0 j0 m0 d1 => ?_
 refine aw m0 d0 fun j0 h0 => ?_
 refine BV <| Bf <| AX <| Cr (i := 0) (vs := [.int .i64 8, .int .i64 0, .string (⟨#[46]⟩ : ByteArray)]) h0 d1 rfl rfl rfl rfl rfl AY rfl Ei ?_
 refine ⟨8, 0, (⟨#[46]⟩ : ByteArray), ?_, d1.fr⟩
 exact Bj rfl (BQ (by exact (Es (by assumption) (by decide)).symm))
 refine rR c0 fun d1 h0 => ?_
 refine wcd h0 (fun d1 c0 => ?_) fun d1 d0 => ?_
 refine wsc fun h0 j0 => bld c0 fun h0 m0 => ?_
 refine sto 0 m0 k0 fun h0 c0 b0 f1 => ?_
 refine aw b0 j0 fun c0 h0 => ?_
 refine BV <| Bf <| AX <| Cr (i := 0) (vs := [.int .i64 9, .int .i64 0, .string (⟨#[46]⟩ : ByteArray)]) h0 f1 rfl rfl rfl rfl rfl AY rfl Ei ?_
 refine ⟨9, 0, (⟨#[46]⟩ : ByteArray), ?_, f1.fr⟩
 exact Bj rfl (BQ (by exact (Es (by assumption) (by decide)).symm))
 refine rR d0 fun f1 h0 => ?_
 refine wcd h0 (fun f1 d0 => ?_) fun f1 j0 => ?_
 refine wsc fun h0 c0 => bld d0 fun h0 b0 => ?_
 refine sto 0 b0 k0 fun h0 d0 m0 h1 => ?_
 refine aw m0 c0 fun d0 h0 => ?_
 refine BV <| Bf <| AX <| Cr (i := 0) (vs := [.int .i64 12, .int .i64 0, .string (⟨#[46]⟩ : ByteArray)]) h0 h1 rfl rfl rfl rfl rfl AY rfl Ei ?_
 refine ⟨12, 0, (⟨#[46]⟩ : ByteArray), ?_, h1.fr⟩
 exact Bj rfl (BQ (by exact (Es (by assumption) (by decide)).symm))
 refine rR j0 fun h1 h0 => ?_
 refine wcd h0 (fun h1 j0 => ?_) fun h1 c0 => ?_
 refine wsc fun h0 d0 => bld j0 fun h0 m0 => ?_
 refine sto 0 m0 k0 fun h0 j0 b0 i1 => ?_
 refine aw b0 d0 fun j0 h0 => ?_
 refine BV <| Bf <| AX <| Cr (i := 0) (vs := [.int .i64 28, .int .i64 0, .string (⟨#[46]⟩ : ByteArray)]) h0 i1 rfl rfl rfl rfl rfl AY rfl Ei ?_
 refine ⟨28, 0, (⟨#[46]⟩ : ByteArray), ?_, i1.fr⟩
 exact Bj rfl (BQ (by exact (Es (by assumption) (by decide)).symm))
 refine rR c0 fun i1 h0 => ?_
 refine wcd h0 (fun i1 c0 => ?_) fun i1 d0 => ?_
 refine wsc fun h0 j0 => bld c0 fun h0 b0 => ?_
 refine sto 0 b0 k0 fun h0 c0 m0 j1 => ?_
 refine aw m0 j0 fun c0 h0 => ?_
 refine BV <| Bf <| AX <| Cr (i := 0) (vs := [.int .i64 13, .int .i64 0, .string (⟨#[118, 46, 46, 86, 46, 46]⟩ : ByteArray)]) h0 j1 rfl rfl rfl rfl rfl AY rfl Ei ?_
 refine ⟨13, 0, (⟨#[118, 46, 46, 86, 46, 46]⟩ : ByteArray), ?_, j1.fr⟩
 exact Bj rfl (BQ (by exact (Es (by assumption) (by decide)).symm))
 refine rR d0 fun j1 h0 => ?_
 refine wcd h0 (fun j1 d0 => ?_) fun j1 j0 => ?_
 refine wsc fun h0 c0 => bld d0 fun h0 m0 => ?_
 refine sto 0 m0 k0 fun h0 d0 b0 k1 => ?_
 refine aw b0 c0 fun d0 h0 => ?_
 refine BV <| Bf <| AX <| Cr (i := 0) (vs := [.int .i64 15, .int .i64 0, .string (⟨#[46, 46]⟩ : ByteArray)]) h0 k1 rfl rfl rfl rfl rfl AY rfl Ei ?_
 refine ⟨15, 0, (⟨#[46, 46]⟩ : ByteArray), ?_, k1.fr⟩
 exact Bj rfl (BQ (by exact (Es (by assumption) (by decide)).symm))
 refine rR j0 fun k1 h0 => ?_
 refine wcd h0 (fun k1 j0 => ?_) fun k1 c0 => ?_
 refine wsc fun h0 d0 => bld j0 fun h0 b0 => ?_
 refine sto 0 b0 k0 fun h0 j0 m0 m1 => ?_
 refine aw m0 d0 fun j0 h0 => ?_
 refine BV <| Bf <| AX <| Cr (i := 0) (vs := [.int .i64 18, .int .i64 0, .string (⟨#[46, 46, 46]⟩ : ByteArray)]) h0 m1 rfl rfl rfl rfl rfl AY rfl Ei ?_
 refine ⟨18, 0, (⟨#[46, 46, 46]⟩ : ByteArray), ?_, m1.fr⟩
 exact Bj rfl (BQ (by exact (Es (by assumption) (by decide)).symm))
 refine rR c0 fun m1 h0 => ?_
 refine wcd h0 (fun m1 c0 => ?_) fun m1 d0 => ?_
 refine wsc fun h0 j0 => bld c0 fun h0 m0 => ?_
 refine sto 0 m0 k0 fun h0 c0 b0 n1 => ?_
 refine aw b0 j0 fun c0 h0 => ?_
 refine BV <| Bf <| AX <| Cr (i := 0) (vs := [.int .i64 19, .int .i64 0, .string (⟨#[46, 46]⟩ : ByteArray)]) h0 n1 rfl rfl rfl rfl rfl AY rfl Ei ?_
 refine ⟨19, 0, (⟨#[46, 46]⟩ : ByteArray), ?_, n1.fr⟩
 exact Bj rfl (BQ (by exact (Es (by assumption) (by decide)).symm))
 refine rR d0 fun n1 h0 => ?_
 refine wcd h0 (fun n1 d0 => ?_) fun n1 j0 => ?_
 refine wsc fun h0 c0 => bld d0 fun h0 b0 => ?_
 refine sto 0 b0 k0 fun h0 d0 m0 o1 => ?_
 refine aw m0 c0 fun d0 h0 => ?_
 refine BV <| Bf <| AX <| Cr (i := 0) (vs := [.int .i64 20, .int .i64 0, .string (⟨#[46, 46, 46, 46]⟩ : ByteArray)]) h0 o1 rfl rfl rfl rfl rfl AY rfl Ei ?_
 refine ⟨20, 0, (⟨#[46, 46, 46, 46]⟩ : ByteArray), ?_, o1.fr⟩
 exact Bj rfl (BQ (by exact (Es (by assumption) (by decide)).symm))
 refine rR j0 fun o1 h0 => ?_
 refine wcd h0 (fun o1 j0 => ?_) fun o1 c0 => ?_
 refine wsc fun h0 d0 => bld j0 fun h0 m0 => ?_
 refine sto 0 m0 k0 fun h0 j0 b0 p1 => ?_
 refine aw b0 d0 fun j0 h0 => ?_
 refine BV <| Bf <| AX <| Cr (i := 0) (vs := [.int .i64 21, .int .i64 0, .string (⟨#[46, 46, 118, 46, 46, 46, 46]⟩ : ByteArray)]) h0 p1 rfl rfl rfl rfl rfl AY rfl Ei ?_
 refine ⟨21, 0, (⟨#[46, 46, 118, 46, 46, 46, 46]⟩ : ByteArray), ?_, p1.fr⟩
 exact Bj rfl (BQ (by exact (Es (by assumption) (by decide)).symm))
 refine rR c0 fun p1 h0 => ?_
 refine wcd h0 (fun p1 c0 => ?_) fun p1 d0 => ?_
 refine wsc fun h0 j0 => bld c0 fun h0 b0 => ?_
 refine sto 0 b0 k0 fun h0 c0 m0 q1 => ?_
 refine aw m0 j0 fun c0 h0 => ?_
 refine BV <| Bf <| AX <| Cr (i := 0) (vs := [.int .i64 22, .int .i64 0, .string (⟨#[46, 86, 46, 46, 46, 46]⟩ : ByteArray)]) h0 q1 rfl rfl rfl rfl rfl AY rfl Ei ?_
 refine ⟨22, 0, (⟨#[46, 86, 46, 46, 46, 46]⟩ : ByteArray), ?_, q1.fr⟩
 exact Bj rfl (BQ (by exact (Es (by assumption) (by decide)).symm))
 refine rR d0 fun q1 h0 => ?_
 refine wcd h0 (fun q1 d0 => ?_) fun q1 j0 => ?_
 refine wsc fun h0 c0 => bld d0 fun h0 m0 => ?_
 refine sto 0 m0 k0 fun h0 d0 b0 s1 => ?_
 refine aw b0 c0 fun d0 h0 => ?_
 refine BV <| Bf <| AX <| Cr (i := 0) (vs := [.int .i64 23, .int .i64 0, .string (⟨#[46, 46]⟩ : ByteArray)]) h0 s1 rfl rfl rfl rfl rfl AY rfl Ei ?_
 refine ⟨23, 0, (⟨#[46, 46]⟩ : ByteArray), ?_, s1.fr⟩
 exact Bj rfl (BQ (by exact (Es (by assumption) (by decide)).symm))
 refine rR j0 fun s1 h0 => ?_
 refine wcd h0 (fun s1 j0 => ?_) fun s1 c0 => ?_
 refine wsc fun h0 d0 => bld j0 fun h0 b0 => ?_
 refine sto 0 b0 k0 fun h0 j0 m0 t1 => ?_
 refine aw m0 d0 fun j0 h0 => ?_
 refine BV <| Bf <| AX <| Cr (i := 0) (vs := [.int .i64 24, .int .i64 0, .string (⟨#[46, 118, 46, 46, 46]⟩ : ByteArray)]) h0 t1 rfl rfl rfl rfl rfl AY rfl Ei ?_
 refine ⟨24, 0, (⟨#[46, 118, 46, 46, 46]⟩ : ByteArray), ?_, t1.fr⟩
 exact Bj rfl (BQ (by exact (Es (by assumption) (by decide)).symm))
 refine rR c0 fun t1 h0 => ?_
 refine wcd h0 (fun t1 c0 => ?_) fun t1 d0 => ?_
 refine wsc fun h0 j0 => bld c0 fun h0 m0 => ?_
 refine sto 0 m0 k0 fun h0 c0 b0 u1 => ?_
 refine aw b0 j0 fun c0 h0 => ?_
 refine BV <| Bf <| AX <| Cr (i := 0) (vs := [.int .i64 25, .int .i64 0, .string (⟨#[100]⟩ : ByteArray)]) h0 u1 rfl rfl rfl rfl rfl AY rfl Ei ?_
 refine ⟨25, 0, (⟨#[100]⟩ : ByteArray), ?_, u1.fr⟩
 exact Bj rfl (BQ (by exact (Es (by assumption) (by decide)).symm))
 refine rR d0 fun u1 h0 => ?_
 refine wcd h0 (fun u1 d0 => ?_) fun u1 j0 => ?_
 refine wsc fun h0 c0 => bld d0 fun h0 b0 => ?_
 refine sto 0 b0 k0 fun h0 d0 m0 v1 => ?_
 refine aw m0 c0 fun d0 h0 => ?_
 refine BV <| Bf <| AX <| Cr (i := 0) (vs := [.int .i64 26, .int .i64 0, .string (⟨#[100, 110, 42]⟩ : ByteArray)]) h0 v1 rfl rfl rfl rfl rfl AY rfl Ei ?_
 refine ⟨26, 0, (⟨#[100, 110, 42]⟩ : ByteArray), ?_, v1.fr⟩
 exact Bj rfl (BQ (by exact (Es (by assumption) (by decide)).symm))
 refine rR j0 fun v1 h0 => ?_
 refine wcd h0 (fun v1 j0 => ?_) fun v1 c0 => ?_
 refine wsc fun h0 d0 => bld j0 fun h0 m0 => ?_
 refine sto 0 m0 k0 fun h0 j0 b0 x1 => ?_
 refine aw b0 d0 fun j0 h0 => ?_
 refine BV <| Bf <| AX <| Cr (i := 0) (vs := [.int .i64 27, .int .i64 0, .string (⟨#[100, 118, 46, 42, 46]⟩ : ByteArray)]) h0 x1 rfl rfl rfl rfl rfl AY rfl Ei ?_
 refine ⟨27, 0, (⟨#[100, 118, 46, 42, 46]⟩ : ByteArray), ?_, x1.fr⟩
 exact Bj rfl (BQ (by first | exact (Es (by assumption) (by decide)).symm | (unfold fmM; simp only [List.any_cons, List.any_nil, Fk]; simp [f0, n0, o0, p0, q0, t0, u0, v0, x0, y0, z0, b1, c1, d1, f1, h1, i1, j1, k1, m1, n1, o1, p1, q1, s1, t1, u1, v1])))
 refine Am <| A7 <| xn i0 <| wsc fun i0 x1 => bld c0 fun i0 h0 => ?_
 refine sto 0 h0 k0 fun i0 c0 d0 j0 => ?_
 refine aw d0 x1 fun c0 i0 => ?_
 refine BV <| Cr (i := 0) (vs := [.int .i64 0, .int .i64 0, .string (⟨#[]⟩ : ByteArray)]) i0 j0 rfl rfl rfl rfl rfl AY rfl Ei ?_
 refine ⟨0, 0, (⟨#[]⟩ : ByteArray), ?_, j0.fr⟩
 exact Bj rfl (BQ (by first | exact (Es (by assumption) (by decide)).symm | (unfold fmM; simp only [List.any_cons, List.any_nil, Fk]; simp [f0, n0, o0, p0, q0, t0, u0, v0, x0, y0, z0, b1, c1, d1, f1, h1, i1, j1, k1, m1, n1, o1, p1, q1, s1, t1, u1, v1])))
theorem Nb (w0 : World) (Z : Nat → Prop) (hZ : HZ w0 Z) (s : ByteArray)  :
    Calls Tryz.prog 151 [.string s].toArray w0 (fun e w' => ∃ z0_0 : Int, ∃ z0_1 : Int, ∃ z0_2 : Int, ∃ z0_3 : ByteArray, e = .returned (.tuple #[.agg #[.int .i64 z0_0, .int .i64 z0_1, .int .i64 z0_2, .string z0_3], .bool (alM.any (Fk s))]) ∧ Fr A6 w0 w') := by
 have b0 := s0 (M := A6) hZ zn
 refine AE Tryz.func151 rfl Tryz.ntmps151 rfl fun c0 d0 => ?_
 refine wsc fun c0 f0 => alc d0 b0 fun c0 h0 i0 j0 k0 => ?_
 refine aw j0 f0 fun i0 h0 => ?_
 refine Ac fun f0 i0 => rR h0 fun f0 j0 => ?_
 refine A4 ?_
 refine rR j0 fun f0 h0 => ?_
 refine wcd h0 (fun f0 j0 => ?_) fun f0 c0 => ?_
 refine wsc fun h0 d0 => bld j0 fun h0 b0 => ?_
 refine sto 0 b0 k0 fun h0 j0 m0 n0 => ?_
 refine aw m0 d0 fun j0 h0 => ?_
 refine BV <| Bf <| AX <| Cr (i := 0) (vs := [.int .i64 2, .int .i64 0, .int .i64 0, .string (⟨#[]⟩ : ByteArray)]) h0 n0 rfl rfl rfl rfl rfl Ar rfl DK ?_
 refine ⟨2, 0, 0, (⟨#[]⟩ : ByteArray), ?_, n0.fr⟩
 exact Bj rfl (BQ (by exact (Mq (by assumption) (by decide)).symm))
 refine rR c0 fun n0 h0 => ?_
 refine wcd h0 (fun n0 c0 => ?_) fun n0 d0 => ?_
 refine wsc fun h0 j0 => bld c0 fun h0 m0 => ?_
 refine sto 0 m0 k0 fun h0 c0 b0 o0 => ?_
 refine aw b0 j0 fun c0 h0 => ?_
 refine BV <| Bf <| AX <| Cr (i := 0) (vs := [.int .i64 10, .int .i64 0, .int .i64 0, .string (⟨#[]⟩ : ByteArray)]) h0 o0 rfl rfl rfl rfl rfl Ar rfl DK ?_
 refine ⟨10, 0, 0, (⟨#[]⟩ : ByteArray), ?_, o0.fr⟩
 exact Bj rfl (BQ (by exact (Mq (by assumption) (by decide)).symm))
 refine rR d0 fun o0 h0 => ?_
 refine wcd h0 (fun o0 d0 => ?_) fun o0 j0 => ?_
 refine wsc fun h0 c0 => bld d0 fun h0 b0 => ?_
 refine sto 0 b0 k0 fun h0 d0 m0 p0 => ?_
 refine aw m0 c0 fun d0 h0 => ?_
 refine BV <| Bf <| AX <| Cr (i := 0) (vs := [.int .i64 11, .int .i64 0, .int .i64 0, .string (⟨#[]⟩ : ByteArray)]) h0 p0 rfl rfl rfl rfl rfl Ar rfl DK ?_
 refine ⟨11, 0, 0, (⟨#[]⟩ : ByteArray), ?_, p0.fr⟩
 exact Bj rfl (BQ (by exact (Mq (by assumption) (by decide)).symm))
 refine rR j0 fun p0 h0 => ?_
 refine wcd h0 (fun p0 j0 => ?_) fun p0 c0 => ?_
 refine wsc fun h0 d0 => bld j0 fun h0 m0 => ?_
 refine sto 0 m0 k0 fun h0 j0 b0 q0 => ?_
 refine aw b0 d0 fun j0 h0 => ?_
 refine BV <| Bf <| AX <| Cr (i := 0) (vs := [.int .i64 14, .int .i64 0, .int .i64 0, .string (⟨#[]⟩ : ByteArray)]) h0 q0 rfl rfl rfl rfl rfl Ar rfl DK ?_
 refine ⟨14, 0, 0, (⟨#[]⟩ : ByteArray), ?_, q0.fr⟩
 exact Bj rfl (BQ (by exact (Mq (by assumption) (by decide)).symm))
 refine rR c0 fun q0 h0 => ?_
 refine wcd h0 (fun q0 c0 => ?_) fun q0 d0 => ?_
 refine wsc fun h0 j0 => bld c0 fun h0 b0 => ?_
 refine sto 0 b0 k0 fun h0 c0 m0 t0 => ?_
 refine aw m0 j0 fun c0 h0 => ?_
 refine BV <| Bf <| AX <| Cr (i := 0) (vs := [.int .i64 16, .int .i64 0, .int .i64 0, .string (⟨#[]⟩ : ByteArray)]) h0 t0 rfl rfl rfl rfl rfl Ar rfl DK ?_
 refine ⟨16, 0, 0, (⟨#[]⟩ : ByteArray), ?_, t0.fr⟩
 exact Bj rfl (BQ (by exact (Mq (by assumption) (by decide)).symm))
 refine rR d0 fun t0 h0 => ?_
 refine wcd h0 (fun t0 d0 => ?_) fun t0 j0 => ?_
 refine wsc fun h0 c0 => bld d0 fun h0 m0 => ?_
 refine sto 0 m0 k0 fun h0 d0 b0 u0 => ?_
 refine aw b0 c0 fun d0 h0 => ?_
 refine BV <| Bf <| AX <| Cr (i := 0) (vs := [.int .i64 17, .int .i64 0, .int .i64 0, .string (⟨#[]⟩ : ByteArray)]) h0 u0 rfl rfl rfl rfl rfl Ar rfl DK ?_
 refine ⟨17, 0, 0, (⟨#[]⟩ : ByteArray), ?_, u0.fr⟩
 exact Bj rfl (BQ (by exact (Mq (by assumption) (by decide)).symm))
 refine rR j0 fun u0 h0 => ?_
 refine wcd h0 (fun u0 j0 => ?_) fun u0 c0 => ?_
 refine wsc fun h0 d0 => bld j0 fun h0 b0 => ?_
 refine sto 0 b0 k0 fun h0 j0 m0 v0 => ?_
 refine aw m0 d0 fun j0 h0 => ?_
 refine BV <| Bf <| AX <| Cr (i := 0) (vs := [.int .i64 29, .int .i64 0, .int .i64 0, .string (⟨#[]⟩ : ByteArray)]) h0 v0 rfl rfl rfl rfl rfl Ar rfl DK ?_
 refine ⟨29, 0, 0, (⟨#[]⟩ : ByteArray), ?_, v0.fr⟩
 exact Bj rfl (BQ (by first | exact (Mq (by assumption) (by decide)).symm | (unfold alM; simp only [List.any_cons, List.any_nil, Fk]; simp [f0, n0, o0, p0, q0, t0, u0])))
 refine Am <| A7 <| xn i0 <| wsc fun i0 v0 => bld c0 fun i0 h0 => ?_
 refine sto 0 h0 k0 fun i0 c0 d0 j0 => ?_
 refine aw d0 v0 fun c0 i0 => ?_
 refine BV <| Cr (i := 0) (vs := [.int .i64 0, .int .i64 0, .int .i64 0, .string (⟨#[]⟩ : ByteArray)]) i0 j0 rfl rfl rfl rfl rfl Ar rfl DK ?_
 refine ⟨0, 0, 0, (⟨#[]⟩ : ByteArray), ?_, j0.fr⟩
 exact Bj rfl (BQ (by first | exact (Mq (by assumption) (by decide)).symm | (unfold alM; simp only [List.any_cons, List.any_nil, Fk]; simp [f0, n0, o0, p0, q0, t0, u0])))
theorem J3 (w0 : World) (Z : Nat → Prop) (hZ : HZ w0 Z) (s : ByteArray)  :
    Calls Tryz.prog 135 [.string s].toArray w0 (fun e w' => e = .returned (.bool (kwB s)) ∧ Fr A6 w0 w') := by
 have b0 := s0 (M := A6) hZ zn
 refine AE Tryz.func135 rfl Tryz.ntmps135 rfl fun c0 d0 => ?_
 refine rR d0 fun c0 f0 => ?_
 refine wsc fun c0 d0 => mv f0 fun c0 h0 => ?_
 have c0 := b0.nf
 refine kcl h0 ok150 (Nj _ _ c0.il s) ?_
 rintro h0 b0 ⟨z18, z19, z20, rfl, f0⟩
 have b0 := c0.below f0.below
 refine ⟨_, rfl, fun f0 c0 => ?_⟩
 refine lR c0 fun f0 h0 => ?_
 refine alc h0 b0 fun f0 c0 i0 j0 k0 => ?_
 refine sto 0 j0 k0 fun i0 c0 f0 h0 => ?_
 refine aw f0 d0 fun c0 i0 => ?_
 refine wsc fun d0 c0 => mv i0 fun d0 f0 => ?_
 have d0 := h0.nf
 refine kcl f0 ok151 (Nb _ _ d0.il s) ?_
 rintro f0 h0 ⟨z51, z52, z53, z54, rfl, i0⟩
 have h0 := d0.below i0.below
 refine ⟨_, rfl, fun i0 d0 => ?_⟩
 refine lR d0 fun i0 f0 => ?_
 refine alc f0 h0 fun i0 d0 k0 j0 b0 => ?_
 refine sto 1 j0 b0 fun k0 d0 i0 f0 => ?_
 refine aw i0 c0 fun d0 k0 => ?_
 refine wsc fun c0 d0 => lR k0 fun c0 i0 => ?_
 refine lOr 1 (alM.any (Fk s)) i0 fun c0 k0 => ?_
 refine aw k0 d0 fun c0 i0 => ?_
 refine rt i0 f0.fr ?_
 exact BQ (by rfl)
end Go.Proofs.YtpfmnpaifchleaaGreatDoor
