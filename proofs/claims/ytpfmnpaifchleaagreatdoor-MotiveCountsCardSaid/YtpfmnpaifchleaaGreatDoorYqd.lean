import Derived.Test.YtpfmnpaifchleaaGreatDoorYqc
import Derived.MapKept
import Derived.Laws.Concat
namespace Go.Proofs.YtpfmnpaifchleaaGreatDoor
open Go Go.RowKit
set_option linter.defProp false
def AL := @wpAnyH_done
def BM := @wpIn_seq_k
def Dh := @wpIn_cond_false
def Dx := @wpIn_cond_true
def Qaz := @List.range_succ
def GH := @wpIn_skip
end Go.Proofs.YtpfmnpaifchleaaGreatDoor
namespace Go.Proofs.YtpfmnpaifchleaaGreatDoor
open Go Go.RowKit
set_option linter.unusedSimpArgs false
set_option linter.unusedVariables false
set_option maxRecDepth 100000
set_option maxHeartbeats 4000000
theorem I6 (w0 : World) (Z : Nat → Prop) (hZ : HZ w0 Z) (n : Nd) (hShp : Cu w0 Z) (hs : n.S.size < 1000000 := by exact ax) :
    Calls Tryz.prog 126 [.agg #[.int .i64 (n.K), .int .i64 (n.N), .int .i64 (n.M), .string n.S]].toArray w0 (fun e w' => e = .returned (.bool (right n)) ∧ Fr A6 w0 w') := by
 have b0 := s0 (M := A6) hZ (zc (d := Br) hShp zn)
 refine AE Tryz.func126 rfl Tryz.ntmps126 rfl fun c0 d0 => ?_
 refine wsc fun c0 f0 => bxx d0 b0 fun c0 h0 i0 j0 k0 => ?_
 refine aw j0 f0 fun h0 c0 => ?_
 refine Ac fun f0 h0 => wsc fun f0 j0 => lR c0 fun f0 d0 => ?_
 refine lOr 3 (decide (30 ≤ (n.K))) d0 fun f0 c0 => ?_
 refine wn j0 <| wcg c0 (fun j0 f0 => ?_) fun j0 d0 => ?_
 have c0 := j0
 try simp only [bz] at c0
 refine rR f0 fun c0 b0 => ?_
 refine rt b0 k0.fr ?_
 exact BQ (by exact (LU (by omega)).symm)
 have b0 := CU j0
 have c0 := Ak b0
 have b0 := CT j0
 have f0 := Ak b0
 refine Am <| xn h0 <| wsc fun h0 b0 => lR d0 fun h0 m0 => ?_
 refine Lb (i := (n.K).toNat) (j := ((n.K).toNat) * 4) sv m0 rfl rfl rfl rfl Tryz.underlying155 Q4 (by omega) (by omega) rfl (by decide) fun h0 d0 => ?_
 obtain ⟨h0, m0, n0, o0⟩ := I1 (k0.get (i := 0) rfl) ((n.K).toNat) (by omega)
 have p0 := k0.data (Bw 1 h0 (shp ((n.K).toNat)).b.length m0 (BN (shp ((n.K).toNat)).b)) n0
 refine Cw sv d0 rfl rfl rfl o0 DY rfl Q4 (by decide) fun n0 k0 => ?_
 refine alc k0 p0 fun n0 o0 d0 q0 t0 => ?_
 refine sto 1 q0 t0 fun o0 n0 k0 p0 => ?_
 refine wn b0 <| Ac fun b0 n0 => A4 ?_
 refine Gc (fun ga gw => Reg ga 110 [(1, .pointer (some ⟨i0, 0, none⟩)), (2, .bool false), (3, .pointer (some ⟨d0, 0, none⟩)), (16, .bool (((!((shp ((n.K).toNat)).n)) && (!(decide ((n.N) = 0)))) || (((!((shp ((n.K).toNat)).m)) && (!(decide ((n.M) = 0)))) || (((!((shp ((n.K).toNat)).s)) && (!(decide (n.S = (⟨#[]⟩ : ByteArray))))) || (((shp ((n.K).toNat)).s) && (!(CJ n.S))))))), (1000000, .bool false)] ∧ St w0 Z A6 gw [.box i0 30 [.int .i64 (n.K), .int .i64 (n.N), .int .i64 (n.M), .string n.S], .box d0 154 [.slice h0 ((shp ((n.K).toNat)).b.length) m0, .bool ((shp ((n.K).toNat)).n), .bool ((shp ((n.K).toNat)).m), .bool ((shp ((n.K).toNat)).s)]] [Br, Bw 1 h0 (shp ((n.K).toNat)).b.length m0 (BN (shp ((n.K).toNat)).b)]) ?_ ?_
 refine wsc fun b0 o0 => lR k0 fun b0 t0 => ?_
 refine lAn 3 (!(decide ((n.N) = 0))) t0 fun b0 k0 => ?_
 refine aw k0 o0 fun b0 t0 => ?_
 refine wcg t0 (fun o0 b0 => ?_) fun o0 k0 => ?_
 have t0 := Eu o0
 have q0 := IJ t0
 have q0 := Et o0
 have t0 := IJ q0
 have q0 := Ak t0
 refine Am ?_
 exact AC ⟨(b0.sub (rc2 (rc rfl (rc (rb rfl (by (simp only [o0, bl]; done))) (rc rfl rnl))))), p0⟩
 have b0 := o0
 try simp only [bz] at b0
 refine wsc fun b0 q0 => lR k0 fun b0 t0 => ?_
 refine lAn 3 (!(decide ((n.M) = 0))) t0 fun b0 k0 => ?_
 refine aw k0 q0 fun b0 t0 => ?_
 refine wcg t0 (fun q0 b0 => ?_) fun q0 k0 => ?_
 have t0 := Eu q0
 have u0 := IJ t0
 have u0 := Et q0
 have t0 := IJ u0
 have u0 := Ak t0
 refine Am ?_
 exact AC ⟨(b0.sub (rc2 (rc rfl (rc (rb rfl (by (simp only [o0, q0, bl]; done))) (rc rfl rnl))))), p0⟩
 have b0 := q0
 try simp only [bz] at b0
 refine wsc fun b0 u0 => lR k0 fun b0 t0 => ?_
 refine lAn 3 (!(decide (n.S = (⟨#[]⟩ : ByteArray)))) t0 fun b0 k0 => ?_
 refine aw k0 u0 fun b0 t0 => ?_
 refine wcg t0 (fun u0 b0 => ?_) fun u0 k0 => ?_
 have t0 := Eu u0
 have v0 := IJ t0
 have v0 := Et u0
 have t0 := IJ v0
 have v0 := Ak t0
 refine Am ?_
 exact AC ⟨(b0.sub (rc2 (rc rfl (rc (rb rfl (by (simp only [o0, q0, u0, bl]; done))) (rc rfl rnl))))), p0⟩
 have b0 := u0
 try simp only [bz] at b0
 refine A0 ?_
 refine lR k0 fun b0 v0 => ?_
 refine EA (fun ga gw => Reg ga 110 [(1, .pointer (some ⟨i0, 0, none⟩)), (2, .bool false), (3, .pointer (some ⟨d0, 0, none⟩)), (16, .bool false), (48, .bool (((shp ((n.K).toNat)).s) && (!(CJ n.S)))), (1000000, .bool false)] ∧ St w0 Z A6 gw [.box i0 30 [.int .i64 (n.K), .int .i64 (n.N), .int .i64 (n.M), .string n.S], .box d0 154 [.slice h0 ((shp ((n.K).toNat)).b.length) m0, .bool ((shp ((n.K).toNat)).n), .bool ((shp ((n.K).toNat)).m), .bool ((shp ((n.K).toNat)).s)]] [Br, Bw 1 h0 (shp ((n.K).toNat)).b.length m0 (BN (shp ((n.K).toNat)).b)]) 5 ?_ ?_
 refine spg 43 v0 (fun d0 m0 => ?_) fun d0 h0 => ?_
 refine lR m0 fun v0 i0 => ?_
 have v0 := p0.nf
 refine kra i0 v0 ok115 (JW _ _ v0.il n.S) fun m0 b0 k0 t0 => ?_
 refine lR t0 fun k0 m0 => ?_
 refine Ae ?_
 exact AC ⟨(m0.sub (rc4 (rc (rb rfl (by (simp only [d0, bl]; done))) (rc rfl rnl)))), b0⟩
 refine lR h0 fun m0 b0 => ?_
 refine Ae ?_
 exact AC ⟨(b0.sub (rc4 (rc (rb rfl (by (simp only [d0, bl]; done))) (rc rfl rnl)))), p0⟩
 rintro b0 d0 ⟨p0, m0⟩
 refine asg p0 fun d0 b0 => ?_
 refine Ae ?_
 exact AC ⟨(b0.sub (rc2 (rc rfl (rc (rb rfl (by (simp only [o0, q0, u0, bl]; done))) (rc rfl rnl))))), m0⟩
 rintro b0 m0 ⟨u0, q0⟩
 refine wcg u0 (fun m0 b0 => ?_) fun m0 o0 => ?_
 have u0 := m0
 try simp only [bz] at u0
 refine rR b0 fun u0 d0 => ?_
 refine rt d0 q0.fr ?_
 exact BQ (by exact (QS m0).symm)
 have d0 := CU m0
 have u0 := d0
 try simp only [bz] at u0
 have u0 := CT m0
 have d0 := CU u0
 have b0 := d0
 try simp only [bz] at b0
 have b0 := CT u0
 have u0 := CU b0
 have d0 := u0
 try simp only [bz] at d0
 have d0 := CT b0
 have b0 := d0
 try simp only [bz] at b0
 refine rR o0 fun b0 d0 => ?_
 refine wcd d0 (fun b0 o0 => ?_) fun b0 u0 => ?_
 refine wsc fun d0 p0 => lR o0 fun d0 h0 => ?_
 have d0 := q0.nf
 refine kra h0 d0 ok147 (Ld _ _ d0.il (n.N)) fun o0 k0 t0 v0 => ?_
 refine lR v0 fun t0 o0 => ?_
 refine wn p0 <| rt o0 k0.fr ?_
 exact BQ (by exact (P1 m0 (by assumption)).symm)
 refine rR u0 fun o0 k0 => ?_
 refine wcd k0 (fun o0 u0 => ?_) fun o0 p0 => ?_
 refine Ac fun k0 t0 => ?_
 obtain ⟨k0, v0, d0⟩ := q0.agree
 refine Cj (n := 22) d0 2 (pB 0 0 pn) (A5 (B3 (A5 BC))) fun v0 k0 h0 i0 x0 y0 => ?_
 refine dR [0, 1, 2, 3] u0 fun y0 i0 => ?_
 refine spd 64 i0 (fun y0 u0 => ?_) fun y0 k0 => ?_
 refine dR [4, 5, 6, 7] u0 fun i0 v0 => ?_
 refine d1 8 ?_
 have i0 := x0.nf
 refine kra v0 i0 ok148 (JX _ _ i0.il (n.K)) fun u0 d0 z0 b1 => ?_
 have z0 := sWI d0 2 (pB 0 0 pn)
 refine ⟨z0, ?_⟩
 refine dR [9, 10, 11] b1 fun z0 u0 => ?_
 refine dAn 12 [13, 14] 15 (decide (0 ≤ (n.M))) u0 fun z0 b1 => ?_
 refine dR [16] b1 fun z0 u0 => ?_
 refine dAn 17 [18, 19] 20 (decide ((n.M) ≤ 6)) u0 fun z0 b1 => ?_
 refine dR [21] b1 fun z0 u0 => ?_
 refine AL (by kernel_rfl) (h0 _ _ ?_) _
 refine xn t0 <| rt u0 d0.fr ?_
 exact BQ (by (rw [JN m0 (by assumption)]; first | rfl | (simp <;> omega) | (simp [j0, c0, f0, m0, b0, o0, y0]; done) | (rw [Bool.eq_iff_iff]; simp <;> omega)))
 refine dR [4, 5, 6, 7, 8, 9, 10, 11, 12, 13, 14, 15, 16, 17, 18, 19, 20, 21] k0 fun u0 d0 => ?_
 refine AL (by kernel_rfl) (h0 _ _ ?_) _
 refine xn t0 <| rt d0 x0.fr ?_
 exact BQ (by (rw [JN m0 (by assumption)]; first | rfl | (simp <;> omega) | (simp [j0, c0, f0, m0, b0, o0, y0]; done) | (rw [Bool.eq_iff_iff]; simp <;> omega)))
 refine rR p0 fun y0 d0 => ?_
 refine wcd d0 (fun y0 p0 => ?_) fun y0 x0 => ?_
 refine wsc fun d0 t0 => lR p0 fun d0 h0 => ?_
 refine lAn 3 (decide ((n.M) ≤ 6)) h0 fun d0 p0 => ?_
 refine aw p0 t0 fun d0 h0 => ?_
 refine rt h0 q0.fr ?_
 exact BQ (by (rw [Nf m0 (by assumption)]; first | rfl | (simp <;> omega) | (simp [j0, c0, f0, m0, b0, o0, y0]; done) | (rw [Bool.eq_iff_iff]; simp <;> omega)))
 refine Am <| A7 <| xn n0 <| Ac fun n0 h0 => ?_
 obtain ⟨n0, t0, d0⟩ := q0.agree
 refine Cj (n := 17) d0 2 (pB 0 0 (pB 1 0 pn)) (A5 BC) fun t0 n0 q0 p0 u0 k0 => ?_
 refine dR [0, 1, 2, 3] x0 fun k0 p0 => ?_
 refine sph 97 p0 (fun k0 x0 => ?_) fun k0 n0 => ?_
 refine dR [4, 5, 6, 7] x0 fun p0 t0 => ?_
 refine spd 101 t0 (fun p0 x0 => ?_) fun p0 d0 => ?_
 refine dR [8, 9, 10, 11] x0 fun t0 z0 => ?_
 refine d1 12 ?_
 have t0 := u0.nf
 refine kra z0 t0 ok148 (JX _ _ t0.il (n.K)) fun x0 b1 i0 v0 => ?_
 have i0 := sWI b1 2 (pB 0 0 (pB 1 0 pn))
 refine ⟨i0, ?_⟩
 refine dR [13, 14, 15, 16] v0 fun i0 x0 => ?_
 refine AL (by kernel_rfl) (q0 _ _ ?_) _
 refine xn h0 <| rt x0 b1.fr ?_
 exact BQ (by (rw [I4 m0 (by omega) (by omega) (by assumption) (by assumption) (by assumption)]; first | rfl | (simp <;> omega) | (simp [j0, c0, f0, m0, b0, o0, y0, k0, p0]; done) | (rw [Bool.eq_iff_iff]; simp <;> omega)))
 refine dR [8, 9, 10, 11, 12, 13, 14, 15, 16] d0 fun x0 b1 => ?_
 refine AL (by kernel_rfl) (q0 _ _ ?_) _
 refine xn h0 <| rt b1 u0.fr ?_
 exact BQ (by (rw [I4 m0 (by omega) (by omega) (by assumption) (by assumption) (by assumption)]; first | rfl | (simp <;> omega) | (simp [j0, c0, f0, m0, b0, o0, y0, k0, p0]; done) | (rw [Bool.eq_iff_iff]; simp <;> omega)))
 refine dR [4, 5, 6, 7, 8, 9, 10, 11, 12, 13, 14, 15, 16] n0 fun p0 b1 => ?_
 refine AL (by kernel_rfl) (q0 _ _ ?_) _
 refine xn h0 <| rt b1 u0.fr ?_
 exact BQ (by (rw [I4 m0 (by omega) (by omega) (by assumption) (by assumption) (by assumption)]; first | rfl | (simp <;> omega) | (simp [j0, c0, f0, m0, b0, o0, y0, k0]; done) | (rw [Bool.eq_iff_iff]; simp <;> omega)))
theorem JA (w0 : World) (Z : Nat → Prop) (hZ : HZ w0 Z) (tA : Option Addr) (tc : Nat) (t : List Nd) (hShp : Cu w0 Z) (ht : N4 tA tc t w0 Z) (hl : t.length ≤ 4000 := by exact ax) (hsm : sml t := by exact ax) :
    Calls Tryz.prog 87 [.slice tA t.length tc].toArray w0 (fun e w' => ∃ (rA0 : Option Addr) (rc0 : Nat), e = .returned (.tuple #[.slice rA0 (DB t).length rc0, .bool (BW t)]) ∧ Fr A6 w0 w' ∧ (Bw 2 rA0 ((DB t).length) rc0 (EF (DB t))).φ w' (nxt Z w0 w')) := by
 have b0 := s0 (M := A6) hZ (zc (d := Br) hShp (zc ht zn))
 refine AE Tryz.func87 rfl Tryz.ntmps87 rfl fun c0 d0 => ?_
 refine rR d0 fun c0 f0 => ?_
 refine rR f0 fun c0 d0 => ?_
 refine Ac fun c0 f0 => rR d0 fun c0 h0 => ?_
 refine A4 ?_
 have c0 := b0.nilrow 126 2
 have b0 := c0.nilrow 126 2
 refine AH (fun gn ga gw => ∃ k : Nat, ∃ st : List T, ∃ Aa : Option Addr, ∃ ca : Nat, ∃ Ao : Option Addr, ∃ co : Nat, (Reg ga 73 [(1000000, .bool false), (12, .slice tA t.length tc), (13, .int .i64 (t.length : Int)), (14, .int .i64 (k : Int)), (4, .slice Aa ((Dq 0 st).length) ca), (5, .slice Ao ((meas 0 st).length) co)]) ∧ (St w0 Z A6 gw [.row Aa ((Dq 0 st).length) ca 126 2 (EF (Dq 0 st)), .row Ao ((meas 0 st).length) co 126 2 (EF (meas 0 st))] [Br, n4 tA tc t]) ∧ (k ≤ t.length) ∧ (CM [] (t.take k) = some st) ∧ (t.length - k) = gn) _ ⟨0, [], none, 0, none, 0, (h0.sub (rc4 (rc rfl (rc rfl rnl)))), b0, by omega, rfl, rfl⟩ ?_
 rintro b0 h0 c0 ⟨k, st, Aa, ca, Ao, co, d0, i0, hk, hsc, j0⟩
 have hfl := Gk hsc hk
 have hml := Ed 0 st
 have hal := Fg 0 st
 have hsl := Fc st
 refine rR d0 fun j0 c0 => ?_
 refine Ac fun j0 d0 => wcd c0 (fun j0 h0 => ?_) fun j0 b0 => ?_
 refine Am <| xn d0 <| Ac fun d0 j0 => A4 ?_
 refine wsc fun d0 c0 => mv h0 fun d0 k0 => ?_
 refine ix k (k * 4) k0 (Bp (t := t) (k := k) (i0.row (i := 1) rfl).2 (by omega)).some_ fun d0 h0 => ?_
 refine Cw sv h0 rfl rfl rfl (Bp (t := t) (k := k) (i0.row (i := 1) rfl).2 (by omega)) Ar rfl DK (by decide) fun d0 k0 => ?_
 refine alc k0 i0 fun d0 h0 m0 n0 o0 => ?_
 refine asg n0 fun h0 d0 => ?_
 refine sto 2 d0 o0 fun h0 n0 k0 p0 => ?_
 refine wn c0 <| Ac fun c0 n0 => wsc fun c0 h0 => lR k0 fun c0 d0 => ?_
 have c0 := p0.nf
 refine kra d0 c0 ok126 (I6 _ _ c0.il (nth t k) (c0.g 0) (hs := (hsm _ (by omega)))) fun p0 k0 o0 q0 => ?_
 refine lR q0 fun o0 p0 => ?_
 refine EA (fun ga gw => Reg ga 73 [(4, .slice Aa ((Dq 0 st).length) ca), (5, .slice Ao ((meas 0 st).length) co), (6, .int .i64 (k : Int)), (7, .pointer (some ⟨m0, 0, none⟩)), (12, .slice tA t.length tc), (13, .int .i64 (t.length : Int)), (14, .int .i64 (k : Int)), (28, .bool ((!(right (nth t k))) || (decide (((meas 0 st).length : Int) < ((many (nth t k) : Nat) : Int))))), (1000000, .bool false)] ∧ St w0 Z A6 gw [.row Aa ((Dq 0 st).length) ca 126 2 (EF (Dq 0 st)), .row Ao ((meas 0 st).length) co 126 2 (EF (meas 0 st)), .box m0 30 [.int .i64 ((nth t k).K), .int .i64 ((nth t k).N), .int .i64 ((nth t k).M), .string ((nth t k).S)]] [Br, n4 tA tc t]) 6 ?_ ?_
 refine sph 22 p0 (fun o0 q0 => ?_) fun o0 c0 => ?_
 refine lR q0 fun p0 d0 => ?_
 have p0 := k0.nf
 refine kra d0 p0 TE (Gn _ _ p0.il (nth t k) (p0.g 0)) fun q0 t0 u0 v0 => ?_
 refine lR v0 fun u0 q0 => ?_
 refine Ae ?_
 exact AC ⟨(q0.sub (rc4 (rc2 (rc rfl (rc (rb rfl (by (simp only [o0, bl]; done))) (rc rfl rnl)))))), t0⟩
 refine lR c0 fun q0 t0 => ?_
 refine Ae ?_
 exact AC ⟨(t0.sub (rc4 (rc2 (rc rfl (rc (rb rfl (by (simp only [o0, bl]; done))) (rc rfl rnl)))))), k0⟩
 rintro t0 o0 ⟨k0, q0⟩
 refine wn h0 <| wcg k0 (fun h0 o0 => ?_) fun h0 t0 => ?_
 have k0 := h0
 try simp only [bz] at k0
 refine rR o0 fun c0 u0 => ?_
 refine rt2 u0 ?_
 have u0 : DB t = [] := (KW (GQ hsc (by omega) (IC (by rcases k0 with h | h; exact .inl h; exact .inr (by omega))))).1
 rw [u0]
 refine ⟨none, 0, ?_, q0.fr, ⟨Af _, RowI.nil _ _ _ _⟩⟩
 exact Bj rfl (BQ (by exact (KW (GQ hsc (by omega) (IC (by rcases k0 with h | h; exact .inl h; exact .inr (by omega))))).2.symm))
 have k0 := CU h0
 have u0 := He k0
 have u0 := CT h0
 have h0 := Ak u0
 refine Am <| xn n0 <| wsc fun n0 h0 => lR t0 fun n0 u0 => ?_
 have n0 := q0.nf
 refine kra u0 n0 TE (Gn _ _ n0.il (nth t k) (n0.g 0)) fun q0 t0 k0 c0 => ?_
 refine sbi (((meas 0 st).length : Int) - ((many (nth t k) : Nat) : Int)) c0 fun k0 q0 => ?_
 refine aw q0 h0 fun k0 c0 => ?_
 refine wsc fun h0 k0 => mv c0 fun h0 q0 => ?_
 refine bld q0 fun h0 c0 => ?_
 refine alc c0 t0 fun h0 q0 n0 u0 o0 => ?_
 refine sto 3 u0 o0 fun q0 h0 c0 t0 => ?_
 refine wn k0 <| Ac fun k0 h0 => wsc fun k0 q0 => lR c0 fun k0 o0 => ?_
 have k0 := Db (t0.res (i := 1) rfl)
 refine Hi (lo := some (.tmp 37)) (hi := none) (vlo := (some (.int .i64 (((meas 0 st).length : Int) - ((many (nth t k) : Nat) : Int))))) (vhi := none) (kd := .i64) (kd' := .i64) sv o0 rfl rfl rfl rfl rfl (((meas 0 st).length) - (many (nth t k))) (many (nth t k)) (.inl (by (congr 2; omega))) (.inr ⟨rfl, by omega⟩) ES Pu (by omega) (by decide) fun k0 c0 u0 v0 p0 d0 => ?_
 refine lR d0 fun v0 k0 => ?_
 refine wn q0 <| A4 ?_
 refine AH (fun gn ga gw => ∃ j : Nat, (Reg ga 73 [(4, .slice Aa ((Dq 0 st).length) ca), (5, .slice Ao ((meas 0 st).length) co), (12, .slice tA t.length tc), (13, .int .i64 (t.length : Int)), (14, .int .i64 (k : Int)), (1000000, .bool false), (8, .int .i64 (((meas 0 st).length : Int) - ((many (nth t k) : Nat) : Int))), (9, .pointer (some ⟨n0, 0, none⟩)), (38, .slice c0 (many (nth t k)) u0), (39, .int .i64 ((many (nth t k) : Nat) : Int)), (40, .int .i64 (j : Int))]) ∧ (St w0 Z A6 gw [.row Aa ((Dq 0 st).length) ca 126 2 (EF (Dq 0 st)), .row Ao ((meas 0 st).length) co 126 2 (EF (meas 0 st)), .box m0 30 [.int .i64 ((nth t k).K), .int .i64 ((nth t k).N), .int .i64 ((nth t k).M), .string ((nth t k).S)], .box n0 126 [.int .i64 (Fm k (meas 0 st) (((meas 0 st).length) - (many (nth t k))) j), .int .i64 (EV (meas 0 st) (((meas 0 st).length) - (many (nth t k))) j)]] [Br, n4 tA tc t]) ∧ (j ≤ many (nth t k)) ∧ (many (nth t k) - j) = gn) _ ⟨0, (k0.sub (rc4 (rc4 (rc2 (rc rfl rnl))))), t0, by omega, rfl⟩ ?_
 rintro k0 t0 q0 ⟨j, v0, d0, hj, o0⟩
 obtain ⟨o0, q0⟩ := Uk (st := st) (b := ((meas 0 st).length) - (many (nth t k))) (q := j)
 obtain ⟨q0, o0⟩ := HM (st := st) (i := (((meas 0 st).length) - (many (nth t k))) + j)
 refine rR v0 fun o0 q0 => ?_
 refine Ac fun o0 v0 => wcd q0 (fun o0 t0 => ?_) fun o0 k0 => ?_
 refine Am <| xn v0 <| Ac fun v0 o0 => A4 ?_
 refine wsc fun v0 q0 => mv t0 fun v0 x0 => ?_
 refine ix j (j * 2) x0 (Cut.elem p0 (by omega) (UV (t := meas 0 st) (k := (((meas 0 st).length) - (many (nth t k))) + j) (d0.res (i := 1) rfl) (by omega))).some_ fun v0 t0 => ?_
 refine Cw sv t0 rfl rfl rfl (Cut.elem p0 (by omega) (UV (t := meas 0 st) (k := (((meas 0 st).length) - (many (nth t k))) + j) (d0.res (i := 1) rfl) (by omega))) DZ rfl Pu (by decide) fun v0 x0 => ?_
 refine alc x0 d0 fun v0 t0 p0 y0 z0 => ?_
 refine asg y0 fun t0 v0 => ?_
 refine sto 4 v0 z0 fun t0 y0 x0 b1 => ?_
 refine wn q0 <| Gc (fun ga gw => Reg ga 73 [(4, .slice Aa ((Dq 0 st).length) ca), (5, .slice Ao ((meas 0 st).length) co), (8, .int .i64 (((meas 0 st).length : Int) - ((many (nth t k) : Nat) : Int))), (9, .pointer (some ⟨n0, 0, none⟩)), (11, .pointer (some ⟨p0, 0, none⟩)), (12, .slice tA t.length tc), (13, .int .i64 (t.length : Int)), (14, .int .i64 (k : Int)), (38, .slice c0 (many (nth t k)) u0), (39, .int .i64 ((many (nth t k) : Nat) : Int)), (40, .int .i64 (j : Int)), (1000000, .bool false)] ∧ St w0 Z A6 gw [.row Aa ((Dq 0 st).length) ca 126 2 (EF (Dq 0 st)), .row Ao ((meas 0 st).length) co 126 2 (EF (meas 0 st)), .box m0 30 [.int .i64 ((nth t k).K), .int .i64 ((nth t k).N), .int .i64 ((nth t k).M), .string ((nth t k).S)], .box n0 126 [.int .i64 (if ((j : Int) = 0) then ((Ht (meas 0 st) ((((meas 0 st).length) - (many (nth t k))) + j)).1) else (Fm k (meas 0 st) (((meas 0 st).length) - (many (nth t k))) j)), .int .i64 (EV (meas 0 st) (((meas 0 st).length) - (many (nth t k))) j)], .box p0 126 [.int .i64 ((Ht (meas 0 st) ((((meas 0 st).length) - (many (nth t k))) + j)).1), .int .i64 ((Ht (meas 0 st) ((((meas 0 st).length) - (many (nth t k))) + j)).2)]] [Br, n4 tA tc t]) ?_ ?_
 refine rR x0 fun p0 u0 => ?_
 refine wcd u0 (fun p0 x0 => ?_) fun p0 c0 => ?_
 refine A0 ?_
 refine lR x0 fun u0 n0 => ?_
 refine sto 3 n0 b1 fun u0 x0 m0 q0 => ?_
 refine Ae ?_
 have hSj := q0
 exact AC ⟨(m0.sub (rc4 (rc4 (rc2 (rc rfl (rc rfl rnl)))))), by rw [(show ((if ((j : Int) = 0) then ((Ht (meas 0 st) ((((meas 0 st).length) - (many (nth t k))) + j)).1) else (Fm k (meas 0 st) (((meas 0 st).length) - (many (nth t k))) j)) : Int) = ((Ht (meas 0 st) ((((meas 0 st).length) - (many (nth t k))) + j)).1) by (simp only [Aw p0, At p0, bl]; done))]; exact hSj⟩
 refine Am ?_
 have hSj := b1
 exact AC ⟨(c0.sub (rc4 (rc4 (rc2 (rc rfl (rc rfl rnl)))))), by rw [(show ((if ((j : Int) = 0) then ((Ht (meas 0 st) ((((meas 0 st).length) - (many (nth t k))) + j)).1) else (Fm k (meas 0 st) (((meas 0 st).length) - (many (nth t k))) j)) : Int) = (Fm k (meas 0 st) (((meas 0 st).length) - (many (nth t k))) j) by (simp only [Ai p0, Aq p0, bl]; done))]; exact hSj⟩
 rintro c0 p0 ⟨b1, m0⟩
 refine A0 ?_
 refine lR b1 fun p0 c0 => ?_
 refine adi (((Ht (meas 0 st) ((((meas 0 st).length) - (many (nth t k))) + j)).2) + 1) c0 fun p0 b1 => ?_
 refine LY sv b1 rfl rfl rfl rfl rfl (by decide) fun p0 c0 => ?_
 refine lR c0 fun p0 b1 => ?_
 refine sto 3 b1 m0 fun p0 c0 q0 x0 => ?_
 refine Ae ?_
 refine A7 <| xn o0 <| A0 ?_
 refine adi ((j + 1 : Nat) : Int) q0 fun o0 c0 => ?_
 refine mv c0 fun o0 q0 => ?_
 refine Ae ?_
 have o0 : (if ((j : Int) = 0) then ((Ht (meas 0 st) ((((meas 0 st).length) - (many (nth t k))) + j)).1) else (Fm k (meas 0 st) (((meas 0 st).length) - (many (nth t k))) j)) = (Fm k (meas 0 st) (((meas 0 st).length) - (many (nth t k))) (j + 1)) := by unfold Fm; (repeat' split) <;> first | rfl | omega | (congr 2; omega) | (congr 3; omega)
 have c0 := x0
 rw [o0] at c0
 have o0 : (max (EV (meas 0 st) (((meas 0 st).length) - (many (nth t k))) j) (((Ht (meas 0 st) ((((meas 0 st).length) - (many (nth t k))) + j)).2) + 1)) = (EV (meas 0 st) (((meas 0 st).length) - (many (nth t k))) (j + 1)) := rfl
 have x0 := c0
 rw [o0] at x0
 have o0 := x0.erase 4
 exact ⟨_, by omega, j + 1, (q0.sub (rc4 (rc4 (rc2 (rc rfl rnl))))), o0, by omega, rfl⟩
 refine xe ?_
 refine xn h0 <| Ac fun h0 o0 => ?_
 obtain ⟨h0, q0, x0⟩ := d0.agree
 refine Cj (n := 7) x0 2 (pB 3 0 pn) (A5 (B3 (A5 (A5 (B3 (A5 BC)))))) fun q0 h0 d0 c0 p0 b1 => ?_
 refine dR [0, 1] k0 fun c0 q0 => ?_
 refine dt 2 rfl h0 q0 (AJ rfl) (fun x hx => Ez (q := ((meas 0 st).length) - (many (nth t k))) (sy q0) q0 rfl rfl rfl rfl (by omega) ES Pu (by omega) (by decide) gt) b1 fun c0 k0 => ?_
 refine dt 3 rfl h0 k0 (AJ rfl) (fun x hx => C9 (sy k0) k0 rfl rfl rfl (Ay (hx.c 0) (Ay (hx.c 1) (CellsAt.nil _ _))) DZ rfl Pu (by decide) gt) b1 fun c0 q0 => ?_
 refine d1 4 ?_
 refine bsl q0 p0 fun c0 k0 b1 h0 x0 => ?_
 have b1 := sWI x0 2 (pB 3 0 pn)
 refine ⟨b1, ?_⟩
 refine d1 5 ?_
 refine Mm (f := Ss) (i := 1) (meas 0 st) ([((Fm k (meas 0 st) (((meas 0 st).length) - (many (nth t k))) j), (EV (meas 0 st) (((meas 0 st).length) - (many (nth t k))) j))]) (CY rfl (AJ rfl)) h0 x0 rfl rfl rfl rfl rfl (by omega) Ip (OY _) ES Vy rfl rfl (BU (f := Ss) (x0.res (i := 4) rfl)) rfl (by (simp only [Ad, Aj]; omega)) (by decide) fun b1 k0 c0 q0 p0 m0 u0 => ?_
 have p0 : ((meas 0 st).take (((meas 0 st).length) - (many (nth t k))) ++ ([((Fm k (meas 0 st) (((meas 0 st).length) - (many (nth t k))) j), (EV (meas 0 st) (((meas 0 st).length) - (many (nth t k))) j))]) : List (Int × Int)).length = ((meas 0 st).length + 1) - (many (nth t k)) := by (simp only [Ab, Ah, Ad, Aj]; omega)
 have p0 := u0.erase 4
 have u0 := sWI p0 2 (pB 3 0 pn)
 refine ⟨u0, ?_⟩
 refine dR [6] m0 fun u0 k0 => ?_
 refine AL (by kernel_rfl) (d0 _ _ ?_) _
 refine xn o0 <| A0 ?_
 refine lR k0 fun o0 d0 => ?_
 refine bsl d0 p0 fun o0 k0 u0 m0 b1 => ?_
 refine BL (f := Ss) (i := 0) (Dq 0 st) ([((Fm k (meas 0 st) (((meas 0 st).length) - (many (nth t k))) j), (EV (meas 0 st) (((meas 0 st).length) - (many (nth t k))) j))]) sv m0 b1 rfl rfl rfl rfl rfl Ip (OY _) ES Vy rfl rfl (BU (f := Ss) (b1.res (i := 4) rfl)) rfl (by (simp only [Ad, Aj]; omega)) (by decide) fun u0 k0 o0 d0 p0 x0 h0 => ?_
 have p0 : ((Dq 0 st) ++ ([((Fm k (meas 0 st) (((meas 0 st).length) - (many (nth t k))) j), (EV (meas 0 st) (((meas 0 st).length) - (many (nth t k))) j))]) : List (Int × Int)).length = (Dq 0 st).length + 1 := by (simp only [Ab, Ah, Ad, Aj]; done)
 have p0 := h0.erase 4
 refine asg x0 fun h0 k0 => ?_
 refine Ae ?_
 refine A7 <| xn j0 <| A0 ?_
 refine adi ((k + 1 : Nat) : Int) k0 fun j0 h0 => ?_
 refine mv h0 fun j0 k0 => ?_
 refine Ae ?_
 obtain ⟨st', hp, hpl⟩ := FV (st := st) (n := nth t k) (by assumption) (by omega)
 obtain ⟨hm1, hm2⟩ := ID hp hfl
 have hjq : j = many (nth t k) := by omega
 have j0 : (Dq 0 st) ++ ([((Fm k (meas 0 st) (((meas 0 st).length) - (many (nth t k))) j), (EV (meas 0 st) (((meas 0 st).length) - (many (nth t k))) j))]) = Dq 0 st' := by rw [hm2, hjq]; try simp only [Ed]
 have h0 := k0
 have k0 := p0
 rw [j0] at h0 k0
 have j0 : (meas 0 st).take (((meas 0 st).length) - (many (nth t k))) ++ ([((Fm k (meas 0 st) (((meas 0 st).length) - (many (nth t k))) j), (EV (meas 0 st) (((meas 0 st).length) - (many (nth t k))) j))]) = meas 0 st' := by rw [hm1, hjq]; try simp only [Ed]
 have p0 := h0
 have h0 := k0
 rw [j0] at p0 h0
 have j0 := h0.erase 3
 have h0 := j0.erase 2
 have j0 := h0.forget 2
 exact ⟨_, by omega, k + 1, st', o0, d0, c0, q0, (p0.sub (rc4 (rc rfl (rc rfl rnl)))), j0, by omega, (EK hsc (by omega)).trans hp, rfl⟩
 refine xe ?_
 refine xn f0 <| rR b0 fun f0 j0 => ?_
 refine rt2 j0 ?_
 have j0 : DB t = Dq 0 st := RG (by rw [← hsc, AM (by omega)])
 rw [j0]
 have j0 := i0.pub 0 (Bw 2 Aa ((Dq 0 st).length) ca (EF (Dq 0 st)))
 refine ⟨Aa, ca, ?_, j0.fr, j0.rx 2⟩
 exact Bj rfl (BQ (by (rw [Mk (by rw [← hsc, AM (by omega)]), Ed]; done)))
theorem Ki (w0 : World) (Z : Nat → Prop) (hZ : HZ w0 Z) (tA : Option Addr) (tc : Nat) (t : List Nd) (hShp : Cu w0 Z) (ht : N4 tA tc t w0 Z) (hsm : sml t := by exact ax) (hl : t.length ≤ 1000000 := by exact ax) :
    Calls Tryz.prog 52 [.slice tA t.length tc].toArray w0 (fun e w' => ∃ (rA0 : Option Addr) (rc0 : Nat), e = .returned (.tuple #[.slice rA0 (EU t).length rc0, .int .i64 (chk t)]) ∧ Fr A6 w0 w' ∧ (Bw 2 rA0 ((EU t).length) rc0 (EF (EU t))).φ w' (nxt Z w0 w')) := by
 have b0 := s0 (M := A6) hZ (zc (d := Br) hShp (zc ht zn))
 refine AE Tryz.func52 rfl Tryz.ntmps52 rfl fun c0 d0 => ?_
 refine rR d0 fun c0 f0 => ?_
 refine Ac fun c0 d0 => rR f0 fun c0 h0 => ?_
 refine wcd h0 (fun c0 f0 => ?_) fun c0 i0 => ?_
 refine rR f0 fun c0 h0 => ?_
 refine rt2 h0 ?_
 have h0 : EU t = [] := IV (by rw [Ho (by omega)]; omega)
 rw [h0]
 refine ⟨none, 0, ?_, b0.fr, ⟨Af _, RowI.nil _ _ _ _⟩⟩
 exact Bj rfl (Bz (by first | exact (Ho (by omega)).symm))
 refine Am <| xn d0 <| wsc fun d0 h0 => mv i0 fun d0 c0 => ?_
 have d0 := b0.nf
 refine krb c0 d0 ok87 (JA _ _ d0.il _ _ _ (d0.g 0) (d0.g 1)) fun b0 i0 f0 j0 k0 m0 => ?_
 refine lR m0 fun k0 b0 => ?_
 refine wn h0 <| Ac fun h0 k0 => A4 ?_
 refine rR b0 fun h0 m0 => ?_
 refine wch m0 (fun h0 b0 => ?_) fun h0 d0 => ?_
 have hpos := RF h0
 have hml := HN h0
 refine wsc fun h0 m0 => lR b0 fun h0 c0 => ?_
 refine sbi (((DB t).length : Int) - 1) c0 fun h0 b0 => ?_
 refine ix (((DB t).length) - (1)) ((((DB t).length) - (1)) * 2) b0 (H4 (t := DB t) (k := ((DB t).length) - (1)) (j0.row (i := 2) rfl).2 (by omega)).some_ fun h0 c0 => ?_
 refine CB (j' := (((DB t).length) - (1)) * 2 + 1) sv c0 rfl rfl rfl (H4 (t := DB t) (k := ((DB t).length) - (1)) (j0.row (i := 2) rfl).2 (by omega)).some_ DZ rfl sz3 rfl rfl (by decide) fun h0 b0 => ?_
 refine lde 1 ((((DB t).length) - (1)) * 2) b0 (H4 (t := DB t) (k := ((DB t).length) - (1)) (j0.row (i := 2) rfl).2 (by omega)) fun h0 c0 => ?_
 refine lR c0 fun h0 b0 => ?_
 refine wn m0 <| wcd b0 (fun m0 h0 => ?_) fun m0 c0 => ?_
 refine rR h0 fun m0 b0 => ?_
 refine rt2 b0 ?_
 have b0 : EU t = [] := IV (by (rw [Lv (by omega) (by assumption) (by assumption)]; omega))
 rw [b0]
 refine ⟨none, 0, ?_, j0.fr, ⟨Af _, RowI.nil _ _ _ _⟩⟩
 exact Bj rfl (Bz (by first | exact (Lv (by omega) (by assumption) (by assumption)).symm))
 refine Am <| A7 <| xn k0 <| rR c0 fun k0 b0 => ?_
 refine rt2 b0 ?_
 have b0 : EU t = DB t := Kj (Lt (by omega) (by assumption) (by assumption))
 rw [b0]
 refine ⟨i0, f0, ?_, j0.fr, j0.rx 2⟩
 exact Bj rfl (Bz (by first | exact (Lt (by omega) (by assumption) (by assumption)).symm))
 refine rR d0 fun f0 i0 => ?_
 refine rt2 i0 ?_
 have i0 : EU t = [] := IV (by (rw [Lu (by omega) (by assumption)]; omega))
 rw [i0]
 refine ⟨none, 0, ?_, j0.fr, ⟨Af _, RowI.nil _ _ _ _⟩⟩
 exact Bj rfl (Bz (by first | exact (Lu (by omega) (by assumption)).symm))
theorem DP (w0 : World) (Z : Nat → Prop) (hZ : HZ w0 Z) (tA : Option Addr) (tc : Nat) (t : List Nd) (hShp : Cu w0 Z) (ht : N4 tA tc t w0 Z) (hsm : sml t := by exact ax) (hl : t.length ≤ 1000000 := by exact ax) :
    Calls Tryz.prog 20 [.slice tA t.length tc].toArray w0 (fun e w' => e = .returned (.int .i64 (chk t)) ∧ Fr A6 w0 w') := by
 have b0 := s0 (M := A6) hZ (zc (d := Br) hShp (zc ht zn))
 refine AE Tryz.func20 rfl Tryz.ntmps20 rfl fun c0 d0 => ?_
 refine rR d0 fun c0 f0 => ?_
 refine wsc fun c0 d0 => mv f0 fun c0 h0 => ?_
 have c0 := b0.nf
 refine krb h0 c0 ok52 (Ki _ _ c0.il _ _ _ (c0.g 0) (c0.g 1)) fun b0 f0 i0 j0 k0 m0 => ?_
 refine lR m0 fun k0 i0 => ?_
 refine wn d0 <| rR i0 fun d0 k0 => ?_
 refine rt k0 j0.fr ?_
 exact Bz (by rfl)
theorem M9 (w0 : World) (Z : Nat → Prop) (hZ : HZ w0 Z) (tA : Option Addr) (tc : Nat) (t : List Int) (ht : (Bw 1 tA t.length tc (BN t)).φ w0 Z) (hl : t.length ≤ 1000000 := by exact ax) :
    Calls Tryz.prog 127 [.slice tA t.length tc].toArray w0 (fun e w' => ∃ (rA0 : Option Addr) (rc0 : Nat), e = .returned (.slice rA0 (t).length rc0) ∧ Fr A6 w0 w' ∧ (Bw 1 rA0 ((t).length) rc0 (BN t)).φ w' (nxt Z w0 w')) := by
 have b0 := s0 (M := A6) hZ (zc ht zn)
 refine AE Tryz.func127 rfl Tryz.ntmps127 rfl fun c0 d0 => ?_
 refine rR d0 fun c0 f0 => ?_
 refine Ac fun c0 d0 => wsc fun c0 h0 => mv f0 fun c0 i0 => ?_
 refine KL sv i0 rfl rfl rfl rfl AU (by decide) fun c0 f0 => ?_
 refine wn h0 <| wcg f0 (fun h0 c0 => ?_) fun h0 i0 => ?_
 refine rR c0 fun h0 f0 => ?_
 refine rt1 f0 ?_
 have f0 : t = [] := BB (N6 ht (by assumption))
 rw [f0]
 refine ⟨none, 0, ?_, b0.fr, ⟨Af _, RowI.nil _ _ _ _⟩⟩
 exact cre rfl
 refine Am <| xn d0 <| wsc fun d0 f0 => bsl i0 b0 fun d0 h0 c0 j0 k0 => ?_
 refine mv j0 fun c0 h0 => ?_
 refine BL (f := EI) (i := 0) ([]) t sv h0 k0 rfl rfl rfl rfl rfl CC (Do _) AU zi3 rfl rfl (k0.row (i := 0) rfl).2.news rfl (by (simp only [Ad, Aj]; omega)) (by decide) fun c0 j0 d0 i0 b0 m0 n0 => ?_
 have b0 : (([]) ++ t : List Int).length = t.length := by (simp only [Ab, Ah, Ad, Aj]; omega)
 refine aw m0 f0 fun b0 j0 => ?_
 refine rt1 j0 ?_
 have j0 : t = ([]) ++ t := by simp
 rw [j0]
 have j0 := n0.pub 0 (Bw 1 d0 ((([]) ++ t : List Int).length) i0 (BN (([]) ++ t)))
 refine ⟨d0, i0, ?_, j0.fr, j0.rx 1⟩
 exact cre rfl
theorem HS (w0 : World) (Z : Nat → Prop) (hZ : HZ w0 Z) (tA : Option Addr) (tc : Nat) (t : List Nd) (ht : N4 tA tc t w0 Z) (hl : t.length ≤ 1000000 := by exact ax) :
    Calls Tryz.prog 53 [.slice tA t.length tc].toArray w0 (fun e w' => ∃ (rA0 : Option Addr) (rc0 : Nat), e = .returned (.slice rA0 (t).length rc0) ∧ Fr A6 w0 w' ∧ (Res.row rA0 (t).length rc0 30 4 (Cd t)).holds w' ∧ (∀ k, (Res.row rA0 (t).length rc0 30 4 (Cd t)).blk = some k → w0.heap.size ≤ k)) := by
 have b0 := s0 (M := A6) hZ (zc ht zn)
 refine AE Tryz.func53 rfl Tryz.ntmps53 rfl fun c0 d0 => ?_
 refine rR d0 fun c0 f0 => ?_
 refine Ac fun c0 d0 => wsc fun c0 h0 => mv f0 fun c0 i0 => ?_
 refine KL sv i0 rfl rfl rfl rfl Au (by decide) fun c0 f0 => ?_
 refine wn h0 <| wcg f0 (fun h0 c0 => ?_) fun h0 i0 => ?_
 refine rR c0 fun h0 f0 => ?_
 refine rt1 f0 ?_
 have f0 : t = [] := BB (N6 ht (by assumption))
 rw [f0]
 refine ⟨none, 0, ?_, b0.fr, Ik, Ij⟩
 exact cre rfl
 refine Am <| xn d0 <| wsc fun d0 f0 => bsl i0 b0 fun d0 h0 c0 j0 k0 => ?_
 refine mv j0 fun c0 h0 => ?_
 refine BL (f := Eb) (i := 0) ([]) t sv h0 k0 rfl rfl rfl rfl rfl Cq (Dz _) Au Qj rfl rfl (k0.row (i := 0) rfl).2.news rfl (by (simp only [Ad, Aj]; omega)) (by decide) fun c0 j0 d0 i0 b0 m0 n0 => ?_
 have b0 : (([]) ++ t : List Nd).length = t.length := by (simp only [Ab, Ah, Ad, Aj]; omega)
 refine aw m0 f0 fun b0 j0 => ?_
 refine rt1 j0 ?_
 have j0 : t = ([]) ++ t := by simp
 rw [j0]
 refine ⟨d0, i0, ?_, n0.fr, (n0.res (i := 0) rfl), (n0.fresh (i := 0) rfl)⟩
 exact cre rfl
theorem FH (w0 : World) (Z : Nat → Prop) (hZ : HZ w0 Z) (tA : Option Addr) (tc : Nat) (t : List Nd) (ht : N4 tA tc t w0 Z) :
    Calls Tryz.prog 15 [.slice tA t.length tc].toArray w0 (fun e w' => e = .returned (.bool (Df 80 t)) ∧ Fr A6 w0 w') := by
 have b0 := s0 (M := A6) hZ (zc ht zn)
 refine AE Tryz.func15 rfl Tryz.ntmps15 rfl fun c0 d0 => ?_
 refine rR d0 fun c0 f0 => ?_
 refine Ac fun c0 d0 => rR f0 fun c0 h0 => ?_
 refine wcd h0 (fun c0 f0 => ?_) fun c0 i0 => ?_
 refine rR f0 fun c0 h0 => ?_
 refine rt h0 b0.fr ?_
 exact BQ (by exact (Sb (by omega)).symm)
 refine Am <| xn d0 <| Ac fun d0 h0 => rR i0 fun d0 c0 => ?_
 refine A4 ?_
 refine AH (fun gn ga gw => ∃ k : Nat, (Reg ga 20 [(1000000, .bool false), (0, .slice tA t.length tc), (3, .int .i64 (k : Int))]) ∧ (St w0 Z A6 gw [] [n4 tA tc t]) ∧ (k ≤ t.length) ∧ (Lf t k) ∧ (t.length - k) = gn) _ ⟨0, (c0.sub (rc2 (rc rfl rnl))), b0, by omega, (fun _ h => by omega), rfl⟩ ?_
 rintro c0 b0 d0 ⟨k, i0, f0, hk, hi, j0⟩
 refine Ac fun j0 d0 => rR i0 fun j0 b0 => ?_
 refine wcd b0 (fun j0 i0 => ?_) fun j0 c0 => ?_
 refine Am <| xn d0 <| Ac fun d0 j0 => A4 ?_
 refine wsc fun d0 b0 => lR i0 fun d0 k0 => ?_
 refine ix k (k * 4) k0 (Bp (t := t) (k := k) (f0.row (i := 0) rfl).2 (by omega)).some_ fun d0 i0 => ?_
 refine CB (j' := k * 4 + 3) sv i0 rfl rfl rfl (Bp (t := t) (k := k) (f0.row (i := 0) rfl).2 (by omega)).some_ Ar rfl sz9 rfl rfl (by decide) fun d0 k0 => ?_
 refine lde 3 (k * 4) k0 (Bp (t := t) (k := k) (f0.row (i := 0) rfl).2 (by omega)) fun d0 i0 => ?_
 refine lR i0 fun d0 k0 => ?_
 refine wn b0 <| wcd k0 (fun b0 d0 => ?_) fun b0 i0 => ?_
 refine rR d0 fun b0 k0 => ?_
 refine rt k0 f0.fr ?_
 exact BQ (by exact (Ub (k := k) (by omega) (by omega)).symm)
 refine Am <| A7 <| xn j0 <| A0 ?_
 refine mv i0 fun j0 k0 => ?_
 refine adi ((k + 1 : Nat) : Int) k0 fun j0 i0 => ?_
 refine asg i0 fun j0 k0 => ?_
 refine Ae ?_
 exact ⟨_, by omega, k + 1, (k0.sub (rc2 (rc rfl rnl))), f0, by omega, PL hi (by omega), rfl⟩
 refine xe ?_
 refine xn h0 <| rR c0 fun h0 k0 => ?_
 refine rt k0 f0.fr ?_
 exact BQ (by exact (Ua hi (by omega) (by omega)).symm)
theorem Hk (w0 : World) (Z : Nat → Prop) (hZ : HZ w0 Z) (x : Int)  :
    Calls Tryz.prog 18 [.int .i64 x].toArray w0 (fun e w' => e = .returned (.bool (grB x)) ∧ Fr A6 w0 w') := by
 have b0 := s0 (M := A6) hZ zn
 refine AE Tryz.func18 rfl Tryz.ntmps18 rfl fun c0 d0 => ?_
 refine rR d0 fun c0 f0 => ?_
 refine wsc fun c0 d0 => lR f0 fun c0 h0 => ?_
 refine lOr 2 (decide (x = 21)) h0 fun c0 f0 => ?_
 refine mv f0 fun c0 h0 => ?_
 refine lOr 2 (decide (x = 22)) h0 fun c0 f0 => ?_
 refine aw f0 d0 fun c0 h0 => ?_
 refine rt h0 b0.fr ?_
 exact BQ (by rfl)
theorem Fw (w0 : World) (Z : Nat → Prop) (hZ : HZ w0 Z) (b : Bool) (n : Int)  :
    Calls Tryz.prog 58 [.bool b, .int .i64 n].toArray w0 (fun e w' => e = .returned (.int .i64 (mkI b n)) ∧ Fr A6 w0 w') := by
 have b0 := s0 (M := A6) hZ zn
 refine AE Tryz.func58 rfl Tryz.ntmps58 rfl fun c0 d0 => ?_
 refine rR d0 fun c0 f0 => ?_
 refine Ac fun c0 d0 => rR f0 fun c0 h0 => ?_
 refine wcg h0 (fun c0 f0 => ?_) fun c0 i0 => ?_
 refine rR f0 fun h0 j0 => ?_
 refine rt j0 b0.fr ?_
 exact Bz (by (unfold mkI; simp [c0]))
 refine Am <| xn d0 <| rR i0 fun d0 j0 => ?_
 refine rt j0 b0.fr ?_
 exact Bz (by (unfold mkI; simp [c0]))
theorem N7 (w0 : World) (Z : Nat → Prop) (hZ : HZ w0 Z) (n : Nd) (qg : Nat) (qs : ByteArray) (hqQ : (Ct qg [.string qs]).φ w0 Z) :
    Calls Tryz.prog 125 [.agg #[.int .i64 (n.K), .int .i64 (n.N), .int .i64 (n.M), .string n.S], .pointer (some ⟨qg, 0, none⟩)].toArray w0 (fun e w' => e = .returned (.bool (meN qs n)) ∧ Fr A6 w0 w') := by
 have b0 := s0 (M := A6) hZ (zc hqQ zn)
 refine AE Tryz.func125 rfl Tryz.ntmps125 rfl fun c0 d0 => ?_
 refine wsc fun c0 f0 => bxx d0 b0 fun c0 h0 i0 j0 k0 => ?_
 refine aw j0 f0 fun h0 c0 => ?_
 refine wsc fun f0 h0 => lR c0 fun f0 j0 => ?_
 refine BR sv j0 rfl rfl rfl (Bn (k0.get (i := 0) rfl) rfl) A8 rfl (by decide) fun f0 c0 => ?_
 refine lR c0 fun f0 j0 => ?_
 refine EA (fun ga gw => Reg ga 23 [(3, .bool false), (22, .bool ((decide (n.S = qs)) && ((decide ((n.K) = 25)) || ((decide ((n.K) = 26)) || (decide ((n.K) = 27)))))), (1000000, .bool false)] ∧ St w0 Z A6 gw [.box i0 30 [.int .i64 (n.K), .int .i64 (n.N), .int .i64 (n.M), .string n.S]] [Ct qg [.string qs]]) 14 ?_ ?_
 refine spd 8 j0 (fun i0 f0 => ?_) fun i0 c0 => ?_
 refine lR f0 fun j0 d0 => ?_
 refine spd 12 d0 (fun j0 f0 => ?_) fun j0 b0 => ?_
 refine lR f0 fun d0 m0 => ?_
 refine Ae ?_
 exact AC ⟨(m0.sub (rc rfl (rc (rb rfl (by (simp only [Aw i0, At i0, Aw j0, At j0, bl]; done))) (rc rfl rnl)))), k0⟩
 refine lR b0 fun m0 d0 => ?_
 refine spd 17 d0 (fun m0 b0 => ?_) fun m0 f0 => ?_
 refine lR b0 fun d0 n0 => ?_
 refine Ae ?_
 exact AC ⟨(n0.sub (rc rfl (rc (rb rfl (by (simp only [Aw i0, At i0, Ai j0, Aq j0, Aw m0, At m0, bl]; done))) (rc rfl rnl)))), k0⟩
 refine lR f0 fun n0 d0 => ?_
 refine Ae ?_
 exact AC ⟨(d0.sub (rc rfl (rc (rb rfl (by (simp only [Aw i0, At i0, Ai j0, Aq j0, Ai m0, Aq m0, bl]; done))) (rc rfl rnl)))), k0⟩
 refine lR c0 fun d0 m0 => ?_
 refine Ae ?_
 exact AC ⟨(m0.sub (rc rfl (rc (rb rfl (by (simp only [Ai i0, Aq i0, bl]; done))) (rc rfl rnl)))), k0⟩
 rintro m0 i0 ⟨k0, d0⟩
 refine aw k0 h0 fun i0 m0 => ?_
 refine rt m0 d0.fr ?_
 exact BQ (by rfl)
theorem Ms (w0 : World) (Z : Nat → Prop) (hZ : HZ w0 Z) (tA : Option Addr) (tc : Nat) (t : List Nd) (fpg : Nat) (fps : ByteArray) (ht : N4 tA tc t w0 Z) (hfpQ : (Ct fpg [.string fps]).φ w0 Z) (hl : t.length ≤ 1000000 := by exact ax) :
    Calls Tryz.prog 146 [.slice tA t.length tc, .func (.func 125) #[] #[.pointer (some ⟨fpg, 0, none⟩)]].toArray w0 (fun e w' => e = .returned (.int .i64 (ixF (meN fps) t)) ∧ Fr A6 w0 w') := by
 have b0 := s0 (M := A6) hZ (zc ht (zc hfpQ zn))
 refine AE Tryz.func146 rfl Tryz.ntmps146 rfl fun c0 d0 => ?_
 refine rR d0 fun c0 f0 => ?_
 refine Ac fun c0 d0 => rR f0 fun c0 h0 => ?_
 refine A4 ?_
 refine AH (fun gn ga gw => ∃ k : Nat, (Reg ga 19 [(1000000, .bool false), (0, .slice tA t.length tc), (1, .func (.func 125) #[] #[.pointer (some ⟨fpg, 0, none⟩)]), (7, .int .i64 (t.length : Int)), (8, .int .i64 (k : Int))]) ∧ (St w0 Z A6 gw [] [n4 tA tc t, Ct fpg [.string fps]]) ∧ (k ≤ t.length) ∧ (∀ i, i < k → meN fps (t.getD i ndz) = false) ∧ (t.length - k) = gn) _ ⟨0, (h0.sub (rc4 (rc rfl rnl))), b0, by omega, (fun _ h => by omega), rfl⟩ ?_
 rintro h0 b0 c0 ⟨k, f0, i0, hk, hi, j0⟩
 refine rR f0 fun j0 c0 => ?_
 refine Ac fun j0 f0 => wcd c0 (fun j0 b0 => ?_) fun j0 h0 => ?_
 refine Am <| xn f0 <| Ac fun f0 j0 => A4 ?_
 refine rR b0 fun f0 c0 => ?_
 refine wsc fun f0 b0 => lR c0 fun f0 k0 => ?_
 refine ix k (k * 4) k0 (Bp (t := t) (k := k) (i0.row (i := 0) rfl).2 (by omega)).some_ fun f0 c0 => ?_
 refine Cw sv c0 rfl rfl rfl (Bp (t := t) (k := k) (i0.row (i := 0) rfl).2 (by omega)) Ar rfl DK (by decide) fun f0 k0 => ?_
 have f0 := i0.nf
 refine DI (xs := [.tmp 15]) se k0 rfl rfl rfl rfl (by decide) ok125 (N7 _ _ f0.il (nth t k) fpg fps (f0.g 1)) ?_
 rintro k0 c0 ⟨rfl, m0⟩
 have c0 := f0.below m0.below
 refine ⟨_, rfl, fun m0 f0 => ?_⟩
 refine wn b0 <| wcg f0 (fun b0 m0 => ?_) fun b0 k0 => ?_
 refine rR m0 fun f0 n0 => ?_
 refine rt n0 c0.fr ?_
 exact Bz (by exact (Vi (z := ndz) (by omega) hi (by have q := b0; simpa [nth] using q)).symm)
 refine Am <| A7 <| xn j0 <| A0 ?_
 refine adi ((k + 1 : Nat) : Int) k0 fun j0 n0 => ?_
 refine mv n0 fun j0 k0 => ?_
 refine Ae ?_
 exact ⟨_, by omega, k + 1, (k0.sub (rc4 (rc rfl rnl))), c0, by omega, RT hi (by have q := b0; simpa [nth] using q), rfl⟩
 refine xe ?_
 refine xn d0 <| rR h0 fun d0 k0 => ?_
 refine rt k0 i0.fr ?_
 exact Bz (by exact (Vh (z := ndz) (fun i h => hi i (by omega))).symm)
theorem Jf (w0 : World) (Z : Nat → Prop) (hZ : HZ w0 Z) (tA : Option Addr) (tc : Nat) (t : List Nd) (fpg : Nat) (fps : ByteArray) (ht : N4 tA tc t w0 Z) (hfpQ : (Ct fpg [.string fps]).φ w0 Z) (hl : t.length ≤ 1000000 := by exact ax) :
    Calls Tryz.prog 124 [.slice tA t.length tc, .func (.func 125) #[] #[.pointer (some ⟨fpg, 0, none⟩)]].toArray w0 (fun e w' => e = .returned (.bool (t.any (meN fps))) ∧ Fr A6 w0 w') := by
 have b0 := s0 (M := A6) hZ (zc ht (zc hfpQ zn))
 refine AE Tryz.func124 rfl Tryz.ntmps124 rfl fun c0 d0 => ?_
 refine rR d0 fun c0 f0 => ?_
 refine wsc fun c0 d0 => lR f0 fun c0 h0 => ?_
 have c0 := b0.nf
 refine kra h0 c0 ok146 (Ms _ _ c0.il _ _ _ fpg fps (c0.g 0) (c0.g 1)) fun b0 f0 i0 j0 => ?_
 refine lR j0 fun i0 b0 => ?_
 refine wn d0 <| rt b0 f0.fr ?_
 exact BQ (by exact RU _ _)
theorem JZ (w0 : World) (Z : Nat → Prop) (hZ : HZ w0 Z) (tA : Option Addr) (tc : Nat) (t : List Nd) (q : ByteArray) (ht : N4 tA tc t w0 Z) (hl : t.length ≤ 1000000 := by exact ax) :
    Calls Tryz.prog 86 [.slice tA t.length tc, .string q].toArray w0 (fun e w' => e = .returned (.bool (t.any (meN q))) ∧ Fr A6 w0 w') := by
 have b0 := s0 (M := A6) hZ (zc ht zn)
 refine AE Tryz.func86 rfl Tryz.ntmps86 rfl fun c0 d0 => ?_
 refine wsc fun c0 f0 => bxx d0 b0 fun c0 h0 i0 j0 k0 => ?_
 refine aw j0 f0 fun h0 c0 => ?_
 refine wsc fun f0 h0 => mv c0 fun f0 j0 => ?_
 refine C8 sv j0 rfl rfl rfl (by decide) fun f0 c0 => ?_
 have f0 := k0.nf
 obtain ⟨k0, j0⟩ := f0.box_data (i := 0) rfl (fun _ h => h)
 have f0 := k0.data (Ct i0 [.string q]) j0
 refine kra c0 f0 ok124 (Jf _ _ f0.il _ _ _ i0 q (f0.g 0) (f0.g 1)) fun j0 k0 d0 b0 => ?_
 refine aw b0 h0 fun d0 j0 => ?_
 refine rt j0 k0.fr ?_
 exact BQ (by rfl)
theorem NU (w0 : World) (Z : Nat → Prop) (hZ : HZ w0 Z) (tA : Option Addr) (tc : Nat) (t : List Sl) (ht : (Bw 1 tA t.length tc (B7 t)).φ w0 Z) (hts : (Cl t).φ w0 Z) :
    Calls Tryz.prog 78 [.slice tA t.length tc].toArray w0 (fun e w' => e = .returned (.bool (decide (6 < t.length))) ∧ Fr A6 w0 w') := by
 have b0 := s0 (M := A6) hZ (zc ht (zc hts zn))
 refine AE Tryz.func78 rfl Tryz.ntmps78 rfl fun c0 d0 => ?_
 refine rR d0 fun c0 f0 => ?_
 refine rR f0 fun c0 d0 => ?_
 refine rt d0 b0.fr ?_
 exact BQ (by (simp [] <;> omega))
theorem Mt (w0 : World) (Z : Nat → Prop) (hZ : HZ w0 Z) (tA : Option Addr) (tc : Nat) (t : List Tl) (ht : (Bw 1 tA t.length tc (CW t)).φ w0 Z) (hts : (CG t).φ w0 Z) (hl : t.length ≤ 1000000 := by exact ax) :
    Calls Tryz.prog 113 [.slice tA t.length tc, .func (.func 78) #[] #[]].toArray w0 (fun e w' => e = .returned (.int .i64 (ixF (fun s : Tl => decide (6 < s.2.2.length)) t)) ∧ Fr A6 w0 w') := by
 have b0 := s0 (M := A6) hZ (zc ht (zc hts zn))
 refine AE Tryz.func113 rfl Tryz.ntmps113 rfl fun c0 d0 => ?_
 refine rR d0 fun c0 f0 => ?_
 refine Ac fun c0 d0 => rR f0 fun c0 h0 => ?_
 refine A4 ?_
 refine AH (fun gn ga gw => ∃ k : Nat, (Reg ga 19 [(1000000, .bool false), (0, .slice tA t.length tc), (1, .func (.func 78) #[] #[]), (7, .int .i64 (t.length : Int)), (8, .int .i64 (k : Int))]) ∧ (St w0 Z A6 gw [] [Bw 1 tA t.length tc (CW t), CG t]) ∧ (k ≤ t.length) ∧ (∀ i, i < k → (fun s : Tl => decide (6 < s.2.2.length)) (t.getD i tlz) = false) ∧ (t.length - k) = gn) _ ⟨0, (h0.sub (rc4 (rc rfl rnl))), b0, by omega, (fun _ h => by omega), rfl⟩ ?_
 rintro h0 b0 c0 ⟨k, f0, i0, hk, hi, j0⟩
 refine rR f0 fun j0 c0 => ?_
 refine Ac fun j0 f0 => wcd c0 (fun j0 b0 => ?_) fun j0 h0 => ?_
 refine Am <| xn f0 <| Ac fun f0 j0 => A4 ?_
 refine rR b0 fun f0 c0 => ?_
 refine wsc fun f0 b0 => lR c0 fun f0 k0 => ?_
 refine ix k (k * 1) k0 (Cn (t := t) (k := k) (i0.row (i := 0) rfl).2 (by omega)).some_ fun f0 c0 => ?_
 refine lde 0 (k * 1) c0 (Cn (t := t) (k := k) (i0.row (i := 0) rfl).2 (by omega)) fun f0 k0 => ?_
 have f0 := i0.elT 1 k
 have c0 := f0.elA 1 k
 have f0 := c0.nf
 refine DI (xs := [.tmp 15]) se k0 rfl rfl rfl rfl (by decide) ok78 (NU _ _ f0.il _ _ ((Bm t k).2.2) (f0.g 2) (f0.g 3)) ?_
 rintro k0 c0 ⟨rfl, m0⟩
 have c0 := f0.below m0.below
 refine ⟨_, rfl, fun m0 f0 => ?_⟩
 refine wn b0 <| wcg f0 (fun b0 m0 => ?_) fun b0 k0 => ?_
 have f0 := A9 b0
 refine rR m0 fun n0 o0 => ?_
 refine rt o0 c0.fr ?_
 exact Bz (by exact (Vi (p := (fun s : Tl => decide (6 < s.2.2.length))) (t := t) (k := k) (z := tlz) (by omega) hi (by have q := f0; (try simp at q); exact Aw (by show 6 < (Bm t k).2.2.length; omega))).symm)
 have f0 := Ak b0
 refine Am <| A7 <| xn j0 <| A0 ?_
 refine adi ((k + 1 : Nat) : Int) k0 fun j0 b0 => ?_
 refine mv b0 fun j0 k0 => ?_
 refine Ae ?_
 have j0 := c0.forget 3
 have c0 := j0.forget 2
 exact ⟨_, by omega, k + 1, (k0.sub (rc4 (rc rfl rnl))), c0, by omega, RT (p := (fun s : Tl => decide (6 < s.2.2.length))) (t := t) (k := k) (z := tlz) hi (by have q := f0; (try simp at q); exact Ai (by show ¬ 6 < (Bm t k).2.2.length; omega)), rfl⟩
 refine xe ?_
 refine xn d0 <| rR h0 fun d0 c0 => ?_
 refine rt c0 i0.fr ?_
 exact Bz (by exact (Vh (p := (fun s : Tl => decide (6 < s.2.2.length))) (t := t) (z := tlz) (fun i h => hi i (by omega))).symm)
theorem Jg (w0 : World) (Z : Nat → Prop) (hZ : HZ w0 Z) (tA : Option Addr) (tc : Nat) (t : List Tl) (ht : (Bw 1 tA t.length tc (CW t)).φ w0 Z) (hts : (CG t).φ w0 Z) (hl : t.length ≤ 1000000 := by exact ax) :
    Calls Tryz.prog 77 [.slice tA t.length tc, .func (.func 78) #[] #[]].toArray w0 (fun e w' => e = .returned (.bool (t.any (fun s : Tl => decide (6 < s.2.2.length)))) ∧ Fr A6 w0 w') := by
 have b0 := s0 (M := A6) hZ (zc ht (zc hts zn))
 refine AE Tryz.func77 rfl Tryz.ntmps77 rfl fun c0 d0 => ?_
 refine rR d0 fun c0 f0 => ?_
 refine wsc fun c0 d0 => lR f0 fun c0 h0 => ?_
 have c0 := b0.nf
 refine kra h0 c0 ok113 (Mt _ _ c0.il _ _ _ (c0.g 0) (c0.g 1)) fun b0 f0 i0 j0 => ?_
 refine lR j0 fun i0 b0 => ?_
 refine wn d0 <| rt b0 f0.fr ?_
 exact BQ (by exact RU _ _)
end Go.Proofs.YtpfmnpaifchleaaGreatDoor
namespace Go.Proofs.YtpfmnpaifchleaaGreatDoor
set_option linter.unusedSimpArgs false
set_option linter.unusedVariables false
section
/- Maps from numbers to functions: made, looked into. -/
open Go.RowKit Go.MapKept
def dMap (b : Nat) (es : List MapEntry) (c : Nat) : Dat := ⟨fun w I => I b ∧ w.heap[b]? = some (.map es.toArray c), fun _ _ _ _ _ h hk => ⟨(hk b h.1).1, (hk b h.1).2.trans h.2⟩⟩
section
variable {P : Program} {X : Prop} {Next : Act → World → Prop} {o : Oper} {a : Act} {w w1 : World} {N : Nat} {l : List (Nat × Value)} {d : Nat} {t kt et : TypeId} {es : List MapEntry} {c b i : Nat} {z : Int} {u : Value} {x y m : Operand}
end
end
section
/- Maps from texts: made, changed, looked into; the words of the language. -/
open Go Go.RowKit Go.MapKept
section
variable {P : Program} {X : Prop} {Next : Act → World → Prop} {o : Oper} {a : Act} {w w0 : World} {N : Nat} {l : List (Nat × Value)} {d : Nat} {t kt et : TypeId} {es : List MapEntry} {c b i g : Nat} {u : Value} {x y z : Operand} {ks : ByteArray} {Z M : Nat → Prop} {m : List Res} {ds : List Dat}
theorem Kd (hs : SteV P X Next o a w) (hR : Reg a N l) (hS : St w0 Z M w m ds) (hd : o.dst = some d) (ho : o.op = .makeMap t none) (hdN : d < N)
  (k : ∀ a' w' g, Reg a' N ((d, .map (some g)) :: l) → St w0 Z M w' (m ++ [.mp g [] 0]) ds → Next a' w') : X := by
 refine hs.val (.map (some w.heap.size)) (w.alloc (.map #[] 0)) ?_ (by rw [hd]; exact k _ _ _ (hR.put hdN _) (hS.alloc _ _ (heap_alloc w _).1 rfl))
 unfold execOp; rw [ho]
 simp [Instr.makeMap, AF]
theorem JM (hb : w.heap[g]? = some (.map es.toArray c)) (ht : P.underlying t = some (.map kt et)) (hkt : P.underlying kt = some .string) (hf : Instr.findNow .string (.string ks) es 0 = some none) :
  (Instr.mapUpdate t (.map (some g)) (.string ks) u).run P w = .ok () { w with heap := w.heap.setIfInBounds g (.map (es ++ [(⟨.string ks, u, c⟩ : MapEntry)]).toArray (c + 1)) } := by
 have hk : IsKey .string (.string ks) := trivial
 simp only [Instr.mapUpdate, AF, run_underlying ht, Az, Go.MapKept.run_getObj_map hb, run_checkKey hkt hk, run_findKey hkt hf, run_setObj_map _ hb, List.push_toArray]
theorem St.mapPut (hS : St w0 Z M w m ds) (hi : m[i]? = some (.mp g es c)) (es' : List MapEntry) (c' : Nat) : St w0 Z M { w with heap := w.heap.setIfInBounds g (.map es'.toArray c') } (m.set i (.mp g es' c')) ds := by
 have hb : w.heap[g]? = some (.map es.toArray c) := hS.res hi
 have hh := heap_set (o' := Obj.map es'.toArray c') hb
 refine hS.turn hi rfl rfl rfl (by simp) (fun k hk hne => hh.2 k (fun e => hne (by rw [e]; rfl))) hh.1 (fun k hk => ?_)
 have : g = k := by simpa [Res.blk] using hk
 subst this
 exact ⟨by have := (AV.1 hb).1; simpa using this, .inl rfl⟩
theorem RN (hs : Ste P X Next o a w) (hR : Reg a N l) (hS : St w0 Z M w m ds) (hi : m[i]? = some (.mp g es c)) (hd : o.dst = none) (ho : o.op = .insert t x y z) (hm : ev l x = some (.map (some g))) (hx : ev l y = some (.string ks)) (hy : ev l z = some u)
  (ht : P.underlying t = some (.map kt et)) (hkt : P.underlying kt = some .string) (hf : Instr.findNow .string (.string ks) es 0 = some none)
  (k : ∀ a' w', Reg a' N l → St w0 Z M w' (m.set i (.mp g (es ++ [(⟨.string ks, u, c⟩ : MapEntry)]) (c + 1))) ds → Next a' w') : X := by
 refine hs.skip _ ?_ (by rw [hd]; exact k _ _ (hR.put_none _) (hS.mapPut hi _ _))
 unfold execOp; rw [ho]
 simp only [hR.ev hm, hR.ev hx, hR.ev hy, AF, JM (hS.res hi) ht hkt hf, Az, Bg]
theorem RK (hs : Ste P X Next o a w) (hR : Reg a N l) (hS : St w0 Z M w m ds) (hi : m[i]? = some (.mp g es c)) (hd : o.dst = none) (ho : o.op = .mapUpdate t x y z) (hm : ev l x = some (.map (some g))) (hx : ev l y = some (.string ks)) (hy : ev l z = some u)
  (ht : P.underlying t = some (.map kt et)) (hkt : P.underlying kt = some .string) (hf : Instr.findNow .string (.string ks) es 0 = some none)
  (k : ∀ a' w', Reg a' N l → St w0 Z M w' (m.set i (.mp g (es ++ [(⟨.string ks, u, c⟩ : MapEntry)]) (c + 1))) ds → Next a' w') : X := by
 refine hs.skip _ ?_ (by rw [hd]; exact k _ _ (hR.put_none _) (hS.mapPut hi _ _))
 unfold execOp; rw [ho]
 simp only [hR.ev hm, hR.ev hx, hR.ev hy, AF, JM (hS.res hi) ht hkt hf, Az, Bg]
theorem Om {E : List MapEntry} {n : Nat} {e : MapEntry} (h : E[n]? = some e) : E.take n ++ [e] = E.take (n + 1) := by
 rw [List.take_add_one, h]
 rfl
theorem Cg {n : Nat} (E : List MapEntry) (hs : Ste P X Next o a w) (hR : Reg a N l) (hS : St w0 Z M w m ds) (hi : m[i]? = some (.mp g (E.take n) n)) (hd : o.dst = none) (ho : o.op = .insert t x y z) (hm : ev l x = some (.map (some g))) (hx : ev l y = some (.string ks)) (hy : ev l z = some u)
  (ht : P.underlying t = some (.map kt et)) (hkt : P.underlying kt = some .string) (hf : Instr.findNow .string (.string ks) (E.take n) 0 = some none) (hE : E[n]? = some ⟨.string ks, u, n⟩)
  (k : ∀ a' w', Reg a' N l → St w0 Z M w' (m.set i (.mp g (E.take (n + 1)) (n + 1))) ds → Next a' w') : X :=
 RN hs hR hS hi hd ho hm hx hy ht hkt hf (fun a' w' h1 h2 => k a' w' h1 (by rw [Om hE] at h2; exact h2))
theorem E2 {n : Nat} (E : List MapEntry) (hs : Ste P X Next o a w) (hR : Reg a N l) (hS : St w0 Z M w m ds) (hi : m[i]? = some (.mp g (E.take n) n)) (hd : o.dst = none) (ho : o.op = .mapUpdate t x y z) (hm : ev l x = some (.map (some g))) (hx : ev l y = some (.string ks)) (hy : ev l z = some u)
  (ht : P.underlying t = some (.map kt et)) (hkt : P.underlying kt = some .string) (hf : Instr.findNow .string (.string ks) (E.take n) 0 = some none) (hE : E[n]? = some ⟨.string ks, u, n⟩)
  (k : ∀ a' w', Reg a' N l → St w0 Z M w' (m.set i (.mp g (E.take (n + 1)) (n + 1))) ds → Next a' w') : X :=
 RK hs hR hS hi hd ho hm hx hy ht hkt hf (fun a' w' h1 h2 => k a' w' h1 (by rw [Om hE] at h2; exact h2))
theorem St.mp_as {E E' : List MapEntry} (hS : St w0 Z M w m ds) (i : Nat) (hi : m[i]? = some (.mp g E c)) (h : E = E') : St w0 Z M w (m.set i (.mp g E' c)) ds := by
 subst h
 have : m.set i (.mp g E c) = m := by
  apply List.ext_getElem?
  intro k
  rw [List.getElem?_set]
  split
  ·
   rename_i hk
   subst hk
   rw [At (List.getElem?_eq_some_iff.1 hi).1, hi]
  · rfl
 rw [this]
 exact hS
theorem HG {s s' r : ByteArray} {t2 : TypeId} (hs : SteV P X Next o a w) (hR : Reg a N l) (hd : o.dst = some d) (ho : o.op = .binOp .add t x y t2) (hx : ev l x = some (.string s)) (hy : ev l y = some (.string s')) (hr : s ++ s' = r) (hl : s.size + s'.size ≤ 1000000) (hdN : d < N)
  (k : ∀ a', Reg a' N ((d, .string r) :: l) → Next a' w) : X :=
 Cv hs hR hd hdN (MZ hR ho hx hy (by rw [run_string_add_sum w s s' (by omega), hr])) k
theorem St.mp_data (hS : St w0 Z A6 w m ds) (hi : m[i]? = some (.mp g es c)) : (dMap g es c).φ w (nxt Z w0 w) := by
 have hb : w.heap[g]? = some (.map es.toArray c) := hS.res hi
 refine ⟨⟨(AV.1 hb).1, fun hlt => ?_⟩, hb⟩
 rcases (hS.own _ (Ax hi) g rfl).2 with h | h
 · omega
 · exact h.elim
def Fk (s : ByteArray) (e : MapEntry) : Bool := match e.key with
 | .string k => decide (s = k)
 | _ => false
def Q5 (e : MapEntry) : Bool := match e.key with
 | .string _ => true
 | _ => false
theorem Jb (s : ByteArray) : ∀ (es : List MapEntry) (i : Nat), es.all Q5 = true → ∃ r, Instr.findNow .string (.string s) es i = some r ∧ r.isSome = es.any (Fk s) ∧ ∀ j u, r = some (j, u) → ∃ e ∈ es, e.val = u
 | [], i, _ => ⟨none, rfl, rfl, fun _ _ h => by cases h⟩
 | e :: es, i, h => by
  rw [List.all_cons, AK] at h
  obtain ⟨h1, h2⟩ := h
  obtain ⟨r, hr1, hr2, hr3⟩ := Jb s es (i + 1) h2
  unfold Q5 at h1
  cases hk : e.key with
  | string k =>
   by_cases hs : s = k
   ·
    refine ⟨some (i, e.val), ?_, ?_, fun j u hj => ⟨e, by simp, by cases hj; rfl⟩⟩
    ·
     unfold Instr.findNow
     rw [hk]
     have : Instr.sameNow .string (.string s) (.string k) = some true := by
      show some (s == k) = some true
      rw [(bytes_beq s k).2 hs]
     rw [this]
    ·
     rw [List.any_cons]
     unfold Fk
     rw [hk]
     simp [hs]
   ·
    refine ⟨r, ?_, ?_, fun j u hj => ?_⟩
    ·
     unfold Instr.findNow
     rw [hk]
     have : Instr.sameNow .string (.string s) (.string k) = some false := by
      show some (s == k) = some false
      congr 1
      exact Bool.eq_false_iff.2 (fun h => hs ((bytes_beq s k).1 h))
     rw [this]
     exact hr1
    ·
     rw [List.any_cons, hr2]
     have : Fk s e = false := by unfold Fk; rw [hk]; simp [hs]
     rw [this, Bool.false_or]
    ·
     obtain ⟨e', he, hu⟩ := hr3 j u hj
     exact ⟨e', by simp [he], hu⟩
  | _ => rw [hk] at h1; cases h1
def aggN (n : Nat) (v : Value) : Bool := match v with
 | .agg cs => cs.size == n && cs.toList.all Value.oneCell'
 | _ => false
theorem SR {n : Nat} {v : Value} (h : aggN n v = true) : ∃ cs : List Value, v = .agg cs.toArray ∧ cs.length = n ∧ cs.all Value.oneCell' = true := by
 unfold aggN at h
 cases v with
 | agg cs =>
  simp only [AK, beq_iff_eq] at h
  exact ⟨cs.toList, by simp, by simpa using h.1, h.2⟩
 | _ => cases h
theorem Kf {n : Nat} {s : ByteArray} {vz : Value} (hs : SteV P X Next o a w) (hR : Reg a N l) (hd : o.dst = some d) (ho : o.op = .lookup t x y true) (hx : ev l x = some (.map (some b))) (hy : ev l y = some (.string s)) (hb : w.heap[b]? = some (.map es.toArray c))
  (ht : P.underlying t = some (.map kt et)) (hkt : P.underlying kt = some .string) (hz : (P.info? et).map (·.zero) = some (some vz)) (hzn : aggN n vz = true) (hk : es.all Q5 = true) (hv : es.all (fun e => aggN n e.val) = true) (hdN : d < N)
  (k : ∀ a' (cs : List Value), cs.length = n → cs.all Value.oneCell' = true → Reg a' N ((d, .tuple #[.agg cs.toArray, .bool (es.any (Fk s))]) :: l) → Next a' w) : X := by
 obtain ⟨r, hr1, hr2, hr3⟩ := Jb s es 0 hk
 have hik : IsKey .string (.string s) := trivial
 have hzv : ∀ w : World, (zeroValue et).run P w = .ok vz w := fun w => by
  cases hq : P.info? et with
  | none => simp [hq] at hz
  | some inf =>
   simp only [hq, Cm, Cs] at hz
   simp [zeroValue, typeInfo, AF, hq, hz]
 cases hr : r with
 | none =>
  obtain ⟨cs, hcs, hlen, hone⟩ := SR hzn
  rw [hr] at hr1 hr2
  refine hs.val (.tuple #[.agg cs.toArray, .bool (es.any (Fk s))]) w ?_ (by rw [hd]; exact k _ cs hlen hone (hR.put hdN _))
  unfold execOp; rw [ho]
  rw [← hr2, ← hcs]
  simp [hR.ev hx, hR.ev hy, Instr.lookup, AF, run_underlying ht, Az, Go.MapKept.run_getObj_map hb, run_checkKey hkt hik, run_findKey hkt hr1, hzv]
 | some p =>
  obtain ⟨j, v⟩ := p
  obtain ⟨e, he, hu⟩ := hr3 j v hr
  have hvv : aggN n v = true := by rw [← hu]; exact List.all_eq_true.1 hv e he
  obtain ⟨cs, hcs, hlen, hone⟩ := SR hvv
  rw [hr] at hr1 hr2
  refine hs.val (.tuple #[.agg cs.toArray, .bool (es.any (Fk s))]) w ?_ (by rw [hd]; exact k _ cs hlen hone (hR.put hdN _))
  unfold execOp; rw [ho]
  rw [← hr2, ← hcs]
  simp [hR.ev hx, hR.ev hy, Instr.lookup, AF, run_underlying ht, Az, Go.MapKept.run_getObj_map hb, run_checkKey hkt hik, run_findKey hkt hr1]
theorem Kb {n : Nat} {e : TypeId} {cs0 cs : List Value} (hs : Ste P X Next o a w) (hR : Reg a N l) (hS : St w0 Z M w m ds) (hd : o.dst = none) (ho : o.op = .store t x y) (hx : ev l x = some (.pointer (some ⟨g, 0, none⟩))) (hy : ev l y = some (.agg cs.toArray))
  (hi : m[i]? = some (.box g e cs0)) (hsz : (P.info? t).map (·.size) = some n) (hn : cs.length = n) (hone : cs.all Value.oneCell' = true) (h0 : cs0.length = n)
  (k : ∀ a' w', Reg a' N l → St w0 Z M w' ((m.set i (.box g e cs)).eraseIdx i) ds → Next a' w') : X := by
 refine RL (i := i) (cs := cs0) (cs' := cs) hs hR hS hd ho hx hy hi ?_ ?_ ?_ ?_ (fun a' w' h1 h2 => k a' w' h1 (h2.erase i))
 · rw [hsz]; simp [Value.cells, hn]
 · simpa [Value.cells] using hone
 · simp [Value.cells, hn, h0]
 · simp [Value.cells, hn, h0]
end
def fmM : List MapEntry := [⟨.string ⟨#[84, 121, 112, 101]⟩, .agg #[.int .i64 2, .int .i64 0, .int .i64 0, .string ⟨#[]⟩, .string ⟨#[110]⟩], 0⟩, ⟨.string ⟨#[108, 97, 109]⟩, .agg #[.int .i64 4, .int .i64 0, .int .i64 0, .string ⟨#[]⟩, .string ⟨#[119, 46, 46]⟩], 1⟩, ⟨.string ⟨#[97, 112, 112]⟩, .agg #[.int .i64 5, .int .i64 0, .int .i64 0, .string ⟨#[]⟩, .string ⟨#[46, 46]⟩], 2⟩, ⟨.string ⟨#[112, 97, 105, 114]⟩, .agg #[.int .i64 7, .int .i64 0, .int .i64 0, .string ⟨#[]⟩, .string ⟨#[46, 46, 46]⟩], 3⟩, ⟨.string ⟨#[102, 115, 116]⟩, .agg #[.int .i64 8, .int .i64 0, .int .i64 0, .string ⟨#[]⟩, .string ⟨#[46]⟩], 4⟩, ⟨.string ⟨#[115, 110, 100]⟩, .agg #[.int .i64 9, .int .i64 0, .int .i64 0, .string ⟨#[]⟩, .string ⟨#[46]⟩], 5⟩, ⟨.string ⟨#[115, 117, 99]⟩, .agg #[.int .i64 12, .int .i64 0, .int .i64 0, .string ⟨#[]⟩, .string ⟨#[46]⟩], 6⟩, ⟨.string ⟨#[112, 114, 102]⟩, .agg #[.int .i64 28, .int .i64 0, .int .i64 0, .string ⟨#[]⟩, .string ⟨#[46]⟩], 7⟩, ⟨.string ⟨#[114, 101, 99]⟩, .agg #[.int .i64 13, .int .i64 0, .int .i64 0, .string ⟨#[]⟩, .string ⟨#[118, 46, 46, 118, 118, 46, 46]⟩], 8⟩, ⟨.string ⟨#[97, 98, 111, 114, 116]⟩, .agg #[.int .i64 15, .int .i64 0, .int .i64 0, .string ⟨#[]⟩, .string ⟨#[46, 46]⟩], 9⟩, ⟨.string ⟨#[101, 113]⟩, .agg #[.int .i64 18, .int .i64 0, .int .i64 0, .string ⟨#[]⟩, .string ⟨#[46, 46, 46]⟩], 10⟩, ⟨.string ⟨#[114, 101, 102, 108]⟩, .agg #[.int .i64 19, .int .i64 0, .int .i64 0, .string ⟨#[]⟩, .string ⟨#[46, 46]⟩], 11⟩, ⟨.string ⟨#[99, 97, 115, 116]⟩, .agg #[.int .i64 20, .int .i64 0, .int .i64 0, .string ⟨#[]⟩, .string ⟨#[46, 46, 46, 46]⟩], 12⟩, ⟨.string ⟨#[116, 114, 97, 110, 115, 112]⟩, .agg #[.int .i64 21, .int .i64 0, .int .i64 0, .string ⟨#[]⟩, .string ⟨#[46, 46, 118, 46, 46, 46, 46]⟩], 13⟩, ⟨.string ⟨#[113, 117, 111, 116]⟩, .agg #[.int .i64 22, .int .i64 0, .int .i64 0, .string ⟨#[]⟩, .string ⟨#[46, 118, 118, 46, 46, 46, 46]⟩], 14⟩, ⟨.string ⟨#[99, 108, 97, 115, 115]⟩, .agg #[.int .i64 23, .int .i64 0, .int .i64 0, .string ⟨#[]⟩, .string ⟨#[46, 46]⟩], 15⟩, ⟨.string ⟨#[113, 101, 108, 105, 109]⟩, .agg #[.int .i64 24, .int .i64 0, .int .i64 0, .string ⟨#[]⟩, .string ⟨#[46, 118, 46, 46, 46]⟩], 16⟩, ⟨.string ⟨#[100, 97, 116, 97]⟩, .agg #[.int .i64 25, .int .i64 0, .int .i64 0, .string ⟨#[]⟩, .string ⟨#[100]⟩], 17⟩, ⟨.string ⟨#[99, 111, 110]⟩, .agg #[.int .i64 26, .int .i64 0, .int .i64 0, .string ⟨#[]⟩, .string ⟨#[100, 110, 42]⟩], 18⟩, ⟨.string ⟨#[101, 108, 105, 109]⟩, .agg #[.int .i64 27, .int .i64 0, .int .i64 0, .string ⟨#[]⟩, .string ⟨#[100, 118, 46, 42, 46]⟩], 19⟩, ⟨.string ⟨#[112, 105]⟩, .agg #[.int .i64 3, .int .i64 0, .int .i64 0, .string ⟨#[]⟩, .string ⟨#[119, 46, 46]⟩], 20⟩, ⟨.string ⟨#[115, 105, 103]⟩, .agg #[.int .i64 6, .int .i64 0, .int .i64 0, .string ⟨#[]⟩, .string ⟨#[119, 46, 46]⟩], 21⟩, ⟨.string ⟨#[112, 105, 49]⟩, .agg #[.int .i64 3, .int .i64 1, .int .i64 0, .string ⟨#[]⟩, .string ⟨#[119, 46, 46]⟩], 22⟩, ⟨.string ⟨#[115, 105, 103, 49]⟩, .agg #[.int .i64 6, .int .i64 1, .int .i64 0, .string ⟨#[]⟩, .string ⟨#[119, 46, 46]⟩], 23⟩, ⟨.string ⟨#[112, 105, 50]⟩, .agg #[.int .i64 3, .int .i64 2, .int .i64 0, .string ⟨#[]⟩, .string ⟨#[119, 46, 46]⟩], 24⟩, ⟨.string ⟨#[115, 105, 103, 50]⟩, .agg #[.int .i64 6, .int .i64 2, .int .i64 0, .string ⟨#[]⟩, .string ⟨#[119, 46, 46]⟩], 25⟩, ⟨.string ⟨#[112, 105, 51]⟩, .agg #[.int .i64 3, .int .i64 3, .int .i64 0, .string ⟨#[]⟩, .string ⟨#[119, 46, 46]⟩], 26⟩, ⟨.string ⟨#[115, 105, 103, 51]⟩, .agg #[.int .i64 6, .int .i64 3, .int .i64 0, .string ⟨#[]⟩, .string ⟨#[119, 46, 46]⟩], 27⟩]
def alM : List MapEntry := [⟨.string ⟨#[80, 114, 111, 112]⟩, .agg #[.int .i64 2, .int .i64 0, .int .i64 0, .string ⟨#[]⟩], 0⟩, ⟨.string ⟨#[78, 97, 116]⟩, .agg #[.int .i64 10, .int .i64 0, .int .i64 0, .string ⟨#[]⟩], 1⟩, ⟨.string ⟨#[122, 101, 114, 111]⟩, .agg #[.int .i64 11, .int .i64 0, .int .i64 0, .string ⟨#[]⟩], 2⟩, ⟨.string ⟨#[69, 109, 112, 116, 121]⟩, .agg #[.int .i64 14, .int .i64 0, .int .i64 0, .string ⟨#[]⟩], 3⟩, ⟨.string ⟨#[85, 110, 105, 116]⟩, .agg #[.int .i64 16, .int .i64 0, .int .i64 0, .string ⟨#[]⟩], 4⟩, ⟨.string ⟨#[115, 116, 97, 114]⟩, .agg #[.int .i64 17, .int .i64 0, .int .i64 0, .string ⟨#[]⟩], 5⟩, ⟨.string ⟨#[116, 105, 99, 107]⟩, .agg #[.int .i64 29, .int .i64 0, .int .i64 0, .string ⟨#[]⟩], 6⟩]
def kwB (s : ByteArray) : Bool := fmM.any (Fk s) || alM.any (Fk s)
end
section
/- What is asked of a declaration. -/
open Go Go.RowKit
def Xq (v : Value) : List Value := [v]
def My (l : List Value) : List Value := l.flatMap Xq
def nthV (t : List Value) (k : Nat) : Value := t.getD k undef
theorem OU (v : Value) : (Xq v).length = 1 := rfl
section
variable {w : World} {I : Nat → Prop} {A : Option Addr} {k cap e : Nat}
theorem DW {t : List Value} (h : RowI w I 1 A t.length (My t)) (hk : k < t.length) : ElemAt w A (k * 1) (Xq (nthV t k)) := by
 have := h.elem hk
 rwa [show (My t) = t.flatMap Xq from rfl, EO OU t k hk undef] at this
theorem HJ {t : List Value} (h : (Res.row A t.length cap e 1 (My t)).holds w) (hk : k < t.length) : ElemAt w A (k * 1) (Xq (nthV t k)) := by
 have := Hb h hk
 rwa [show (My t) = t.flatMap Xq from rfl, EO OU t k hk undef] at this
end
def Gb (t : List Tl) : List Sl := t.flatMap fun s => s.2.2
def smT (t : List Tl) (k : Nat) : Nat := ((t.take k).map fun s => s.2.2.length).sum
theorem JI {t : List Tl} {k : Nat} (h : k < t.length) : t.take (k + 1) = t.take k ++ [Bm t k] := by
 rw [List.take_succ_eq_append_getElem h]
 simp [Bm, h]
theorem MC {t : List Tl} {k : Nat} (h : k < t.length) : Gb (t.take k) ++ (Bm t k).2.2 = Gb (t.take (k + 1)) := by rw [JI h]; simp [Gb]
theorem Oo {t : List Tl} {k : Nat} (h : k < t.length) : smT t (k + 1) = smT t k + (Bm t k).2.2.length := by unfold smT; rw [JI h]; simp
theorem JJ {t : List Tl} (h : ∀ s ∈ t, s.2.2.length ≤ 100) : ∀ k, smT t k ≤ 100 * k
 | 0 => by simp [smT]
 | k + 1 => by
  by_cases hk : k < t.length
  ·
   rw [Oo hk]
   have := JJ h k
   have := h _ (DT hk)
   omega
  ·
   have : smT t (k + 1) = smT t k := by unfold smT; rw [AM (by omega), AM (by omega)]
   have := JJ h k
   omega
theorem Lw (t : List Tl) (k : Nat) : (Gb (t.take k)).length = smT t k := by simp [Gb, smT, List.length_flatMap]
theorem EP (t : List Tl) : Bt (Gb t) = (B1 t).flatten := by
 induction t with
 | nil => rfl
 | cons x t ih =>
  have : Bt (Gb (x :: t)) = Bt x.2.2 ++ Bt (Gb t) := by simp [Gb, Bt]
  rw [this, ih]
  simp [B1]
def tmD (K : Int) (t b : List Nd) (c : List (List (List Nd))) : List (List Nd) := if K = 1 then [t, b] else if K = 2 then [t] else if K = 3 then c.flatten else []
def clD (K : Int) (t b : List Nd) (c : List (List (List Nd))) : Int := frE ((tmD K t b c).map clT)
theorem Q2 {K : Int} {t b : List Nd} {c : List Tl} (hl : c.length ≤ 100) (hb : ∀ s ∈ c, s.2.2.length ≤ 100) : (tmD K t b (B1 c)).length ≤ 10000 := by
 unfold tmD
 (repeat' split) <;> try (simp; done)
 rw [← EP, Bs]
 have h1 := Lw c c.length
 rw [CQ] at h1
 have h2 := JJ hb c.length
 omega
theorem SA {l : List (List Nd)} {k : Nat} (h : ∀ i, i < k → clT (Ce l i) = 0) (hk : clT (Ce l k) = 0) : ∀ i, i < k + 1 → clT (Ce l i) = 0 := fun i hi => by
 by_cases e : i = k
 · subst e; exact hk
 · exact h i (by omega)
theorem Im {l : List (List Nd)} {i : Nat} (h : i < l.length) : Ci (l.map clT) i = clT (Ce l i) := by simp [Ci, Ce, h]
theorem WO {l : List (List Nd)} {k : Nat} (h : ∀ i, i < k → clT (Ce l i) = 0) (hk : k < l.length) (he : ¬ clT (Ce l k) = 0) : frE (l.map clT) = clT (Ce l k) := by
 rw [frE_at (k := k) (fun i hi => by rw [Im (by omega)]; exact h i hi) (by simpa using hk) (by rw [Im hk]; exact he), Im hk]
theorem CE {l : List (List Nd)} (h : ∀ i, i < l.length → clT (Ce l i) = 0) : frE (l.map clT) = 0 :=
 WC (fun i hi => by
  have hi' : i < l.length := by simpa using hi
  rw [Im hi']
  exact h i hi')
theorem Lr {t : List Nd} (h : ¬ chk t = 0) : clT t = chk t := At h
theorem Lq {t : List Nd} (hc : chk t = 0) (h : 0 < frF t) : clT t = 30 := by unfold clT; rw [Aq (AR hc), At h]
theorem clT_ok {t : List Nd} (hc : chk t = 0) (h : ¬ 0 < frF t) : clT t = 0 := by unfold clT; rw [Aq (AR hc), Aq h]
def dkB (b1 b2 b4 b5 b6 b7 b8 : Bool) (e : Int) : Int := frE [mkI (!b1) 1, mkI (!b2) 20, e, mkI (!b4) 1, mkI (!b5) 1, mkI (!b6) 1, mkI (!b7) 1, mkI (!b8) 21]
def nmB (s : ByteArray) : Bool := CJ s && !kwB s
def dkE (K L : Int) (S : ByteArray) (t b : List Nd) (c : List Tl) : Int :=
 dkB (decide (1 ≤ K) && decide (K ≤ 3)) (nmB S) (decide (K = 3) && (decide (1 ≤ L) && decide (L ≤ 9)) || (!decide (K = 3)) && decide (L = 0)) (decide (K = 3) || decide (((c.length : Nat) : Int) = 0)) ((!decide (K = 3)) || decide (((t.length : Nat) : Int) = 0)) (decide (K = 1) || decide (((b.length : Nat) : Int) = 0))
  (!(decide (6 < ((c.length : Nat) : Int)) || c.any fun s => decide (6 < s.2.2.length))) (clD K t b (B1 c))
theorem Sv {a1 a2 a4 a5 a6 a7 a8 b1 b2 b4 b5 b6 b7 b8 : Bool} {e : Int} (h1 : a1 = b1) (h2 : a2 = b2) (h4 : a4 = b4) (h5 : a5 = b5) (h6 : a6 = b6) (h7 : a7 = b7) (h8 : a8 = b8) : dkB a1 a2 a4 a5 a6 a7 a8 e = dkB b1 b2 b4 b5 b6 b7 b8 e := by rw [h1, h2, h4, h5, h6, h7, h8]
theorem dk_ok {K L : Int} {S : ByteArray} {t b : List Nd} {c : List Tl} (h : dkE K L S t b c = 0) (hK : K = 3) : c.length ≤ 6 ∧ (∀ s ∈ c, s.2.2.length ≤ 6) ∧ ∀ x ∈ (B1 c).flatten, clT x = 0 := by
 unfold dkE dkB at h
 have hz : ∀ l : List Int, frE l = 0 → ∀ e ∈ l, e = 0 := fun l => by
  induction l with
  | nil => intro _ e he; cases he
  | cons x l ih =>
   intro h e he
   rw [frE] at h
   split at h
   ·
    rename_i hx
    rcases AD.1 he with rfl | he
    · exact hx
    · exact ih h e he
   · rename_i hx; exact absurd h hx
 have h8 := hz _ h (mkI (!(!(decide (6 < ((c.length : Nat) : Int)) || c.any fun s => decide (6 < s.2.2.length)))) 21) (by simp)
 have hcl := hz _ h (clD K t b (B1 c)) (by simp)
 unfold mkI at h8
 simp only [Bool.not_not] at h8
 have h8' : (decide (6 < ((c.length : Nat) : Int)) || c.any fun s => decide (6 < s.2.2.length)) = false := by
  cases q : (decide (6 < ((c.length : Nat) : Int)) || c.any fun s => decide (6 < s.2.2.length)) with
  | false => rfl
  | true => rw [q] at h8; simp at h8
 rw [Bool.or_eq_false_iff] at h8'
 refine ⟨by have := Ak h8'.1; omega, fun s hs => ?_, fun x hx => ?_⟩
 ·
  have := List.any_eq_false.1 h8'.2 s hs
  simp at this
  omega
 ·
  unfold clD tmD at hcl
  rw [Aq (by omega), Aq (by omega), At hK] at hcl
  exact hz _ hcl _ (Ch.2 ⟨x, hx, rfl⟩)
end
section
/- All arguments of all constructors, one by one. -/
open Go Go.RowKit
abbrev Ag := (Int × Int) × Sl
def agX (c : List Tl) (i j : Nat) : Ag := (((i : Int), (j : Int)), BF (Bm c i).2.2 j)
def agQ (p : List Ag) (c : List Tl) (i : Nat) : Nat → List Ag
 | 0 => p
 | j + 1 => agQ p c i j ++ [agX c i j]
def agP (c : List Tl) : Nat → List Ag
 | 0 => []
 | i + 1 => agQ (agP c i) c i (Bm c i).2.2.length
def agL (c : List Tl) : List Ag := agP c c.length
theorem SS (p : List Ag) (c : List Tl) (i : Nat) {j k : Nat} (h : j ≤ k) : agQ p c i j <+: agQ p c i k := by
 induction k with
 | zero => rw [show j = 0 by omega]; exact List.prefix_refl _
 | succ k ih =>
  by_cases e : j = k + 1
  · rw [e]; exact List.prefix_refl _
  · exact List.IsPrefix.trans (ih (by omega)) (List.prefix_append _ _)
theorem Xk (c : List Tl) {i k : Nat} (h : i ≤ k) : agP c i <+: agP c k := by
 induction k with
 | zero => rw [show i = 0 by omega]; exact List.prefix_refl _
 | succ k ih =>
  by_cases e : i = k + 1
  · rw [e]; exact List.prefix_refl _
  · exact List.IsPrefix.trans (ih (by omega)) (SS (agP c k) c k (Nat.zero_le _))
theorem Ky {c : List Tl} {i j : Nat} (hi : i < c.length) (hj : j < (Bm c i).2.2.length) : agQ (agP c i) c i j ++ [agX c i j] <+: agL c :=
 List.IsPrefix.trans (SS (agP c i) c i (k := (Bm c i).2.2.length) (j := j + 1) (by omega)) (Xk c (i := i + 1) (by omega))
theorem ST {p : List Ag} {c : List Tl} {i : Nat} {x : Ag} : ∀ j, x ∈ agQ p c i j → x ∈ p ∨ ∃ k, k < j ∧ x = agX c i k
 | 0, h => .inl h
 | j + 1, h => by
  rcases B5.1 h with h | h
  ·
   rcases ST j h with h | ⟨k, hk, e⟩
   · exact .inl h
   · exact .inr ⟨k, by omega, e⟩
  · exact .inr ⟨j, by omega, by simpa using h⟩
theorem SU {c : List Tl} {x : Ag} : ∀ i, i ≤ c.length → x ∈ agP c i → ∃ a b, a < c.length ∧ b < (Bm c a).2.2.length ∧ x = agX c a b
 | 0, _, h => by cases h
 | i + 1, hi, h => by
  rcases ST _ h with h | ⟨k, hk, e⟩
  · exact SU i (by omega) h
  · exact ⟨i, k, by omega, hk, e⟩
theorem ag_at {c : List Tl} {pre : List Ag} {x : Ag} (h : pre ++ [x] <+: agL c) : ∃ a b, a < c.length ∧ b < (Bm c a).2.2.length ∧ x = agX c a b :=
 SU c.length (Af _) (h.subset (by simp))
theorem Ja {α : Type} {f : α → Int} {pre l : List α} {x : α} (h : pre ++ [x] <+: l) (hz : ∀ y ∈ pre, f y = 0) (hx : ¬ f x = 0) : frE (l.map f) = f x := by
 obtain ⟨r, rfl⟩ := h
 induction pre with
 | nil => simp [frE, hx]
 | cons y pre ih =>
  have hy : f y = 0 := hz y (by simp)
  simp only [List.cons_append, BJ, frE, hy, if_true]
  exact ih (fun z hz' => hz z (by simp [hz']))
theorem Fb {α : Type} {f : α → Int} {l : List α} (hz : ∀ y ∈ l, f y = 0) : frE (l.map f) = 0 := by
 induction l with
 | nil => rfl
 | cons y l ih => rw [BJ, frE, At (hz y (by simp))]; exact ih (fun z h => hz z (by simp [h]))
theorem ag_in {c : List Tl} {a b : Nat} (ha : a < c.length) (hb : b < (Bm c a).2.2.length) : (agX c a b).2.2.2 ∈ (B1 c).flatten := by
 rw [← EP]
 refine Ch.2 ⟨BF (Bm c a).2.2 b, List.mem_flatMap.2 ⟨Bm c a, DT ha, ?_⟩, rfl⟩
 simp [BF, hb]
theorem On {α : Type} {P : α → Prop} {l : List α} {x : α} (h : ∀ y ∈ l, P y) (hx : P x) : ∀ y ∈ l ++ [x], P y := fun y hy => by
 rcases B5.1 hy with h1 | h1
 · exact h y h1
 · rw [AB.1 h1]; exact hx
def scE (K L : Int) (S : ByteArray) (t b : List Nd) (c : List Tl) : Int :=
 if ¬ dkE K L S t b c = 0 then dkE K L S t b c else if ¬ K = 3 then 1 else frE ((agL c).map fun y => poP S y.2.2.2)
theorem Tt {K L : Int} {S : ByteArray} {t b : List Nd} {c : List Tl} (h : scE K L S t b c = 0) : K = 3 ∧ c.length ≤ 6 ∧ (∀ s ∈ c, s.2.2.length ≤ 6) ∧ ∀ x ∈ (B1 c).flatten, clT x = 0 := by
 unfold scE at h
 split at h
 · rename_i h1; exact absurd h h1
 ·
  split at h
  · cases h
  ·
   rename_i h1 h2
   have hK : K = 3 := by omega
   exact ⟨hK, dk_ok (S := S) (t := t) (b := b) (L := L) (Decidable.not_not.1 h1) hK⟩
end
section
/- Appends of slices that are nil, onto nil; boxes with a row. -/
open Go Go.RowKit
theorem K1 (k : Nat) : (Builtin.zeroCells (Value.slice none 0 0).cells k).toList = List.replicate k (.slice none 0 0) := by
 apply List.ext_getElem
 · simp [Builtin.zeroCells, Value.cells]
 ·
  intro i h1 h2
  simp [Builtin.zeroCells, Value.cells, Nat.mod_one]
section
variable {P : Program} {X : Prop} {Next : Act → World → Prop} {o : Oper} {a : Act} {w w0 : World} {N : Nat} {l : List (Nat × Value)} {d : Nat} {Z M : Nat → Prop} {m : List Res} {ds : List Dat}
theorem PH {t tn e : TypeId} {kn kq : IntKind} {x y : Operand} {p : Int} (q : Nat) (hs : SteV P X Next o a w) (hR : Reg a N l) (hS : St w0 Z M w m ds) (hd : o.dst = some d)
  (ho : o.op = .call { callee := .builtin .append, args := #[x, y], argTypes := #[t, tn] }) (hx : ev l x = some (.slice none 0 0)) (hy : ev l y = some (.int kq p))
  (hp : p = (q : Int)) (hq : 0 < q) (hb : q ≤ 1000000)
  (ht : P.underlying t = some (.slice e)) (htn : P.underlying tn = some (.int kn)) (hinf : (P.info? e).map (fun i => (i.zero, i.size, i.bytes)) = some (some (.slice none 0 0), 1, 24)) (hdN : d < N)
  (k : ∀ a' w' A' cap', Reg a' N ((d, .slice A' (List.replicate q slz).length cap') :: l) → St w0 Z M w' (m ++ [.row A' (List.replicate q slz).length cap' e 1 (B7 (List.replicate q slz))]) ds → Next a' w') : X := by
 subst hp
 cases hqq : P.info? e with
 | none => simp [hqq] at hinf
 | some inf =>
  simp only [hqq, Cm, Cs, DH] at hinf
  obtain ⟨hz, hs2, hb2⟩ := hinf
  have hold : (Builtin.firstCells inf.size 0 (.slice none 0 0)).run P w.drew = .ok (([] : List Value)).toArray w.drew := by
   simp [Builtin.firstCells]
   try rfl
  have hr := Lib.run_append_grow_zeros (P := P) w t tn o.type e inf _ kq kn ht htn hqq hz none 0 0 [] hold q hq (by omega) (by omega) (by omega) (by rw [hb2]; omega) (by rw [hb2]; exact growslice_fits (by omega) (by omega))
  have hge := grownCap_ge w (0 + q) 0 e
  have hcm' : grownCap w (0 + q) 0 e ≤ maxLen := grownCap_le_maxLen w (0 + q) 0 e (by unfold maxLen; omega)
  have hrl : (List.replicate q slz).length = q := BP
  have hxs : B7 (List.replicate q slz) = List.replicate q (.slice none 0 0) := JE q
  rw [Nat.zero_add] at hr hge hcm'
  have hh : (w.drew.alloc (.cells ((([] : List Value)).toArray ++ Builtin.zeroCells (Value.slice none 0 0).cells q ++ Builtin.zeroCells (Value.slice none 0 0).cells (grownCap w q 0 e - q)) e)).heap[w.heap.size]? = some (.cells ((([] : List Value)).toArray ++ Builtin.zeroCells (Value.slice none 0 0).cells q ++ Builtin.zeroCells (Value.slice none 0 0).cells (grownCap w q 0 e - q)) e (0, 0)) := heap_alloc_new w.drew _
  have hrow : (Res.row (some ⟨w.heap.size, 0, none⟩) (List.replicate q slz).length (grownCap w q 0 e) e 1 (B7 (List.replicate q slz))).holds (w.drew.alloc (.cells ((([] : List Value)).toArray ++ Builtin.zeroCells (Value.slice none 0 0).cells q ++ Builtin.zeroCells (Value.slice none 0 0).cells (grownCap w q 0 e - q)) e)) := by
   rw [hrl, hxs]
   refine ⟨by simp, .inr ⟨w.heap.size, _, _, rfl, Nat.zero_le _, hh, hge, hcm', ?_, ?_⟩⟩
   ·
    simp [Builtin.zeroCells, Value.cells]
    omega
   ·
    simp only [Array.toList_append, K1, List.nil_append, Nat.mul_one]
    rw [List.take_left' (by simp)]
  have hx' : (execOp a.eval o).run P w = .ok (.value (.slice (some ⟨w.heap.size, 0, none⟩) q (grownCap w q 0 e))) (w.drew.alloc (.cells ((([] : List Value)).toArray ++ Builtin.zeroCells (Value.slice none 0 0).cells q ++ Builtin.zeroCells (Value.slice none 0 0).cells (grownCap w q 0 e - q)) e)) := by
   unfold execOp; rw [ho]
   simp only [resolve, invoke, builtin, AF, Bg, Az, List.map_toArray, BJ, C6, hR.ev hx, hR.ev hy, hr]
  refine hs.val _ _ hx' ?_
  ·
   rw [hd]
   refine k _ _ (some ⟨w.heap.size, 0, none⟩) (grownCap w q 0 e) (by rw [hrl]; exact hR.put hdN _) ?_
   exact hS.drew.alloc _ _ hrow rfl
end
section
variable {P : Program} {X : Prop} {Next : Act → World → Prop} {o : Oper} {a : Act} {w : World} {N : Nat} {l : List (Nat × Value)} {d : Nat} {t t2 : TypeId} {x y : Operand}
theorem QZ {ps rs : Array TypeId} {vr : Bool} (hs : SteV P X Next o a w) (hR : Reg a N l) (hd : o.dst = some d) (ho : o.op = .binOp .eql t x y t2) (hx : ev l x = some .nilFunc) (hy : ev l y = some .nilFunc)
  (ht : P.underlying t = some (.func ps rs vr)) (hdN : d < N) (k : ∀ a', Reg a' N ((d, .bool true) :: l) → Next a' w) : X := by
 refine hs.val (.bool true) w ?_ (by rw [hd]; exact k _ (hR.put hdN _))
 have he : (Op.equal t .nilFunc .nilFunc).run P w = .ok true w := by
  unfold Op.equal Op.maxDepth Op.equalIn
  simp [AF, run_underlying ht, Az]
 unfold execOp; rw [ho]
 have h1 : (eqGuard .eql t x y .nilFunc .nilFunc).run P w = .ok () w := rfl
 have h2 : binOp .eql t .nilFunc .nilFunc = (do pure (.bool (← Op.equal t .nilFunc .nilFunc))) := rfl
 simp only [hR.ev hx, hR.ev hy, AF, h1, Az, h2, he, Bg]
theorem Oy {f : FuncId} {fs qs : Array Value} {ps rs : Array TypeId} {vr : Bool} (hs : SteV P X Next o a w) (hR : Reg a N l) (hd : o.dst = some d) (ho : o.op = .binOp .eql t x y t2) (hx : ev l x = some (.func (.func f) fs qs)) (hy : ev l y = some .nilFunc)
  (ht : P.underlying t = some (.func ps rs vr)) (hdN : d < N) (k : ∀ a', Reg a' N ((d, .bool false) :: l) → Next a' w) : X := by
 refine hs.val (.bool false) w ?_ (by rw [hd]; exact k _ (hR.put hdN _))
 have he : (Op.equal t (.func (.func f) fs qs) .nilFunc).run P w = .ok false w := by
  unfold Op.equal Op.maxDepth Op.equalIn
  simp [AF, run_underlying ht, Az]
 unfold execOp; rw [ho]
 have h1 : (eqGuard .eql t x y (.func (.func f) fs qs) .nilFunc).run P w = .ok () w := rfl
 have h2 : binOp .eql t (.func (.func f) fs qs) .nilFunc = (do pure (.bool (← Op.equal t (.func (.func f) fs qs) .nilFunc))) := rfl
 simp only [hR.ev hx, hR.ev hy, AF, h1, Az, h2, he, Bg]
end
section
variable {w0 w w' : World} {Z M : Nat → Prop} {m : List Res} {ds ds' : List Dat} {i j g n cap e size : Nat} {t : TypeId} {cs cs' xs : List Value} {A : Option Addr}
theorem not_M (h : St w0 Z M w m ds) {r : Res} (hi : m[i]? = some r) (hM : ∀ k, M k → ∃ j r, j ≠ i ∧ m[j]? = some r ∧ r.blk = some k) {k : Nat} (hk : r.blk = some k) : ¬ M k := fun hm => by
 obtain ⟨j, s, hj, hs, e⟩ := hM k hm
 exact CO h.apart (Ne.symm hj) hi hs hk e
theorem Mx (h : St w0 Z M w m ds) {r : Res} (hi : m[i]? = some r) (hM : ∀ k, M k → ∃ j r, j ≠ i ∧ m[j]? = some r ∧ r.blk = some k) {k : Nat} (hk : r.blk = some k) : imm Z w0 (m.eraseIdx i) w k := by
 refine ⟨(h.own _ (Ax hi) k hk).1, fun hlt => ?_, fun s hmem e => ?_⟩
 ·
  rcases (h.own _ (Ax hi) k hk).2 with h1 | h1
  · omega
  · exact absurd h1 (not_M h hi hM hk)
 obtain ⟨j', hj'⟩ := List.mem_iff_getElem?.1 hmem
 rw [List.getElem?_eraseIdx] at hj'
 by_cases hji : j' < i
 ·
  rw [At hji] at hj'
  exact CO h.apart (by omega : j' ≠ i) hj' hi e hk
 ·
  rw [Aq hji] at hj'
  exact CO h.apart (by omega : j' + 1 ≠ i) hj' hi e hk
theorem St.row_dataG (h : St w0 Z M w m ds) (hi : m[i]? = some (.row A n cap e size xs)) (hM : ∀ k, M k → ∃ j r, j ≠ i ∧ m[j]? = some r ∧ r.blk = some k) : St w0 Z M w (m.eraseIdx i) ds ∧ RowI w (imm Z w0 (m.eraseIdx i) w) size A n xs := by
 have hr : w.ownsRow 0 e size (.slice A n cap) n xs := h.res hi
 refine ⟨h.drop _ (List.eraseIdx_sublist m i), hr.1, fun hn => ?_⟩
 obtain ⟨b, rfl⟩ := EY hr hn
 exact ⟨_, rfl, Mx h hi hM rfl, fun j u hu => hr.cells (g := b) rfl j u hu⟩
theorem St.box_dataG (h : St w0 Z M w m ds) (hi : m[i]? = some (.box g t cs)) (hM : ∀ k, M k → ∃ j r, j ≠ i ∧ m[j]? = some r ∧ r.blk = some k) : St w0 Z M w (m.eraseIdx i) ds ∧ (Ct g cs).φ w (imm Z w0 (m.eraseIdx i) w) := by
 have hr : (Res.box g t cs).holds w := h.res hi
 exact ⟨h.drop _ (List.eraseIdx_sublist m i), Mx h hi hM rfl, F1 hr⟩
theorem Gv (h0 : m[0]? = some (.box g t cs)) (h1 : m[1]? = some (.row A n cap e size xs)) (hi0 : 0 ≠ i) (hi1 : 1 ≠ i) : ∀ k, (k = g ∨ rM A k) → ∃ j r, j ≠ i ∧ m[j]? = some r ∧ r.blk = some k := fun k hk => by
 rcases hk with rfl | hk
 · exact ⟨0, _, hi0, h0, rfl⟩
 · exact ⟨1, _, hi1, h1, hk⟩
theorem D3 (w0 : World) (Z : Nat → Prop) (ds : List Dat) (hb : (Res.box g t cs).holds w0) (hr : (Res.row A n cap e size xs).holds w0) (hn : ∀ k, rM A k → k ≠ g) (h : ∀ d ∈ ds, d.φ w0 (imm Z w0 [.box g t cs, .row A n cap e size xs] w0)) :
  St w0 Z (fun k => k = g ∨ rM A k) w0 [.box g t cs, .row A n cap e size xs] ds := by
 refine ⟨rfl, rfl, rfl, Af _, fun _ _ _ => rfl, fun r hm => ?_, fun r hm k e' => ?_, ?_, h⟩
 ·
  simp only [AD, AG, or_false] at hm
  rcases hm with rfl | rfl
  · exact hb
  · exact hr
 ·
  simp only [AD, AG, or_false] at hm
  rcases hm with rfl | rfl
  ·
   have : g = k := by simpa [Res.blk] using e'
   subst this
   exact ⟨(AV.1 hb).1, .inr (.inl rfl)⟩
  · exact ⟨QO hr e', .inr (.inr e')⟩
 ·
  refine .cons (fun s hs k e1 e2 => ?_) (.cons (fun _ h => by cases h) .nil)
  rw [AB] at hs
  subst hs
  have : g = k := by simpa [Res.blk] using e1
  exact hn k e2 this.symm
theorem Dm (hZ : ∀ k, Z k → k < w0.heap.size) (hg : ¬ Z g) (hA : ∀ k, rM A k → ¬ Z k) {k : Nat} (hk : Z k) : imm Z w0 [.box g t cs, .row A n cap e size xs] w0 k ∧ w0.heap[k]? = w0.heap[k]? :=
 ⟨⟨hZ k hk, fun _ => hk, fun r hr e' => by
  simp only [AD, AG, or_false] at hr
  rcases hr with rfl | rfl
  ·
   have : g = k := by simpa [Res.blk] using e'
   subst this
   exact hg hk
  · exact hA k e' hk⟩, rfl⟩
theorem St.rowne (h : St w0 Z M w m ds) (hi : m[i]? = some (.box g t cs)) (hj : m[j]? = some (.row A n cap e size xs)) (hij : i ≠ j) : ∀ k, rM A k → k ≠ g := fun k hk e' => by
 subst e'
 exact CO h.apart hij hi hj rfl hk
theorem MJ {b : Res} (h : m.Pairwise fun r s => ∀ k, r.blk = some k → s.blk ≠ some k) (hi : m[i]? = some (.box g t cs)) (hb : b.blk = some g) : (m.set i b).Pairwise fun r s => ∀ k, r.blk = some k → s.blk ≠ some k := by
 have e1 : (m.set i b).map Res.blk = m.map Res.blk := by
  rw [List.map_set, hb]
  apply List.ext_getElem?
  intro k
  rw [List.getElem?_set]
  split
  ·
   rename_i hk
   subst hk
   have : i < (m.map Res.blk).length := by rw [BT]; exact (List.getElem?_eq_some_iff.1 hi).1
   rw [At this, El, hi]
   rfl
  · rfl
 have e2 : ∀ l : List Res, (l.Pairwise fun r s => ∀ k, r.blk = some k → s.blk ≠ some k) ↔ ((l.map Res.blk).Pairwise fun a b => ∀ k, a = some k → b ≠ some k) := fun l => by rw [List.pairwise_map]
 rw [e2, e1, ← e2]
 exact h
theorem Ka {b s : Res} (h : s ∈ m.set i b) : s = b ∨ ∃ k, k ≠ i ∧ m[k]? = some s := by
 obtain ⟨k, hk⟩ := List.mem_iff_getElem?.1 h
 rw [List.getElem?_set] at hk
 split at hk
 ·
  split at hk
  · exact .inl (B4 hk).symm
  · cases hk
 ·
  rename_i hne
  exact .inr ⟨k, Ne.symm hne, hk⟩
theorem Ph (hf : Fr (fun k => k = g ∨ rM A k) w w') (hi : m[i]? = some (.box g t cs)) (hj : m[j]? = some (.row A n cap e size xs)) {k : Nat} (hk : k < w.heap.size) (h2 : ∀ r ∈ m, r.blk ≠ some k) : w'.heap[k]? = w.heap[k]? :=
 hf.old k hk (fun hm => by
  rcases hm with rfl | hm
  · exact h2 _ (Ax hi) rfl
  · exact h2 _ (Ax hj) hm)
theorem MD (h : St w0 Z M w m ds) (hf : Fr (fun k => k = g ∨ rM A k) w w') (hi : m[i]? = some (.box g t cs)) (hj : m[j]? = some (.row A n cap e size xs)) {k : Nat} {s : Res} (hki : k ≠ i) (hkj : k ≠ j) (hk : m[k]? = some s) : s.holds w' :=
 DF (h.res hk) (fun b hb => hf.old b (h.own s (Ax hk) b hb).1 (fun hm => by
  rcases hm with rfl | hm
  · exact CO h.apart hki hk hi hb rfl
  · exact CO h.apart hkj hk hj hb hm))
theorem St.callMK (h : St w0 Z M w m ds) (hi : m[i]? = some (.box g t cs)) (hj : m[j]? = some (.row A n cap e size xs)) (hij : i ≠ j) (hf : Fr (fun k => k = g ∨ rM A k) w w') (hb : (Res.box g t cs').holds w') (hr : (Res.row A n cap e size xs).holds w') : St w0 Z M w' (m.set i (.box g t cs')) ds := by
 refine h.step hf.os hf.tape hf.output hf.size (fun k hk h2 => Ph hf hi hj hk h2) (fun s hs => ?_) (fun s hs k e' => ?_) (MJ h.apart hi rfl)
 ·
  rcases Ka hs with rfl | ⟨k, hk, hs'⟩
  · exact hb
  ·
   by_cases hkj : k = j
   ·
    subst hkj
    rw [hj] at hs'
    obtain rfl := B4 hs'
    exact hr
   · exact MD h hf hi hj hk hkj hs'
 ·
  rcases Ka hs with rfl | ⟨k', hk', hs'⟩
  ·
   have : g = k := by simpa [Res.blk] using e'
   subst this
   exact ⟨(AV.1 hb).1, .inl ⟨_, Ax hi, rfl⟩⟩
  · exact ⟨BS (h.own s (Ax hs') k e').1 hf.size, .inl ⟨s, Ax hs', e'⟩⟩
theorem St.callMD (h : St w0 Z M w m ds) (hi : m[i]? = some (.box g t cs)) (hj : m[j]? = some (.row A n cap e size xs)) (hij : i ≠ j) (hf : Fr (fun k => k = g ∨ rM A k) w w') (hb : (Res.box g t cs').holds w') : St w0 Z M w' ((m.set i (.box g t cs')).eraseIdx j) ds := by
 have hmem : ∀ s ∈ (m.set i (.box g t cs')).eraseIdx j, s = .box g t cs' ∨ ∃ k, k ≠ i ∧ k ≠ j ∧ m[k]? = some s := fun s hs => by
  obtain ⟨k, hk⟩ := List.mem_iff_getElem?.1 hs
  rw [List.getElem?_eraseIdx] at hk
  have key : ∀ k', k' ≠ j → (m.set i (.box g t cs'))[k']? = some s → s = .box g t cs' ∨ ∃ k, k ≠ i ∧ k ≠ j ∧ m[k]? = some s := fun k' hkj hk => by
   rw [List.getElem?_set] at hk
   split at hk
   ·
    split at hk
    · exact .inl (B4 hk).symm
    · cases hk
   ·
    rename_i hne
    exact .inr ⟨k', Ne.symm hne, hkj, hk⟩
  split at hk
  · exact key k (by omega) hk
  · exact key (k + 1) (by omega) hk
 refine h.step hf.os hf.tape hf.output hf.size (fun k hk h2 => Ph hf hi hj hk h2) (fun s hs => ?_) (fun s hs k e' => ?_) ((MJ h.apart hi rfl).sublist (List.eraseIdx_sublist _ _))
 ·
  rcases hmem s hs with rfl | ⟨k, hk, hkj, hs'⟩
  · exact hb
  · exact MD h hf hi hj hk hkj hs'
 ·
  rcases hmem s hs with rfl | ⟨k', hk', _, hs'⟩
  ·
   have : g = k := by simpa [Res.blk] using e'
   subst this
   exact ⟨(AV.1 hb).1, .inl ⟨_, Ax hi, rfl⟩⟩
  · exact ⟨BS (h.own s (Ax hs') k e').1 hf.size, .inl ⟨s, Ax hs', e'⟩⟩
theorem St.dMD {d : Dat} (h0 : St w0 Z M w m ds) (i j : Nat) (h : St w0 Z M w' ((m.set i (.box g t cs')).eraseIdx j) ds') (hd : d.φ w' (nxt (imm Z w0 m w) w w')) (hi : m[i]? = some (.box g t cs) := by exact rfl) : St w0 Z M w' ((m.set i (.box g t cs')).eraseIdx j) (ds' ++ [d]) :=
 h.data d (d.mono _ _ _ _ (Af _) hd fun _ hk => by
  have q := RW (cs' := cs') hi (N2 h0 hk)
  exact ⟨⟨q.1, q.2.1, fun r hr => q.2.2 r (List.mem_of_mem_eraseIdx hr)⟩, rfl⟩)
theorem St.base (h : St w0 Z M w [.box g t cs] ds) : St w (imm Z w0 [.box g t cs] w) (· = g) w [.box g t cs] ds :=
 ⟨rfl, rfl, rfl, Af _, fun _ _ _ => rfl, h.hold, fun r hr k e' => ⟨(h.own r hr k e').1, .inr (by
  rw [AB.1 hr] at e'
  exact (by simpa [Res.blk] using e' : g = k).symm)⟩, h.apart, fun d hd => d.mono _ _ _ _ (Af _) (h.dat d hd) fun k hk => ⟨⟨hk.1, fun _ => hk, hk.2.2⟩, rfl⟩⟩
theorem St.unbase {m2 : List Res} (h : St w0 Z M w [.box g t cs] ds) (hg : M g) (h2 : St w (imm Z w0 [.box g t cs] w) (· = g) w' m2 ds') : St w0 Z M w' m2 ds' :=
 ⟨h2.os.trans h.os, h2.tape.trans h.tape, h2.output.trans h.output, Bo h.size h2.size, fun k hk hm => by
  have hkg : k ≠ g := fun e' => hm (e' ▸ hg)
  rw [h2.old k (BS hk h.size) hkg, h.old k hk hm], h2.hold, fun r hr k e' => ⟨(h2.own r hr k e').1, by
   rcases (h2.own r hr k e').2 with h1 | h1
   · exact .inl (Bo h.size h1)
   · exact .inr (by rw [h1]; exact hg)⟩, h2.apart, fun d hd => d.mono _ _ _ _ (Af _) (h2.dat d hd) fun k hk => ⟨⟨hk.1, fun hlt => (hk.2.1 (BS hlt h.size)).2.1 hlt, hk.2.2⟩, rfl⟩⟩
end
section
variable {P : Program} {a : Act} {w w0 : World} {N : Nat} {l : List (Nat × Value)} {Z M : Nat → Prop} {m : List Res} {ds : List Dat}
theorem Cr {fn : Func} {R : Ending → World → Prop} {t i g u : Nat} {v' : Value} {e ty : TypeId} {vs : List Value} {dsc : TypeDesc} (hR : Reg a N l) (hS : St w0 Z M w m ds) (h0 : l.lookup 1000000 = some (.bool false)) (hr : fn.results = #[.cell t ty, .tmp u]) (hv : ev l (.tmp t) = some (.pointer (some ⟨g, 0, none⟩)))
  (hv' : ev l (.tmp u) = some v') (hi : m[i]? = some (.box g e vs)) (ht : P.underlying ty = some dsc) (hag : EB dsc = true) (hsz : (P.info? ty).map (·.size) = some vs.length) (h : R (.returned (.tuple #[.agg vs.toArray, v'])) w) : bodyPost P fn R .ret a w := by
 have hc : CellsAt w ⟨g, 0, none⟩ vs := F1 (hS.res hi)
 have hl := FU (P := P) ht hag hsz hc
 have hgt : a.tmps.getD t undef = .pointer (some ⟨g, 0, none⟩) := hR.ev hv
 have hgu : a.tmps.getD u undef = v' := hR.ev hv'
 exact ⟨hR.dfr h0, .tuple #[.agg vs.toArray, v'], by
  simp only [results, hr]
  have hgt' : a.tmps[t]?.getD undef = .pointer (some ⟨g, 0, none⟩) := by rw [← Array.getD_eq_getD_getElem?]; exact hgt
  have hgu' : a.tmps[u]?.getD undef = v' := by rw [← Array.getD_eq_getD_getElem?]; exact hgu
  simp [AF, hgt', hgu', asAddr, hl], h⟩
end
end
section
/- The types of cases, and what is asked of relations: what the builder makes. -/
open Go Go.RowKit
def orI (x y : Int) : Int := ((x.toNat ||| y.toNat : Nat) : Int)
theorem QK {P : Program} {w : World} {t : TypeId} {x y : Int} (h0 : 0 ≤ x) (hx : x < 1000) (h1 : 0 ≤ y) (hy : y < 1000) : (Go.binOp .or t (.int .i64 x) (.int .i64 y)).run P w = .ok (.int .i64 (orI x y)) w := by
 have h := Tu (P := P) (w := w) (t := t) (a := x.toNat) (b := y.toNat) (by omega) (by omega)
 rw [Int.toNat_of_nonneg h0, Int.toNat_of_nonneg h1] at h
 exact h
abbrev piN (m : Int) : Nd := ⟨3, m, 0, ⟨#[]⟩⟩
abbrev tkN : Nd := ⟨29, 0, 0, ⟨#[]⟩⟩
def atL (e a p : Int) : List Nd := noL e ⟨0, a - p, 0, ⟨#[]⟩⟩ []
def piP (p : List Nd × Int) (m : Int) (dom : List Nd) : List Nd × Int := (noL p.2 (piN m) [dom, p.1], p.2)
theorem SN {e a p : Int} : (atL e a p).length ≤ 1 := H3
theorem Ob {e a p : Int} : sml (atL e a p) := FW (show (⟨#[]⟩ : ByteArray).size < 1000000 by decide) (by intro x hx; cases hx)
theorem Nw {p : List Nd × Int} {m : Int} {dom : List Nd} : (piP p m dom).1.length ≤ p.1.length + dom.length + 1 := by
 have := H3 (e := p.2) (n := piN m) (p := [dom, p.1])
 simp at this
 show (noL p.2 (piN m) [dom, p.1]).length ≤ _
 omega
theorem Nv {p : List Nd × Int} {m : Int} {dom : List Nd} (h : sml p.1) (hd : sml dom) : sml (piP p m dom).1 := FW (show (⟨#[]⟩ : ByteArray).size < 1000000 by decide) (by
 intro t ht
 simp only [AD, AG, or_false] at ht
 rcases ht with rfl | rfl
 · exact hd
 · exact h)
def Gf (e a : Int) (st : List Bool) (pl : List Int) (i : Nat) : List Nd := if H1 st i = true then noL e tkN [] else atL e a (Ci pl i)
def K6 (e a : Int) (mo x : List Nd) : List Nd := inL (upE e mo a 1) (upL e mo a 1) [x]
def HD (e a : Int) (mo x : List Nd) : Int := inQ (upE e mo a 1) (upL e mo a 1) [x]
def hfX (e a : Int) (st : List Bool) (pl : List Int) (i : Nat) (n p : Int) : List Nd := noL e ⟨5, 0, 0, ⟨#[]⟩⟩ [Gf e a st pl i, plL e n (atL e a p)]
def hfM (n : Int) (pr : Bool) : Int := orI (GF n 2) (mkI pr 1)
def hy2 (e a : Int) (st : List Bool) (pr : Bool) (mo t : List Nd) (n : Int) (pl : List Int) (i : Nat) : List Nd × Int :=
 piP (K6 e (a + 1) mo (hfX e (a + 1) st pl i n (a + 1)), HD e (a + 1) mo (hfX e (a + 1) st pl i n (a + 1))) (hfM n pr) (Ce (agA t) 0)
def hyA (e a : Int) (S : ByteArray) (st : List Bool) (pr : Bool) (mo : List Nd) (ty : List (List Nd)) (pl : List Int) (i : Nat) : List Nd × Int :=
 if kdA S (Ce ty i) = 1 then (K6 e a mo (Gf e a st pl i), HD e a mo (Gf e a st pl i)) else hy2 e a st pr mo (Ce ty i) (nth (Ce ty i) ((Ce ty i).length - 1)).N pl i
def hyF (S : ByteArray) (k : Int) (st : List Bool) (pr : Bool) (mo : List Nd) (ty : List (List Nd)) (pl : List Int) (n : Nat) : Nat → Int → Int → List Nd × Int
 | 0, e, a => (K6 e a mo (noL e ⟨26, k, ((n : Nat) : Int), S⟩ ((List.range n).map (Gf e a st pl))), HD e a mo (noL e ⟨26, k, ((n : Nat) : Int), S⟩ ((List.range n).map (Gf e a st pl))))
 | m + 1, e, a => if kdA S (Ce ty (n - (m + 1))) = 0 then hyF S k st pr mo ty pl n m e a else
  piP (hyF S k st pr mo ty pl n m (hyA e a S st pr mo ty pl (n - (m + 1))).2 (a + 1)) (mkI pr 3) (hyA e a S st pr mo ty pl (n - (m + 1))).1
def agF (S : ByteArray) (k : Int) (st : List Bool) (pr : Bool) (mo : List Nd) (ty : List (List Nd)) (n : Nat) : Nat → Int → Int → List Int → List Nd × Int
 | 0, e, a, pl => hyF S k st pr mo ty pl n n e a
 | m + 1, e, a, pl => piP (agF S k st pr mo ty n m e (a + 1) (pl ++ [a + 1])) (orI (mkI (H1 st (n - (m + 1))) 2) (mkI pr 1)) (Ce ty (n - (m + 1)))
section
variable {S : ByteArray} {k e a : Int} {st : List Bool} {pr : Bool} {mo x t : List Nd} {ty : List (List Nd)} {pl : List Int} {n i m : Nat}
theorem WA (h : n ≤ i) : hyF S k st pr mo ty pl n (n - i) e a = (K6 e a mo (noL e ⟨26, k, ((n : Nat) : Int), S⟩ ((List.range n).map (Gf e a st pl))), HD e a mo (noL e ⟨26, k, ((n : Nat) : Int), S⟩ ((List.range n).map (Gf e a st pl)))) := by
 rw [show n - i = 0 by omega]; rfl
theorem TY (hi : i < n) (h : kdA S (Ce ty i) = 0) : hyF S k st pr mo ty pl n (n - i) e a = hyF S k st pr mo ty pl n (n - (i + 1)) e a := by
 rw [show n - i = (n - (i + 1)) + 1 by omega, hyF, show n - (n - (i + 1) + 1) = i by omega, At h]
theorem OP (hi : i < n) (h : ¬ kdA S (Ce ty i) = 0) : hyF S k st pr mo ty pl n (n - i) e a = piP (hyF S k st pr mo ty pl n (n - (i + 1)) (hyA e a S st pr mo ty pl i).2 (a + 1)) (mkI pr 3) (hyA e a S st pr mo ty pl i).1 := by
 rw [show n - i = (n - (i + 1)) + 1 by omega, hyF, show n - (n - (i + 1) + 1) = i by omega, Aq h]
theorem RY (h : kdA S (Ce ty i) = 1) : hyA e a S st pr mo ty pl i = (K6 e a mo (Gf e a st pl i), HD e a mo (Gf e a st pl i)) := At h
theorem RX (h : ¬ kdA S (Ce ty i) = 1) : hyA e a S st pr mo ty pl i = hy2 e a st pr mo (Ce ty i) (nth (Ce ty i) ((Ce ty i).length - 1)).N pl i := Aq h
theorem Xl (h : n ≤ i) : agF S k st pr mo ty n (n - i) e a pl = hyF S k st pr mo ty pl n n e a := by rw [show n - i = 0 by omega]; rfl
theorem Uz (hi : i < n) : agF S k st pr mo ty n (n - i) e a pl = piP (agF S k st pr mo ty n (n - (i + 1)) e (a + 1) (pl ++ [a + 1])) (orI (mkI (H1 st i) 2) (mkI pr 1)) (Ce ty i) := by
 rw [show n - i = (n - (i + 1)) + 1 by omega, agF, show n - (n - (i + 1) + 1) = i by omega]
theorem Wo {b : Bool} {z : Int} (h : 0 ≤ z) : 0 ≤ mkI b z := by unfold mkI; split <;> omega
theorem Wn {b : Bool} {z : Int} (h : z < 1000) : mkI b z < 1000 := by unfold mkI; split <;> omega
theorem Xa {z : Int} {k : Nat} : 0 ≤ GF z k := by unfold GF; omega
theorem WZ {z : Int} {k : Nat} (h : k < 1000) : GF z k < 1000 := by
 unfold GF
 have := Nat.and_le_right (n := z.toNat) (m := k)
 omega
theorem Hq : (Gf e a st pl i).length ≤ 1 := by unfold Gf; split; exact H3; exact SN
theorem Ff : sml (Gf e a st pl i) := by
 unfold Gf
 split
 · exact FW (show (⟨#[]⟩ : ByteArray).size < 1000000 by decide) (by intro x hx; cases hx)
 · exact Ob
theorem Gi : (K6 e a mo x).length ≤ 4000 := W4
theorem Gh (h : sml mo) (hx : sml x) : sml (K6 e a mo x) := Wz (Qu h) (by
 intro y hy
 rw [AB] at hy
 rw [hy]
 exact hx)
theorem Sa {z p : Int} : sml (hfX e a st pl i z p) := FW (show (⟨#[]⟩ : ByteArray).size < 1000000 by decide) (by
 intro y hy
 simp only [AD, AG, or_false] at hy
 rcases hy with rfl | rfl
 · exact Ff
 · exact Rt Ob)
theorem WH (h : sml t) : (Ce (agA t) 0).length ≤ 4000 ∧ sml (Ce (agA t) 0) := by
 by_cases hc : chk t = 0
 ·
  rw [Fh hc]
  by_cases hl : 0 < (ptL t).length
  ·
   have hm : Ce (ptL t) 0 ∈ ptL t := CR hl
   obtain ⟨_, h2, h3⟩ := G4 (BO hc) hm
   have := (Co hc).2.2.2
   exact ⟨by omega, D5.2 (fun m hm' => D5.1 h m (h3 m hm'))⟩
  ·
   have : Ce (ptL t) 0 = [] := by
    unfold Ce
    rw [BB (by omega : (ptL t).length = 0)]
    rfl
   rw [this]
   exact ⟨by simp, by intro k hk; simp at hk⟩
 ·
  rw [SV hc]
  exact ⟨by simp [Ce], by intro k hk; simp [Ce] at hk⟩
theorem hy2_Z {z : Int} (hm : sml mo) (h : sml t) : (hy2 e a st pr mo t z pl i).1.length ≤ 8001 ∧ sml (hy2 e a st pr mo t z pl i).1 := by
 have h1 := WH h
 have h2 := Gi (e := e) (a := a + 1) (mo := mo) (x := hfX e (a + 1) st pl i z (a + 1))
 have h3 := Nw (p := (K6 e (a + 1) mo (hfX e (a + 1) st pl i z (a + 1)), HD e (a + 1) mo (hfX e (a + 1) st pl i z (a + 1)))) (m := hfM z pr) (dom := Ce (agA t) 0)
 exact ⟨Bo h3 (by simp only; omega), Nv (Gh hm Sa) h1.2⟩
theorem hyA_Z (hm : sml mo) (h : ∀ t ∈ ty, sml t) (hi : i < ty.length) : (hyA e a S st pr mo ty pl i).1.length ≤ 8001 ∧ sml (hyA e a S st pr mo ty pl i).1 := by
 unfold hyA
 split
 · exact ⟨Bo Gi (by omega), Gh hm Ff⟩
 · exact hy2_Z hm (h _ (CR hi))
theorem TZ (hS : S.size < 1000000) (hm : sml mo) (h : ∀ t ∈ ty, sml t) (hn : n = ty.length) : ∀ m, m ≤ n → ∀ e a : Int, (hyF S k st pr mo ty pl n m e a).1.length ≤ 4000 + 8002 * m ∧ sml (hyF S k st pr mo ty pl n m e a).1
 | 0, _, e, a => ⟨Gi, Gh hm (FW hS (by
   intro y hy
   obtain ⟨j, _, rfl⟩ := Ch.1 hy
   exact Ff))⟩
 | m + 1, hmn, e, a => by
  unfold hyF
  split
  ·
   have := TZ hS hm h hn m (by omega) e a
   exact ⟨by omega, this.2⟩
  ·
   have h1 := TZ hS hm h hn m (by omega) (hyA e a S st pr mo ty pl (n - (m + 1))).2 (a + 1)
   have h2 := hyA_Z (e := e) (a := a) (S := S) (st := st) (pr := pr) (pl := pl) (i := n - (m + 1)) hm h (by omega)
   have h3 := Nw (p := hyF S k st pr mo ty pl n m (hyA e a S st pr mo ty pl (n - (m + 1))).2 (a + 1)) (m := mkI pr 3) (dom := (hyA e a S st pr mo ty pl (n - (m + 1))).1)
   exact ⟨by omega, Nv h1.2 h2.2⟩
theorem Xm (hS : S.size < 1000000) (hm : sml mo) (h : ∀ t ∈ ty, sml t ∧ t.length ≤ 4000) (hn : n = ty.length) : ∀ m, m ≤ n → ∀ (e a : Int) (pl : List Int), (agF S k st pr mo ty n m e a pl).1.length ≤ 4000 + 8002 * n + 4001 * m ∧ sml (agF S k st pr mo ty n m e a pl).1
 | 0, _, e, a, pl => TZ hS hm (fun t ht => (h t ht).1) hn n (Af _) e a
 | m + 1, hmn, e, a, pl => by
  unfold agF
  have h1 := Xm hS hm h hn m (by omega) e (a + 1) (pl ++ [a + 1])
  have h2 := h _ (CR (l := ty) (k := n - (m + 1)) (by omega))
  have h3 := Nw (p := agF S k st pr mo ty n m e (a + 1) (pl ++ [a + 1])) (m := orI (mkI (H1 st (n - (m + 1))) 2) (mkI pr 1)) (dom := Ce ty (n - (m + 1)))
  exact ⟨by omega, Nv h1.2 h2.1⟩
end
theorem OA {l : List Int} {z : Int} {j : Nat} (h : ∀ j, -1000 ≤ Ci l j ∧ Ci l j ≤ 1000) (hz : -1000 ≤ z ∧ z ≤ 1000) : -1000 ≤ Ci (l ++ [z]) j ∧ Ci (l ++ [z]) j ≤ 1000 := by
 unfold Ci at h ⊢
 rw [AP, List.getElem?_append]
 split
 ·
  have := h j
  rwa [AP] at this
 ·
  cases hh : ([z] : List Int)[j - l.length]? with
  | none => simp
  | some v =>
   have : v = z := by
    have := Ax hh
    simpa using this
   simp only [Option.getD_some]
   omega
end
section
/- What is asked of a constructor: lemmas for the walks. -/
open Go Go.RowKit
theorem kd_no {s : ByteArray} {t : List Nd} (h1 : ¬ kdA s t = 1) (h2 : ¬ kdA s t = 2) : kdA s t = 0 :=
 Classical.byContradiction fun h => h2 (IX h h1).1
theorem Pp {e a : Int} {st : List Bool} {pl : List Int} : ∀ l : List Nat, (l.map (Gf e a st pl)).flatten.length ≤ l.length
 | [] => Af _
 | i :: l => by
  rw [BJ, Em, Ab, Ad]
  have := Pp (e := e) (a := a) (st := st) (pl := pl) l
  have := Hq (e := e) (a := a) (st := st) (pl := pl) (i := i)
  omega
theorem hyN_Z {e a k z : Int} {S : ByteArray} {st : List Bool} {pl : List Int} {n : Nat} {Ls : List Sl} (hL : Bt Ls = (List.range n).map (Gf e a st pl)) (hS : S.size < 1000000) : (noL e ⟨26, k, z, S⟩ (Bt Ls)).length ≤ n + 1 ∧ sml (noL e ⟨26, k, z, S⟩ (Bt Ls)) := by
 rw [hL]
 have h1 := H3 (e := e) (n := ⟨26, k, z, S⟩) (p := (List.range n).map (Gf e a st pl))
 have h2 := Pp (e := e) (a := a) (st := st) (pl := pl) (List.range n)
 rw [List.length_range] at h2
 exact ⟨by omega, FW hS (by
  intro y hy
  obtain ⟨j, _, rfl⟩ := Ch.1 hy
  exact Ff)⟩
theorem Xc {e a : Int} {st : List Bool} {pl : List Int} {n : Nat} {Ls : List Sl} {A : Option Addr} {c : Nat} {L : List Nd} (hL : Bt Ls = (List.range n).map (Gf e a st pl)) (he : L = Gf e a st pl n) : Bt (Ls ++ [((A, c, L) : Sl)]) = (List.range (n + 1)).map (Gf e a st pl) := by
 rw [Er, Gr, hL, Qaz, C3, he]
 rfl
theorem arg_bd {e a : Int} {st : List Bool} {pl : List Int} {n : Nat} {Ls : List Sl} (hL : Bt Ls = (List.range n).map (Gf e a st pl)) : ∀ s ∈ Ls, s.2.2.length ≤ 100000 := by
 intro s hs
 have : s.2.2 ∈ Bt Ls := List.mem_map_of_mem hs
 rw [hL] at this
 obtain ⟨j, _, h⟩ := Ch.1 this
 rw [← h]
 exact Bo Hq (by decide)
section
variable {S : ByteArray} {k e a : Int} {st : List Bool} {pr : Bool} {mo : List Nd} {ty : List Sl} {pl : List Int} {i n : Nat}
theorem W9 (hn : n = ty.length) (h : n ≤ i) : hyF S k st pr mo (Bt ty) pl n (n - i) e a = (K6 e a mo (noL e ⟨26, k, ((n : Nat) : Int), S⟩ ((List.range n).map (Gf e a st pl))), HD e a mo (noL e ⟨26, k, ((n : Nat) : Int), S⟩ ((List.range n).map (Gf e a st pl)))) := WA h
theorem TX (hi : i < n) (h : kdA S (BF ty i).2.2 = 0) : hyF S k st pr mo (Bt ty) pl n (n - i) e a = hyF S k st pr mo (Bt ty) pl n (n - (i + 1)) e a := TY hi (by rw [← AQ]; exact h)
theorem W8 (hi : i < n) (h : kdA S (BF ty i).2.2 = 1) : hyF S k st pr mo (Bt ty) pl n (n - i) e a = piP (hyF S k st pr mo (Bt ty) pl n (n - (i + 1)) (HD e a mo (Gf e a st pl i)) (a + 1)) (mkI pr 3) (K6 e a mo (Gf e a st pl i)) := by
 have h' : kdA S (Ce (Bt ty) i) = 1 := by rw [← AQ]; exact h
 rw [OP hi (by omega), RY h']
theorem W7 (hi : i < n) (h : kdA S (BF ty i).2.2 = 2) : hyF S k st pr mo (Bt ty) pl n (n - i) e a = piP (hyF S k st pr mo (Bt ty) pl n (n - (i + 1)) (hy2 e a st pr mo (BF ty i).2.2 (nth (BF ty i).2.2 ((BF ty i).2.2.length - 1)).N pl i).2 (a + 1)) (mkI pr 3) (hy2 e a st pr mo (BF ty i).2.2 (nth (BF ty i).2.2 ((BF ty i).2.2.length - 1)).N pl i).1 := by
 have h' : kdA S (Ce (Bt ty) i) = 2 := by rw [← AQ]; exact h
 rw [OP hi (by omega), RX (by omega), ← AQ]
theorem Xj (hn : n = ty.length) (h : n ≤ i) : agF S k st pr mo (Bt ty) n (n - i) e a pl = hyF S k st pr mo (Bt ty) pl n (n - 0) e a := Xl h
theorem Uy (hi : i < n) : agF S k st pr mo (Bt ty) n (n - i) e a pl = piP (agF S k st pr mo (Bt ty) n (n - (i + 1)) e (a + 1) (pl ++ [a + 1])) (orI (mkI (H1 st i) 2) (mkI pr 1)) (BF ty i).2.2 := by
 rw [Uz hi, ← AQ]
theorem ty_at (h : ∀ t ∈ Bt ty, sml t ∧ t.length ≤ 4000) (hi : i < ty.length) : sml (BF ty i).2.2 ∧ (BF ty i).2.2.length ≤ 4000 := by
 rw [AQ]
 exact h _ (CR (by rw [Bs]; exact hi))
end
end
section
/- The type of a case: what it comes to. -/
open Go Go.RowKit
def csT (C : List (List (List Nd))) (k : Int) : List (List Nd) := (EE C k.toNat).map erA
def csC (K L : Int) (S : ByteArray) (T B : List Nd) (C : List Tl) (k : Int) (st : List Bool) (mo : List Nd) : Int :=
 if ¬ scE K L S T B C = 0 then scE K L S T B C else if ¬ chk mo = 0 then chk mo else if k < 0 ∨ ((C.length : Nat) : Int) ≤ k ∨ ¬ st.length = (Bm C k.toNat).2.2.length then 1 else 0
def csP (S : ByteArray) (C : List (List (List Nd))) (k : Int) (st : List Bool) (pr : Bool) (mo : List Nd) : List Nd × Int := agF S k st pr mo (csT C k) (csT C k).length (csT C k).length 0 0 []
def csF (p : List Nd × Int) : Int := if p.2 = 0 then chk p.1 else p.2
def csE (K L : Int) (S : ByteArray) (T B : List Nd) (C : List Tl) (k : Int) (st : List Bool) (pr : Bool) (mo : List Nd) : Int :=
 if ¬ csC K L S T B C k st mo = 0 then csC K L S T B C k st mo else csF (csP S (B1 C) k st pr mo)
def csL (K L : Int) (S : ByteArray) (T B : List Nd) (C : List Tl) (k : Int) (st : List Bool) (pr : Bool) (mo : List Nd) : List Nd :=
 if csE K L S T B C k st pr mo = 0 then (csP S (B1 C) k st pr mo).1 else []
section
variable {K L k : Int} {S : ByteArray} {T B mo : List Nd} {C : List Tl} {st : List Bool} {pr : Bool}
theorem Kv (h : ¬ csC K L S T B C k st mo = 0) : csE K L S T B C k st pr mo = csC K L S T B C k st mo := At h
theorem S9 (h : ¬ csC K L S T B C k st mo = 0) : csL K L S T B C k st pr mo = [] := Aq (by rw [Kv h]; exact h)
theorem Un (h : ¬ scE K L S T B C = 0) : csC K L S T B C k st mo = scE K L S T B C := At h
theorem csC_2 (h : scE K L S T B C = 0) (h2 : ¬ chk mo = 0) : csC K L S T B C k st mo = chk mo := by unfold csC; rw [Aq (AR h), At h2]
theorem WN (h : scE K L S T B C = 0) (h2 : chk mo = 0) (h3 : k < 0 ∨ ((C.length : Nat) : Int) ≤ k ∨ ¬ st.length = (Bm C k.toNat).2.2.length) : csC K L S T B C k st mo = 1 := by
 unfold csC; rw [Aq (AR h), Aq (AR h2), At h3]
theorem csC_0 (h : scE K L S T B C = 0) (h2 : chk mo = 0) (h3 : ¬ (k < 0 ∨ ((C.length : Nat) : Int) ≤ k ∨ ¬ st.length = (Bm C k.toNat).2.2.length)) : csC K L S T B C k st mo = 0 := by
 unfold csC; rw [Aq (AR h), Aq (AR h2), Aq h3]
theorem S7 (h : ¬ scE K L S T B C = 0) : csL K L S T B C k st pr mo = [] ∧ csE K L S T B C k st pr mo = scE K L S T B C := by
 have e := Un (k := k) (st := st) (mo := mo) h
 exact ⟨S9 (by rw [e]; exact h), by rw [Kv (by rw [e]; exact h), e]⟩
theorem S6 (h : scE K L S T B C = 0) (h2 : ¬ chk mo = 0) : csL K L S T B C k st pr mo = [] ∧ csE K L S T B C k st pr mo = chk mo := by
 have e := csC_2 (k := k) (st := st) h h2
 exact ⟨S9 (by rw [e]; exact h2), by rw [Kv (by rw [e]; exact h2), e]⟩
theorem S5 (h : scE K L S T B C = 0) (h2 : chk mo = 0) (h3 : k < 0 ∨ ((C.length : Nat) : Int) ≤ k ∨ ¬ st.length = (Bm C k.toNat).2.2.length) : csL K L S T B C k st pr mo = [] ∧ csE K L S T B C k st pr mo = 1 := by
 have e := WN h h2 h3
 exact ⟨S9 (by rw [e]; decide), by rw [Kv (by rw [e]; decide), e]⟩
theorem S8 (h : scE K L S T B C = 0) (h2 : chk mo = 0) (h3 : ¬ (k < 0 ∨ ((C.length : Nat) : Int) ≤ k ∨ ¬ st.length = (Bm C k.toNat).2.2.length)) {ty : List Sl} (hty : Bt ty = csT (B1 C) k) :
  csL K L S T B C k st pr mo = (if csF (agF S k st pr mo (Bt ty) ty.length (ty.length - 0) 0 0 []) = 0 then (agF S k st pr mo (Bt ty) ty.length (ty.length - 0) 0 0 []).1 else []) ∧ csE K L S T B C k st pr mo = csF (agF S k st pr mo (Bt ty) ty.length (ty.length - 0) 0 0 []) := by
 have e := csC_0 h h2 h3
 have e2 : csE K L S T B C k st pr mo = csF (csP S (B1 C) k st pr mo) := Aq (AR e)
 have e3 : csP S (B1 C) k st pr mo = agF S k st pr mo (Bt ty) ty.length (ty.length - 0) 0 0 [] := by
  unfold csP
  rw [← hty, Bs]
  rfl
 refine ⟨?_, by rw [e2, e3]⟩
 unfold csL
 rw [e2, e3]
end
theorem WM {K : Int} {t b : List Nd} {C : List Tl} {i : Nat} (hcl : ∀ x ∈ (B1 C).flatten, clT x = 0) (hall : ∀ x ∈ tmD K t b (B1 C), sml x ∧ x.length ≤ 1000000) (hK : K = 3) (hi : i < C.length) : ∀ x ∈ Bt (Bm C i).2.2, chk x = 0 ∧ sml x := fun x hx => by
 have hm : x ∈ (B1 C).flatten := List.mem_flatten.2 ⟨Bt (Bm C i).2.2, Ch.2 ⟨Bm C i, DT hi, rfl⟩, hx⟩
 have h1 := hcl x hm
 have h2 := hall x (by unfold tmD; rw [Aq (by omega), Aq (by omega), At hK]; exact hm)
 refine ⟨Classical.byContradiction fun h => ?_, h2.1⟩
 rw [Lr h] at h1
 exact h h1
theorem S4 {T : List Sl} {j : Nat} (h : ∀ x ∈ Bt T, chk x = 0 ∧ sml x) (hj : j < T.length) : sml (BF T j).2.2 ∧ (BF T j).2.2.length ≤ 1000000 := by
 have := h _ (CR (l := Bt T) (k := j) (by rw [Bs]; exact hj))
 rw [AQ]
 have h2 := (Co this.1).2.2.2
 exact ⟨this.2, by omega⟩
theorem S2 {T Ls : List Sl} {j c : Nat} {A : Option Addr} (hL : Bt Ls = ((Bt T).take j).map erA) (hj : j < T.length) : Bt (Ls ++ [((A, c, erA (BF T j).2.2) : Sl)]) = ((Bt T).take (j + 1)).map erA := by
 have hj' : j < (Bt T).length := by rw [Bs]; exact hj
 rw [Er, Gr, hL, List.take_succ_eq_append_getElem hj', C3, AQ]
 simp [Ce, hj']
theorem Vt {T Ls : List Sl} {j : Nat} (hL : Bt Ls = ((Bt T).take j).map erA) (hj : j ≤ T.length) : Ls.length = j := by
 rw [← Bs, hL, BT, Ah, Bs]
 omega
theorem cs_ty {T Ls : List Sl} {j : Nat} (h : ∀ x ∈ Bt T, chk x = 0 ∧ sml x) (hL : Bt Ls = ((Bt T).take j).map erA) : ∀ t ∈ Bt Ls, sml t ∧ t.length ≤ 4000 := fun t ht => by
 rw [hL] at ht
 obtain ⟨x, hx, rfl⟩ := Ch.1 ht
 obtain ⟨h1, h2⟩ := h x (List.mem_of_mem_take hx)
 have h3 := (Co h1).2.2.2
 have h4 := Vq x
 exact ⟨(G1 h1 h2).1.1, by omega⟩
theorem Ku {C : List Tl} {Ls : List Sl} {k : Int} {j : Nat} (hL : Bt Ls = ((Bt (Bm C k.toNat).2.2).take j).map erA) (hj : (Bm C k.toNat).2.2.length ≤ j) : Bt Ls = csT (B1 C) k := by
 rw [hL, AM (by rw [Bs]; exact hj), Fy]
 rfl
theorem pl_nil : ∀ j, -1000 ≤ Ci [] j ∧ Ci [] j ≤ 1000 := fun j => by simp [Ci]
end
section
/- Free variables of the types of cases, and of what is asked of relations. -/
open Go Go.RowKit
def FB (N : Int) (t : List Nd) : Prop := ∃ x : T, x.wf = true ∧ t = x.flat ∧ moT (-1) 0 x < N
theorem FB.mono {N M : Int} {t : List Nd} (h : FB N t) (hm : N ≤ M) : FB M t := by
 obtain ⟨x, h1, h2, h3⟩ := h
 exact ⟨x, h1, h2, by omega⟩
theorem FB.meas {N : Int} {t : List Nd} (h : FB N t) : BW t = true := by
 obtain ⟨x, h1, rfl, _⟩ := h
 exact Hh h1
theorem FB.mo {N : Int} {t : List Nd} (h : FB N t) : moT (-1) 0 (Bk t) < N := by
 obtain ⟨x, h1, rfl, h3⟩ := h
 rw [Du h1]
 exact h3
theorem FB.fr {N : Int} {t : List Nd} (h : FB N t) (hN : 0 ≤ N) : frF t ≤ N := by
 unfold frF
 split
 ·
  have := h.mo
  show moT (-1) 0 (Bk t) + 1 ≤ N
  omega
 · exact hN
section
variable {l : List (List Nd)} {M N : Int}
end
def MB (e N : Int) (p : List Nd × Int) : Prop := (GE e → GE p.2) ∧ (p.2 = 0 → e = 0 ∧ FB N p.1)
theorem MB.mono {e N M : Int} {p : List Nd × Int} (h : MB e N p) (hm : N ≤ M) : MB e M p := ⟨h.1, fun h0 => ⟨(h.2 h0).1, (h.2 h0).2.mono hm⟩⟩
section
variable {e a x y z N : Int} {r A : List Nd}
end
end
section
/- Free variables of the types of cases. -/
open Go Go.RowKit
theorem mkI_3 {b : Bool} {z : Int} (h : 0 ≤ z ∧ z ≤ 3) : 0 ≤ mkI b z ∧ mkI b z ≤ 3 := by unfold mkI; split <;> omega
section
variable {S : ByteArray} {k e a : Int} {st : List Bool} {pr : Bool} {mo x t : List Nd} {ty : List (List Nd)} {pl : List Int} {n i : Nat}
def TyC (ty : List (List Nd)) : Prop := ∀ i, i < ty.length → chk (Ce ty i) = 0 ∧ frF (Ce ty i) ≤ 0
end
mutual
theorem mo_er : ∀ (x : T) (u : Int), moT (-1) u (erT x) ≤ moT (-1) u x
 | .mk n l, u => by
  by_cases hk : n.K = 28
  ·
   have e : moT (-1) u (erT (.mk n l)) = -1 := by simp [erT, hk, moT, UC, binds, shp, Ic]
   rw [e]
   exact OE _ _ _
  ·
   simp only [erT, hk, if_false, moT]
   split
   · exact Int.le_refl _
   · exact Vd l _
theorem Vd : ∀ (l : List T) (us : List Int), Ic (-1) (Gy l) us ≤ Ic (-1) l us
 | [], us => by simp only [Gy]; exact Int.le_refl _
 | y :: l, [] => by simp only [Gy, Ic]; exact Int.le_refl _
 | y :: l, u :: us => by
  simp only [Gy, Ic]
  have := mo_er y u
  have := Vd l us
  omega
end
theorem er_clo {t : List Nd} (hc : chk t = 0) (hs : sml t) (hf : frF t ≤ 0) : chk (erA t) = 0 ∧ frF (erA t) ≤ 0 := by
 have h1 := (G1 hc hs).1.2.1
 refine ⟨h1, ?_⟩
 unfold frF at hf ⊢
 rw [At hc] at hf
 rw [At h1]
 unfold moL at hf ⊢
 rw [Kq hc, Ue hc]
 have := mo_er (Bk t) 0
 omega
theorem WJ {K L : Int} {S : ByteArray} {t b : List Nd} {c : List Tl} (h : dkE K L S t b c = 0) : CJ S = true := by
 unfold dkE dkB frE at h
 split at h
 ·
  rename_i h1
  unfold frE at h
  split at h
  ·
   rename_i h2
   unfold mkI nmB at h2
   cases hq : CJ S with
   | true => rfl
   | false => rw [hq] at h2; simp at h2
  · rename_i h2; exact absurd h h2
 · rename_i h1; exact absurd h h1
theorem cl_T {t : List Nd} (h : clT t = 0) : chk t = 0 ∧ frF t ≤ 0 := by
 have hc : chk t = 0 := Classical.byContradiction fun hn => by rw [Lr hn] at h; exact hn h
 refine ⟨hc, Classical.byContradiction fun hn => ?_⟩
 rw [Lq hc (by omega)] at h
 exact absurd h (by decide)
section
variable {K L k : Int} {S : ByteArray} {T B mo : List Nd} {C : List Tl} {st : List Bool} {pr : Bool}
theorem cs_ty2 (hcl : ∀ x ∈ (B1 C).flatten, clT x = 0) (hs : ∀ x ∈ (B1 C).flatten, sml x) : TyC (csT (B1 C) k) := fun i hi => by
 have hi' : i < (EE (B1 C) k.toNat).length := by unfold csT at hi; rwa [BT] at hi
 have hk : k.toNat < (B1 C).length := Classical.byContradiction fun hn => by
  have : EE (B1 C) k.toNat = [] := by unfold EE; rw [AP, List.getElem?_eq_none (by omega)]; rfl
  rw [this] at hi'
  exact absurd hi' (by simp)
 have hm : Ce (EE (B1 C) k.toNat) i ∈ (B1 C).flatten := by
  refine List.mem_flatten.2 ⟨EE (B1 C) k.toNat, ?_, CR hi'⟩
  have : EE (B1 C) k.toNat = (B1 C)[k.toNat] := by simp [EE, hk]
  rw [this]
  exact List.getElem_mem hk
 have e : Ce (csT (B1 C) k) i = erA (Ce (EE (B1 C) k.toNat) i) := by simp [csT, Ce, hi']
 rw [e]
 obtain ⟨h1, h2⟩ := cl_T (hcl _ hm)
 exact er_clo h1 (hs _ hm) h2
end
end
section
/- Declarations that a law holds to be too great. -/
open Go Go.RowKit
def muL (l : List (List Nd)) : Bool := decide (10 < l.length) || l.any (Df 80)
def muB (S : ByteArray) (T B : List Nd) (C : List (List (List Nd))) : Bool := (((Df 80 T || Df 80 B) || decide (100 < S.size)) || decide (10 < C.length)) || C.any muL
theorem KV {α : Type} {P : α → Bool} {l : List α} {k : Nat} {d : α} (hk : k < l.length) (h : P (l.getD k d) = true) : l.any P = true := by
 rw [F3]
 have e : l.getD k d = l[k] := by simp [hk]
 exact ⟨l[k], List.getElem_mem hk, by rw [← e]; exact h⟩
theorem OD {α : Type} {P : α → Bool} {l : List α} {d : α} (h : ∀ k, k < l.length → P (l.getD k d) = false) : l.any P = false := by
 rw [List.any_eq_false]
 intro x hx
 obtain ⟨k, hk, rfl⟩ := List.getElem_of_mem hx
 have := h k hk
 have e : l.getD k d = l[k] := by simp [hk]
 rw [e] at this
 simp [this]
theorem muto {Q : Nat → Prop} {k : Nat} (h : ∀ j, j < k → Q j) (hk : Q k) : ∀ j, j < k + 1 → Q j := fun j hj => by
 by_cases e : j = k
 · rw [e]; exact hk
 · exact h j (by omega)
theorem mu_x {C : List Tl} {i k : Nat} : Ce (EE (B1 C) i) k = (BF (Bm C i).2.2 k).2.2 := by rw [← Fy, ← AQ]
theorem TJ {C : List Tl} {i : Nat} : (EE (B1 C) i).length = (Bm C i).2.2.length := by rw [← Fy, Bs]
section
variable {S : ByteArray} {T B : List Nd} {C : List Tl} {i k : Nat}
theorem mu_h : (((Df 80 T || Df 80 B) || decide (100 < S.size)) || decide (10 < (B1 C).length)) = (((Df 80 T || Df 80 B) || decide ((100 : Int) < ((S.size : Nat) : Int))) || decide ((10 : Int) < ((C.length : Nat) : Int))) := by
 rw [FZ, show decide ((100 : Int) < ((S.size : Nat) : Int)) = decide (100 < S.size) by rw [Bool.eq_iff_iff]; simp; omega, show decide ((10 : Int) < ((C.length : Nat) : Int)) = decide (10 < C.length) by rw [Bool.eq_iff_iff]; simp; omega]
theorem mu_0 (h : (((Df 80 T || Df 80 B) || decide ((100 : Int) < ((S.size : Nat) : Int))) || decide ((10 : Int) < ((C.length : Nat) : Int))) = true) : muB S T B (B1 C) = true := by
 unfold muB
 rw [mu_h, h, Bool.true_or]
theorem mu_1 (hi : i < C.length) (h : 10 < (Bm C i).2.2.length) : muB S T B (B1 C) = true := by
 unfold muB
 rw [KV (P := muL) (k := i) (d := []) (by rw [FZ]; exact hi) (by show muL (EE (B1 C) i) = true; unfold muL; rw [TJ, Aw h, Bool.true_or]), Bool.or_true]
theorem mu_2 (hi : i < C.length) (hk : k < (Bm C i).2.2.length) (h : Df 80 (BF (Bm C i).2.2 k).2.2 = true) : muB S T B (B1 C) = true := by
 unfold muB
 rw [KV (P := muL) (k := i) (d := []) (by rw [FZ]; exact hi) (by
  show muL (EE (B1 C) i) = true
  unfold muL
  rw [KV (P := Df 80) (k := k) (d := []) (by rw [TJ]; exact hk) (by show Df 80 (Ce (EE (B1 C) i) k) = true; rw [mu_x]; exact h), Bool.or_true]), Bool.or_true]
theorem mu_3 (h1 : (((Df 80 T || Df 80 B) || decide ((100 : Int) < ((S.size : Nat) : Int))) || decide ((10 : Int) < ((C.length : Nat) : Int))) = false) (hi : ∀ j, j < i → muL (EE (B1 C) j) = false) (h : ¬ i < C.length) : muB S T B (B1 C) = false := by
 unfold muB
 rw [mu_h, h1, OD (P := muL) (d := []) (fun j hj => hi j (by rw [FZ] at hj; omega))]
 rfl
theorem mu_4 (h6 : ¬ 10 < (Bm C i).2.2.length) (hk : ∀ j, j < k → Df 80 (Ce (EE (B1 C) i) j) = false) (h : ¬ k < (Bm C i).2.2.length) : muL (EE (B1 C) i) = false := by
 unfold muL
 rw [TJ, Ai h6, OD (P := Df 80) (d := []) (fun j hj => hk j (by rw [TJ] at hj; omega))]
 rfl
theorem mu_y (h : Df 80 (BF (Bm C i).2.2 k).2.2 = false) : Df 80 (Ce (EE (B1 C) i) k) = false := by rw [mu_x]; exact h
theorem Wm (h : muB S T B (B1 C) = false) : sml T ∧ T.length ≤ 80 ∧ sml B ∧ B.length ≤ 80 ∧ S.size ≤ 100 ∧ C.length ≤ 10 ∧ (∀ s ∈ C, s.2.2.length ≤ 10) ∧ ∀ x ∈ (B1 C).flatten, sml x ∧ x.length ≤ 80 := by
 unfold muB at h
 simp only [Bool.or_eq_false_iff] at h
 obtain ⟨⟨⟨⟨h1, h2⟩, h3⟩, h4⟩, h5⟩ := h
 obtain ⟨a1, a2⟩ := G9 h1
 obtain ⟨b1, b2⟩ := G9 h2
 have hL : ∀ l ∈ B1 C, l.length ≤ 10 ∧ ∀ x ∈ l, sml x ∧ x.length ≤ 80 := fun l hl => by
  have q : muL l = false := by have := List.any_eq_false.1 h5 l hl; simpa using this
  unfold muL at q
  rw [Bool.or_eq_false_iff] at q
  refine ⟨by simpa using q.1, fun x hx => ?_⟩
  have q2 : Df 80 x = false := by have := List.any_eq_false.1 q.2 x hx; simpa using this
  obtain ⟨c1, c2⟩ := G9 q2
  exact ⟨c2, c1⟩
 refine ⟨a2, a1, b2, b1, by simpa using h3, by simpa [FZ] using h4, fun s hs => ?_, fun x hx => ?_⟩
 ·
  have := (hL (Bt s.2.2) (Ch.2 ⟨s, hs, rfl⟩)).1
  rwa [Bs] at this
 ·
  obtain ⟨l, hl, hx⟩ := List.mem_flatten.1 hx
  exact (hL l hl).2 x hx
theorem mu_tm {K : Int} (h : muB S T B (B1 C) = false) : ∀ x ∈ tmD K T B (B1 C), sml x ∧ x.length ≤ 1000000 := by
 obtain ⟨a1, a2, b1, b2, _, _, _, hx⟩ := Wm h
 unfold tmD
 intro x hm
 split at hm
 ·
  simp only [AD, AG, or_false] at hm
  rcases hm with rfl | rfl
  · exact ⟨a1, by omega⟩
  · exact ⟨b1, by omega⟩
 ·
  split at hm
  ·
   rw [AB.1 hm]
   exact ⟨a1, by omega⟩
  ·
   split at hm
   ·
    have := hx x hm
    exact ⟨this.1, by omega⟩
   · cases hm
end
set_option maxRecDepth 100000 in
theorem sh18 {A1 A2 A3 : Option Addr} {c1 c2 c3 : Nat} : csE 3 1 ⟨#[78]⟩ [] [] [(A1, c1, []), (A2, c2, [(A3, c3, [⟨25, 0, 0, ⟨#[78]⟩⟩])])] 1 [false] false [⟨10, 0, 0, ⟨#[]⟩⟩] = 0 ∧
  csL 3 1 ⟨#[78]⟩ [] [] [(A1, c1, []), (A2, c2, [(A3, c3, [⟨25, 0, 0, ⟨#[78]⟩⟩])])] 1 [false] false [⟨10, 0, 0, ⟨#[]⟩⟩] = [⟨25, 0, 0, ⟨#[78]⟩⟩, ⟨10, 0, 0, ⟨#[]⟩⟩, ⟨10, 0, 0, ⟨#[]⟩⟩, ⟨3, 0, 0, ⟨#[]⟩⟩, ⟨3, 0, 0, ⟨#[]⟩⟩] := ⟨by kernel_rfl, by kernel_rfl⟩
theorem sh18_p {A1 A2 A3 : Option Addr} {c1 c2 c3 : Nat} : ∀ x ∈ tmD 3 [] [] (B1 [(A1, c1, []), (A2, c2, [(A3, c3, [⟨25, 0, 0, ⟨#[78]⟩⟩])])]), sml x ∧ x.length ≤ 1000000 := by
 intro x hx
 have : x = [⟨25, 0, 0, ⟨#[78]⟩⟩] := by simpa [tmD, B1, Bt] using hx
 rw [this]
 exact ⟨D5.2 fun m hm => by rw [AB.1 hm]; decide, by decide⟩
theorem sh18_b {A1 A2 A3 : Option Addr} {c1 c2 c3 : Nat} : ∀ s ∈ ([(A1, c1, []), (A2, c2, [(A3, c3, [⟨25, 0, 0, ⟨#[78]⟩⟩])])] : List Tl), s.2.2.length ≤ 100 := by simp
theorem sh18_m : sml [⟨10, 0, 0, ⟨#[]⟩⟩] := D5.2 fun m hm => by rw [AB.1 hm]; decide
end
end Go.Proofs.YtpfmnpaifchleaaGreatDoor
namespace Go.Proofs.YtpfmnpaifchleaaGreatDoor
open Go Go.RowKit
set_option linter.unusedSimpArgs false
set_option linter.unusedVariables false
set_option maxRecDepth 100000
set_option maxHeartbeats 4000000
theorem Mi (w0 : World) (Z : Nat → Prop) (hZ : HZ w0 Z) (dK : Int) (dL : Int) (dS : ByteArray) (dTA : Option Addr) (dTc : Nat) (dT : List Nd) (dBA : Option Addr) (dBc : Nat) (dB : List Nd) (dCA : Option Addr) (dCc : Nat) (dC : List Tl) (hdT : N4 dTA dTc dT w0 Z) (hdB : N4 dBA dBc dB w0 Z) (hdC : (Bw 1 dCA dC.length dCc (CW dC)).φ w0 Z) (hdCs : (CG dC).φ w0 Z) (hzS : dS.size ≤ 9223372036854775807 := by exact ax) :
    Calls Tryz.prog 5 [.agg #[.int .i64 dK, .int .i64 dL, .string dS, .slice dTA dT.length dTc, .slice dBA dB.length dBc, .slice dCA dC.length dCc]].toArray w0 (fun e w' => e = .returned (.bool (muB dS dT dB (B1 dC))) ∧ Fr A6 w0 w') := by
 have b0 := s0 (M := A6) hZ (zc hdT (zc hdB (zc hdC (zc hdCs zn))))
 refine AE Tryz.func5 rfl Tryz.ntmps5 rfl fun c0 d0 => ?_
 refine wsc fun c0 f0 => bxx d0 b0 fun c0 h0 i0 j0 k0 => ?_
 refine aw j0 f0 fun h0 c0 => ?_
 refine Ac fun f0 h0 => wsc fun f0 j0 => lR c0 fun f0 d0 => ?_
 have f0 := k0.nf
 refine kra d0 f0 ok15 (FH _ _ f0.il _ _ _ (f0.g 0)) fun k0 c0 b0 m0 => ?_
 refine mv m0 fun b0 k0 => ?_
 refine EA (fun ga gw => Reg ga 58 [(1, .pointer (some ⟨i0, 0, none⟩)), (2, .bool false), (12, .bool ((Df 80 dT) || (Df 80 dB))), (1000000, .bool false)] ∧ St w0 Z A6 gw [.box i0 25 [.int .i64 dK, .int .i64 dL, .string dS, .slice dTA dT.length dTc, .slice dBA dB.length dBc, .slice dCA dC.length dCc]] [n4 dTA dTc dT, n4 dBA dBc dB, Bw 1 dCA dC.length dCc (CW dC), CG dC]) 4 ?_ ?_
 refine spg 8 k0 (fun b0 m0 => ?_) fun b0 f0 => ?_
 refine lR m0 fun k0 d0 => ?_
 refine Ae ?_
 exact AC ⟨(d0.sub (rc2 (rc (rb rfl (by (simp only [b0, bl]; done))) (rc rfl rnl)))), c0⟩
 refine lR f0 fun d0 k0 => ?_
 have d0 := c0.nf
 refine kra k0 d0 ok15 (FH _ _ d0.il _ _ _ (d0.g 1)) fun c0 f0 m0 n0 => ?_
 refine lR n0 fun m0 c0 => ?_
 refine Ae ?_
 exact AC ⟨(c0.sub (rc2 (rc (rb rfl (by (simp only [b0, bl]; done))) (rc rfl rnl)))), f0⟩
 rintro c0 f0 ⟨b0, m0⟩
 refine mv b0 fun f0 c0 => ?_
 refine lOr 4 (decide (100 < (dS.size : Int))) c0 fun f0 b0 => ?_
 refine mv b0 fun f0 c0 => ?_
 refine lOr 4 (decide (10 < (dC.length : Int))) c0 fun f0 b0 => ?_
 refine wn j0 <| wcg b0 (fun j0 f0 => ?_) fun j0 c0 => ?_
 have b0 := j0
 try simp only [bz] at b0
 refine rR f0 fun b0 n0 => ?_
 refine rt n0 m0.fr ?_
 exact BQ (by exact (mu_0 (by assumption)).symm)
 have n0 := CU j0
 have b0 := CU n0
 have f0 := CU b0
 have f0 := CT b0
 have f0 := CT n0
 have n0 := Ak f0
 have n0 := CT j0
 have j0 := Ak n0
 refine Am <| xn h0 <| Ac fun h0 j0 => rR c0 fun h0 n0 => ?_
 refine A4 ?_
 refine AH (fun gn ga gw => ∃ i : Nat, (Reg ga 58 [(1, .pointer (some ⟨i0, 0, none⟩)), (1000000, .bool false), (3, .int .i64 (i : Int))]) ∧ (St w0 Z A6 gw [.box i0 25 [.int .i64 dK, .int .i64 dL, .string dS, .slice dTA dT.length dTc, .slice dBA dB.length dBc, .slice dCA dC.length dCc]] [n4 dTA dTc dT, n4 dBA dBc dB, Bw 1 dCA dC.length dCc (CW dC), CG dC]) ∧ (i ≤ dC.length) ∧ (∀ j, j < i → muL (EE (B1 dC) j) = false) ∧ (dC.length - i) = gn) _ ⟨0, (n0.sub (rc2 (rc rfl rnl))), m0, by omega, (fun _ h => by omega), rfl⟩ ?_
 rintro n0 m0 h0 ⟨i, c0, f0, hki, hi, b0⟩
 refine Ac fun b0 h0 => rR c0 fun b0 m0 => ?_
 refine wcd m0 (fun b0 c0 => ?_) fun b0 n0 => ?_
 refine Am <| xn h0 <| Ac fun h0 b0 => A4 ?_
 refine Ac fun h0 m0 => wsc fun h0 d0 => lR c0 fun h0 k0 => ?_
 refine ix i (i * 1) k0 (Cn (t := dC) (k := i) (f0.row (i := 2) rfl).2 (by omega)).some_ fun h0 c0 => ?_
 refine lde 0 (i * 1) c0 (Cn (t := dC) (k := i) (f0.row (i := 2) rfl).2 (by omega)) fun h0 k0 => ?_
 have h0 := f0.elT 3 i
 have c0 := h0.elA 3 i
 refine lR k0 fun h0 o0 => ?_
 refine wn d0 <| wcd o0 (fun d0 h0 => ?_) fun d0 k0 => ?_
 refine rR h0 fun d0 o0 => ?_
 refine rt o0 c0.fr ?_
 exact BQ (by exact (mu_1 (i := i) (by omega) (by omega)).symm)
 refine Am <| xn m0 <| rR k0 fun m0 o0 => ?_
 refine A4 ?_
 refine AH (fun gn ga gw => ∃ k : Nat, (Reg ga 58 [(1, .pointer (some ⟨i0, 0, none⟩)), (1000000, .bool false), (3, .int .i64 (i : Int)), (4, .int .i64 (k : Int))]) ∧ (St w0 Z A6 gw [.box i0 25 [.int .i64 dK, .int .i64 dL, .string dS, .slice dTA dT.length dTc, .slice dBA dB.length dBc, .slice dCA dC.length dCc]] [n4 dTA dTc dT, n4 dBA dBc dB, Bw 1 dCA dC.length dCc (CW dC), CG dC, Bw 1 ((Bm dC i).1) ((Bm dC i).2.2.length) ((Bm dC i).2.1) (B7 ((Bm dC i).2.2)), Cl ((Bm dC i).2.2)]) ∧ (k ≤ (Bm dC i).2.2.length) ∧ (∀ j, j < k → Df 80 (Ce (EE (B1 dC) i) j) = false) ∧ ((Bm dC i).2.2.length - k) = gn) _ ⟨0, (o0.sub (rc2 (rc rfl (rc rfl rnl)))), c0, by omega, (fun _ h => by omega), rfl⟩ ?_
 rintro o0 c0 i0 ⟨k, m0, k0, hkk, d0, h0⟩
 refine Ac fun h0 i0 => wsc fun h0 c0 => lR m0 fun h0 o0 => ?_
 refine ix i (i * 1) o0 (Cn (t := dC) (k := i) (k0.row (i := 2) rfl).2 (by omega)).some_ fun h0 m0 => ?_
 refine lde 0 (i * 1) m0 (Cn (t := dC) (k := i) (k0.row (i := 2) rfl).2 (by omega)) fun h0 o0 => ?_
 have h0 := k0.elT 3 i
 have k0 := h0.elA 3 i
 refine lR o0 fun h0 m0 => ?_
 refine wn c0 <| wcd m0 (fun c0 h0 => ?_) fun c0 o0 => ?_
 refine Am <| xn i0 <| Ac fun i0 c0 => A4 ?_
 refine wsc fun i0 m0 => lR h0 fun i0 p0 => ?_
 refine ix i (i * 1) p0 (Cn (t := dC) (k := i) (k0.row (i := 2) rfl).2 (by omega)).some_ fun i0 h0 => ?_
 refine lde 0 (i * 1) h0 (Cn (t := dC) (k := i) (k0.row (i := 2) rfl).2 (by omega)) fun i0 p0 => ?_
 have i0 := k0.elT 3 i
 have h0 := i0.elA 3 i
 refine mv p0 fun i0 q0 => ?_
 refine ix k (k * 1) q0 (BD (t := (Bm dC i).2.2) (k := k) (h0.row (i := 8) rfl).2 (by omega)).some_ fun i0 p0 => ?_
 refine lde 0 (k * 1) p0 (BD (t := (Bm dC i).2.2) (k := k) (h0.row (i := 8) rfl).2 (by omega)) fun i0 q0 => ?_
 have i0 := h0.el 9 k
 have h0 := i0.nf
 refine kra q0 h0 ok15 (FH _ _ h0.il _ _ ((BF ((Bm dC i).2.2) k).2.2) (h0.g 10)) fun i0 p0 t0 u0 => ?_
 refine wn m0 <| wcg u0 (fun m0 t0 => ?_) fun m0 i0 => ?_
 refine rR t0 fun m0 u0 => ?_
 refine rt u0 p0.fr ?_
 exact BQ (by exact (mu_2 (i := i) (k := k) (by omega) (by omega) (by assumption)).symm)
 refine Am <| A7 <| xn c0 <| A0 ?_
 refine mv i0 fun c0 u0 => ?_
 refine adi ((k + 1 : Nat) : Int) u0 fun c0 i0 => ?_
 refine asg i0 fun c0 u0 => ?_
 refine Ae ?_
 have c0 := p0.forget 10
 have p0 := c0.forget 9
 have c0 := p0.forget 8
 have p0 := c0.forget 7
 have c0 := p0.forget 6
 exact ⟨_, by omega, k + 1, (u0.sub (rc2 (rc rfl (rc rfl rnl)))), c0, by omega, muto d0 (mu_y (by assumption)), rfl⟩
 refine xe ?_
 refine A7 <| xn b0 <| A0 ?_
 refine mv o0 fun b0 c0 => ?_
 refine adi ((i + 1 : Nat) : Int) c0 fun b0 o0 => ?_
 refine asg o0 fun b0 c0 => ?_
 refine Ae ?_
 have b0 := k0.forget 7
 have k0 := b0.forget 6
 have b0 := k0.forget 5
 have k0 := b0.forget 4
 exact ⟨_, by omega, i + 1, (c0.sub (rc2 (rc rfl rnl))), k0, by omega, muto hi (mu_4 (k := k) (by omega) d0 (by omega)), rfl⟩
 refine xe ?_
 refine xn j0 <| rR n0 fun j0 k0 => ?_
 refine rt k0 f0.fr ?_
 exact BQ (by exact (mu_3 (by assumption) hi (by omega)).symm)
end Go.Proofs.YtpfmnpaifchleaaGreatDoor
namespace Go.Proofs.YtpfmnpaifchleaaGreatDoor
set_option linter.unusedSimpArgs false
set_option linter.unusedVariables false
section
/- The free variables of a term, counted over its nodes. -/
open Go Go.RowKit
def mxF (t : List Nd) (a : Int) (x : Int × Int) : Int := if (nth t x.1.toNat).K = 0 ∧ x.2 ≤ (nth t x.1.toNat).N then max a ((nth t x.1.toNat).N - x.2 + 1) else a
def mxS (t : List Nd) (a : Int) (pre : List (Int × Int)) : Int := pre.foldl (mxF t) a
theorem OC (t : List Nd) (a : Int) (pre : List (Int × Int)) (x : Int × Int) : mxS t a (pre ++ [x]) = mxF t (mxS t a pre) x := by simp [mxS]
theorem RB {t : List Nd} {a : Int} {i j : Nat} (h : (nth t i).K = 0) (h2 : (j : Int) ≤ (nth t i).N) : mxF t a ((i : Int), (j : Int)) = max a ((nth t i).N - (j : Int) + 1) := by
 unfold mxF
 rw [At (by simpa using ⟨h, h2⟩)]
 simp
theorem Vc {t : List Nd} {a : Int} {i j : Nat} (h : ¬ ((nth t i).K = 0 ∧ (j : Int) ≤ (nth t i).N)) : mxF t a ((i : Int), (j : Int)) = a := by
 unfold mxF
 rw [Aq (by simpa using h)]
mutual
theorem mx_T : ∀ (x : T) (t u v : List Nd) (k a : Int), x.wf = true → t = u ++ x.flat ++ v → 0 ≤ a → mxS t a (L2 u.length k x) = max a (moT (-1) k x + 1)
 | .mk n l, t, u, v, k, a, hw, ht, ha => by
  obtain ⟨h1, h2, h3⟩ := DS hw
  have hn : nth t (u.length + (AA l).length) = n := by
   rw [ht]
   simp [nth, Bi]
  have hroot : mxS t a (L2 (u.length : Int) k (.mk n l)) = mxS t (mxF t a (((u.length + (AA l).length : Nat) : Int), k)) (D9 u.length l ((binds n).map (k + ·))) := by
   simp [mxS, L2]
  rw [hroot]
  by_cases hk : n.K = 0
  ·
   have hl : l = [] := by
    have : many n = 0 := by simp [many, binds, hk, shp]
    rw [this] at h2
    exact BB h2.symm
   subst hl
   simp only [D9, mxS, List.foldl_nil, moT, hk, if_true]
   unfold mxF
   simp only [Int.toNat_natCast, hn, hk, true_and]
   by_cases q : k ≤ n.N
   · rw [At q, At ⟨by omega, .inl (by decide)⟩]
   ·
    rw [Aq q, Aq (by omega)]
    omega
  ·
   have hF : mxF t a (((u.length + (AA l).length : Nat) : Int), k) = a := by
    unfold mxF
    simp only [Int.toNat_natCast, hn, hk, false_and, if_false]
   rw [hF]
   simp only [moT, hk, if_false]
   exact mx_Ts l t u (n :: v) _ a h3 (by rw [ht, Bi]; simp) ha
theorem mx_Ts : ∀ (l : List T) (t u v : List Nd) (ks : List Int) (a : Int), T.wfs l = true → t = u ++ AA l ++ v → 0 ≤ a → mxS t a (D9 u.length l ks) = max a (Ic (-1) l ks + 1)
 | [], t, u, v, ks, a, _, _, ha => by simp only [D9, mxS, List.foldl_nil, Ic]; omega
 | y :: l, t, u, v, [], a, _, _, ha => by simp only [D9, mxS, List.foldl_nil, Ic]; omega
 | y :: l, t, u, v, k :: ks, a, hw, ht, ha => by
  obtain ⟨h1, h2⟩ := Eo hw
  rw [Bh] at ht
  have a1 := mx_Ts l t (u ++ y.flat) v ks a h2 (by rw [ht]; simp) ha
  have e : ((u ++ y.flat).length : Int) = (u.length : Int) + (y.flat.length : Int) := by simp
  rw [e] at a1
  have a2 := mx_T y t u (AA l ++ v) k (mxS t a (D9 ((u.length : Int) + (y.flat.length : Int)) l ks)) h1 (by rw [ht]; simp) (by rw [a1]; omega)
  have e2 : mxS t a (D9 (u.length : Int) (y :: l) (k :: ks)) = mxS t (mxS t a (D9 ((u.length : Int) + (y.flat.length : Int)) l ks)) (L2 (u.length : Int) k y) := by
   simp [mxS, D9]
  rw [e2, a2, a1]
  simp only [Ic]
  omega
end
theorem mx_all {t : List Nd} (hc : chk t = 0) : mxS t 0 (Cx t) = frF t := by
 obtain ⟨hw, hf, _, _⟩ := Co hc
 have h := mx_T (Bk t) t [] [] 0 0 hw (by simp [hf]) (Int.le_refl 0)
 simp only [Aj] at h
 have hm := OE (-1) (Bk t) 0
 unfold frF
 rw [At hc]
 show mxS t 0 (L2 0 0 (Bk t)) = moT (-1) 0 (Bk t) + 1
 have h' : mxS t 0 (L2 0 0 (Bk t)) = max 0 (moT (-1) 0 (Bk t) + 1) := h
 rw [h']
 omega
end
end Go.Proofs.YtpfmnpaifchleaaGreatDoor
namespace Go.Proofs.YtpfmnpaifchleaaGreatDoor
open Go Go.RowKit
set_option linter.unusedSimpArgs false
set_option linter.unusedVariables false
set_option maxRecDepth 100000
set_option maxHeartbeats 4000000
theorem FN (w0 : World) (Z : Nat → Prop) (hZ : HZ w0 Z) (n : Nd) (hShp : Cu w0 Z) (hs : n.S.size < 1000000 := by exact ax) :
    Calls Tryz.prog 89 [.agg #[.int .i64 (n.K), .int .i64 (n.N), .int .i64 (n.M), .string n.S]].toArray w0 (fun e w' => ∃ (rA0 : Option Addr) (rc0 : Nat), e = .returned (.tuple #[.slice rA0 (BI n).length rc0, .bool (right n)]) ∧ Fr A6 w0 w' ∧ (Bw 1 rA0 ((BI n).length) rc0 (BN (BI n))).φ w' (nxt Z w0 w')) := by
 have b0 := s0 (M := A6) hZ (zc (d := Br) hShp zn)
 refine AE Tryz.func89 rfl Tryz.ntmps89 rfl fun c0 d0 => ?_
 refine wsc fun c0 f0 => bxx d0 b0 fun c0 h0 i0 j0 k0 => ?_
 refine lR j0 fun i0 h0 => ?_
 refine wn f0 <| Ac fun f0 i0 => wsc fun f0 j0 => lR h0 fun f0 c0 => ?_
 have f0 := k0.nf
 refine kra c0 f0 ok126 (I6 _ _ f0.il n (f0.g 0)) fun k0 h0 d0 b0 => ?_
 refine lR b0 fun d0 k0 => ?_
 refine wn j0 <| wch k0 (fun j0 d0 => ?_) fun j0 b0 => ?_
 have hk := Ng j0
 refine Am <| xn i0 <| Ac fun i0 k0 => rR d0 fun i0 f0 => ?_
 refine A4 ?_
 refine rR f0 fun i0 d0 => ?_
 refine wcd d0 (fun i0 f0 => ?_) fun i0 c0 => ?_
 have hcn := I5 (by assumption) (by omega)
 refine wsc fun d0 m0 => lR f0 fun d0 n0 => ?_
 have d0 : (n.M) = ((n.M.toNat : Nat) : Int) := by omega
 refine Ke (n := n.M.toNat) sv n0 h0 rfl rfl rfl rfl d0 d0 AU zi3 (by omega) (by decide) fun f0 o0 p0 q0 t0 => ?_
 have o0 : (List.replicate (n.M.toNat) (0 : Int)).length = n.M.toNat := by simp
 refine lR q0 fun o0 f0 => ?_
 refine wn m0 <| rt2 f0 ?_
 have f0 : BI n = List.replicate (n.M.toNat) (0 : Int) := by unfold BI; rw [At (by assumption)]; simp [binds, i0]
 rw [f0]
 have f0 := t0.pub 1 (Bw 1 (some ⟨p0, 0, none⟩) ((List.replicate (n.M.toNat) (0 : Int) : List Int).length) ((List.replicate (n.M.toNat) (0 : Int) : List Int).length) (BN (List.replicate (n.M.toNat) (0 : Int))))
 refine ⟨(some ⟨p0, 0, none⟩), ((List.replicate (n.M.toNat) (0 : Int) : List Int).length), ?_, f0.fr, f0.rx 1⟩
 exact Bj rfl (BQ (by (simp [j0, i0]; done)))
 refine rR c0 fun f0 p0 => ?_
 refine wcd p0 (fun f0 c0 => ?_) fun f0 t0 => ?_
 have hel := Gm (by assumption) (by omega)
 refine wsc fun p0 m0 => bsl c0 h0 fun p0 o0 q0 d0 n0 => ?_
 refine lR d0 fun q0 o0 => ?_
 refine adi (n.M + 1) o0 fun q0 d0 => ?_
 have q0 : (n.M + 1) = ((n.M.toNat + 1 : Nat) : Int) := by omega
 refine Ml (i := 1) ([1]) (n.M.toNat + 1) sv d0 n0 rfl rfl rfl rfl rfl q0 (by omega) (by simp) (by simp; omega) AU Bl zi3 (by decide) fun o0 p0 c0 u0 v0 x0 y0 => ?_
 refine lR x0 fun v0 p0 => ?_
 refine wn m0 <| rt2 p0 ?_
 have p0 : BI n = ([1]) ++ List.replicate (n.M.toNat + 1) 0 := by unfold BI; rw [At (by assumption)]; simp [binds, i0, f0]
 rw [p0]
 have p0 := y0.pub 1 (Bw 1 c0 ((([1]) ++ List.replicate (n.M.toNat + 1) 0 : List Int).length) u0 (BN (([1]) ++ List.replicate (n.M.toNat + 1) 0)))
 refine ⟨c0, u0, ?_, p0.fr, p0.rx 1⟩
 exact Bj rfl (BQ (by (simp [j0, i0, f0]; done)))
 refine Am <| A7 <| xn k0 <| wsc fun k0 p0 => lR t0 fun k0 u0 => ?_
 refine Lb (i := (n.K).toNat) (j := ((n.K).toNat) * 4) sv u0 rfl rfl rfl rfl Tryz.underlying155 Q4 (by omega) (by omega) rfl (by decide) fun k0 t0 => ?_
 refine CB (j' := ((n.K).toNat) * 4) sv t0 rfl rfl rfl rfl DY rfl sz57 rfl rfl (by decide) fun k0 u0 => ?_
 obtain ⟨k0, t0, c0, y0⟩ := I1 (h0.get (i := 0) rfl) ((n.K).toNat) (by omega)
 have m0 := h0.data (Bw 1 k0 (shp ((n.K).toNat)).b.length t0 (BN (shp ((n.K).toNat)).b)) c0
 refine G8 sv u0 rfl rfl rfl 0 (((n.K).toNat) * 4) y0 rfl rfl AU rfl (by decide) fun c0 t0 => ?_
 have c0 := m0.nf
 refine krb t0 c0 ok127 (M9 _ _ c0.il _ _ ((shp ((n.K).toNat)).b) (c0.g 1) (hl := (Bo (QD _) (by omega)))) fun m0 y0 u0 k0 v0 x0 => ?_
 refine lR x0 fun v0 m0 => ?_
 refine wn p0 <| rt2 m0 ?_
 have m0 : BI n = ((shp ((n.K).toNat)).b) := by unfold BI; rw [At (by assumption)]; simp [binds, i0, f0]
 rw [m0]
 refine ⟨y0, u0, ?_, k0.fr, k0.rx 2⟩
 exact Bj rfl (BQ (by (simp [j0, i0, f0]; done)))
 refine rR b0 fun f0 i0 => ?_
 refine rt2 i0 ?_
 have i0 : BI n = [] := by unfold BI; rw [Aq (by simp [j0])]
 rw [i0]
 refine ⟨none, 0, ?_, h0.fr, ⟨Af _, RowI.nil _ _ _ _⟩⟩
 exact Bj rfl (BQ (by (simp [j0]; done)))
theorem HK (w0 : World) (Z : Nat → Prop) (tg : Nat) (tA : Option Addr) (tc : Nat) (t : List Nd) (hShp : Cu w0 Z) (ht : N4 tA tc t w0 Z) (htb : (Ct tg [.slice tA t.length tc]).φ w0 Z) (hl : t.length ≤ 1000000) (hsm : sml t) (hc : chk t = 0) :
    HV Tryz.prog 161 [.pointer (some ⟨tg, 0, none⟩)].toArray (fun x : Int × Int => #[.int .i64 x.1, .int .i64 x.2]) (Cx t) Z w0 := by
 refine GJ Tryz.func161 rfl Tryz.ntmps161 rfl [Br, n4 tA tc t, Ct tg [.slice tA t.length tc]] (by
  intro d hd
  simp only [AD, AG, or_false] at hd
  rcases hd with rfl | rfl | rfl
  exact hShp
  exact ht
  exact htb
  ) (fun lp jf jx w0 C0 M0 hY hds b0 c0 d0 => ?_)
 refine wsc fun b0 f0 => bsl c0 d0 fun b0 h0 i0 j0 k0 => ?_
 refine aw j0 f0 fun h0 b0 => ?_
 refine wsc fun f0 h0 => BR sv b0 rfl rfl rfl (Bn (k0.get (i := 3) rfl) rfl) Au rfl (by decide) fun f0 j0 => ?_
 refine lR j0 fun f0 b0 => ?_
 refine sbi ((t.length : Int) - 1) b0 fun f0 j0 => ?_
 refine aw j0 h0 fun f0 b0 => ?_
 refine A4 ?_
 refine AH (fun gn ga gw => ∃ k : Nat, ∃ Ts : List T, ∃ us : List Int, ∃ Ao : Option Addr, ∃ co : Nat, (Reg ga 55 [(1000000, .bool false), (0, .func (.yield lp) #[] #[]), (1, .pointer (some ⟨tg, 0, none⟩)), (4, .int .i64 ((t.length : Int) - (k : Int) - 1)), (3, .slice Ao ((us).length) co)]) ∧ (St w0 (ED w0) M0 gw [.row Ao ((us).length) co 3 1 (BN us)] [dJ jf ((Cx t).take k) C0 M0 w0.heap.size, Br, n4 tA tc t, Ct tg [.slice tA t.length tc]]) ∧ (k ≤ t.length) ∧ (VInv t k Ts us) ∧ (t.length - k) = gn) _ ⟨0, [Bk t], [0], (some ⟨i0, 0, none⟩), 1, (b0.sub (rc4 (rc rfl rnl))), k0, by omega, VInv.zero hc, rfl⟩ ?_
 rintro b0 k0 i0 ⟨k, Ts, us, Ao, co, h0, f0, hk, hv, j0⟩
 refine Ac fun j0 i0 => rR h0 fun j0 k0 => ?_
 refine wcd k0 (fun j0 h0 => ?_) fun j0 b0 => ?_
 obtain ⟨hvr, hu0, hul, hub, hpre, Ts', hv'⟩ := hv.step (by omega)
 refine Am <| xn i0 <| Ac fun i0 j0 => A4 ?_
 refine wsc fun i0 k0 => lR h0 fun i0 d0 => ?_
 refine sbi (((us).length : Int) - 1) d0 fun i0 h0 => ?_
 refine ix (((us).length) - (1)) ((((us).length) - (1)) * 1) h0 (EZ (t := us) (k := ((us).length) - (1)) (f0.res (i := 0) rfl) (by omega)).some_ fun i0 d0 => ?_
 refine lde 0 ((((us).length) - (1)) * 1) d0 (EZ (t := us) (k := ((us).length) - (1)) (f0.res (i := 0) rfl) (by omega)) fun i0 h0 => ?_
 refine aw h0 k0 fun i0 d0 => ?_
 refine wsc fun k0 i0 => lR d0 fun k0 h0 => ?_
 refine sbi (((us).length : Int) - 1) h0 fun k0 d0 => ?_
 have k0 := Db (f0.res (i := 0) rfl)
 refine Ez (q := ((us).length) - (1)) sv d0 rfl rfl rfl rfl (by omega) AU sz3 (by omega) (by decide) fun k0 h0 => ?_
 refine aw h0 i0 fun k0 d0 => ?_
 refine Ac fun i0 k0 => Ac fun i0 h0 => F0 ?_
 refine CI (B2 rfl rfl) d0 rfl rfl rfl (by decide) fun i0 c0 => ?_
 refine CI (B2 rfl rfl) c0 rfl rfl rfl (by decide) fun i0 d0 => ?_
 refine CI (B2 rfl rfl) d0 rfl rfl rfl (by decide) fun i0 c0 => ?_
 have i0 := f0.nf
 refine L4 (t := .tmp 29) (xs := [.tmp 30, .tmp 31]) (pre := (Cx t).take k) (i := 0) (ds0 := [Br, n4 tA tc t, Ct tg [.slice tA t.length tc]]) hY rfl c0 i0 rfl rfl rfl rfl (by decide) ((((t.length : Int) - (k : Int) - 1), (Ci us (((us).length) - (1)))) : Int × Int) rfl rfl (hpre.symm ▸ List.take_prefix _ _) hds (fun d0 m0 n0 o0 => ?_) fun d0 m0 n0 o0 => ?_
 refine GX (B2 rfl rfl) n0 rfl rfl rfl (by decide) fun m0 d0 => ?_
 refine Fa ?_
 refine xn h0 <| CP (d0.ev rfl) ?_
 refine Am <| xn k0 <| wsc fun k0 m0 => BR sv d0 rfl rfl rfl (Bn (o0.get (i := 3) rfl) rfl) Au rfl (by decide) fun k0 i0 => ?_
 refine mv i0 fun k0 d0 => ?_
 refine ix ((t.length) - (k + 1)) (((t.length) - (k + 1)) * 4) d0 (Bp (t := t) (k := (t.length) - (k + 1)) (o0.row (i := 2) rfl).2 (by omega)).some_ fun k0 i0 => ?_
 refine Cw sv i0 rfl rfl rfl (Bp (t := t) (k := (t.length) - (k + 1)) (o0.row (i := 2) rfl).2 (by omega)) Ar rfl DK (by decide) fun k0 d0 => ?_
 have k0 := o0.nf
 refine krb d0 k0 ok89 (FN _ _ k0.il (nth t ((t.length) - (k + 1))) (k0.g 1) (hs := (hsm _ (by omega)))) fun i0 c0 p0 q0 s0 t0 => ?_
 refine lR t0 fun s0 i0 => ?_
 refine wn m0 <| rR i0 fun m0 s0 => ?_
 refine A4 ?_
 have m0 := q0.trim CC (i := 0) (L := us) rfl (us.length - 1) (by omega)
 have q0 : (us).take (us.length - 1) = us.take (us.length - 1) ++ ((BI (nth t (t.length - (k + 1)))).take 0).map (Ci us (us.length - 1) + ·) := by simp
 have i0 := m0
 simp only [List.set_cons_zero, List.set_cons_succ, List.set_nil] at i0
 rw [q0] at i0
 refine AH (fun gn ga gw => ∃ j : Nat, ∃ Al : Option Addr, ∃ cl : Nat, (Reg ga 55 [(1000000, .bool false), (0, .func (.yield lp) #[] #[]), (1, .pointer (some ⟨tg, 0, none⟩)), (4, .int .i64 ((t.length : Int) - (k : Int) - 1)), (5, .int .i64 (Ci us (((us).length) - (1)))), (42, .slice c0 ((BI (nth t ((t.length) - (k + 1)))).length) p0), (43, .int .i64 ((BI (nth t ((t.length) - (k + 1)))).length : Int)), (44, .int .i64 (j : Int)), (3, .slice Al ((us.take (us.length - 1) ++ ((BI (nth t (t.length - (k + 1)))).take j).map (Ci us (us.length - 1) + ·)).length) cl)]) ∧ (St w0 (ED w0) M0 gw [.row Al ((us.take (us.length - 1) ++ ((BI (nth t (t.length - (k + 1)))).take j).map (Ci us (us.length - 1) + ·)).length) cl 3 1 (BN (us.take (us.length - 1) ++ ((BI (nth t (t.length - (k + 1)))).take j).map (Ci us (us.length - 1) + ·)))] [dJ jf ((Cx t).take k ++ [((((t.length : Int) - (k : Int) - 1), (Ci us (((us).length) - (1)))) : Int × Int)]) C0 M0 w0.heap.size, Br, n4 tA tc t, Ct tg [.slice tA t.length tc], Bw 1 c0 ((BI (nth t ((t.length) - (k + 1)))).length) p0 (BN (BI (nth t ((t.length) - (k + 1)))))]) ∧ (j ≤ (BI (nth t (t.length - (k + 1)))).length) ∧ ((BI (nth t (t.length - (k + 1)))).length - j) = gn) _ ⟨0, Ao, co, (s0.sub (rc4 (rc4 (rc (rs rfl (by simp)) rnl)))), i0, by omega, rfl⟩ ?_
 rintro i0 s0 p0 ⟨j, Al, cl, c0, q0, hj, m0⟩
 have hbl := F2 (nth t (t.length - (k + 1)))
 have hbj := Kx (n := nth t (t.length - (k + 1))) j
 have hjl : (us.take (us.length - 1) ++ ((BI (nth t (t.length - (k + 1)))).take j).map (Ci us (us.length - 1) + ·)).length ≤ t.length + 8 := by have := F2 (nth t (t.length - (k + 1))); rw [Ab, Ah, BT, Ah]; omega
 refine rR c0 fun m0 p0 => ?_
 refine Ac fun m0 c0 => wcd p0 (fun m0 s0 => ?_) fun m0 i0 => ?_
 refine Am <| xn c0 <| Ac fun c0 m0 => A4 ?_
 refine wsc fun c0 p0 => ix j (j * 1) s0 (Ds (t := BI (nth t ((t.length) - (k + 1)))) (k := j) (q0.row (i := 4) rfl).2 (by omega)).some_ fun c0 t0 => ?_
 refine lde 0 (j * 1) t0 (Ds (t := BI (nth t ((t.length) - (k + 1)))) (k := j) (q0.row (i := 4) rfl).2 (by omega)) fun c0 s0 => ?_
 refine asg s0 fun c0 t0 => ?_
 refine Ae (AC (p0 _ _ (A0 ?_)))
 refine lR t0 fun p0 c0 => ?_
 refine adi ((Ci us (((us).length) - (1))) + (Ci (BI (nth t ((t.length) - (k + 1)))) j)) c0 fun p0 t0 => ?_
 refine bsl t0 q0 fun p0 c0 s0 k0 d0 => ?_
 refine BL (f := EI) (i := 0) (us.take (us.length - 1) ++ ((BI (nth t (t.length - (k + 1)))).take j).map (Ci us (us.length - 1) + ·)) ([((Ci us (((us).length) - (1))) + (Ci (BI (nth t ((t.length) - (k + 1)))) j))]) sv k0 d0 rfl rfl rfl rfl rfl CC (Do _) AU zi3 rfl rfl (BU (f := EI) (d0.res (i := 1) rfl)) rfl (by (simp only [Ad, Aj]; omega)) (by decide) fun s0 c0 p0 t0 u0 v0 x0 => ?_
 have u0 : ((us.take (us.length - 1) ++ ((BI (nth t (t.length - (k + 1)))).take j).map (Ci us (us.length - 1) + ·)) ++ ([((Ci us (((us).length) - (1))) + (Ci (BI (nth t ((t.length) - (k + 1)))) j))]) : List Int).length = (us.take (us.length - 1) ++ ((BI (nth t (t.length - (k + 1)))).take j).map (Ci us (us.length - 1) + ·)).length + 1 := by (simp only [Ab, Ah, Ad, Aj]; done)
 have u0 := x0.erase 1
 refine asg v0 fun x0 c0 => ?_
 refine Ae ?_
 refine A7 <| xn m0 <| A0 ?_
 refine adi ((j + 1 : Nat) : Int) c0 fun m0 x0 => ?_
 refine mv x0 fun m0 c0 => ?_
 refine Ae ?_
 have m0 : (us.take (us.length - 1) ++ ((BI (nth t (t.length - (k + 1)))).take j).map (Ci us (us.length - 1) + ·)) ++ ([((Ci us (((us).length) - (1))) + (Ci (BI (nth t ((t.length) - (k + 1)))) j))]) = us.take (us.length - 1) ++ ((BI (nth t (t.length - (k + 1)))).take (j + 1)).map (Ci us (us.length - 1) + ·) := by rw [OH (by omega), ← BG]
 have x0 := c0
 have c0 := u0
 rw [m0] at x0 c0
 exact ⟨_, by omega, j + 1, p0, t0, (x0.sub (rc4 (rc4 (rc rfl rnl)))), c0, by omega, rfl⟩
 refine xe ?_
 refine A7 <| xn j0 <| A0 ?_
 refine mv i0 fun j0 c0 => ?_
 refine sbi ((t.length : Int) - (k : Int) - 2) c0 fun j0 i0 => ?_
 refine asg i0 fun j0 c0 => ?_
 refine Ae ?_
 have j0 : us.take (us.length - 1) ++ ((BI (nth t (t.length - (k + 1)))).take j).map (Ci us (us.length - 1) + ·) = us.take (us.length - 1) ++ (BI (nth t (t.length - (k + 1)))).map (Ci us (us.length - 1) + ·) := by rw [show j = (BI (nth t (t.length - (k + 1)))).length by omega, CQ]
 have i0 := c0
 have c0 := q0
 rw [j0] at i0 c0
 have j0 : (Cx t).take k ++ [((((t.length : Int) - (k : Int) - 1), (Ci us (((us).length) - (1)))) : Int × Int)] = (Cx t).take (k + 1) := hpre
 have q0 := c0
 rw [j0] at q0
 have j0 := q0.forget 4
 exact ⟨_, by omega, k + 1, Ts', _, Al, cl, (i0.sub (rc2 (rc rfl (rc (ri rfl (by omega)) (rc rfl rnl))))), j0, by omega, hv', rfl⟩
 refine GX (B2 rfl rfl) n0 rfl rfl rfl (by decide) fun j0 i0 => ?_
 refine Fa ?_
 refine xn h0 <| CF (i0.ev rfl) ?_
 refine BV <| AX <| Bf <| AX <| AX <| Bf <| Kr i0 rfl rfl ?_
 exact IY o0 (i := 0) rfl (hpre.symm ▸ List.take_prefix _ _)
 refine xe ?_
 refine Jc b0 rfl rfl ?_
 exact ON f0 (i := 0) rfl (hv.all (by omega))
theorem KM (w0 : World) (Z : Nat → Prop) (tg : Nat) (tA : Option Addr) (tc : Nat) (t : List Nd) (hShp : Cu w0 Z) (ht : N4 tA tc t w0 Z) (htb : (Ct tg [.slice tA t.length tc]).φ w0 Z) (hl : t.length ≤ 1000000) (hsm : sml t) :
    HV Tryz.prog 88 [.pointer (some ⟨tg, 0, none⟩)].toArray (fun x : Int × Int => #[.int .i64 x.1, .int .i64 x.2]) (O4 t) Z w0 := by
 refine GJ Tryz.func88 rfl Tryz.ntmps88 rfl [Br, n4 tA tc t, Ct tg [.slice tA t.length tc]] (by
  intro d hd
  simp only [AD, AG, or_false] at hd
  rcases hd with rfl | rfl | rfl
  exact hShp
  exact ht
  exact htb
  ) (fun lp jf jx w0 C0 M0 hY hds b0 c0 d0 => ?_)
 refine wp_scope_straight ?_
 refine rR c0 fun b0 f0 => ?_
 refine rR f0 fun b0 c0 => ?_
 refine Ac fun b0 f0 => wp_label ?_
 refine xn f0 <| wsc fun f0 b0 => BR sv c0 rfl rfl rfl (Bn (d0.get (i := 3) rfl) rfl) Au rfl (by decide) fun f0 h0 => ?_
 refine lR h0 fun f0 c0 => ?_
 refine sbi ((t.length : Int) - 1) c0 fun f0 h0 => ?_
 refine aw h0 b0 fun f0 c0 => ?_
 refine A4 ?_
 refine AH (fun gn ga gw => ∃ k : Nat, (Reg ga 44 [(1000000, .bool false), (0, .func (.yield lp) #[] #[]), (1, .pointer (some ⟨tg, 0, none⟩)), (3, .int .i64 ((prS t k).2.2)), (4, .int .i64 ((prS t k).2.1)), (5, .int .i64 ((t.length : Int) - (k : Int) - 1))]) ∧ (St w0 (ED w0) M0 gw [] [dJ jf ((prS t k).1) C0 M0 w0.heap.size, Br, n4 tA tc t, Ct tg [.slice tA t.length tc]]) ∧ (k ≤ t.length) ∧ (t.length - k) = gn) _ ⟨0, (c0.sub (rc4 (rc rfl (rc rfl rnl)))), d0, by omega, rfl⟩ ?_
 rintro c0 d0 b0 ⟨k, f0, h0, hk, i0⟩
 obtain ⟨hpb1, hpb2, hpb3, hpb4⟩ := Me t k (by omega)
 have hbl := F2 (nth t (t.length - (k + 1)))
 refine Ac fun i0 b0 => rR f0 fun i0 d0 => ?_
 refine wcd d0 (fun i0 f0 => ?_) fun i0 c0 => ?_
 refine Am <| xn b0 <| Ac fun b0 i0 => A4 ?_
 refine Ac fun b0 d0 => rR f0 fun b0 j0 => ?_
 refine wcd j0 (fun b0 f0 => ?_) fun b0 k0 => ?_
 refine Ac fun b0 j0 => wsc fun b0 m0 => BR sv f0 rfl rfl rfl (Bn (h0.get (i := 3) rfl) rfl) Au rfl (by decide) fun b0 n0 => ?_
 refine mv n0 fun b0 f0 => ?_
 refine ix ((t.length) - (k + 1)) (((t.length) - (k + 1)) * 4) f0 (Bp (t := t) (k := (t.length) - (k + 1)) (h0.row (i := 2) rfl).2 (by omega)).some_ fun b0 n0 => ?_
 refine CB (j' := ((t.length) - (k + 1)) * 4) sv n0 rfl rfl rfl (Bp (t := t) (k := (t.length) - (k + 1)) (h0.row (i := 2) rfl).2 (by omega)).some_ Ar rfl sz3 rfl rfl (by decide) fun b0 f0 => ?_
 refine lde 0 (((t.length) - (k + 1)) * 4) f0 (Bp (t := t) (k := (t.length) - (k + 1)) (h0.row (i := 2) rfl).2 (by omega)) fun b0 n0 => ?_
 refine lR n0 fun b0 f0 => ?_
 refine wn m0 <| wce f0 (fun m0 b0 => ?_) fun m0 n0 => ?_
 refine Am <| xn j0 <| A0 ?_
 refine lR b0 fun j0 m0 => ?_
 refine wn d0 <| wsc fun j0 b0 => BR sv m0 rfl rfl rfl (Bn (h0.get (i := 3) rfl) rfl) Au rfl (by decide) fun j0 f0 => ?_
 refine mv f0 fun j0 m0 => ?_
 refine ix ((t.length) - (k + 1)) (((t.length) - (k + 1)) * 4) m0 (Bp (t := t) (k := (t.length) - (k + 1)) (h0.row (i := 2) rfl).2 (by omega)).some_ fun j0 f0 => ?_
 refine Cw sv f0 rfl rfl rfl (Bp (t := t) (k := (t.length) - (k + 1)) (h0.row (i := 2) rfl).2 (by omega)) Ar rfl DK (by decide) fun j0 m0 => ?_
 have j0 := h0.nf
 refine krb m0 j0 ok89 (FN _ _ j0.il (nth t ((t.length) - (k + 1))) (j0.g 1) (hs := (hsm _ (by omega)))) fun f0 o0 p0 q0 s0 t0 => ?_
 refine lR t0 fun s0 p0 => ?_
 refine wn b0 <| Ac fun b0 s0 => wsc fun b0 t0 => lR p0 fun b0 o0 => ?_
 refine sbi (((BI (nth t ((t.length) - (k + 1)))).length : Int) - 1) o0 fun b0 p0 => ?_
 refine adi ((BI (nth t ((t.length) - (k + 1)))).length : Int) p0 fun b0 o0 => ?_
 refine aw o0 t0 fun b0 p0 => ?_
 refine rR p0 fun t0 b0 => ?_
 refine wcd b0 (fun t0 p0 => ?_) fun t0 o0 => ?_
 refine xe ?_
 refine xn i0 <| A0 ?_
 refine mv p0 fun t0 b0 => ?_
 refine sbi ((t.length : Int) - (k : Int) - 2) b0 fun t0 p0 => ?_
 refine asg p0 fun t0 b0 => ?_
 refine Ae ?_
 have hst := TB (t := t) (k := k) (n := ((BI (nth t ((t.length) - (k + 1)))).length : Int)) (r := (t.length : Int) - (k : Int) - 1) (by omega) (by omega) (by omega) (by omega) (by omega)
 have t0 : (prS t k).1 = (prS t (k + 1)).1 := by rw [hst]
 have p0 := q0
 rw [t0] at p0
 have t0 := p0.forget 4
 exact ⟨_, by omega, k + 1, (b0.sub (rc2 (rc rfl (rc (ri rfl (by simp only [hst])) (rc (ri rfl (by simp only [hst])) (rc (ri rfl (by omega)) rnl)))))), t0, by omega, rfl⟩
 refine Am <| xn s0 <| Ac fun s0 t0 => Ac fun s0 b0 => F0 ?_
 refine CI (B2 rfl rfl) o0 rfl rfl rfl (by decide) fun s0 p0 => ?_
 refine CI (B2 rfl rfl) p0 rfl rfl rfl (by decide) fun s0 o0 => ?_
 refine CI (B2 rfl rfl) o0 rfl rfl rfl (by decide) fun s0 p0 => ?_
 have s0 := q0.nf
 refine L4 (t := .tmp 39) (xs := [.tmp 40, .tmp 41]) (pre := (prS t k).1) (i := 0) (ds0 := [Br, n4 tA tc t, Ct tg [.slice tA t.length tc]]) hY rfl p0 s0 rfl rfl rfl rfl (by decide) ((((t.length : Int) - (k : Int) - 1), ((t.length : Int) - (k : Int) - 1)) : Int × Int) rfl rfl (by have hst := KO (t := t) (k := k) (n := ((BI (nth t ((t.length) - (k + 1)))).length : Int)) (r := (t.length : Int) - (k : Int) - 1) (by omega) (by omega) (by omega) (by omega) (by omega); have hpp := Ii (t := t) (k := k + 1) (by omega); rw [hst] at hpp; exact hpp) hds (fun q0 o0 f0 j0 => ?_) fun q0 o0 f0 j0 => ?_
 refine GX (B2 rfl rfl) f0 rfl rfl rfl (by decide) fun o0 q0 => ?_
 refine Fa ?_
 refine xn b0 <| CP (q0.ev rfl) ?_
 refine Am <| xn t0 <| A0 ?_
 refine asg q0 fun t0 o0 => ?_
 refine Ae ?_
 refine A7 <| xn i0 <| A0 ?_
 refine mv o0 fun t0 q0 => ?_
 refine sbi ((t.length : Int) - (k : Int) - 2) q0 fun t0 o0 => ?_
 refine asg o0 fun t0 q0 => ?_
 refine Ae ?_
 have hst := KO (t := t) (k := k) (n := ((BI (nth t ((t.length) - (k + 1)))).length : Int)) (r := (t.length : Int) - (k : Int) - 1) (by omega) (by omega) (by omega) (by omega) (by omega)
 have t0 : (prS t k).1 ++ [((((t.length : Int) - (k : Int) - 1), ((t.length : Int) - (k : Int) - 1)) : Int × Int)] = (prS t (k + 1)).1 := by rw [hst]
 have o0 := j0
 rw [t0] at o0
 exact ⟨_, by omega, k + 1, (q0.sub (rc2 (rc rfl (rc (ri rfl (by simp only [hst])) (rc (ri rfl (by simp only [hst])) (rc (ri rfl (by omega)) rnl)))))), o0, by omega, rfl⟩
 refine GX (B2 rfl rfl) f0 rfl rfl rfl (by decide) fun o0 q0 => ?_
 refine Fa ?_
 refine xn b0 <| CF (q0.ev rfl) ?_
 refine BV <| AX <| Bf <| AX <| AX <| Bf <| L5 ?_
 refine Kr q0 rfl rfl ?_
 exact IY j0 (i := 0) rfl (by have hst := KO (t := t) (k := k) (n := ((BI (nth t ((t.length) - (k + 1)))).length : Int)) (r := (t.length : Int) - (k : Int) - 1) (by omega) (by omega) (by omega) (by omega) (by omega); have hpp := Ii (t := t) (k := k + 1) (by omega); rw [hst] at hpp; exact hpp)
 refine xe ?_
 refine xn i0 <| A0 ?_
 refine mv n0 fun j0 q0 => ?_
 refine sbi ((t.length : Int) - (k : Int) - 2) q0 fun j0 n0 => ?_
 refine asg n0 fun j0 q0 => ?_
 refine Ae ?_
 have hst := T9 (t := t) (k := k) (by omega) (by omega)
 have j0 : (prS t k).1 = (prS t (k + 1)).1 := by rw [hst]
 have n0 := h0
 rw [j0] at n0
 exact ⟨_, by omega, k + 1, (q0.sub (rc2 (rc rfl (rc (ri rfl (by simp only [hst])) (rc (ri rfl (by simp only [hst])) (rc (ri rfl (by omega)) rnl)))))), n0, by omega, rfl⟩
 refine Am <| xn d0 <| wsc fun d0 n0 => BR sv k0 rfl rfl rfl (Bn (h0.get (i := 3) rfl) rfl) Au rfl (by decide) fun d0 q0 => ?_
 refine mv q0 fun d0 k0 => ?_
 refine ix ((t.length) - (k + 1)) (((t.length) - (k + 1)) * 4) k0 (Bp (t := t) (k := (t.length) - (k + 1)) (h0.row (i := 2) rfl).2 (by omega)).some_ fun d0 q0 => ?_
 refine Cw sv q0 rfl rfl rfl (Bp (t := t) (k := (t.length) - (k + 1)) (h0.row (i := 2) rfl).2 (by omega)) Ar rfl DK (by decide) fun d0 k0 => ?_
 have d0 := h0.nf
 refine krb k0 d0 ok89 (FN _ _ d0.il (nth t ((t.length) - (k + 1))) (d0.g 1) (hs := (hsm _ (by omega)))) fun q0 j0 b0 o0 f0 t0 => ?_
 refine lR t0 fun f0 b0 => ?_
 refine wn n0 <| Ac fun n0 f0 => wsc fun n0 t0 => lR b0 fun n0 j0 => ?_
 refine sbi (((BI (nth t ((t.length) - (k + 1)))).length : Int) - 1) j0 fun n0 b0 => ?_
 refine adi (((prS t k).2.2) + ((BI (nth t ((t.length) - (k + 1)))).length : Int) - 1) b0 fun n0 j0 => ?_
 refine aw j0 t0 fun n0 b0 => ?_
 refine rR b0 fun t0 n0 => ?_
 refine wcd n0 (fun t0 b0 => ?_) fun t0 j0 => ?_
 refine xe ?_
 refine xn i0 <| A0 ?_
 refine mv b0 fun t0 n0 => ?_
 refine sbi ((t.length : Int) - (k : Int) - 2) n0 fun t0 b0 => ?_
 refine asg b0 fun t0 n0 => ?_
 refine Ae ?_
 have hst := prS_on (t := t) (k := k) (n := (((prS t k).2.2) + ((BI (nth t ((t.length) - (k + 1)))).length : Int) - 1)) (by omega) (by omega) (by omega)
 have t0 : (prS t k).1 = (prS t (k + 1)).1 := by rw [hst]
 have b0 := o0
 rw [t0] at b0
 have t0 := b0.forget 4
 exact ⟨_, by omega, k + 1, (n0.sub (rc2 (rc rfl (rc (ri rfl (by simp only [hst])) (rc (ri rfl (by simp only [hst])) (rc (ri rfl (by omega)) rnl)))))), t0, by omega, rfl⟩
 refine Am <| xn f0 <| Ac fun f0 t0 => Ac fun f0 n0 => F0 ?_
 refine CI (B2 rfl rfl) j0 rfl rfl rfl (by decide) fun f0 b0 => ?_
 refine CI (B2 rfl rfl) b0 rfl rfl rfl (by decide) fun f0 j0 => ?_
 refine CI (B2 rfl rfl) j0 rfl rfl rfl (by decide) fun f0 b0 => ?_
 have f0 := o0.nf
 refine L4 (t := .tmp 39) (xs := [.tmp 40, .tmp 41]) (pre := (prS t k).1) (i := 0) (ds0 := [Br, n4 tA tc t, Ct tg [.slice tA t.length tc]]) hY rfl b0 f0 rfl rfl rfl rfl (by decide) ((((t.length : Int) - (k : Int) - 1), ((prS t k).2.1)) : Int × Int) rfl rfl (by have hst := Nt (t := t) (k := k) (n := (((prS t k).2.2) + ((BI (nth t ((t.length) - (k + 1)))).length : Int) - 1)) (i := (t.length : Int) - (k : Int) - 1) (by omega) (by omega) (by omega) (by omega); have hpp := Ii (t := t) (k := k + 1) (by omega); rw [hst] at hpp; exact hpp) hds (fun o0 j0 q0 d0 => ?_) fun o0 j0 q0 d0 => ?_
 refine GX (B2 rfl rfl) q0 rfl rfl rfl (by decide) fun j0 o0 => ?_
 refine Fa ?_
 refine xn n0 <| CP (o0.ev rfl) ?_
 refine Am <| xn t0 <| A0 ?_
 refine asg o0 fun t0 j0 => ?_
 refine Ae ?_
 refine A7 <| xn i0 <| A0 ?_
 refine mv j0 fun i0 t0 => ?_
 refine sbi ((t.length : Int) - (k : Int) - 2) t0 fun i0 j0 => ?_
 refine asg j0 fun i0 t0 => ?_
 refine Ae ?_
 have hst := Nt (t := t) (k := k) (n := (((prS t k).2.2) + ((BI (nth t ((t.length) - (k + 1)))).length : Int) - 1)) (i := (t.length : Int) - (k : Int) - 1) (by omega) (by omega) (by omega) (by omega)
 have i0 : (prS t k).1 ++ [((((t.length : Int) - (k : Int) - 1), ((prS t k).2.1)) : Int × Int)] = (prS t (k + 1)).1 := by rw [hst]
 have j0 := d0
 rw [i0] at j0
 exact ⟨_, by omega, k + 1, (t0.sub (rc2 (rc rfl (rc (ri rfl (by simp only [hst])) (rc (ri rfl (by simp only [hst])) (rc (ri rfl (by omega)) rnl)))))), j0, by omega, rfl⟩
 refine GX (B2 rfl rfl) q0 rfl rfl rfl (by decide) fun j0 t0 => ?_
 refine Fa ?_
 refine xn n0 <| CF (t0.ev rfl) ?_
 refine BV <| AX <| Bf <| AX <| AX <| Bf <| L5 ?_
 refine Kr t0 rfl rfl ?_
 exact IY d0 (i := 0) rfl (by have hst := Nt (t := t) (k := k) (n := (((prS t k).2.2) + ((BI (nth t ((t.length) - (k + 1)))).length : Int) - 1)) (i := (t.length : Int) - (k : Int) - 1) (by omega) (by omega) (by omega) (by omega); have hpp := Ii (t := t) (k := k + 1) (by omega); rw [hst] at hpp; exact hpp)
 refine xe ?_
 refine Ql ?_
 refine Jc c0 rfl rfl ?_
 exact ON h0 (i := 0) rfl (by rw [show k = t.length by omega]; rfl)
theorem J6 (w0 : World) (Z : Nat → Prop) (hZ : HZ w0 Z) (tA : Option Addr) (tc : Nat) (t : List Nd) (ht : N4 tA tc t w0 Z) (hl : t.length ≤ 1000000 := by exact ax) :
    Calls Tryz.prog 54 [.slice tA t.length tc].toArray w0 (fun e w' => ∃ q0_0 : Nat, e = .returned (.func (.func 88) #[] #[.pointer (some ⟨q0_0, 0, none⟩)]) ∧ Fr A6 w0 w' ∧ (Ct q0_0 [.slice tA t.length tc]).φ w' (nxt Z w0 w')) := by
 have b0 := s0 (M := A6) hZ (zc ht zn)
 refine AE Tryz.func54 rfl Tryz.ntmps54 rfl fun c0 d0 => ?_
 refine wsc fun c0 f0 => bxx d0 b0 fun c0 h0 i0 j0 k0 => ?_
 refine aw j0 f0 fun h0 c0 => ?_
 refine wsc fun f0 h0 => C8 sv c0 rfl rfl rfl (by decide) fun f0 j0 => ?_
 refine aw j0 h0 fun f0 c0 => ?_
 refine rt1 c0 ?_
 obtain ⟨c0, h0⟩ := k0.box_data (i := 0) rfl (fun _ h => h)
 have k0 := c0.data (Ct i0 [.slice tA t.length tc]) h0
 refine ⟨i0, ?_, k0.fr, ((k0.get (i := 1) rfl).imp Fl id)⟩
 exact cre rfl
theorem Hf (w0 : World) (Z : Nat → Prop) (hZ : HZ w0 Z) (tA : Option Addr) (tc : Nat) (t : List Nd) (ht : N4 tA tc t w0 Z) (hl : t.length ≤ 1000000 := by exact ax) :
    Calls Tryz.prog 154 [.slice tA t.length tc].toArray w0 (fun e w' => ∃ q0_0 : Nat, e = .returned (.func (.func 161) #[] #[.pointer (some ⟨q0_0, 0, none⟩)]) ∧ Fr A6 w0 w' ∧ (Ct q0_0 [.slice tA t.length tc]).φ w' (nxt Z w0 w')) := by
 have b0 := s0 (M := A6) hZ (zc ht zn)
 refine AE Tryz.func154 rfl Tryz.ntmps154 rfl fun c0 d0 => ?_
 refine wsc fun c0 f0 => bxx d0 b0 fun c0 h0 i0 j0 k0 => ?_
 refine aw j0 f0 fun h0 c0 => ?_
 refine wsc fun f0 h0 => C8 sv c0 rfl rfl rfl (by decide) fun f0 j0 => ?_
 refine aw j0 h0 fun f0 c0 => ?_
 refine rt1 c0 ?_
 obtain ⟨c0, h0⟩ := k0.box_data (i := 0) rfl (fun _ h => h)
 have k0 := c0.data (Ct i0 [.slice tA t.length tc]) h0
 refine ⟨i0, ?_, k0.fr, ((k0.get (i := 1) rfl).imp Fl id)⟩
 exact cre rfl
theorem Ck (w0 : World) (Z : Nat → Prop) (hZ : HZ w0 Z) (b : Bool) (x : Int)  :
    Calls Tryz.prog 80 [.bool b, .int .i64 x].toArray w0 (fun e w' => ∃ q0_0 : Nat, ∃ q0_1 : Nat, e = .returned (.func (.func 114) #[] #[.pointer (some ⟨q0_0, 0, none⟩), .pointer (some ⟨q0_1, 0, none⟩)]) ∧ Fr A6 w0 w' ∧ (Ct q0_0 [.bool b]).φ w' (nxt Z w0 w') ∧ (Ct q0_1 [.int .i64 x]).φ w' (nxt Z w0 w')) := by
 have b0 := s0 (M := A6) hZ zn
 refine AE Tryz.func80 rfl Tryz.ntmps80 rfl fun c0 d0 => ?_
 refine wsc fun c0 f0 => bxx d0 b0 fun c0 h0 i0 j0 k0 => ?_
 refine bxx j0 k0 fun h0 c0 d0 b0 m0 => ?_
 refine aw b0 f0 fun c0 h0 => ?_
 refine wsc fun f0 c0 => C8 sv h0 rfl rfl rfl (by decide) fun f0 b0 => ?_
 refine aw b0 c0 fun f0 h0 => ?_
 refine rt1 h0 ?_
 obtain ⟨h0, c0⟩ := m0.box_data (i := 0) rfl (fun _ h => h)
 have m0 := h0.data (Ct i0 [.bool b]) c0
 obtain ⟨c0, h0⟩ := m0.box_data (i := 0) rfl (fun _ h => h)
 have m0 := c0.data (Ct d0 [.int .i64 x]) h0
 refine ⟨i0, d0, ?_, m0.fr, ((m0.get (i := 0) rfl).imp Fl id), ((m0.get (i := 1) rfl).imp Fl id)⟩
 exact cre rfl
theorem D4 (w0 : World) (Z : Nat → Prop) (hZ : HZ w0 Z) (pg : Nat) (pb : Bool) (qg : Nat) (qe : Int) (hpQ : (Ct pg [.bool pb]).φ w0 Z) (hqQ : (Ct qg [.int .i64 qe]).φ w0 Z) :
    Calls Tryz.prog 114 [.pointer (some ⟨pg, 0, none⟩), .pointer (some ⟨qg, 0, none⟩)].toArray w0 (fun e w' => e = .returned (.int .i64 (mkI (!pb) qe)) ∧ Fr A6 w0 w') := by
 have b0 := s0 (M := A6) hZ (zc hpQ (zc hqQ zn))
 refine AE Tryz.func114 rfl Tryz.ntmps114 rfl fun c0 d0 => ?_
 refine rR d0 fun c0 f0 => ?_
 refine Ac fun c0 d0 => wsc fun c0 h0 => BR sv f0 rfl rfl rfl (Bn (b0.get (i := 0) rfl) rfl) C2 rfl (by decide) fun c0 i0 => ?_
 refine wn h0 <| wcg i0 (fun h0 c0 => ?_) fun h0 f0 => ?_
 refine rR c0 fun i0 j0 => ?_
 refine rt j0 b0.fr ?_
 exact Bz (by (unfold mkI; simp [h0]))
 refine Am <| xn d0 <| wsc fun d0 j0 => BR sv f0 rfl rfl rfl (Bn (b0.get (i := 1) rfl) rfl) CX rfl (by decide) fun d0 i0 => ?_
 refine aw i0 j0 fun d0 f0 => ?_
 refine rt f0 b0.fr ?_
 exact Bz (by (unfold mkI; simp [h0]))
theorem M8 (w0 : World) (Z : Nat → Prop) (hZ : HZ w0 Z) (dK : Int) (dL : Int) (dS : ByteArray) (dTA : Option Addr) (dTc : Nat) (dT : List Nd) (dBA : Option Addr) (dBc : Nat) (dB : List Nd) (dCA : Option Addr) (dCc : Nat) (dC : List Tl) (hdT : N4 dTA dTc dT w0 Z) (hdB : N4 dBA dBc dB w0 Z) (hdC : (Bw 1 dCA dC.length dCc (CW dC)).φ w0 Z) (hdCs : (CG dC).φ w0 Z) :
    Calls Tryz.prog 82 [.agg #[.int .i64 dK, .int .i64 dL, .string dS, .slice dTA dT.length dTc, .slice dBA dB.length dBc, .slice dCA dC.length dCc]].toArray w0 (fun e w' => ∃ q0_0 : Nat, e = .returned (.func (.func 117) #[] #[.pointer (some ⟨q0_0, 0, none⟩)]) ∧ Fr A6 w0 w' ∧ (Ct q0_0 [.int .i64 dK, .int .i64 dL, .string dS, .slice dTA dT.length dTc, .slice dBA dB.length dBc, .slice dCA dC.length dCc]).φ w' (nxt Z w0 w')) := by
 have b0 := s0 (M := A6) hZ (zc hdT (zc hdB (zc hdC (zc hdCs zn))))
 refine AE Tryz.func82 rfl Tryz.ntmps82 rfl fun c0 d0 => ?_
 refine wsc fun c0 f0 => bxx d0 b0 fun c0 h0 i0 j0 k0 => ?_
 refine aw j0 f0 fun h0 c0 => ?_
 refine wsc fun f0 h0 => C8 sv c0 rfl rfl rfl (by decide) fun f0 j0 => ?_
 refine aw j0 h0 fun f0 c0 => ?_
 refine rt1 c0 ?_
 obtain ⟨c0, h0⟩ := k0.box_data (i := 0) rfl (fun _ h => h)
 have k0 := c0.data (Ct i0 [.int .i64 dK, .int .i64 dL, .string dS, .slice dTA dT.length dTc, .slice dBA dB.length dBc, .slice dCA dC.length dCc]) h0
 refine ⟨i0, ?_, k0.fr, ((k0.get (i := 4) rfl).imp Fl id)⟩
 exact cre rfl
theorem NK (w0 : World) (Z : Nat → Prop) (hZ : HZ w0 Z) (n : Nat) (hn : n ≤ 1000000 := by exact ax) :
    Calls Tryz.prog 158 [.slice none 0 0, .int .i64 (n : Int)].toArray w0 (fun e w' => ∃ (rA0 : Option Addr) (rc0 : Nat), e = .returned (.slice rA0 ([] : List Sl).length rc0) ∧ Fr A6 w0 w' ∧ (Res.row rA0 ([] : List Sl).length rc0 22 1 (B7 ([] : List Sl))).holds w' ∧ (∀ k, (Res.row rA0 ([] : List Sl).length rc0 22 1 (B7 ([] : List Sl))).blk = some k → w0.heap.size ≤ k)) := by
 have b0 := s0 (M := A6) hZ zn
 refine AE Tryz.func158 rfl Tryz.ntmps158 rfl fun c0 d0 => ?_
 refine rR d0 fun c0 f0 => ?_
 refine Ac fun c0 d0 => rR f0 fun c0 h0 => ?_
 rcases Cb ((n : Int) < 0) with c0 | c0
 exfalso; omega
 refine wcf h0 (Ai c0) fun f0 => ?_
 refine Am <| xn d0 <| Ac fun d0 c0 => wsc fun d0 h0 => lR f0 fun d0 i0 => ?_
 refine VM sv i0 rfl rfl rfl rfl Be (by decide) fun d0 f0 => ?_
 refine lR f0 fun d0 i0 => ?_
 refine sbi (0 : Int) i0 fun d0 f0 => ?_
 refine sbi ((n : Int) - (0 : Int)) f0 fun d0 i0 => ?_
 refine aw i0 h0 fun d0 f0 => ?_
 refine rR f0 fun h0 d0 => ?_
 refine wcd d0 (fun h0 f0 => ?_) fun h0 i0 => ?_
 refine A0 ?_
 refine lR f0 fun h0 d0 => ?_
 refine VM sv d0 rfl rfl rfl rfl Be (by decide) fun h0 f0 => ?_
 refine Ez (q := 0) sv f0 rfl rfl rfl rfl (by omega) Be LG (by omega) (by decide) fun h0 d0 => ?_
 refine mv d0 fun h0 f0 => ?_
 have h0 : ((n : Int) - (0 : Int)) = ((n - (0) : Nat) : Int) := by omega
 refine PH (n - (0)) sv f0 b0 rfl rfl rfl rfl h0 (by omega) (by omega) Be Bl L3 (by decide) fun d0 j0 k0 m0 n0 o0 => ?_
 have j0 : (List.replicate (n - (0)) slz).length = n - (0) := BP
 refine lR n0 fun j0 d0 => ?_
 have j0 := Db (o0.res (i := 0) rfl)
 refine Ez (q := 0) sv d0 rfl rfl rfl rfl (by omega) Be LG (by omega) (by decide) fun j0 n0 => ?_
 refine aw n0 c0 fun j0 d0 => ?_
 refine rR d0 fun j0 n0 => ?_
 refine rt1 n0 ?_
 have n0 : ([] : List Sl) = (List.replicate (n - (0)) slz).take (0) := (by rfl)
 rw [n0]
 have n0 := o0.trim Dc (i := 0) (L := (List.replicate (n - (0)) slz)) rfl (0) (by omega)
 refine ⟨k0, m0, ?_, n0.fr, (n0.res (i := 0) rfl), (n0.fresh (i := 0) rfl)⟩
 exact cre rfl
 refine Am <| xn c0 <| rR i0 fun c0 n0 => ?_
 refine rt1 n0 ?_
 have n0 : ([] : List Sl) = [] := (by rfl)
 rw [n0]
 refine ⟨none, 0, ?_, b0.fr, Ik, Ij⟩
 exact cre rfl
theorem NN (w0 : World) (Z : Nat → Prop) (hZ : HZ w0 Z) (x : Int) (cg : Nat) (cn : Int) (hc : (Res.box cg 3 [.int .i64 cn]).holds w0) (hcz : ¬ Z cg) (hx : -1000000 ≤ x ∧ x ≤ 1000000 := by exact ax) :
    Calls Tryz.prog 144 [.int .i64 x, .pointer (some ⟨cg, 0, none⟩)].toArray w0 (fun e w' => e = .returned (.tuple #[]) ∧ Fr (· = cg) w0 w' ∧ (Res.box cg 3 [.int .i64 (max cn (x + 1))]).holds w') := by
 have b0 := sM hc hcz hZ zn
 refine AE Tryz.func144 rfl Tryz.ntmps144 rfl fun c0 d0 => ?_
 refine A0 ?_
 refine lR d0 fun c0 f0 => ?_
 refine adi (x + 1) f0 fun c0 d0 => ?_
 refine LY sv d0 rfl rfl rfl rfl rfl (by decide) fun c0 f0 => ?_
 refine sto 0 f0 b0 fun c0 d0 h0 i0 => ?_
 refine Ae ?_
 refine Jc h0 rfl rfl ?_
 refine ⟨?_, i0.fr, (by rw [show (max cn (x + 1) : Int) = (max cn (x + 1)) by rfl]; exact i0.res (i := 0) rfl)⟩
 rfl
theorem PX (w0 : World) (Z : Nat → Prop) (hZ : HZ w0 Z) (tA : Option Addr) (tc : Nat) (t : List Nd) (cg : Nat) (cn : Int) (hShp : Cu w0 Z) (ht : N4 tA tc t w0 Z) (hc : (Res.box cg 3 [.int .i64 cn]).holds w0) (hcz : ¬ Z cg) (hsm : sml t := by exact ax) (hl : t.length ≤ 1000000 := by exact ax) :
    Calls Tryz.prog 143 [.slice tA t.length tc, .func (.func 144) #[] #[.pointer (some ⟨cg, 0, none⟩)]].toArray w0 (fun e w' => e = .returned (.int .i64 (chk t)) ∧ Fr (· = cg) w0 w' ∧ (Res.box cg 3 [.int .i64 (if chk t = 0 then mxS t cn (Cx t) else cn)]).holds w') := by
 have b0 := sM hc hcz hZ (zc (d := Br) hShp (zc ht zn))
 refine FM Tryz.func143 rfl Tryz.ntmps143 rfl fun c0 d0 => ?_
 refine wsc fun c0 f0 => bxx d0 b0 fun c0 h0 i0 j0 k0 => ?_
 refine bxx j0 k0 fun h0 c0 d0 b0 m0 => ?_
 refine aw b0 f0 fun c0 h0 => ?_
 refine Ac fun f0 c0 => wsc fun f0 b0 => lR h0 fun f0 k0 => ?_
 have f0 := m0.nf
 refine kra k0 f0 Vb (DP _ _ f0.il _ _ _ (f0.g 0) (f0.g 1)) fun m0 h0 j0 n0 => ?_
 refine aw n0 b0 fun j0 m0 => ?_
 refine rR m0 fun b0 j0 => ?_
 refine wce j0 (fun b0 m0 => ?_) fun b0 n0 => ?_
 have hc := b0
 refine Am <| xn c0 <| Ac fun c0 j0 => wsc fun c0 f0 => lR m0 fun c0 k0 => ?_
 have c0 := h0.nf
 refine kcl k0 ok154 (Hf _ _ c0.il _ _ _ (c0.g 1)) ?_
 rintro k0 m0 ⟨o0, rfl, p0, q0⟩
 have m0 := c0.below p0.below
 have p0 := c0.dN m0 q0
 refine ⟨_, rfl, fun m0 q0 => ?_⟩
 refine wn f0 <| A4 ?_
 have f0 := p0.nf
 have p0 : Reg m0 37 [(1000000, .bool false), (2, .pointer (some ⟨i0, 0, none⟩)), (3, .pointer (some ⟨d0, 0, none⟩)), (4, .int .i64 0), (15, .func (.func 161) #[] #[.pointer (some ⟨o0, 0, none⟩)])] := (q0.sub (rc4 (rc rfl rnl)))
 refine Hu (xs := Cx t) (encs := (fun x : Int × Int => #[.int .i64 x.1, .int .i64 x.2])) (p0.ev rfl) ok161 (HK _ (imm Z w0 [.box cg 3 [.int .i64 cn], .box i0 22 [.slice tA t.length tc], .box d0 167 [.func (.func 144) #[] #[.pointer (some ⟨cg, 0, none⟩)]]] _) o0 tA tc t (f0.get (i := 0) rfl) (f0.get (i := 1) rfl) (f0.get (i := 2) rfl) (by assumption) (by assumption) (by assumption)) (fun _ => rfl) f0 (fun _ h => h) (fun (pre : List (Int × Int)) (mm : List Res) => ∃ dm : Nat, mm = [.box cg 3 [.int .i64 (mxS t cn pre)], .box i0 22 [.slice tA t.length tc], .box d0 167 [.func (.func 144) #[] #[.pointer (some ⟨cg, 0, none⟩)]]]) (fun _ _ _ => False) ⟨0, rfl⟩ ?_ ?_ ?_
 rintro f0 pre x q0 m1 hp ⟨dm, rfl⟩ m0
 obtain ⟨xi, xj, rfl, hxi, hxj⟩ := JU hc hp
 refine (?_ : ∀ c0, Reg c0 37 [(17, .int .i64 (xj : Int)), (16, .int .i64 (xi : Int)), (1000000, .bool false), (2, .pointer (some ⟨i0, 0, none⟩)), (3, .pointer (some ⟨d0, 0, none⟩)), (4, .int .i64 0), (15, .func (.func 161) #[] #[.pointer (some ⟨o0, 0, none⟩)])] → Code.wpIn (rI f0) 0 _ _ _ c0 q0) _ (Ee p0 (by decide) (by decide) rfl)
 intro c0 q0
 have hrx := Dn (BO hc) hxi
 have hvx : (nth t xi).K = 0 → 0 ≤ (nth t xi).N ∧ (nth t xi).N ≤ 99 := fun h => (Gg hrx h).2
 refine BM fun c0 f0 => ?_
 refine BH (by kernel_rfl) (B6 (B6 (fun _ _ h => h))) ?_
 refine aw q0 f0 fun c0 o0 => ?_
 refine BH (by kernel_rfl) (B6 (fun _ _ h => h)) ?_
 refine asg o0 fun f0 c0 => ?_
 refine Ae ?_
 have f0 := m0.nf
 refine AC ⟨_, _, 3, f0, rfl, (fun _ h => ⟨_, List.mem_cons_self, by rw [h]; rfl⟩), (fun _ h => ⟨_, List.mem_cons_self, by rw [h]; rfl⟩), fun m0 o0 => ?_⟩
 refine wpIn_block ?_
 refine BM fun m0 f0 => ?_
 refine BH (by kernel_rfl) (B6 (BE Cf)) ?_
 refine lR c0 fun m0 q0 => ?_
 refine ix xi (xi * 4) q0 (Bp (t := t) (k := xi) (o0.row (i := 1) rfl).2 (by omega)).some_ fun m0 c0 => ?_
 refine Cw sv c0 rfl rfl rfl (Bp (t := t) (k := xi) (o0.row (i := 1) rfl).2 (by omega)) Ar rfl DK (by decide) fun m0 q0 => ?_
 refine alc q0 o0 fun m0 c0 d0 i0 k0 => ?_
 refine sto 3 i0 k0 fun d0 c0 m0 q0 => ?_
 refine wn f0 <| BM fun f0 c0 => ?_
 refine BH (by kernel_rfl) (B6 (BE Cf)) ?_
 refine lR m0 fun f0 d0 => ?_
 refine lAn 4 (decide ((xj : Int) ≤ ((nth t xi).N))) d0 fun f0 m0 => ?_
 refine wn c0 <| spg 30 m0 (fun c0 f0 => ?_) fun c0 d0 => ?_
 have m0 := Eu c0
 have k0 := A9 m0
 have k0 := Et c0
 have m0 := A9 k0
 refine Dx (f0.ev rfl) ?_
 refine BH (by kernel_rfl) (BE Cf) ?_
 refine lR f0 fun m0 k0 => ?_
 refine sbi (((nth t xi).N) - (xj : Int)) k0 fun m0 f0 => ?_
 have m0 := q0.nf
 refine DI (xs := [.tmp 35]) se f0 rfl rfl rfl rfl (by decide) ok144 (NN _ _ m0.il (((nth t xi).N) - (xj : Int)) _ _ (m0.z 0) (Ca (i := 0) rfl)) ?_
 rintro f0 k0 ⟨rfl, i0, o0⟩
 have k0 := m0.callM (i := 0) rfl i0 o0
 refine ⟨_, rfl, fun o0 i0 => ?_⟩
 refine Ae ?_
 refine A7 ?_
 have i0 := k0.nf
 have k0 := i0.erase 3
 exact ⟨_, _, 3, k0, rfl, 0, (by rw [OC]; first | (rw [RB (by omega) (by omega)]; first | done | rfl) | (rw [Vc (by omega)]; first | done | rfl))⟩
 have k0 := c0
 try simp only [bz] at k0
 refine Dh (d0.ev rfl) ?_
 refine GH ?_
 refine A7 ?_
 have d0 := q0.nf
 have q0 := d0.erase 3
 exact ⟨_, _, 3, q0, rfl, 0, (by rw [OC]; first | (rw [RB (by omega) (by omega)]; first | done | rfl) | (rw [Vc (by omega)]; first | done | rfl))⟩
 rintro q0 m1 d0 ⟨dm, rfl⟩ k0
 have d0 := DG p0 q0
 refine A7 <| xn j0 <| rR d0 fun j0 q0 => ?_
 refine BV ?_
 have j0 := k0.nf
 obtain ⟨k0, d0⟩ := j0.shut (i := 3) rfl [] (fun _ h => by cases h)
 refine Fx (.inl rfl) q0 rfl k0 (res1 q0 rfl rfl _) ?_
 refine ⟨?_, d0.fr, (by rw [show (if chk t = 0 then mxS t cn (Cx t) else cn : Int) = (mxS t cn (Cx t)) by (simp [b0])]; exact d0.res (i := 0) rfl)⟩
 exact cre (Bz (by omega))
 rintro _ _ _ _ _ _ h _
 exact h.elim
 refine rR n0 fun d0 k0 => ?_
 refine BV <| AX <| Kc (.inl rfl) k0 rfl (res1 k0 rfl rfl _) ?_
 refine ⟨?_, h0.fr, (by rw [show (if chk t = 0 then mxS t cn (Cx t) else cn : Int) = cn by (simp [b0])]; exact h0.res (i := 0) rfl)⟩
 exact cre (Bz (by rfl))
theorem Nx (w0 : World) (Z : Nat → Prop) (hZ : HZ w0 Z) (tA : Option Addr) (tc : Nat) (t : List Nd) (hShp : Cu w0 Z) (ht : N4 tA tc t w0 Z) (hsm : sml t := by exact ax) (hl : t.length ≤ 1000000 := by exact ax) :
    Calls Tryz.prog 119 [.slice tA t.length tc].toArray w0 (fun e w' => e = .returned (.tuple #[.int .i64 (frF t), .int .i64 (chk t)]) ∧ Fr A6 w0 w') := by
 have b0 := s0 (M := A6) hZ (zc (d := Br) hShp (zc ht zn))
 refine AE Tryz.func119 rfl Tryz.ntmps119 rfl fun c0 d0 => ?_
 refine rR d0 fun c0 f0 => ?_
 refine wsc fun c0 d0 => alc f0 b0 fun c0 h0 i0 j0 k0 => ?_
 refine sto 0 j0 k0 fun i0 h0 c0 f0 => ?_
 refine wn d0 <| wsc fun d0 h0 => mv c0 fun d0 i0 => ?_
 refine C8 sv i0 rfl rfl rfl (by decide) fun d0 c0 => ?_
 have d0 := f0.nf
 refine kcl c0 ok143 (PX _ _ d0.il _ _ _ _ _ (d0.g 0) (d0.g 1) (d0.z 0) (Ca (i := 0) rfl)) ?_
 rintro c0 f0 ⟨rfl, i0, k0⟩
 have f0 := d0.callM (i := 0) rfl i0 k0
 refine ⟨_, rfl, fun k0 i0 => ?_⟩
 refine aw i0 h0 fun k0 d0 => ?_
 refine rR d0 fun h0 k0 => ?_
 refine rt2 k0 ?_
 refine ⟨?_, f0.fr⟩
 exact Bj (Bz (by (by_cases hc : chk t = 0 <;> simp [hc, mx_all, frF]; done))) (Bz (by rfl))
theorem LE (w0 : World) (Z : Nat → Prop) (tg : Nat) (tA : Option Addr) (tc : Nat) (t : List Nd) (msg : Nat) (msA : Option Addr) (msc : Nat) (ms : List (Int × Int)) (hShp : Cu w0 Z) (ht : N4 tA tc t w0 Z) (htb : (Ct tg [.slice tA t.length tc]).φ w0 Z) (hms : (Bw 2 msA ms.length msc (EF ms)).φ w0 Z) (hmsb : (Ct msg [.slice msA ms.length msc]).φ w0 Z) (hl : t.length ≤ 1000000) (hsm : sml t) (hc : chk t = 0) (hmq : ms = DB t) :
    HV Tryz.prog 145 [.pointer (some ⟨tg, 0, none⟩), .pointer (some ⟨msg, 0, none⟩)].toArray (fun x : Int × Sl => #[.int .i64 x.1, .slice x.2.1 x.2.2.2.length x.2.2.1]) (bkS tA tc t) Z w0 := by
 refine GJ Tryz.func145 rfl Tryz.ntmps145 rfl [Br, n4 tA tc t, Ct tg [.slice tA t.length tc], Bw 2 msA ms.length msc (EF ms), Ct msg [.slice msA ms.length msc]] (by
  intro d hd
  simp only [AD, AG, or_false] at hd
  rcases hd with rfl | rfl | rfl | rfl | rfl
  exact hShp
  exact ht
  exact htb
  exact hms
  exact hmsb
  ) (fun lp jf jx w0 C0 M0 hY hds b0 c0 d0 => ?_)
 have hb := BO hc
 have hp0 := Dy hb
 have hrt := Dn hb (show t.length - 1 < t.length by omega)
 have hm8 := FY hrt
 have hml : ms.length = t.length := by rw [hmq]; exact HN hb
 refine wsc fun b0 f0 => BR sv c0 rfl rfl rfl (Bn (d0.get (i := 3) rfl) rfl) Au rfl (by decide) fun b0 h0 => ?_
 refine lR h0 fun b0 c0 => ?_
 refine sbi ((t.length : Int) - 1) c0 fun b0 h0 => ?_
 refine aw h0 f0 fun b0 c0 => ?_
 refine wsc fun f0 b0 => BR sv c0 rfl rfl rfl (Bn (d0.get (i := 3) rfl) rfl) Au rfl (by decide) fun f0 h0 => ?_
 refine mv h0 fun f0 c0 => ?_
 refine ix ((t.length) - (1)) (((t.length) - (1)) * 4) c0 (Bp (t := t) (k := (t.length) - (1)) (d0.row (i := 2) rfl).2 (by omega)).some_ fun f0 h0 => ?_
 refine Cw sv h0 rfl rfl rfl (Bp (t := t) (k := (t.length) - (1)) (d0.row (i := 2) rfl).2 (by omega)) Ar rfl DK (by decide) fun f0 c0 => ?_
 have f0 := d0.nf
 refine kra c0 f0 TE (Gn _ _ f0.il (nth t ((t.length) - (1))) (f0.g 1)) fun d0 h0 i0 j0 => ?_
 refine sbi (((many (nth t ((t.length) - (1))) : Nat) : Int) - 1) j0 fun i0 d0 => ?_
 refine aw d0 b0 fun i0 j0 => ?_
 refine A4 ?_
 refine AH (fun gn ga gw => ∃ k : Nat, (Reg ga 35 [(1000000, .bool false), (0, .func (.yield lp) #[] #[]), (1, .pointer (some ⟨tg, 0, none⟩)), (2, .pointer (some ⟨msg, 0, none⟩)), (4, .int .i64 ((C5 t (t.length - 1) k : Nat) : Int)), (5, .int .i64 (((many (nth t (t.length - 1)) : Nat) : Int) - (k : Int) - 1))]) ∧ (St w0 (ED w0) M0 gw [] [dJ jf ((bkS tA tc t).take k) C0 M0 w0.heap.size, Br, n4 tA tc t, Ct tg [.slice tA t.length tc], Bw 2 msA ms.length msc (EF ms), Ct msg [.slice msA ms.length msc]]) ∧ (k ≤ many (nth t (t.length - 1))) ∧ (many (nth t (t.length - 1)) - k) = gn) _ ⟨0, (j0.sub (rc4 (rc (ri rfl (by rw [IE hb (by omega)]; omega)) (rc (ri rfl (by omega)) rnl)))), h0, by omega, rfl⟩ ?_
 rintro j0 h0 b0 ⟨k, i0, d0, hk, f0⟩
 refine Ac fun f0 b0 => rR i0 fun f0 h0 => ?_
 rcases Cb (0 ≤ (((many (nth t (t.length - 1)) : Nat) : Int) - (k : Int) - 1)) with f0 | f0
 obtain ⟨hps1, hps2, hps3, hps4⟩ := Ri hb (show k < many (nth t (t.length - 1)) by omega)
 rw [← hmq] at hps3
 refine wct h0 (Aw f0) fun i0 => ?_
 refine Am <| xn b0 <| Ac fun b0 j0 => A4 ?_
 refine wsc fun b0 c0 => BR sv i0 rfl rfl rfl (Bn (d0.get (i := 5) rfl) rfl) ES rfl (by decide) fun b0 k0 => ?_
 refine mv k0 fun b0 i0 => ?_
 refine sbi (((C5 t (t.length - 1) k : Nat) : Int) - 1) i0 fun b0 k0 => ?_
 refine ix ((C5 t (t.length - 1) k) - (1)) (((C5 t (t.length - 1) k) - (1)) * 2) k0 (H4 (t := ms) (k := (C5 t (t.length - 1) k) - (1)) (d0.row (i := 4) rfl).2 (by omega)).some_ fun b0 i0 => ?_
 refine CB (j' := ((C5 t (t.length - 1) k) - (1)) * 2) sv i0 rfl rfl rfl (H4 (t := ms) (k := (C5 t (t.length - 1) k) - (1)) (d0.row (i := 4) rfl).2 (by omega)).some_ DZ rfl sz3 rfl rfl (by decide) fun b0 k0 => ?_
 refine lde 0 (((C5 t (t.length - 1) k) - (1)) * 2) k0 (H4 (t := ms) (k := (C5 t (t.length - 1) k) - (1)) (d0.row (i := 4) rfl).2 (by omega)) fun b0 i0 => ?_
 refine asg i0 fun b0 k0 => ?_
 have b0 := Reg.cons k0 k0 (ri (i := 6) (b := ((C5 t (t.length - 1) (k + 1) : Nat) : Int)) rfl (hps3.symm))
 refine wn c0 <| Ac fun c0 k0 => Ac fun c0 i0 => F0 ?_
 refine CI (B2 rfl rfl) b0 rfl rfl rfl (by decide) fun c0 m0 => ?_
 refine CI (B2 rfl rfl) m0 rfl rfl rfl (by decide) fun c0 b0 => ?_
 refine BR (B2 rfl rfl) b0 rfl rfl rfl (Bn (d0.get (i := 3) rfl) rfl) Au rfl (by decide) fun c0 m0 => ?_
 refine CI (B2 rfl rfl) m0 rfl rfl rfl (by decide) fun c0 b0 => ?_
 refine CI (B2 rfl rfl) b0 rfl rfl rfl (by decide) fun c0 m0 => ?_
 have c0 : (((t).drop (C5 t (t.length - 1) (k + 1))).take ((C5 t (t.length - 1) k) - (C5 t (t.length - 1) (k + 1)))).length = (C5 t (t.length - 1) k) - (C5 t (t.length - 1) (k + 1)) := by simp only [BK, Ah]; omega
 have c0 := d0.data (Bw 4 (if tc = C5 t (t.length - 1) (k + 1) then tA else (tA).map (·.add ((C5 t (t.length - 1) (k + 1)) * 4))) ((((t).drop (C5 t (t.length - 1) (k + 1))).take ((C5 t (t.length - 1) k) - (C5 t (t.length - 1) (k + 1)))).length) (tc - (C5 t (t.length - 1) (k + 1))) (Cd (((t).drop (C5 t (t.length - 1) (k + 1))).take ((C5 t (t.length - 1) k) - (C5 t (t.length - 1) (k + 1)))))) (S1 (f := Eb) (L := t) (d0.get (i := 2) rfl) Cq (by omega))
 have b0 := (c0.get (i := 2) rfl).1
 refine Gp (lo := some (.tmp 29)) (hi := some (.tmp 30)) (vlo := (some (.int .i64 ((C5 t (t.length - 1) (k + 1) : Nat) : Int)))) (vhi := (some (.int .i64 ((C5 t (t.length - 1) k : Nat) : Int)))) (kd := .i64) (kd' := .i64) (B2 rfl rfl) m0 rfl rfl rfl rfl rfl (C5 t (t.length - 1) (k + 1)) ((((t).drop (C5 t (t.length - 1) (k + 1))).take ((C5 t (t.length - 1) k) - (C5 t (t.length - 1) (k + 1)))).length) (.inl (by rfl)) (.inl (by (congr 2; omega))) Au DK (by omega) (by decide) fun b0 n0 => ?_
 have b0 := c0.nf
 refine L4 (t := .tmp 26) (xs := [.tmp 27, .tmp 31]) (pre := (bkS tA tc t).take k) (i := 0) (ds0 := [Br, n4 tA tc t, Ct tg [.slice tA t.length tc], Bw 2 msA ms.length msc (EF ms), Ct msg [.slice msA ms.length msc]]) hY rfl n0 b0 rfl rfl rfl rfl (by decide) (((((many (nth t (t.length - 1)) : Nat) : Int) - (k : Int) - 1), (((if tc = C5 t (t.length - 1) (k + 1) then tA else (tA).map (·.add ((C5 t (t.length - 1) (k + 1)) * 4))), (tc - (C5 t (t.length - 1) (k + 1))), ((t).drop (C5 t (t.length - 1) (k + 1))).take ((C5 t (t.length - 1) k) - (C5 t (t.length - 1) (k + 1)))) : Sl)) : Int × Sl) rfl rfl (SH (k := k) (by omega) (WX (k := k) (by omega) rfl)) hds (fun c0 m0 o0 p0 => ?_) fun c0 m0 o0 p0 => ?_
 refine GX (B2 rfl rfl) o0 rfl rfl rfl (by decide) fun m0 c0 => ?_
 refine Fa ?_
 refine xn i0 <| CP (c0.ev rfl) ?_
 refine Am <| xn k0 <| A0 ?_
 refine lR c0 fun k0 m0 => ?_
 refine Ae ?_
 refine A7 <| xn j0 <| A0 ?_
 refine mv m0 fun j0 k0 => ?_
 refine sbi (((many (nth t (t.length - 1)) : Nat) : Int) - (k : Int) - 2) k0 fun j0 m0 => ?_
 refine asg m0 fun j0 k0 => ?_
 refine Ae ?_
 have j0 : (bkS tA tc t).take k ++ [(((((many (nth t (t.length - 1)) : Nat) : Int) - (k : Int) - 1), (((if tc = C5 t (t.length - 1) (k + 1) then tA else (tA).map (·.add ((C5 t (t.length - 1) (k + 1)) * 4))), (tc - (C5 t (t.length - 1) (k + 1))), ((t).drop (C5 t (t.length - 1) (k + 1))).take ((C5 t (t.length - 1) k) - (C5 t (t.length - 1) (k + 1)))) : Sl)) : Int × Sl)] = (bkS tA tc t).take (k + 1) := by rw [← Pk (show k < many (nth t (t.length - 1)) by omega)]; exact congrArg (fun z => (bkS tA tc t).take k ++ [z]) (WX (k := k) (by omega) rfl)
 have m0 := p0
 rw [j0] at m0
 exact ⟨_, by omega, k + 1, (k0.sub (rc4 (rc rfl (rc (ri rfl (by omega)) rnl)))), m0, by omega, rfl⟩
 refine GX (B2 rfl rfl) o0 rfl rfl rfl (by decide) fun m0 k0 => ?_
 refine Fa ?_
 refine xn i0 <| CF (k0.ev rfl) ?_
 refine BV <| AX <| Bf <| AX <| AX <| Bf <| Kr k0 rfl rfl ?_
 exact IY p0 (i := 0) rfl (SH (k := k) (by omega) (WX (k := k) (by omega) rfl))
 refine wcf h0 (Ai f0) fun p0 => ?_
 refine xe ?_
 refine Jc p0 rfl rfl ?_
 exact ON d0 (i := 0) rfl (WY (by omega))
theorem K7 (w0 : World) (Z : Nat → Prop) (hZ : HZ w0 Z) (tA : Option Addr) (tc : Nat) (t : List Nd) (msA : Option Addr) (msc : Nat) (ms : List (Int × Int)) (ht : N4 tA tc t w0 Z) (hms : (Bw 2 msA ms.length msc (EF ms)).φ w0 Z) (hl : t.length ≤ 1000000 := by exact ax) :
    Calls Tryz.prog 121 [.slice tA t.length tc, .slice msA ms.length msc].toArray w0 (fun e w' => ∃ q0_0 : Nat, ∃ q0_1 : Nat, e = .returned (.func (.func 145) #[] #[.pointer (some ⟨q0_0, 0, none⟩), .pointer (some ⟨q0_1, 0, none⟩)]) ∧ Fr A6 w0 w' ∧ (Ct q0_0 [.slice tA t.length tc]).φ w' (nxt Z w0 w') ∧ (Ct q0_1 [.slice msA ms.length msc]).φ w' (nxt Z w0 w')) := by
 have b0 := s0 (M := A6) hZ (zc ht (zc hms zn))
 refine AE Tryz.func121 rfl Tryz.ntmps121 rfl fun c0 d0 => ?_
 refine wsc fun c0 f0 => bxx d0 b0 fun c0 h0 i0 j0 k0 => ?_
 refine bxx j0 k0 fun h0 c0 d0 b0 m0 => ?_
 refine aw b0 f0 fun c0 h0 => ?_
 refine wsc fun f0 c0 => C8 sv h0 rfl rfl rfl (by decide) fun f0 b0 => ?_
 refine aw b0 c0 fun f0 h0 => ?_
 refine rt1 h0 ?_
 obtain ⟨h0, c0⟩ := m0.box_data (i := 0) rfl (fun _ h => h)
 have m0 := h0.data (Ct i0 [.slice tA t.length tc]) c0
 obtain ⟨c0, h0⟩ := m0.box_data (i := 0) rfl (fun _ h => h)
 have m0 := c0.data (Ct d0 [.slice msA ms.length msc]) h0
 refine ⟨i0, d0, ?_, m0.fr, ((m0.get (i := 2) rfl).imp Fl id), ((m0.get (i := 3) rfl).imp Fl id)⟩
 exact cre rfl
end Go.Proofs.YtpfmnpaifchleaaGreatDoor
