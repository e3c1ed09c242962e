import Derived.Test.YtpfmnpaifchleaaGreatDoorYqg
import Derived.Test.YtpfmnpaifchleaaGreatDoorCards
import Derived.Test.YtpfmnpaifchleaaGreatDoorTie
import Derived.ProofKit
import Derived.OpenShut
import Derived.ReadAgain
import Derived.Deep.DeepHandedRow
import Derived.Deep.Slices
import Derived.Lib.LaidTab
import Derived.Deep.DeepWitnessRowRef
namespace Go.Proofs.YtpfmnpaifchleaaGreatDoor
open Go Go.RowKit
set_option linter.unusedSimpArgs false
set_option linter.unusedVariables false
set_option maxRecDepth 100000
set_option maxHeartbeats 4000000
theorem Ib (rn : Nat) : ∀ (w0 : World) (Z : Nat → Prop) (hZ : HZ w0 Z) (tA : Option Addr) (tc : Nat) (t : List Nd) (k : Int) (u : Int) (ht : N4 tA tc t w0 Z) (hl : t.length ≤ 1000000) (hsm : sml t) (hb : BW t = true) (hu0 : 0 ≤ u) (hub : u + 2 * t.length ≤ 10000000) (hrn : t.length = rn),
    Calls Tryz.prog 38 [.slice tA t.length tc, .int .i64 k, .int .i64 u].toArray w0 (fun e w' => e = .returned (.tuple #[.int .i64 ((usL t k u : Nat) : Int), .int .i64 (moL t k u)]) ∧ Fr A6 w0 w') := by
 induction rn using Nat.strongRecOn
 rename_i rn ih
 intro w0 Z hZ tA tc t k u ht hl hsm hb hu0 hub hrn
 have b0 := s0 (M := A6) hZ (zc ht zn)
 have hp0 := Dy hb
 have hrt := Dn hb (show t.length - 1 < t.length by omega)
 have hbl := FO hrt
 have hbm := DU hrt
 have hpm := Cz hb
 refine AE Tryz.func38 rfl Tryz.ntmps38 rfl fun c0 d0 => ?_
 refine rR d0 fun c0 f0 => ?_
 refine wsc fun c0 d0 => mv f0 fun c0 h0 => ?_
 have c0 := b0.nf
 refine kra h0 c0 R3 (Dl _ _ c0.il _ _ _ (c0.g 0)) fun b0 f0 i0 j0 => ?_
 refine alc j0 f0 fun i0 b0 c0 h0 k0 => ?_
 refine sto 0 h0 k0 fun b0 i0 j0 f0 => ?_
 refine wn d0 <| Ac fun d0 i0 => rR j0 fun d0 b0 => ?_
 refine wcd b0 (fun d0 j0 => ?_) fun d0 k0 => ?_
 obtain ⟨d0, b0⟩ := Oh hb (by omega)
 refine wsc fun b0 d0 => lR j0 fun b0 h0 => ?_
 refine sbi (((nth t (t.length - 1)).N) - u) h0 fun b0 j0 => ?_
 refine aw j0 d0 fun b0 h0 => ?_
 refine Ac fun d0 b0 => wsc fun d0 j0 => lR h0 fun d0 m0 => ?_
 refine EA (fun ga gw => Reg ga 75 [(0, .slice tA t.length tc), (1, .int .i64 k), (2, .int .i64 u), (6, .int .i64 0), (7, .int .i64 0), (8, .pointer (some ⟨c0, 0, none⟩)), (9, .int .i64 (((nth t (t.length - 1)).N) - u)), (37, .bool ((decide (0 ≤ (((nth t (t.length - 1)).N) - u))) && ((decide (k < 0)) || (decide ((((nth t (t.length - 1)).N) - u) = k))))), (1000000, .bool false)] ∧ St w0 Z A6 gw [.box c0 30 [.int .i64 ((nth t (t.length - 1)).K), .int .i64 ((nth t (t.length - 1)).N), .int .i64 ((nth t (t.length - 1)).M), .string ((nth t (t.length - 1)).S)]] [n4 tA tc t]) 8 ?_ ?_
 refine spd 29 m0 (fun d0 h0 => ?_) fun d0 n0 => ?_
 refine lR h0 fun m0 o0 => ?_
 refine spd 32 o0 (fun m0 h0 => ?_) fun m0 p0 => ?_
 refine lR h0 fun o0 q0 => ?_
 refine Ae ?_
 exact AC ⟨(q0.sub (rc4 (rc2 (rc rfl (rc (rb rfl (by (simp only [Aw d0, At d0, Aw m0, At m0, bl]; done))) (rc rfl rnl)))))), f0⟩
 refine lR p0 fun q0 o0 => ?_
 refine Ae ?_
 exact AC ⟨(o0.sub (rc4 (rc2 (rc rfl (rc (rb rfl (by (simp only [Aw d0, At d0, Ai m0, Aq m0, bl]; done))) (rc rfl rnl)))))), f0⟩
 refine lR n0 fun o0 m0 => ?_
 refine Ae ?_
 exact AC ⟨(m0.sub (rc4 (rc2 (rc rfl (rc (rb rfl (by (simp only [Ai d0, Aq d0, bl]; done))) (rc rfl rnl)))))), f0⟩
 rintro m0 d0 ⟨o0, n0⟩
 refine wn j0 <| wcg o0 (fun j0 d0 => ?_) fun j0 m0 => ?_
 have o0 := Eu j0
 have q0 := A9 o0
 have q0 := Et j0
 have o0 := q0
 try simp only [bz] at o0
 refine rR d0 fun o0 q0 => ?_
 refine rt2 q0 ?_
 refine ⟨?_, n0.fr⟩
 exact Bj (Bz (by (rw [(Oi hb (by omega)).1]; split <;> omega))) (Bz (by (rw [(Oi hb (by omega)).2]; split <;> omega)))
 have q0 := j0
 try simp only [bz] at q0
 refine Am <| xn b0 <| rR m0 fun b0 q0 => ?_
 refine rt2 q0 ?_
 refine ⟨?_, n0.fr⟩
 exact Bj (Bz (by (rw [(Oi hb (by omega)).1]; split <;> omega))) (Bz (by (rw [(Oi hb (by omega)).2]; split <;> omega)))
 refine Am <| xn i0 <| wsc fun i0 n0 => lR k0 fun i0 q0 => ?_
 have i0 := f0.nf
 refine krb q0 i0 Wh (DO _ _ i0.il (nth t (t.length - 1)) (hs := (hsm _ (by omega)))) fun f0 k0 b0 m0 j0 o0 => ?_
 refine lR o0 fun j0 f0 => ?_
 refine wn n0 <| wsc fun n0 j0 => mv f0 fun n0 o0 => ?_
 have n0 := m0.nf
 refine krd o0 n0 R4 (CN _ _ n0.il _ _ _ (n0.g 0)) fun m0 f0 i0 q0 d0 p0 h0 t0 => ?_
 refine aw t0 j0 fun h0 m0 => ?_
 refine rR m0 fun j0 h0 => ?_
 refine rR h0 fun j0 m0 => ?_
 refine Ac fun j0 h0 => rR m0 fun j0 t0 => ?_
 refine A4 ?_
 refine AH (fun gn ga gw => ∃ j : Nat, (Reg ga 75 [(1000000, .bool false), (1, .int .i64 k), (2, .int .i64 u), (6, .int .i64 0), (7, .int .i64 0), (10, .slice k0 ((BX (nth t (t.length - 1))).length) b0), (12, .slice f0 q0.length i0), (15, .int .i64 (j : Int)), (13, .int .i64 ((usP t k u j : Nat) : Int)), (14, .int .i64 (moP t k u j))]) ∧ (St w0 Z A6 gw [.box c0 30 [.int .i64 ((nth t (t.length - 1)).K), .int .i64 ((nth t (t.length - 1)).N), .int .i64 ((nth t (t.length - 1)).M), .string ((nth t (t.length - 1)).S)]] [n4 tA tc t, Bw 1 k0 ((BX (nth t (t.length - 1))).length) b0 (BN (BX (nth t (t.length - 1)))), Bw 1 f0 q0.length i0 (B7 q0), Cl q0]) ∧ (j ≤ q0.length) ∧ (q0.length - j) = gn) _ ⟨0, (t0.sub (rc4 (rc4 (rc (ri rfl (by simp [usP, L9])) (rc (ri rfl (by simp [moP, Ic])) rnl))))), p0, by omega, rfl⟩ ?_
 rintro t0 p0 i0 ⟨j, f0, b0, hj, k0⟩
 have hrl : q0.length = (ptL t).length := by rw [← Bs, d0]
 have hp8 := Md hb
 have hbj : 0 ≤ Ci (BX (nth t (t.length - 1))) j ∧ Ci (BX (nth t (t.length - 1))) j ≤ 2 := by rw [hbl]; exact Hp j
 have hup := usP_le hb k u j
 refine Ac fun k0 i0 => rR f0 fun k0 p0 => ?_
 refine wcd p0 (fun k0 f0 => ?_) fun k0 t0 => ?_
 obtain ⟨hpe, hpk, hpb, hpl, hps, hp0'⟩ := KQ hb hsm d0 (show j < q0.length by omega)
 obtain ⟨hu1, hu2⟩ := V1 (k := k) (u := u) hb hpk
 have hul := usL_le hpb k (u + Ci (BX (nth t (t.length - 1))) j)
 refine Am <| xn i0 <| Ac fun i0 d0 => A4 ?_
 refine Ac fun i0 k0 => ?_
 obtain ⟨i0, p0, j0⟩ := b0.agree
 refine Cj (n := 17) j0 4 pn (A5 (B3 (A5 (A5 (B3 (A5 BC)))))) fun i0 m0 n0 o0 u0 v0 => ?_
 refine dR [0, 1] f0 fun o0 i0 => ?_
 refine dix 2 j (j * 1) i0 (fun x hx => (BD (t := q0) (k := j) (D6 (p0 2 _ rfl) hx.ag).2 (by omega)).some_) fun o0 f0 => ?_
 refine dle 3 0 (j * 1) f0 (fun x hx => BD (t := q0) (k := j) (D6 (p0 2 _ rfl) hx.ag).2 (by omega)) fun o0 i0 => ?_
 have o0 := u0.el 3 j
 refine dR [4, 5, 6, 7] i0 fun u0 f0 => ?_
 refine dix 8 j (j * 1) f0 (fun x hx => (Ds (t := BX (nth t (t.length - 1))) (k := j) (D6 (p0 1 _ rfl) hx.ag).2 (by omega)).some_) fun u0 i0 => ?_
 refine dle 9 0 (j * 1) i0 (fun x hx => Ds (t := BX (nth t (t.length - 1))) (k := j) (D6 (p0 1 _ rfl) hx.ag).2 (by omega)) fun u0 f0 => ?_
 refine dt 10 rfl m0 f0 (AJ rfl) (fun x hx => IB (z := (u + (Ci (BX (nth t (t.length - 1))) j))) (sy f0) f0 rfl rfl rfl rfl (by decide) (by omega) (by omega) (by omega) gt) v0 fun u0 i0 => ?_
 refine d1 11 ?_
 have u0 := o0.nf
 refine kcl i0 ok38 (ih (((BF q0 j).2.2).length) (by omega) _ (imm Z w0 [.box c0 30 [.int .i64 ((nth t (t.length - 1)).K), .int .i64 ((nth t (t.length - 1)).N), .int .i64 ((nth t (t.length - 1)).M), .string ((nth t (t.length - 1)).S)]] _) (fun _ h => h.1) _ _ ((BF q0 j).2.2) k (u + (Ci (BX (nth t (t.length - 1))) j)) (u0.g 5) (by omega) (by assumption) (by assumption) (by omega) (by omega) rfl) ?_
 rintro i0 c0 ⟨rfl, o0⟩
 have c0 := u0.below o0.below
 refine ⟨_, rfl, fun o0 u0 => ?_⟩
 have o0 := sWI c0 4 pn
 refine ⟨o0, ?_⟩
 refine dR [12, 13, 14, 15, 16] u0 fun o0 i0 => ?_
 refine AL (by kernel_rfl) (n0 _ _ ?_) _
 refine xn k0 <| wsc fun k0 n0 => lR i0 fun k0 o0 => ?_
 refine adi ((usP t k u j + usL ((BF q0 j).2.2) k (u + (Ci (BX (nth t (t.length - 1))) j)) : Nat) : Int) o0 fun k0 i0 => ?_
 refine asg i0 fun k0 o0 => ?_
 refine Ae (AC (n0 _ _ (A0 ?_)))
 refine lR o0 fun n0 k0 => ?_
 refine LY sv k0 rfl rfl rfl rfl rfl (by decide) fun n0 o0 => ?_
 refine asg o0 fun n0 k0 => ?_
 refine Ae ?_
 refine A7 <| xn d0 <| A0 ?_
 refine mv k0 fun d0 n0 => ?_
 refine adi ((j + 1 : Nat) : Int) n0 fun d0 k0 => ?_
 refine asg k0 fun d0 n0 => ?_
 refine Ae ?_
 have d0 := c0.forget 5
 have c0 := d0.forget 4
 exact ⟨_, by omega, j + 1, (n0.sub (rc4 (rc4 (rc (ri rfl (by rw [hu1, hpe, hbl]; try omega)) (rc (ri rfl (by rw [hu2, hpe, hbl])) rnl))))), c0, by omega, rfl⟩
 refine xe ?_
 refine xn h0 <| rR t0 fun h0 c0 => ?_
 refine rt2 c0 ?_
 refine ⟨?_, b0.fr⟩
 exact Bj (Bz (by (rw [(Qt hb (by omega)).1]; congr 2; omega))) (Bz (by (rw [(Qt hb (by omega)).2]; congr 1; omega)))
theorem LX (w0 : World) (Z : Nat → Prop) (hZ : HZ w0 Z) (tA : Option Addr) (tc : Nat) (t : List Nd) (k : Int) (u : Int) (ht : N4 tA tc t w0 Z) (hl : t.length ≤ 1000000 := by exact ax) (hsm : sml t := by exact ax) (hb : BW t = true := by exact ax) (hu0 : 0 ≤ u := by exact ax) (hub : u + 2 * t.length ≤ 10000000 := by exact ax) :
    Calls Tryz.prog 38 [.slice tA t.length tc, .int .i64 k, .int .i64 u].toArray w0 (fun e w' => e = .returned (.tuple #[.int .i64 ((usL t k u : Nat) : Int), .int .i64 (moL t k u)]) ∧ Fr A6 w0 w') := Ib _ w0 Z hZ tA tc t k u ht hl hsm hb hu0 hub rfl
theorem Ni (w0 : World) (Z : Nat → Prop) (hZ : HZ w0 Z) (tA : Option Addr) (tc : Nat) (t : List Nd) (ht : N4 tA tc t w0 Z) (hl : t.length ≤ 1000000 := by exact ax) (hsm : sml t := by exact ax) :
    Calls Tryz.prog 16 [.slice tA t.length tc].toArray w0 (fun e w' => e = .returned (.tuple #[.int .i64 (frF t), .int .i64 (chk t)]) ∧ Fr A6 w0 w') := by
 have b0 := s0 (M := A6) hZ (zc ht zn)
 refine AE Tryz.func16 rfl Tryz.ntmps16 rfl fun c0 d0 => ?_
 refine rR d0 fun c0 f0 => ?_
 refine wsc fun c0 d0 => mv f0 fun c0 h0 => ?_
 have c0 := b0.nf
 refine kra h0 c0 Th (De _ _ c0.il _ _ _ (c0.g 0)) fun b0 f0 i0 j0 => ?_
 refine aw j0 d0 fun i0 b0 => ?_
 refine Ac fun d0 i0 => rR b0 fun d0 j0 => ?_
 refine wce j0 (fun d0 b0 => ?_) fun d0 c0 => ?_
 have hmo := moL_bd (BO d0) (-1)
 refine Am <| xn i0 <| wsc fun i0 d0 => mv b0 fun i0 j0 => ?_
 have i0 := f0.nf
 refine kra j0 i0 ok38 (LX _ _ i0.il _ _ _ (-1) 0 (i0.g 0) (hl := hl) (hsm := hsm) (hb := (BO (by omega))) (hu0 := (by omega)) (hub := (by omega))) fun b0 h0 k0 m0 => ?_
 refine lR m0 fun k0 b0 => ?_
 refine wn d0 <| wsc fun d0 k0 => mv b0 fun d0 m0 => ?_
 refine adi ((moL t (-1) 0) + 1) m0 fun d0 b0 => ?_
 refine lR b0 fun d0 m0 => ?_
 refine wn k0 <| rt2 m0 ?_
 refine ⟨?_, h0.fr⟩
 exact Bj (Bz (by first | (unfold frF; rw [Aq (by omega)]; done) | (unfold frF; rw [At (by omega)]))) (Bz (by omega))
 refine rR c0 fun h0 m0 => ?_
 refine rt2 m0 ?_
 refine ⟨?_, f0.fr⟩
 exact Bj (Bz (by first | (unfold frF; rw [Aq (by omega)]; done) | (unfold frF; rw [At (by omega)]))) (Bz (by omega))
theorem KK (w0 : World) (Z : Nat → Prop) (hZ : HZ w0 Z) (tA : Option Addr) (tc : Nat) (t : List Nd) (ht : N4 tA tc t w0 Z) (hsm : sml t := by exact ax) (hl : t.length ≤ 1000000 := by exact ax) :
    Calls Tryz.prog 101 [.slice tA t.length tc].toArray w0 (fun e w' => e = .returned (.int .i64 (clT t)) ∧ Fr A6 w0 w') := by
 have b0 := s0 (M := A6) hZ (zc ht zn)
 refine AE Tryz.func101 rfl Tryz.ntmps101 rfl fun c0 d0 => ?_
 refine rR d0 fun c0 f0 => ?_
 refine wsc fun c0 d0 => mv f0 fun c0 h0 => ?_
 have c0 := b0.nf
 refine kra h0 c0 ok16 (Ni _ _ c0.il _ _ _ (c0.g 0) (hl := hl) (hsm := hsm)) fun b0 f0 i0 j0 => ?_
 refine lR j0 fun i0 b0 => ?_
 refine wn d0 <| Ac fun d0 i0 => wsc fun d0 j0 => lR b0 fun d0 c0 => ?_
 refine lAn 2 (decide (0 < (frF t))) c0 fun d0 b0 => ?_
 refine wn j0 <| wcg b0 (fun j0 d0 => ?_) fun j0 c0 => ?_
 have b0 := Eu j0
 have h0 := A9 b0
 have h0 := Et j0
 have b0 := A9 h0
 refine rR d0 fun b0 h0 => ?_
 refine rt h0 f0.fr ?_
 exact Bz (by (unfold clT; rcases Cb (chk t = 0) with h0 | h0 <;> rcases Cb (0 < frF t) with b0 | b0 <;> simp_all; done))
 have d0 := j0
 try simp only [bz] at d0
 refine Am <| xn i0 <| rR c0 fun i0 d0 => ?_
 refine rt d0 f0.fr ?_
 exact Bz (by (unfold clT; rcases Cb (chk t = 0) with h0 | h0 <;> rcases Cb (0 < frF t) with b0 | b0 <;> simp_all; done))
theorem LW (w0 : World) (Z : Nat → Prop) (hZ : HZ w0 Z) (s : ByteArray) (hs : s.size < 1000000 := by exact ax) :
    Calls Tryz.prog 99 [.string s].toArray w0 (fun e w' => e = .returned (.bool (nmB s)) ∧ Fr A6 w0 w') := by
 have b0 := s0 (M := A6) hZ zn
 refine AE Tryz.func99 rfl Tryz.ntmps99 rfl fun c0 d0 => ?_
 refine rR d0 fun c0 f0 => ?_
 refine wsc fun c0 d0 => mv f0 fun c0 h0 => ?_
 have c0 := b0.nf
 refine kra h0 c0 ok70 (FD _ _ c0.il s) fun b0 f0 i0 j0 => ?_
 refine mv j0 fun i0 b0 => ?_
 refine EA (fun ga gw => Reg ga 10 [(2, .bool false), (9, .bool ((CJ s) && (!(kwB s)))), (1000000, .bool false)] ∧ St w0 Z A6 gw [] []) 4 ?_ ?_
 refine spg 5 b0 (fun i0 j0 => ?_) fun i0 c0 => ?_
 refine lR j0 fun b0 h0 => ?_
 have b0 := f0.nf
 refine kra h0 b0 ok135 (J3 _ _ b0.il s) fun j0 k0 m0 n0 => ?_
 refine lR n0 fun m0 j0 => ?_
 refine Ae ?_
 exact AC ⟨(j0.sub (rc rfl (rc (rb rfl (by (simp only [i0, bl]; done))) (rc rfl rnl)))), k0⟩
 refine lR c0 fun j0 k0 => ?_
 refine Ae ?_
 exact AC ⟨(k0.sub (rc rfl (rc (rb rfl (by (simp only [i0, bl]; done))) (rc rfl rnl)))), f0⟩
 rintro k0 i0 ⟨f0, j0⟩
 refine aw f0 d0 fun i0 k0 => ?_
 refine rt k0 j0.fr ?_
 exact BQ (by rfl)
theorem LR (w0 : World) (Z : Nat → Prop) (hZ : HZ w0 Z) (dK : Int) (dL : Int) (dS : ByteArray) (dTA : Option Addr) (dTc : Nat) (dT : List Nd) (dBA : Option Addr) (dBc : Nat) (dB : List Nd) (dCA : Option Addr) (dCc : Nat) (dC : List Tl) (hdT : N4 dTA dTc dT w0 Z) (hdB : N4 dBA dBc dB w0 Z) (hdC : (Bw 1 dCA dC.length dCc (CW dC)).φ w0 Z) (hdCs : (CG dC).φ w0 Z) (hl : dC.length ≤ 100 := by exact ax) (hb : ∀ s ∈ dC, s.2.2.length ≤ 100 := by exact ax) :
    Calls Tryz.prog 100 [.agg #[.int .i64 dK, .int .i64 dL, .string dS, .slice dTA dT.length dTc, .slice dBA dB.length dBc, .slice dCA dC.length dCc]].toArray w0 (fun e w' => ∃ (rA0 : Option Addr) (rc0 : Nat) (rL0 : List Sl), e = .returned (.slice rA0 rL0.length rc0) ∧ Fr A6 w0 w' ∧ (Bw 1 rA0 rL0.length rc0 (B7 rL0)).φ w' (nxt Z w0 w') ∧ (Cl rL0).φ w' (nxt Z w0 w') ∧ Bt rL0 = tmD dK dT dB (B1 dC)) := by
 have b0 := s0 (M := A6) hZ (zc hdT (zc hdB (zc hdC (zc hdCs zn))))
 refine AE Tryz.func100 rfl Tryz.ntmps100 rfl fun c0 d0 => ?_
 refine wsc fun c0 f0 => bxx d0 b0 fun c0 h0 i0 j0 k0 => ?_
 refine aw j0 f0 fun h0 c0 => ?_
 refine wsc fun f0 h0 => ?_
 have f0 := k0.data (Cl []) Cp
 refine bsl c0 f0 fun k0 j0 d0 b0 m0 => ?_
 refine aw b0 h0 fun j0 k0 => ?_
 refine Ac fun h0 j0 => wsc fun h0 b0 => lR k0 fun h0 f0 => ?_
 refine lOr 3 (decide (dK = 2)) f0 fun h0 k0 => ?_
 refine wn b0 <| wcg k0 (fun b0 h0 => ?_) fun b0 f0 => ?_
 have k0 := b0
 try simp only [bz] at k0
 refine A0 ?_
 refine lR h0 fun k0 c0 => ?_
 have k0 := m0.data (Cl [((dTA, dTc, dT) : Sl)]) (Cy (m0.get (i := 0) rfl) Cp)
 refine bsl c0 k0 fun h0 n0 o0 p0 q0 => ?_
 refine BL (f := FK) (i := 1) ([]) ([((dTA, dTc, dT) : Sl)]) sv p0 q0 rfl rfl rfl rfl rfl Dc (D7 _) Be L3 rfl rfl (BU (f := FK) (q0.res (i := 2) rfl)) rfl (by (simp only [Ad, Aj]; omega)) (by decide) fun o0 n0 h0 k0 c0 t0 u0 => ?_
 have c0 : (([]) ++ ([((dTA, dTc, dT) : Sl)]) : List Sl).length = 1 := by (simp only [Ab, Ah, Ad, Aj]; done)
 have c0 := u0.erase 2
 have u0 := c0.data (Cl (([]) ++ ([((dTA, dTc, dT) : Sl)]))) (CH (c0.get (i := 4) rfl) (c0.get (i := 5) rfl))
 refine aw t0 j0 fun c0 n0 => ?_
 refine Ac fun c0 t0 => rR n0 fun c0 o0 => ?_
 refine wcd o0 (fun c0 n0 => ?_) fun c0 q0 => ?_
 refine A0 ?_
 refine lR n0 fun c0 o0 => ?_
 have c0 := u0.data (Cl [((dBA, dBc, dB) : Sl)]) (Cy (u0.get (i := 1) rfl) Cp)
 refine bsl o0 c0 fun n0 p0 v0 x0 y0 => ?_
 refine BL (f := FK) (i := 1) (([]) ++ ([((dTA, dTc, dT) : Sl)])) ([((dBA, dBc, dB) : Sl)]) sv x0 y0 rfl rfl rfl rfl rfl Dc (D7 _) Be L3 rfl rfl (BU (f := FK) (y0.res (i := 2) rfl)) rfl (by (simp only [Ad, Aj]; omega)) (by decide) fun v0 p0 n0 c0 o0 z0 b1 => ?_
 have o0 : ((([]) ++ ([((dTA, dTc, dT) : Sl)])) ++ ([((dBA, dBc, dB) : Sl)]) : List Sl).length = (([]) ++ ([((dTA, dTc, dT) : Sl)]) : List Sl).length + 1 := by (simp only [Ab, Ah, Ad, Aj]; done)
 have o0 := b1.erase 2
 have b1 := o0.data (Cl ((([]) ++ ([((dTA, dTc, dT) : Sl)])) ++ ([((dBA, dBc, dB) : Sl)]))) (CH (o0.get (i := 6) rfl) (o0.get (i := 7) rfl))
 refine aw z0 t0 fun o0 p0 => ?_
 refine Ac fun o0 z0 => rR p0 fun o0 v0 => ?_
 have o0 : ¬ (dK = 3) := (by have q := b0; simp at q; omega)
 refine wcf v0 (Ai o0) fun p0 => ?_
 refine Am <| xn z0 <| rR p0 fun z0 o0 => ?_
 refine rt1 o0 ?_
 have o0 := b1.pub 1 (Bw 1 n0 (((([]) ++ ([((dTA, dTc, dT) : Sl)])) ++ ([((dBA, dBc, dB) : Sl)]) : List Sl).length) c0 (B7 ((([]) ++ ([((dTA, dTc, dT) : Sl)])) ++ ([((dBA, dBc, dB) : Sl)]))))
 refine ⟨n0, c0, ((([]) ++ ([((dTA, dTc, dT) : Sl)])) ++ ([((dBA, dBc, dB) : Sl)])), ?_, o0.fr, o0.rx 9, o0.rx 8, (by unfold tmD; first | (rw [At (by omega)]; rfl) | (rw [Aq (by omega), At (by omega)]; rfl) | (rw [Aq (by omega), Aq (by omega), At (by omega), AM (by omega)]; exact EP dC) | (rw [Aq (by omega), Aq (by omega), Aq (by omega)]; rfl))⟩
 exact cre (CZ (by rfl))
 refine Am <| xn t0 <| Ac fun t0 o0 => rR q0 fun t0 c0 => ?_
 have t0 : ¬ (dK = 3) := (by have q := b0; simp at q; omega)
 refine wcf c0 (Ai t0) fun q0 => ?_
 refine Am <| xn o0 <| rR q0 fun o0 t0 => ?_
 refine rt1 t0 ?_
 have t0 := u0.pub 1 (Bw 1 h0 ((([]) ++ ([((dTA, dTc, dT) : Sl)]) : List Sl).length) k0 (B7 (([]) ++ ([((dTA, dTc, dT) : Sl)]))))
 refine ⟨h0, k0, (([]) ++ ([((dTA, dTc, dT) : Sl)])), ?_, t0.fr, t0.rx 7, t0.rx 6, (by unfold tmD; first | (rw [At (by omega)]; rfl) | (rw [Aq (by omega), At (by omega)]; rfl) | (rw [Aq (by omega), Aq (by omega), At (by omega), AM (by omega)]; exact EP dC) | (rw [Aq (by omega), Aq (by omega), Aq (by omega)]; rfl))⟩
 exact cre (CZ (by rfl))
 have t0 := CU b0
 have k0 := Ak t0
 have t0 := CT b0
 have b0 := Ak t0
 refine Am <| xn j0 <| Ac fun j0 b0 => rR f0 fun j0 t0 => ?_
 refine wcf t0 (Ai k0) fun j0 => ?_
 refine Am <| xn b0 <| Ac fun b0 t0 => rR j0 fun b0 k0 => ?_
 refine wcd k0 (fun b0 j0 => ?_) fun b0 f0 => ?_
 refine rR j0 fun b0 k0 => ?_
 refine A4 ?_
 refine AH (fun gn ga gw => ∃ i : Nat, ∃ Ao : Option Addr, ∃ co : Nat, (Reg ga 45 [(1000000, .bool false), (1, .pointer (some ⟨i0, 0, none⟩)), (2, .slice none 0 0), (4, .int .i64 (i : Int)), (3, .slice Ao ((Gb (dC.take i)).length) co)]) ∧ (St w0 Z A6 gw [.box i0 35 [.int .i64 dK, .int .i64 dL, .string dS, .slice dTA dT.length dTc, .slice dBA dB.length dBc, .slice dCA dC.length dCc], .row Ao ((Gb (dC.take i)).length) co 22 1 (B7 (Gb (dC.take i)))] [n4 dTA dTc dT, n4 dBA dBc dB, Bw 1 dCA dC.length dCc (CW dC), CG dC, Cl (Gb (dC.take i))]) ∧ (i ≤ dC.length) ∧ (dC.length - i) = gn) _ ⟨0, (some ⟨d0, 0, none⟩), 0, (k0.sub (rc4 (rc rfl rnl))), m0, by omega, rfl⟩ ?_
 rintro k0 i0 b0 ⟨i, Ao, co, j0, h0, hi, u0⟩
 have hsm0 := JJ hb i
 have hcl := Lw dC i
 have u0 : i < dC.length → (Bm dC i).2.2.length ≤ 100 := fun h => hb _ (DT h)
 refine Ac fun u0 b0 => rR j0 fun u0 i0 => ?_
 refine wcd i0 (fun u0 j0 => ?_) fun u0 k0 => ?_
 refine Am <| xn b0 <| Ac fun b0 u0 => A4 ?_
 refine A0 ?_
 refine lR j0 fun b0 i0 => ?_
 refine ix i (i * 1) i0 (Cn (t := dC) (k := i) (h0.row (i := 2) rfl).2 (by omega)).some_ fun b0 j0 => ?_
 refine lde 0 (i * 1) j0 (Cn (t := dC) (k := i) (h0.row (i := 2) rfl).2 (by omega)) fun b0 i0 => ?_
 have b0 := h0.elT 3 i
 have j0 := b0.elA 3 i
 refine BL (f := FK) (i := 1) (Gb (dC.take i)) ((Bm dC i).2.2) sv i0 j0 rfl rfl rfl rfl rfl Dc (D7 _) Be L3 rfl rfl (j0.row (i := 5) rfl).2.news rfl (by omega) (by decide) fun b0 o0 q0 c0 n0 b1 z0 => ?_
 have n0 : ((Gb (dC.take i)) ++ ((Bm dC i).2.2)).length = (Gb (dC.take i)).length + (Bm dC i).2.2.length := by (simp only [Ab, Ah, Ad, Aj]; done)
 have n0 := z0.data (Cl ((Gb (dC.take i)) ++ ((Bm dC i).2.2))) (CH (z0.get (i := 4) rfl) (z0.get (i := 6) rfl))
 refine asg b1 fun z0 o0 => ?_
 refine Ae ?_
 refine A7 <| xn u0 <| A0 ?_
 refine mv o0 fun u0 z0 => ?_
 refine adi ((i + 1 : Nat) : Int) z0 fun u0 o0 => ?_
 refine asg o0 fun u0 z0 => ?_
 refine Ae ?_
 have u0 : (Gb (dC.take i)) ++ ((Bm dC i).2.2) = Gb (dC.take (i + 1)) := MC (by omega)
 have o0 := z0
 have z0 := n0
 rw [u0] at o0 z0
 have u0 := z0.forget 6
 have z0 := u0.forget 5
 have u0 := z0.forget 4
 exact ⟨_, by omega, i + 1, q0, c0, (o0.sub (rc4 (rc rfl rnl))), u0, by omega, rfl⟩
 refine xe ?_
 refine xn t0 <| rR k0 fun u0 o0 => ?_
 refine rt1 o0 ?_
 have o0 := h0.pub 1 (Bw 1 Ao ((Gb (dC.take i)).length) co (B7 (Gb (dC.take i))))
 refine ⟨Ao, co, (Gb (dC.take i)), ?_, o0.fr, o0.rx 5, o0.rx 4, (by unfold tmD; first | (rw [At (by omega)]; rfl) | (rw [Aq (by omega), At (by omega)]; rfl) | (rw [Aq (by omega), Aq (by omega), At (by omega), AM (by omega)]; exact EP dC) | (rw [Aq (by omega), Aq (by omega), Aq (by omega)]; rfl))⟩
 exact cre (CZ (by rfl))
 refine Am <| xn t0 <| rR f0 fun t0 o0 => ?_
 refine rt1 o0 ?_
 have o0 := m0.pub 1 (Bw 1 (some ⟨d0, 0, none⟩) 0 0 (B7 ([])))
 refine ⟨(some ⟨d0, 0, none⟩), 0, ([]), ?_, o0.fr, o0.rx 5, o0.rx 4, (by unfold tmD; first | (rw [At (by omega)]; rfl) | (rw [Aq (by omega), At (by omega)]; rfl) | (rw [Aq (by omega), Aq (by omega), At (by omega), AM (by omega)]; exact EP dC) | (rw [Aq (by omega), Aq (by omega), Aq (by omega)]; rfl))⟩
 exact cre (CZ (by rfl))
theorem J5 (w0 : World) (Z : Nat → Prop) (hZ : HZ w0 Z) (dK : Int) (dL : Int) (dS : ByteArray) (dTA : Option Addr) (dTc : Nat) (dT : List Nd) (dBA : Option Addr) (dBc : Nat) (dB : List Nd) (dCA : Option Addr) (dCc : Nat) (dC : List Tl) (hdT : N4 dTA dTc dT w0 Z) (hdB : N4 dBA dBc dB w0 Z) (hdC : (Bw 1 dCA dC.length dCc (CW dC)).φ w0 Z) (hdCs : (CG dC).φ w0 Z) (hl : dC.length ≤ 100 := by exact ax) (hb : ∀ s ∈ dC, s.2.2.length ≤ 100 := by exact ax) (hall : ∀ x ∈ tmD dK dT dB (B1 dC), sml x ∧ x.length ≤ 1000000 := by exact ax) (hsS : dS.size < 1000000 := by exact ax) :
    Calls Tryz.prog 60 [.agg #[.int .i64 dK, .int .i64 dL, .string dS, .slice dTA dT.length dTc, .slice dBA dB.length dBc, .slice dCA dC.length dCc]].toArray w0 (fun e w' => e = .returned (.int .i64 (dkE dK dL dS dT dB dC)) ∧ Fr A6 w0 w') := by
 have b0 := s0 (M := A6) hZ (zc hdT (zc hdB (zc hdC (zc hdCs zn))))
 refine AE Tryz.func60 rfl Tryz.ntmps60 rfl fun c0 d0 => ?_
 refine wsc fun c0 f0 => bxx d0 b0 fun c0 h0 i0 j0 k0 => ?_
 refine aw j0 f0 fun h0 c0 => ?_
 refine Ac fun f0 h0 => wsc fun f0 j0 => lR c0 fun f0 d0 => ?_
 refine lOr 3 (decide (3 < dK)) d0 fun f0 c0 => ?_
 refine wn j0 <| wcg c0 (fun j0 f0 => ?_) fun j0 d0 => ?_
 have c0 := j0
 try simp only [bz] at c0
 refine rR f0 fun c0 b0 => ?_
 refine rt b0 k0.fr ?_
 exact Bz (by (have b0 := j0; (try simp at b0); exact (rd_1 (by omega)).symm))
 have c0 := CU j0
 have f0 := Ak c0
 have f0 := CT j0
 have c0 := Ak f0
 refine Am <| xn h0 <| Ac fun h0 c0 => wsc fun h0 f0 => lR d0 fun h0 m0 => ?_
 have h0 := k0.nf
 refine kra m0 h0 ok99 (LW _ _ h0.il dS) fun k0 d0 n0 o0 => ?_
 refine lR o0 fun n0 k0 => ?_
 refine wn f0 <| wch k0 (fun f0 n0 => ?_) fun f0 o0 => ?_
 refine Am <| xn c0 <| wsc fun c0 k0 => lR n0 fun c0 h0 => ?_
 have c0 := d0.nf
 refine krd h0 c0 ok100 (LR _ _ c0.il dK dL dS _ _ _ _ _ _ _ _ _ (c0.g 0) (c0.g 1) (c0.g 2) (c0.g 3)) fun n0 m0 p0 t0 u0 v0 x0 y0 => ?_
 refine aw y0 k0 fun x0 n0 => ?_
 refine Ac fun k0 x0 => rR n0 fun k0 y0 => ?_
 refine A4 ?_
 refine AH (fun gn ga gw => ∃ k : Nat, (Reg ga 96 [(1000000, .bool false), (1, .pointer (some ⟨i0, 0, none⟩)), (3, .slice m0 t0.length p0), (4, .int .i64 (k : Int))]) ∧ (St w0 Z A6 gw [.box i0 35 [.int .i64 dK, .int .i64 dL, .string dS, .slice dTA dT.length dTc, .slice dBA dB.length dBc, .slice dCA dC.length dCc]] [n4 dTA dTc dT, n4 dBA dBc dB, Bw 1 dCA dC.length dCc (CW dC), CG dC, Bw 1 m0 t0.length p0 (B7 t0), Cl t0]) ∧ (k ≤ t0.length) ∧ (∀ i, i < k → clT (Ce (tmD dK dT dB (B1 dC)) i) = 0) ∧ (t0.length - k) = gn) _ ⟨0, (y0.sub (rc2 (rc rfl (rc rfl rnl)))), v0, by omega, (fun _ h => by omega), rfl⟩ ?_
 rintro y0 v0 k0 ⟨k, n0, c0, hk, hi, h0⟩
 have hLk : (BF t0 k).2.2 = Ce (tmD dK dT dB (B1 dC)) k := by rw [AQ, u0]
 have hLl : t0.length = (tmD dK dT dB (B1 dC)).length := by rw [← Bs, u0]
 have hTl := Q2 (K := dK) (t := dT) (b := dB) hl hb
 refine Ac fun u0 h0 => rR n0 fun u0 k0 => ?_
 refine wcd k0 (fun u0 n0 => ?_) fun u0 v0 => ?_
 refine Am <| xn h0 <| Ac fun h0 u0 => A4 ?_
 refine wsc fun h0 k0 => lR n0 fun h0 y0 => ?_
 refine ix k (k * 1) y0 (BD (t := t0) (k := k) (c0.row (i := 4) rfl).2 (by omega)).some_ fun h0 n0 => ?_
 refine lde 0 (k * 1) n0 (BD (t := t0) (k := k) (c0.row (i := 4) rfl).2 (by omega)) fun h0 y0 => ?_
 have h0 := c0.el 5 k
 have n0 := h0.nf
 refine kra y0 n0 ok101 (KK _ _ n0.il _ _ ((BF t0 k).2.2) (n0.g 6) (hsm := (by rw [hLk]; exact (hall _ (CR (by omega))).1)) (hl := (by rw [hLk]; exact (hall _ (CR (by omega))).2))) fun h0 z0 b1 c1 => ?_
 refine aw c1 k0 fun b1 h0 => ?_
 refine rR h0 fun k0 b1 => ?_
 refine wce b1 (fun k0 h0 => ?_) fun k0 c1 => ?_
 refine Am <| A7 <| xn u0 <| A0 ?_
 refine mv h0 fun u0 k0 => ?_
 refine adi ((k + 1 : Nat) : Int) k0 fun u0 h0 => ?_
 refine asg h0 fun u0 k0 => ?_
 refine Ae ?_
 have u0 := z0.forget 6
 exact ⟨_, by omega, k + 1, (k0.sub (rc2 (rc rfl (rc rfl rnl)))), u0, by omega, SA hi (by rw [← hLk]; first | assumption | omega), rfl⟩
 refine rR c1 fun u0 k0 => ?_
 refine rt k0 z0.fr ?_
 exact Bz (by (have b0 := j0; (try simp at b0); first | (rw [hLk]; exact (T3 (by omega) (by simpa using f0) hi (by omega) (by rw [← hLk]; assumption)).symm) | exact (T2 (by omega) (by simpa using f0) (CE (fun i h => hi i (by omega))) (by omega)).symm | exact ((Hx (by omega) (by simpa using f0) (CE (fun i h => hi i (by omega))) (by omega)).trans (TL (by omega))).symm | exact ((Hx (by omega) (by simpa using f0) (CE (fun i h => hi i (by omega))) (by omega)).trans (TK (j := j) (by omega) (by omega))).symm | exact ((Hx (by omega) (by simpa using f0) (CE (fun i h => hi i (by omega))) (by omega)).trans (TM (by omega) (fun i h => hj2 i (by omega)))).symm))
 refine xe ?_
 refine xn x0 <| Ac fun x0 k0 => rR v0 fun x0 z0 => ?_
 refine wcd z0 (fun x0 v0 => ?_) fun x0 u0 => ?_
 refine wsc fun x0 z0 => lR v0 fun x0 c1 => ?_
 refine lOr 4 (decide (0 < (dB.length : Int))) c1 fun x0 v0 => ?_
 refine mv v0 fun x0 c1 => ?_
 refine lOr 3 (decide (dL < 1)) c1 fun x0 v0 => ?_
 refine mv v0 fun x0 c1 => ?_
 refine lOr 3 (decide (9 < dL)) c1 fun x0 v0 => ?_
 refine wn z0 <| wcg v0 (fun z0 x0 => ?_) fun z0 c1 => ?_
 have v0 := z0
 try simp only [bz] at v0
 refine rR x0 fun v0 h0 => ?_
 refine rt h0 c0.fr ?_
 exact Bz (by (have b0 := j0; (try simp at b0); have h0 := z0; (try simp at h0); first | (rw [hLk]; exact (T3 (by omega) (by simpa using f0) hi (by omega) (by rw [← hLk]; assumption)).symm) | exact (T2 (by omega) (by simpa using f0) (CE (fun i h => hi i (by omega))) (by omega)).symm | exact ((Hx (by omega) (by simpa using f0) (CE (fun i h => hi i (by omega))) (by omega)).trans (TL (by omega))).symm | exact ((Hx (by omega) (by simpa using f0) (CE (fun i h => hi i (by omega))) (by omega)).trans (TK (j := j) (by omega) (by omega))).symm | exact ((Hx (by omega) (by simpa using f0) (CE (fun i h => hi i (by omega))) (by omega)).trans (TM (by omega) (fun i h => hj2 i (by omega)))).symm))
 have v0 := CU z0
 have x0 := CU v0
 have b1 := CU x0
 have n0 := Ak b1
 have n0 := CT x0
 have x0 := Ak n0
 have x0 := CT v0
 have v0 := Ak x0
 have v0 := CT z0
 have x0 := Ak v0
 refine Am <| xn k0 <| Ac fun x0 v0 => rR c1 fun x0 n0 => ?_
 refine wcd n0 (fun x0 c1 => ?_) fun x0 b1 => ?_
 refine rR c1 fun x0 n0 => ?_
 refine rt n0 c0.fr ?_
 exact Bz (by (have b0 := j0; (try simp at b0); have h0 := z0; (try simp at h0); first | (rw [hLk]; exact (T3 (by omega) (by simpa using f0) hi (by omega) (by rw [← hLk]; assumption)).symm) | exact (T2 (by omega) (by simpa using f0) (CE (fun i h => hi i (by omega))) (by omega)).symm | exact ((Hx (by omega) (by simpa using f0) (CE (fun i h => hi i (by omega))) (by omega)).trans (TL (by omega))).symm | exact ((Hx (by omega) (by simpa using f0) (CE (fun i h => hi i (by omega))) (by omega)).trans (TK (j := j) (by omega) (by omega))).symm | exact ((Hx (by omega) (by simpa using f0) (CE (fun i h => hi i (by omega))) (by omega)).trans (TM (by omega) (fun i h => hj2 i (by omega)))).symm))
 refine Am <| xn v0 <| Ac fun v0 n0 => rR b1 fun v0 x0 => ?_
 refine A4 ?_
 refine AH (fun gn ga gw => ∃ j : Nat, (Reg ga 96 [(1000000, .bool false), (1, .pointer (some ⟨i0, 0, none⟩)), (6, .int .i64 (j : Int))]) ∧ (St w0 Z A6 gw [.box i0 35 [.int .i64 dK, .int .i64 dL, .string dS, .slice dTA dT.length dTc, .slice dBA dB.length dBc, .slice dCA dC.length dCc]] [n4 dTA dTc dT, n4 dBA dBc dB, Bw 1 dCA dC.length dCc (CW dC), CG dC, Bw 1 m0 t0.length p0 (B7 t0), Cl t0]) ∧ (j ≤ dC.length) ∧ (∀ i, i < j → (fun s : Tl => decide (6 < s.2.2.length)) (Bm dC i) = false) ∧ (dC.length - j) = gn) _ ⟨0, (x0.sub (rc2 (rc rfl rnl))), c0, by omega, (fun _ h => by omega), rfl⟩ ?_
 rintro x0 v0 b1 ⟨j, c1, y0, hj, hj2, d1⟩
 refine Ac fun d1 b1 => rR c1 fun d1 v0 => ?_
 refine wcd v0 (fun d1 c1 => ?_) fun d1 x0 => ?_
 refine Am <| xn b1 <| Ac fun b1 d1 => A4 ?_
 refine wsc fun b1 v0 => lR c1 fun b1 f1 => ?_
 refine ix j (j * 1) f1 (Cn (t := dC) (k := j) (y0.row (i := 2) rfl).2 (by omega)).some_ fun b1 c1 => ?_
 refine lde 0 (j * 1) c1 (Cn (t := dC) (k := j) (y0.row (i := 2) rfl).2 (by omega)) fun b1 f1 => ?_
 have b1 := y0.elT 3 j
 have c1 := b1.elA 3 j
 refine lR f1 fun b1 h1 => ?_
 refine wn v0 <| wcd h1 (fun v0 b1 => ?_) fun v0 f1 => ?_
 refine rR b1 fun v0 h1 => ?_
 refine rt h1 c1.fr ?_
 exact Bz (by (have b0 := j0; (try simp at b0); have h0 := z0; (try simp at h0); first | (rw [hLk]; exact (T3 (by omega) (by simpa using f0) hi (by omega) (by rw [← hLk]; assumption)).symm) | exact (T2 (by omega) (by simpa using f0) (CE (fun i h => hi i (by omega))) (by omega)).symm | exact ((Hx (by omega) (by simpa using f0) (CE (fun i h => hi i (by omega))) (by omega)).trans (TL (by omega))).symm | exact ((Hx (by omega) (by simpa using f0) (CE (fun i h => hi i (by omega))) (by omega)).trans (TK (j := j) (by omega) (by omega))).symm | exact ((Hx (by omega) (by simpa using f0) (CE (fun i h => hi i (by omega))) (by omega)).trans (TM (by omega) (fun i h => hj2 i (by omega)))).symm))
 refine Am <| A7 <| xn d1 <| A0 ?_
 refine mv f1 fun d1 h1 => ?_
 refine adi ((j + 1 : Nat) : Int) h1 fun d1 f1 => ?_
 refine asg f1 fun d1 h1 => ?_
 refine Ae ?_
 have d1 := c1.forget 7
 have c1 := d1.forget 6
 exact ⟨_, by omega, j + 1, (h1.sub (rc2 (rc rfl rnl))), c1, by omega, Nk hj2 (Ai (by omega)), rfl⟩
 refine xe ?_
 refine xn n0 <| rR x0 fun n0 c1 => ?_
 refine rt c1 y0.fr ?_
 exact Bz (by (have b0 := j0; (try simp at b0); have h0 := z0; (try simp at h0); first | (rw [hLk]; exact (T3 (by omega) (by simpa using f0) hi (by omega) (by rw [← hLk]; assumption)).symm) | exact (T2 (by omega) (by simpa using f0) (CE (fun i h => hi i (by omega))) (by omega)).symm | exact ((Hx (by omega) (by simpa using f0) (CE (fun i h => hi i (by omega))) (by omega)).trans (TL (by omega))).symm | exact ((Hx (by omega) (by simpa using f0) (CE (fun i h => hi i (by omega))) (by omega)).trans (TK (j := j) (by omega) (by omega))).symm | exact ((Hx (by omega) (by simpa using f0) (CE (fun i h => hi i (by omega))) (by omega)).trans (TM (by omega) (fun i h => hj2 i (by omega)))).symm))
 refine wsc fun z0 c1 => lR u0 fun z0 y0 => ?_
 refine lOr 3 (!(decide (dL = 0))) y0 fun z0 u0 => ?_
 refine mv u0 fun z0 y0 => ?_
 refine EA (fun ga gw => Reg ga 96 [(1, .pointer (some ⟨i0, 0, none⟩)), (77, .bool (((decide (0 < (dC.length : Int))) || (!(decide (dL = 0)))) || ((decide (dK = 2)) && (decide (0 < (dB.length : Int)))))), (1000000, .bool false)] ∧ St w0 Z A6 gw [.box i0 35 [.int .i64 dK, .int .i64 dL, .string dS, .slice dTA dT.length dTc, .slice dBA dB.length dBc, .slice dCA dC.length dCc]] [n4 dTA dTc dT, n4 dBA dBc dB, Bw 1 dCA dC.length dCc (CW dC), CG dC, Bw 1 m0 t0.length p0 (B7 t0), Cl t0]) 10 ?_ ?_
 refine spg 67 y0 (fun z0 u0 => ?_) fun z0 n0 => ?_
 have y0 := z0
 try simp only [bz] at y0
 refine lR u0 fun y0 x0 => ?_
 refine Ae ?_
 exact AC ⟨(x0.sub (rc rfl (rc (rb rfl (by (simp only [z0, bl]; done))) (rc rfl rnl)))), c0⟩
 have x0 := CU z0
 have y0 := Ak x0
 have y0 := CT z0
 have x0 := He y0
 have y0 := A9 x0
 refine lR n0 fun y0 x0 => ?_
 refine spd 71 x0 (fun y0 n0 => ?_) fun y0 u0 => ?_
 refine lR n0 fun x0 h1 => ?_
 refine Ae ?_
 exact AC ⟨(h1.sub (rc rfl (rc (rb rfl (by (simp only [z0, Aw y0, At y0, bl]; done))) (rc rfl rnl)))), c0⟩
 refine lR u0 fun h1 x0 => ?_
 refine Ae ?_
 exact AC ⟨(x0.sub (rc rfl (rc (rb rfl (by (simp only [z0, Ai y0, Aq y0, bl]; done))) (rc rfl rnl)))), c0⟩
 rintro x0 y0 ⟨z0, c0⟩
 refine wn c1 <| wcg z0 (fun c1 y0 => ?_) fun c1 x0 => ?_
 have z0 := c1
 try simp only [bz] at z0
 refine rR y0 fun z0 h1 => ?_
 refine rt h1 c0.fr ?_
 exact Bz (by (have b0 := j0; (try simp at b0); have h0 := c1; (try simp at h0); first | (rw [hLk]; exact (T3 (by omega) (by simpa using f0) hi (by omega) (by rw [← hLk]; assumption)).symm) | exact (T2 (by omega) (by simpa using f0) (CE (fun i h => hi i (by omega))) (by omega)).symm | exact ((Hx (by omega) (by simpa using f0) (CE (fun i h => hi i (by omega))) (by omega)).trans (TL (by omega))).symm | exact ((Hx (by omega) (by simpa using f0) (CE (fun i h => hi i (by omega))) (by omega)).trans (TK (j := j) (by omega) (by omega))).symm | exact ((Hx (by omega) (by simpa using f0) (CE (fun i h => hi i (by omega))) (by omega)).trans (TM (by omega) (fun i h => hj2 i (by omega)))).symm))
 have h1 := CU c1
 have z0 := CU h1
 have y0 := Ak z0
 have y0 := CT h1
 have h1 := He y0
 have y0 := A9 h1
 have y0 := CT c1
 have h1 := y0
 try simp only [bz] at h1
 refine Am <| xn k0 <| Ac fun k0 h1 => rR x0 fun k0 y0 => ?_
 refine wcd y0 (fun k0 x0 => ?_) fun k0 z0 => ?_
 refine rR x0 fun k0 y0 => ?_
 refine rt y0 c0.fr ?_
 exact Bz (by (have b0 := j0; (try simp at b0); have h0 := c1; (try simp at h0); first | (rw [hLk]; exact (T3 (by omega) (by simpa using f0) hi (by omega) (by rw [← hLk]; assumption)).symm) | exact (T2 (by omega) (by simpa using f0) (CE (fun i h => hi i (by omega))) (by omega)).symm | exact ((Hx (by omega) (by simpa using f0) (CE (fun i h => hi i (by omega))) (by omega)).trans (TL (by omega))).symm | exact ((Hx (by omega) (by simpa using f0) (CE (fun i h => hi i (by omega))) (by omega)).trans (TK (j := j) (by omega) (by omega))).symm | exact ((Hx (by omega) (by simpa using f0) (CE (fun i h => hi i (by omega))) (by omega)).trans (TM (by omega) (fun i h => hj2 i (by omega)))).symm))
 refine Am <| xn h1 <| Ac fun h1 y0 => rR z0 fun h1 k0 => ?_
 refine A4 ?_
 refine AH (fun gn ga gw => ∃ j : Nat, (Reg ga 96 [(1, .pointer (some ⟨i0, 0, none⟩)), (1000000, .bool false), (6, .int .i64 (j : Int))]) ∧ (St w0 Z A6 gw [.box i0 35 [.int .i64 dK, .int .i64 dL, .string dS, .slice dTA dT.length dTc, .slice dBA dB.length dBc, .slice dCA dC.length dCc]] [n4 dTA dTc dT, n4 dBA dBc dB, Bw 1 dCA dC.length dCc (CW dC), CG dC, Bw 1 m0 t0.length p0 (B7 t0), Cl t0]) ∧ (j ≤ dC.length) ∧ (∀ i, i < j → (fun s : Tl => decide (6 < s.2.2.length)) (Bm dC i) = false) ∧ (dC.length - j) = gn) _ ⟨0, (k0.sub (rc2 (rc rfl rnl))), c0, by omega, (fun _ h => by omega), rfl⟩ ?_
 rintro k0 c0 t0 ⟨j, p0, m0, hj, hj2, i0⟩
 refine Ac fun i0 t0 => rR p0 fun i0 c0 => ?_
 refine wcd c0 (fun i0 p0 => ?_) fun i0 k0 => ?_
 refine Am <| xn t0 <| Ac fun t0 i0 => A4 ?_
 refine wsc fun t0 c0 => lR p0 fun t0 h1 => ?_
 refine ix j (j * 1) h1 (Cn (t := dC) (k := j) (m0.row (i := 2) rfl).2 (by omega)).some_ fun t0 p0 => ?_
 refine lde 0 (j * 1) p0 (Cn (t := dC) (k := j) (m0.row (i := 2) rfl).2 (by omega)) fun t0 h1 => ?_
 have t0 := m0.elT 3 j
 have p0 := t0.elA 3 j
 refine lR h1 fun t0 z0 => ?_
 refine wn c0 <| wcd z0 (fun c0 t0 => ?_) fun c0 h1 => ?_
 refine rR t0 fun c0 z0 => ?_
 refine rt z0 p0.fr ?_
 exact Bz (by (have b0 := j0; (try simp at b0); have h0 := c1; (try simp at h0); first | (rw [hLk]; exact (T3 (by omega) (by simpa using f0) hi (by omega) (by rw [← hLk]; assumption)).symm) | exact (T2 (by omega) (by simpa using f0) (CE (fun i h => hi i (by omega))) (by omega)).symm | exact ((Hx (by omega) (by simpa using f0) (CE (fun i h => hi i (by omega))) (by omega)).trans (TL (by omega))).symm | exact ((Hx (by omega) (by simpa using f0) (CE (fun i h => hi i (by omega))) (by omega)).trans (TK (j := j) (by omega) (by omega))).symm | exact ((Hx (by omega) (by simpa using f0) (CE (fun i h => hi i (by omega))) (by omega)).trans (TM (by omega) (fun i h => hj2 i (by omega)))).symm))
 refine Am <| A7 <| xn i0 <| A0 ?_
 refine mv h1 fun i0 z0 => ?_
 refine adi ((j + 1 : Nat) : Int) z0 fun i0 h1 => ?_
 refine asg h1 fun i0 z0 => ?_
 refine Ae ?_
 have i0 := p0.forget 7
 have p0 := i0.forget 6
 exact ⟨_, by omega, j + 1, (z0.sub (rc2 (rc rfl rnl))), p0, by omega, Nk hj2 (Ai (by omega)), rfl⟩
 refine xe ?_
 refine xn y0 <| rR k0 fun y0 p0 => ?_
 refine rt p0 m0.fr ?_
 exact Bz (by (have b0 := j0; (try simp at b0); have h0 := c1; (try simp at h0); first | (rw [hLk]; exact (T3 (by omega) (by simpa using f0) hi (by omega) (by rw [← hLk]; assumption)).symm) | exact (T2 (by omega) (by simpa using f0) (CE (fun i h => hi i (by omega))) (by omega)).symm | exact ((Hx (by omega) (by simpa using f0) (CE (fun i h => hi i (by omega))) (by omega)).trans (TL (by omega))).symm | exact ((Hx (by omega) (by simpa using f0) (CE (fun i h => hi i (by omega))) (by omega)).trans (TK (j := j) (by omega) (by omega))).symm | exact ((Hx (by omega) (by simpa using f0) (CE (fun i h => hi i (by omega))) (by omega)).trans (TM (by omega) (fun i h => hj2 i (by omega)))).symm))
 refine rR o0 fun c1 h0 => ?_
 refine rt h0 d0.fr ?_
 exact Bz (by (have b0 := j0; (try simp at b0); exact (rd_2 (by omega) (by simpa using f0)).symm))
theorem IA (w0 : World) (Z : Nat → Prop) (hZ : HZ w0 Z) (z : ByteArray) (tA : Option Addr) (tc : Nat) (t : List Nd) (ht : N4 tA tc t w0 Z) (hl : t.length ≤ 1000000 := by exact ax) :
    Calls Tryz.prog 37 [.string z, .slice tA t.length tc].toArray w0 (fun e w' => e = .returned (.bool (decide (t = Tf z))) ∧ Fr A6 w0 w') := by
 have b0 := s0 (M := A6) hZ (zc ht zn)
 refine AE Tryz.func37 rfl Tryz.ntmps37 rfl fun c0 d0 => ?_
 refine rR d0 fun c0 f0 => ?_
 refine wsc fun c0 d0 => lR f0 fun c0 h0 => ?_
 refine spd 8 h0 (fun c0 f0 => ?_) fun c0 i0 => ?_
 refine lR f0 fun c0 h0 => ?_
 refine ix 0 (0 * 4) h0 (Bp (t := t) (k := 0) (b0.row (i := 0) rfl).2 (by omega)).some_ fun c0 f0 => ?_
 refine Cw (Bb (wt f0)) f0 rfl rfl rfl (Bp (t := t) (k := 0) (b0.row (i := 0) rfl).2 (by omega)) Ar rfl DK (by decide) fun c0 h0 => ?_
 refine lR h0 fun c0 f0 => ?_
 refine bld f0 fun c0 h0 => ?_
 refine UO (m := (nth t 0)) (n := (⟨25, 0, 0, z⟩ : Nd)) (Bb (wt h0)) h0 rfl rfl rfl rfl (by decide) fun c0 f0 => ?_
 refine lR f0 fun c0 h0 => ?_
 refine wn d0 <| rt h0 b0.fr ?_
 exact BQ (by first | exact UU (by omega) | exact UX (by omega))
 refine lR i0 fun h0 c0 => ?_
 refine wn d0 <| rt c0 b0.fr ?_
 exact BQ (by first | exact UU (by omega) | exact UX (by omega))
theorem FE (w0 : World) (Z : Nat → Prop) (hZ : HZ w0 Z) (z : ByteArray) (tA : Option Addr) (tc : Nat) (t : List Nd) (ht : N4 tA tc t w0 Z) (hsm : sml t := by exact ax) (hl : t.length ≤ 1000000 := by exact ax) :
    Calls Tryz.prog 14 [.string z, .slice tA t.length tc].toArray w0 (fun e w' => e = .returned (.int .i64 (kdA z t)) ∧ Fr A6 w0 w') := by
 have b0 := s0 (M := A6) hZ (zc ht zn)
 refine AE Tryz.func14 rfl Tryz.ntmps14 rfl fun c0 d0 => ?_
 refine rR d0 fun c0 f0 => ?_
 refine Ac fun c0 d0 => wsc fun c0 h0 => mv f0 fun c0 i0 => ?_
 have c0 := b0.nf
 refine kra i0 c0 Th (De _ _ c0.il _ _ _ (c0.g 0) (hl := (by omega)) (hsm := hsm)) fun b0 f0 j0 k0 => ?_
 refine lR k0 fun j0 b0 => ?_
 refine wn h0 <| wce b0 (fun h0 j0 => ?_) fun h0 k0 => ?_
 have hct := h0
 have hpt := FL hct
 refine Am <| xn d0 <| Ac fun d0 b0 => wsc fun d0 c0 => lR j0 fun d0 i0 => ?_
 have d0 := f0.nf
 refine kra i0 d0 ok37 (IA _ _ d0.il z _ _ _ (d0.g 0) (hl := (by omega))) fun j0 m0 n0 o0 => ?_
 refine wn c0 <| wcg o0 (fun c0 n0 => ?_) fun c0 j0 => ?_
 have o0 := A9 c0
 refine rR n0 fun d0 i0 => ?_
 refine rt i0 m0.fr ?_
 exact Bz (by (unfold kdA; first | (rw [At (by assumption)]; done) | (rw [Aq (by omega)]; simp only [h0, c0, o0, if_true, if_false, true_and, false_and, and_true, and_false]; done) | (rw [Aq (by omega), Aq (by assumption)]; first | (rw [At ⟨by assumption, by rw [← hLg, ← AQ]; assumption⟩]; done) | (rw [Aq (fun q => (by assumption : ¬ _) (by rw [AQ, hLg]; exact q.2))]; done) | (rw [Aq (fun q => absurd q.1 (by assumption))]))))
 have o0 := Ak c0
 refine Am <| xn b0 <| Ac fun b0 i0 => wsc fun b0 d0 => mv j0 fun b0 n0 => ?_
 have b0 := m0.nf
 refine kra n0 b0 R3 (Dl _ _ b0.il _ _ _ (b0.g 0)) fun m0 j0 p0 q0 => ?_
 refine Io (v := .int .i64 ((nth t (t.length - 1)).K)) sv q0 rfl rfl rfl (fun _ => by kernel_rfl) (by decide) fun p0 m0 => ?_
 refine lR m0 fun p0 q0 => ?_
 refine spd 15 q0 (fun p0 m0 => ?_) fun p0 b0 => ?_
 have hm2 := IR p0
 refine lR m0 fun q0 n0 => ?_
 have q0 := j0.nf
 refine krd n0 q0 R4 (CN _ _ q0.il _ _ _ (q0.g 0) (hl := hl) (hsm := hsm) (hb := (BO hct))) fun m0 t0 u0 v0 x0 y0 z0 b1 => ?_
 have hLg := x0.trans (Fh hct).symm
 have hgl := (ag_len hct hLg).1
 obtain ⟨hg1, hg2, hg3⟩ := ML (k := 1) hct hLg hsm (by omega)
 refine ix 1 (1 * 1) b1 (BD (t := v0) (k := 1) (y0.row (i := 1) rfl).2 (by omega)).some_ fun x0 z0 => ?_
 refine lde 0 (1 * 1) z0 (BD (t := v0) (k := 1) (y0.row (i := 1) rfl).2 (by omega)) fun x0 b1 => ?_
 have x0 := y0.el 2 1
 have y0 := x0.nf
 refine kra b1 y0 ok37 (IA _ _ y0.il z _ _ ((BF v0 1).2.2) (y0.g 3) (hl := (by omega))) fun x0 z0 u0 t0 => ?_
 refine lR t0 fun u0 x0 => ?_
 refine wn d0 <| wcg x0 (fun u0 t0 => ?_) fun u0 y0 => ?_
 have x0 := A9 u0
 refine rR t0 fun b1 v0 => ?_
 refine rt v0 z0.fr ?_
 exact Bz (by (unfold kdA; first | (rw [At (by assumption)]; done) | (rw [Aq (by omega)]; simp only [h0, c0, o0, p0, u0, x0, if_true, if_false, true_and, false_and, and_true, and_false]; done) | (rw [Aq (by omega), Aq (by assumption)]; first | (rw [At ⟨by assumption, by rw [← hLg, ← AQ]; assumption⟩]; done) | (rw [Aq (fun q => (by assumption : ¬ _) (by rw [AQ, hLg]; exact q.2))]; done) | (rw [Aq (fun q => absurd q.1 (by assumption))]))))
 have x0 := Ak u0
 refine Am <| xn i0 <| rR y0 fun v0 b1 => ?_
 refine rt b1 z0.fr ?_
 exact Bz (by (unfold kdA; first | (rw [At (by assumption)]; done) | (rw [Aq (by omega)]; simp only [h0, c0, o0, p0, u0, x0, if_true, if_false, true_and, false_and, and_true, and_false]; done) | (rw [Aq (by omega), Aq (by assumption)]; first | (rw [At ⟨by assumption, by rw [← hLg, ← AQ]; assumption⟩]; done) | (rw [Aq (fun q => (by assumption : ¬ _) (by rw [AQ, hLg]; exact q.2))]; done) | (rw [Aq (fun q => absurd q.1 (by assumption))]))))
 refine lR b0 fun x0 u0 => ?_
 refine wn d0 <| CP (u0.ev rfl) ?_
 refine Am <| xn i0 <| rR u0 fun i0 d0 => ?_
 refine rt d0 j0.fr ?_
 exact Bz (by (unfold kdA; first | (rw [At (by assumption)]; done) | (rw [Aq (by omega)]; simp only [h0, c0, o0, p0, if_true, if_false, true_and, false_and, and_true, and_false]; done) | (rw [Aq (by omega), Aq (by assumption)]; first | (rw [At ⟨by assumption, by rw [← hLg, ← AQ]; assumption⟩]; done) | (rw [Aq (fun q => (by assumption : ¬ _) (by rw [AQ, hLg]; exact q.2))]; done) | (rw [Aq (fun q => absurd q.1 (by assumption))]))))
 refine rR k0 fun p0 o0 => ?_
 refine rt o0 f0.fr ?_
 exact Bz (by (unfold kdA; first | (rw [At (by assumption)]; done) | (rw [Aq (by omega)]; simp only [h0, if_true, if_false, true_and, false_and, and_true, and_false]; done) | (rw [Aq (by omega), Aq (by assumption)]; first | (rw [At ⟨by assumption, by rw [← hLg, ← AQ]; assumption⟩]; done) | (rw [Aq (fun q => (by assumption : ¬ _) (by rw [AQ, hLg]; exact q.2))]; done) | (rw [Aq (fun q => absurd q.1 (by assumption))]))))
theorem G3 (w0 : World) (Z : Nat → Prop) (hZ : HZ w0 Z) (tA : Option Addr) (tc : Nat) (t : List Nd) (q : ByteArray) (ht : N4 tA tc t w0 Z) (hl : t.length ≤ 1000000 := by exact ax) :
    Calls Tryz.prog 102 [.slice tA t.length tc, .string q].toArray w0 (fun e w' => e = .returned (.bool (t.any (meN q))) ∧ Fr A6 w0 w') := by
 have b0 := s0 (M := A6) hZ (zc ht zn)
 refine AE Tryz.func102 rfl Tryz.ntmps102 rfl fun c0 d0 => ?_
 refine rR d0 fun c0 f0 => ?_
 refine Ac fun c0 d0 => rR f0 fun c0 h0 => ?_
 refine A4 ?_
 refine AH (fun gn ga gw => ∃ k : Nat, (Reg ga 43 [(1000000, .bool false), (0, .slice tA t.length tc), (1, .string q), (5, .int .i64 (k : Int))]) ∧ (St w0 Z A6 gw [] [n4 tA tc t]) ∧ (k ≤ t.length) ∧ (∀ j, j < k → meN q (nth t j) = false) ∧ (t.length - k) = gn) _ ⟨0, (h0.sub (rc2 (rc rfl (rc rfl rnl)))), b0, by omega, (fun _ h => by omega), rfl⟩ ?_
 rintro h0 b0 c0 ⟨k, f0, i0, hk, hi, j0⟩
 refine Ac fun j0 c0 => rR f0 fun j0 b0 => ?_
 refine wcd b0 (fun j0 f0 => ?_) fun j0 h0 => ?_
 refine Am <| xn c0 <| Ac fun c0 j0 => A4 ?_
 refine wsc fun c0 b0 => lR f0 fun c0 k0 => ?_
 refine ix k (k * 4) k0 (Bp (t := t) (k := k) (i0.row (i := 0) rfl).2 (by omega)).some_ fun c0 f0 => ?_
 refine CB (j' := k * 4) sv f0 rfl rfl rfl (Bp (t := t) (k := k) (i0.row (i := 0) rfl).2 (by omega)).some_ Ar rfl sz3 rfl rfl (by decide) fun c0 k0 => ?_
 refine lde 0 (k * 4) k0 (Bp (t := t) (k := k) (i0.row (i := 0) rfl).2 (by omega)) fun c0 f0 => ?_
 refine lR f0 fun c0 k0 => ?_
 refine l_or 6 (decide (((nth t k).K) = 26)) k0 (fun c0 f0 m0 => ?_) fun n0 o0 => ?_
 have n0 := Ak c0
 refine CI (Bb (wt f0)) f0 rfl rfl rfl (by decide) fun n0 c0 => ?_
 refine CI (Bb (wt c0)) c0 rfl rfl rfl (by decide) fun n0 f0 => ?_
 refine ix k (k * 4) f0 (Bp (t := t) (k := k) (i0.row (i := 0) rfl).2 (by omega)).some_ fun n0 c0 => ?_
 refine CB (j' := k * 4) (Bb (wt c0)) c0 rfl rfl rfl (Bp (t := t) (k := k) (i0.row (i := 0) rfl).2 (by omega)).some_ Ar rfl sz3 rfl rfl (by decide) fun n0 f0 => ?_
 refine lde 0 (k * 4) f0 (Bp (t := t) (k := k) (i0.row (i := 0) rfl).2 (by omega)) fun n0 c0 => ?_
 refine Nn (Bb (wt c0)) c0 rfl rfl rfl rfl (by decide) fun n0 f0 => ?_
 refine FG sv f0 rfl rfl rfl rfl (by decide) fun n0 c0 => ?_
 exact m0.fin c0
 refine mv o0 fun c0 m0 => ?_
 refine l_or 6 (decide (((nth t k).K) = 27)) m0 (fun c0 o0 n0 => ?_) fun f0 k0 => ?_
 have f0 := CU c0
 have m0 := Ak f0
 have m0 := CT c0
 have c0 := Ak m0
 refine CI (Bb (wt o0)) o0 rfl rfl rfl (by decide) fun c0 m0 => ?_
 refine CI (Bb (wt m0)) m0 rfl rfl rfl (by decide) fun c0 o0 => ?_
 refine ix k (k * 4) o0 (Bp (t := t) (k := k) (i0.row (i := 0) rfl).2 (by omega)).some_ fun c0 m0 => ?_
 refine CB (j' := k * 4) (Bb (wt m0)) m0 rfl rfl rfl (Bp (t := t) (k := k) (i0.row (i := 0) rfl).2 (by omega)).some_ Ar rfl sz3 rfl rfl (by decide) fun c0 o0 => ?_
 refine lde 0 (k * 4) o0 (Bp (t := t) (k := k) (i0.row (i := 0) rfl).2 (by omega)) fun c0 m0 => ?_
 refine Nn (Bb (wt m0)) m0 rfl rfl rfl rfl (by decide) fun c0 o0 => ?_
 refine FG sv o0 rfl rfl rfl rfl (by decide) fun c0 m0 => ?_
 exact n0.fin m0
 refine mv k0 fun m0 n0 => ?_
 refine TU 7 (decide ((nth t k).S = q)) n0 (fun m0 k0 c0 => ?_) fun o0 f0 => ?_
 have o0 := m0
 try simp only [bz] at o0
 refine CI (Bb (wt k0)) k0 rfl rfl rfl (by decide) fun o0 m0 => ?_
 refine CI (Bb (wt m0)) m0 rfl rfl rfl (by decide) fun o0 k0 => ?_
 refine ix k (k * 4) k0 (Bp (t := t) (k := k) (i0.row (i := 0) rfl).2 (by omega)).some_ fun o0 m0 => ?_
 refine CB (j' := k * 4 + 3) (Bb (wt m0)) m0 rfl rfl rfl (Bp (t := t) (k := k) (i0.row (i := 0) rfl).2 (by omega)).some_ Ar rfl sz9 rfl rfl (by decide) fun o0 k0 => ?_
 refine lde 3 (k * 4) k0 (Bp (t := t) (k := k) (i0.row (i := 0) rfl).2 (by omega)) fun o0 m0 => ?_
 refine CI (Bb (wt m0)) m0 rfl rfl rfl (by decide) fun o0 k0 => ?_
 refine r_eqlS (Bb (wt k0)) k0 rfl rfl rfl rfl (by decide) fun o0 m0 => ?_
 refine EX sv m0 rfl rfl rfl rfl (by decide) fun o0 k0 => ?_
 exact c0.fin k0
 refine wn b0 <| wcg f0 (fun b0 k0 => ?_) fun b0 c0 => ?_
 have f0 := Eu b0
 have o0 := f0
 try simp only [bz] at o0
 have o0 := Et b0
 have f0 := A9 o0
 refine rR k0 fun f0 o0 => ?_
 refine rt o0 i0.fr ?_
 exact BQ (by exact (rs_yes (k := k) (by omega) b0).symm)
 have o0 := b0
 try simp only [bz] at o0
 refine Am <| A7 <| xn j0 <| A0 ?_
 refine mv c0 fun j0 o0 => ?_
 refine adi ((k + 1 : Nat) : Int) o0 fun j0 c0 => ?_
 refine asg c0 fun j0 o0 => ?_
 refine Ae ?_
 exact ⟨_, by omega, k + 1, (o0.sub (rc2 (rc rfl (rc rfl rnl)))), i0, by omega, Nk hi (rs_no b0), rfl⟩
 refine xe ?_
 refine xn d0 <| rR h0 fun d0 o0 => ?_
 refine rt o0 i0.fr ?_
 exact BQ (by exact (rs_all (fun i h => hi i (by omega))).symm)
theorem Py (w0 : World) (Z : Nat → Prop) (hZ : HZ w0 Z) (q : ByteArray) (tA : Option Addr) (tc : Nat) (t : List Nd) (ht : N4 tA tc t w0 Z) (hsm : sml t := by exact ax) (hl : t.length ≤ 1000000 := by exact ax) :
    Calls Tryz.prog 61 [.string q, .slice tA t.length tc].toArray w0 (fun e w' => e = .returned (.int .i64 (poP q t)) ∧ Fr A6 w0 w') := by
 have b0 := s0 (M := A6) hZ (zc ht zn)
 refine AE Tryz.func61 rfl Tryz.ntmps61 rfl fun c0 d0 => ?_
 refine rR d0 fun c0 f0 => ?_
 refine wsc fun c0 d0 => mv f0 fun c0 h0 => ?_
 have c0 := b0.nf
 refine kra h0 c0 Th (De _ _ c0.il _ _ _ (c0.g 0) (hl := (by omega)) (hsm := hsm)) fun b0 f0 i0 j0 => ?_
 refine aw j0 d0 fun i0 b0 => ?_
 refine Ac fun d0 i0 => rR b0 fun d0 j0 => ?_
 refine wce j0 (fun d0 b0 => ?_) fun d0 c0 => ?_
 have hct := d0
 have hpt := FL hct
 refine Am <| xn i0 <| wsc fun i0 j0 => lR b0 fun i0 h0 => ?_
 have i0 := f0.nf
 refine kra h0 i0 ok14 (FE _ _ i0.il q _ _ _ (i0.g 0) (hsm := hsm) (hl := hl)) fun b0 k0 m0 n0 => ?_
 refine aw n0 j0 fun m0 b0 => ?_
 refine Ac fun j0 m0 => wsc fun j0 n0 => lR b0 fun j0 i0 => ?_
 refine spd 17 i0 (fun j0 b0 => ?_) fun j0 h0 => ?_
 refine lR b0 fun i0 o0 => ?_
 refine wn n0 <| CF (o0.ev rfl) ?_
 refine rR o0 fun i0 b0 => ?_
 refine rt b0 k0.fr ?_
 exact Bz (by exact (Rq hct (by assumption)).symm)
 refine lR h0 fun b0 i0 => ?_
 refine spd 20 i0 (fun b0 h0 => ?_) fun b0 o0 => ?_
 obtain ⟨_, _, i0⟩ := IX (s := q) (t := t) (by omega) (by omega)
 have hm2 := IR i0
 refine lR h0 fun i0 p0 => ?_
 have i0 := k0.nf
 refine krd p0 i0 R4 (CN _ _ i0.il _ _ _ (i0.g 0) (hl := hl) (hsm := hsm) (hb := (BO hct))) fun h0 q0 t0 u0 v0 x0 y0 z0 => ?_
 have hag := v0.trans (Fh hct).symm
 have hgx : (BF u0 0).2.2 = Ce (agA t) 0 := by rw [AQ, hag]
 have hgl : u0.length = many (nth t (t.length - 1)) := by rw [← Bs, hag, Fh hct, Cz (BO hct)]
 obtain ⟨hg1, hg2, _⟩ := ML hct hag hsm (show 0 < many (nth t (t.length - 1)) by omega)
 refine ix 0 (0 * 1) z0 (BD (t := u0) (k := 0) (x0.row (i := 1) rfl).2 (by omega)).some_ fun v0 y0 => ?_
 refine lde 0 (0 * 1) y0 (BD (t := u0) (k := 0) (x0.row (i := 1) rfl).2 (by omega)) fun v0 z0 => ?_
 have v0 := x0.el 2 0
 refine lR z0 fun x0 y0 => ?_
 have x0 := v0.nf
 refine kra y0 x0 Wi (G3 _ _ x0.il _ _ ((BF u0 0).2.2) q (x0.g 3)) fun v0 z0 t0 q0 => ?_
 refine lR q0 fun t0 v0 => ?_
 refine sph 30 v0 (fun t0 q0 => ?_) fun t0 x0 => ?_
 refine lR q0 fun v0 y0 => ?_
 have v0 := z0.nf
 refine kra y0 v0 Wi (G3 _ _ v0.il _ _ _ q (v0.g 0)) fun q0 u0 h0 i0 => ?_
 refine lR i0 fun h0 q0 => ?_
 refine wn n0 <| wch q0 (fun h0 i0 => ?_) fun h0 v0 => ?_
 refine Am <| xn m0 <| rR i0 fun q0 y0 => ?_
 refine rt y0 u0.fr ?_
 exact Bz (by first | exact (Hz hct (by assumption) (by assumption)).symm | exact (H0 hct (by assumption) (by rw [← hgx]; simp [d0, j0, b0, t0, h0]) (by assumption)).symm)
 refine rR v0 fun y0 q0 => ?_
 refine rt q0 u0.fr ?_
 exact Bz (by first | exact (Hz hct (by assumption) (by assumption)).symm | exact (H0 hct (by assumption) (by rw [← hgx]; simp [d0, j0, b0, t0, h0]) (by assumption)).symm)
 refine lR x0 fun h0 t0 => ?_
 refine wn n0 <| CF (t0.ev rfl) ?_
 refine rR t0 fun h0 x0 => ?_
 refine rt x0 z0.fr ?_
 exact Bz (by exact (Rp hct (by assumption) (by assumption) (by rw [← hgx]; assumption)).symm)
 refine lR o0 fun x0 z0 => ?_
 have x0 := k0.nf
 refine kra z0 x0 Wi (G3 _ _ x0.il _ _ _ q (x0.g 0)) fun k0 o0 h0 t0 => ?_
 refine lR t0 fun h0 k0 => ?_
 refine wn n0 <| wch k0 (fun n0 h0 => ?_) fun n0 t0 => ?_
 refine Am <| xn m0 <| rR h0 fun m0 n0 => ?_
 refine rt n0 o0.fr ?_
 exact Bz (by first | exact (Hz hct (by assumption) (by assumption)).symm | exact (H0 hct (by assumption) (by rw [Ai (by assumption)]; rfl) (by assumption)).symm)
 refine rR t0 fun n0 m0 => ?_
 refine rt m0 o0.fr ?_
 exact Bz (by first | exact (Hz hct (by assumption) (by assumption)).symm | exact (H0 hct (by assumption) (by rw [Ai (by assumption)]; rfl) (by assumption)).symm)
 refine rR c0 fun m0 o0 => ?_
 refine rt o0 f0.fr ?_
 exact Bz (by exact (Rr (by assumption)).symm)
theorem J4 (w0 : World) (Z : Nat → Prop) (hZ : HZ w0 Z) (dK : Int) (dL : Int) (dS : ByteArray) (dTA : Option Addr) (dTc : Nat) (dT : List Nd) (dBA : Option Addr) (dBc : Nat) (dB : List Nd) (dCA : Option Addr) (dCc : Nat) (dC : List Tl) (hdT : N4 dTA dTc dT w0 Z) (hdB : N4 dBA dBc dB w0 Z) (hdC : (Bw 1 dCA dC.length dCc (CW dC)).φ w0 Z) (hdCs : (CG dC).φ w0 Z) (hl : dC.length ≤ 100 := by exact ax) (hb : ∀ s ∈ dC, s.2.2.length ≤ 100 := by exact ax) (hall : ∀ x ∈ tmD dK dT dB (B1 dC), sml x ∧ x.length ≤ 1000000 := by exact ax) (hsS : dS.size < 1000000 := by exact ax) :
    Calls Tryz.prog 24 [.agg #[.int .i64 dK, .int .i64 dL, .string dS, .slice dTA dT.length dTc, .slice dBA dB.length dBc, .slice dCA dC.length dCc]].toArray w0 (fun e w' => e = .returned (.int .i64 (scE dK dL dS dT dB dC)) ∧ Fr A6 w0 w') := by
 have b0 := s0 (M := A6) hZ (zc hdT (zc hdB (zc hdC (zc hdCs zn))))
 refine AE Tryz.func24 rfl Tryz.ntmps24 rfl fun c0 d0 => ?_
 refine wsc fun c0 f0 => bxx d0 b0 fun c0 h0 i0 j0 k0 => ?_
 refine aw j0 f0 fun h0 c0 => ?_
 refine wsc fun f0 h0 => lR c0 fun f0 j0 => ?_
 have f0 := k0.nf
 refine kra j0 f0 ok60 (J5 _ _ f0.il dK dL dS _ _ _ _ _ _ _ _ _ (f0.g 0) (f0.g 1) (f0.g 2) (f0.g 3) (hl := hl) (hb := hb) (hall := hall) (hsS := hsS)) fun k0 c0 d0 b0 => ?_
 refine aw b0 h0 fun d0 k0 => ?_
 refine Ac fun h0 d0 => rR k0 fun h0 b0 => ?_
 refine wce b0 (fun h0 k0 => ?_) fun h0 f0 => ?_
 refine Am <| xn d0 <| Ac fun d0 h0 => rR k0 fun d0 b0 => ?_
 refine wce b0 (fun d0 k0 => ?_) fun d0 j0 => ?_
 refine Am <| xn h0 <| Ac fun h0 d0 => rR k0 fun h0 b0 => ?_
 refine A4 ?_
 refine AH (fun gn ga gw => ∃ i : Nat, (Reg ga 46 [(1000000, .bool false), (1, .pointer (some ⟨i0, 0, none⟩)), (4, .int .i64 (i : Int))]) ∧ (St w0 Z A6 gw [.box i0 35 [.int .i64 dK, .int .i64 dL, .string dS, .slice dTA dT.length dTc, .slice dBA dB.length dBc, .slice dCA dC.length dCc]] [n4 dTA dTc dT, n4 dBA dBc dB, Bw 1 dCA dC.length dCc (CW dC), CG dC]) ∧ (i ≤ dC.length) ∧ (∀ y ∈ agP dC i, poP dS y.2.2.2 = 0) ∧ (dC.length - i) = gn) _ ⟨0, (b0.sub (rc2 (rc rfl rnl))), c0, by omega, (fun _ h => by cases h), rfl⟩ ?_
 rintro b0 h0 k0 ⟨i, m0, n0, hki, hz, o0⟩
 refine Ac fun o0 k0 => rR m0 fun o0 h0 => ?_
 refine wcd h0 (fun o0 m0 => ?_) fun o0 b0 => ?_
 refine Am <| xn k0 <| Ac fun k0 o0 => A4 ?_
 refine rR m0 fun k0 h0 => ?_
 refine A4 ?_
 refine AH (fun gn ga gw => ∃ k : Nat, (Reg ga 46 [(1000000, .bool false), (1, .pointer (some ⟨i0, 0, none⟩)), (4, .int .i64 (i : Int)), (5, .int .i64 (k : Int))]) ∧ (St w0 Z A6 gw [.box i0 35 [.int .i64 dK, .int .i64 dL, .string dS, .slice dTA dT.length dTc, .slice dBA dB.length dBc, .slice dCA dC.length dCc]] [n4 dTA dTc dT, n4 dBA dBc dB, Bw 1 dCA dC.length dCc (CW dC), CG dC]) ∧ (k ≤ (Bm dC i).2.2.length) ∧ (∀ y ∈ agQ (agP dC i) dC i k, poP dS y.2.2.2 = 0) ∧ ((Bm dC i).2.2.length - k) = gn) _ ⟨0, (h0.sub (rc2 (rc rfl (rc rfl rnl)))), n0, by omega, hz, rfl⟩ ?_
 rintro h0 i0 k0 ⟨k, m0, p0, hkk, hz2, q0⟩
 have q0 := hb _ (DT (show i < dC.length by omega))
 have hxx : k < (Bm dC i).2.2.length → sml (BF (Bm dC i).2.2 k).2.2 ∧ (BF (Bm dC i).2.2 k).2.2.length ≤ 1000000 := fun h => hall _ (by unfold tmD; rw [Aq (by omega), Aq (by omega), At (by omega)]; exact ag_in (a := i) (b := k) (by omega) h)
 refine Ac fun q0 k0 => wsc fun q0 i0 => lR m0 fun q0 h0 => ?_
 refine ix i (i * 1) h0 (Cn (t := dC) (k := i) (p0.row (i := 2) rfl).2 (by omega)).some_ fun q0 m0 => ?_
 refine lde 0 (i * 1) m0 (Cn (t := dC) (k := i) (p0.row (i := 2) rfl).2 (by omega)) fun q0 h0 => ?_
 have q0 := p0.elT 3 i
 have p0 := q0.elA 3 i
 refine lR h0 fun q0 m0 => ?_
 refine wn i0 <| wcd m0 (fun i0 q0 => ?_) fun i0 h0 => ?_
 refine Am <| xn k0 <| Ac fun k0 i0 => A4 ?_
 refine Ac fun k0 m0 => ?_
 have k0 := p0.data (Bw 1 ((Bm dC i).1) ((Bm dC i).2.2.length) ((Bm dC i).2.1) (B7 ((Bm dC i).2.2))) (GG (p0.get (i := 3) rfl) (show i < dC.length by omega)).1
 have t0 := k0.data (Cl ((Bm dC i).2.2)) (GG (k0.get (i := 3) rfl) (show i < dC.length by omega)).2
 have k0 := t0.data (n4 ((BF (Bm dC i).2.2 k).1) ((BF (Bm dC i).2.2 k).2.1) ((BF (Bm dC i).2.2 k).2.2)) (SP (t0.get (i := 7) rfl) (show k < (Bm dC i).2.2.length by omega))
 obtain ⟨t0, u0, v0⟩ := k0.agree
 refine Cj (n := 12) v0 9 (pB 0 0 pn) (A5 (B3 (A5 (A5 (B3 (B3 (A5 (A5 (B3 (A5 BC)))))))))) fun t0 k0 x0 y0 z0 b1 => ?_
 refine dR [0, 1, 2, 3, 4] q0 fun b1 y0 => ?_
 refine dix 5 i (i * 1) y0 (fun x hx => (Cn (t := dC) (k := i) (D6 (u0 2 _ rfl) hx.ag).2 (by omega)).some_) fun b1 q0 => ?_
 refine dle 6 0 (i * 1) q0 (fun x hx => Cn (t := dC) (k := i) (D6 (u0 2 _ rfl) hx.ag).2 (by omega)) fun b1 y0 => ?_
 have b1 := z0.elT 3 i
 have z0 := b1.elA 3 i
 refine dR [7] y0 fun b1 q0 => ?_
 obtain ⟨b1, y0, u0⟩ := z0.agree
 refine Sz (y0 9 _ rfl) ?_
 have b1 := sWI u0 12 (pB 0 0 pn)
 refine dix 8 k (k * 1) q0 (fun x hx => (BD (t := (Bm dC i).2.2) (k := k) (D6 (y0 10 _ rfl) hx.ag).2 (by omega)).some_) fun b1 z0 => ?_
 refine dle 9 0 (k * 1) z0 (fun x hx => BD (t := (Bm dC i).2.2) (k := k) (D6 (y0 10 _ rfl) hx.ag).2 (by omega)) fun b1 q0 => ?_
 have b1 := u0.el 11 k
 refine d1 10 ?_
 have u0 := b1.nf
 refine kra q0 u0 ok61 (Py _ _ u0.il dS _ _ ((BF ((Bm dC i).2.2) k).2.2) (u0.g 13) (hsm := (hxx (by omega)).1) (hl := (hxx (by omega)).2)) fun b1 z0 y0 k0 => ?_
 have y0 := sWI z0 12 (pB 0 0 pn)
 refine ⟨y0, ?_⟩
 refine dR [11] k0 fun y0 b1 => ?_
 refine AL (by kernel_rfl) (x0 _ _ ?_) _
 refine xn m0 <| rR b1 fun m0 x0 => ?_
 refine wce x0 (fun m0 b1 => ?_) fun m0 y0 => ?_
 refine Am <| A7 <| xn i0 <| A0 ?_
 refine mv b1 fun i0 m0 => ?_
 refine adi ((k + 1 : Nat) : Int) m0 fun i0 b1 => ?_
 refine asg b1 fun i0 m0 => ?_
 refine Ae ?_
 have i0 := z0.forget 13
 have b1 := i0.forget 12
 have i0 := b1.forget 11
 have b1 := i0.forget 10
 have i0 := b1.forget 9
 have b1 := i0.forget 8
 have i0 := b1.forget 7
 have b1 := i0.forget 6
 have i0 := b1.forget 5
 have b1 := i0.forget 4
 exact ⟨_, by omega, k + 1, (m0.sub (rc2 (rc rfl (rc rfl rnl)))), b1, by omega, On hz2 (by show poP dS (BF (Bm dC i).2.2 k).2.2 = 0; first | assumption | omega), rfl⟩
 refine rR y0 fun b1 m0 => ?_
 refine rt m0 z0.fr ?_
 exact Bz (by (unfold scE; first | (rw [At (by assumption)]; done) | (rw [Aq (AR (by omega)), At (by assumption)]; done) | (rw [Aq (AR (by omega)), Aq (AR (by omega))]; first | exact (Ja (f := fun y : Ag => poP dS y.2.2.2) (Ky (i := i) (j := k) (by omega) (by omega)) hz2 (by assumption)).symm | (exact (Fb (f := fun y : Ag => poP dS y.2.2.2) (l := agL dC) (by rw [show agL dC = agP dC i by rw [show i = dC.length by omega]; rfl]; exact hz)).symm))))
 refine xe ?_
 refine A7 <| xn o0 <| A0 ?_
 refine mv h0 fun o0 m0 => ?_
 refine adi ((i + 1 : Nat) : Int) m0 fun o0 h0 => ?_
 refine asg h0 fun o0 m0 => ?_
 refine Ae ?_
 have o0 := p0.forget 5
 have p0 := o0.forget 4
 exact ⟨_, by omega, i + 1, (m0.sub (rc2 (rc rfl rnl))), p0, by omega, by rw [show k = (Bm dC i).2.2.length by omega] at hz2; exact hz2, rfl⟩
 refine xe ?_
 refine xn d0 <| rR b0 fun d0 p0 => ?_
 refine rt p0 n0.fr ?_
 exact Bz (by (unfold scE; first | (rw [At (by assumption)]; done) | (rw [Aq (AR (by omega)), At (by assumption)]; done) | (rw [Aq (AR (by omega)), Aq (AR (by omega))]; first | exact (Ja (f := fun y : Ag => poP dS y.2.2.2) (Ky (i := i) (j := k) (by omega) (by omega)) hz2 (by assumption)).symm | (exact (Fb (f := fun y : Ag => poP dS y.2.2.2) (l := agL dC) (by rw [show agL dC = agP dC i by rw [show i = dC.length by omega]; rfl]; exact hz)).symm))))
 refine rR j0 fun p0 n0 => ?_
 refine rt n0 c0.fr ?_
 exact Bz (by (unfold scE; first | (rw [At (by assumption)]; done) | (rw [Aq (AR (by omega)), At (by assumption)]; done) | (rw [Aq (AR (by omega)), Aq (AR (by omega))]; first | exact (Ja (f := fun y : Ag => poP dS y.2.2.2) (Ky (i := i) (j := k) (by omega) (by omega)) hz2 (by assumption)).symm | (exact (Fb (f := fun y : Ag => poP dS y.2.2.2) (l := agL dC) (by rw [show agL dC = agP dC i by rw [show i = dC.length by omega]; rfl]; exact hz)).symm))))
 refine rR f0 fun n0 p0 => ?_
 refine rt p0 c0.fr ?_
 exact Bz (by (unfold scE; first | (rw [At (by assumption)]; done) | (rw [Aq (AR (by omega)), At (by assumption)]; done) | (rw [Aq (AR (by omega)), Aq (AR (by omega))]; first | exact (Ja (f := fun y : Ag => poP dS y.2.2.2) (Ky (i := i) (j := k) (by omega) (by omega)) hz2 (by assumption)).symm | (exact (Fb (f := fun y : Ag => poP dS y.2.2.2) (l := agL dC) (by rw [show agL dC = agP dC i by rw [show i = dC.length by omega]; rfl]; exact hz)).symm))))
theorem Ia (rn : Nat) : ∀ (w0 : World) (Z : Nat → Prop) (hZ : HZ w0 Z) (tA : Option Addr) (tc : Nat) (t : List Nd) (ht : N4 tA tc t w0 Z) (hl : t.length ≤ 1000000) (hsm : sml t) (hb : BW t = true) (hrn : t.length = rn),
    Calls Tryz.prog 64 [.slice tA t.length tc].toArray w0 (fun e w' => ∃ (rA0 : Option Addr) (rc0 : Nat), e = .returned (.slice rA0 (erL t).length rc0) ∧ Fr A6 w0 w' ∧ N4 rA0 rc0 (erL t) w' (nxt Z w0 w')) := by
 induction rn using Nat.strongRecOn
 rename_i rn ih
 intro w0 Z hZ tA tc t ht hl hsm hb hrn
 have b0 := s0 (M := A6) hZ (zc ht zn)
 have hp0 := Dy hb
 refine AE Tryz.func64 rfl Tryz.ntmps64 rfl fun c0 d0 => ?_
 refine rR d0 fun c0 f0 => ?_
 refine wsc fun c0 d0 => mv f0 fun c0 h0 => ?_
 have c0 := b0.nf
 refine kra h0 c0 R3 (Dl _ _ c0.il _ _ _ (c0.g 0)) fun b0 f0 i0 j0 => ?_
 refine alc j0 f0 fun i0 b0 c0 h0 k0 => ?_
 refine sto 0 h0 k0 fun b0 i0 j0 f0 => ?_
 refine wn d0 <| Ac fun d0 i0 => rR j0 fun d0 b0 => ?_
 refine wcd b0 (fun d0 j0 => ?_) fun d0 k0 => ?_
 refine wsc fun d0 b0 => bld j0 fun d0 h0 => ?_
 refine bsl h0 f0 fun d0 j0 m0 n0 o0 => ?_
 refine aw n0 b0 fun j0 d0 => ?_
 refine rt1 d0 ?_
 have d0 : erL t = [(⟨29, 0, 0, (⟨#[]⟩ : ByteArray)⟩ : Nd)] := WE hb (by omega)
 rw [d0]
 have d0 := o0.pub 1 (Bw 4 (some ⟨m0, 0, none⟩) 1 1 (Cd ([(⟨29, 0, 0, (⟨#[]⟩ : ByteArray)⟩ : Nd)])))
 refine ⟨(some ⟨m0, 0, none⟩), 1, ?_, d0.fr, d0.rx 1⟩
 exact cre rfl
 refine Am <| xn i0 <| wsc fun i0 d0 => mv k0 fun i0 m0 => ?_
 have i0 := f0.nf
 refine krd m0 i0 R4 (CN _ _ i0.il _ _ _ (i0.g 0)) fun f0 k0 o0 b0 j0 n0 h0 p0 => ?_
 refine aw p0 d0 fun h0 f0 => ?_
 refine wsc fun d0 h0 => ?_
 have d0 := n0.data (Cl []) Cp
 refine bsl f0 d0 fun n0 p0 i0 m0 q0 => ?_
 refine aw m0 h0 fun p0 n0 => ?_
 refine Ac fun h0 p0 => rR n0 fun h0 m0 => ?_
 refine A4 ?_
 refine AH (fun gn ga gw => ∃ k : Nat, ∃ Ls : List Sl, ∃ Ao : Option Addr, ∃ co : Nat, (Reg ga 34 [(1000000, .bool false), (2, .slice none 0 0), (3, .pointer (some ⟨c0, 0, none⟩)), (4, .slice k0 b0.length o0), (6, .int .i64 (k : Int)), (5, .slice Ao ((Ls).length) co)]) ∧ (St w0 Z A6 gw [.box c0 30 [.int .i64 ((nth t (t.length - 1)).K), .int .i64 ((nth t (t.length - 1)).N), .int .i64 ((nth t (t.length - 1)).M), .string ((nth t (t.length - 1)).S)], .row Ao ((Ls).length) co 22 1 (B7 Ls)] [n4 tA tc t, Bw 1 k0 b0.length o0 (B7 b0), Cl b0, Cl Ls]) ∧ (k ≤ b0.length) ∧ (Bt Ls = ((ptL t).take k).map erL) ∧ (b0.length - k) = gn) _ ⟨0, [], (some ⟨i0, 0, none⟩), 0, (m0.sub (rc4 (rc rfl (rc rfl rnl)))), q0, by omega, by simp [Bt], rfl⟩ ?_
 rintro m0 q0 i0 ⟨k, Ls, Ao, co, o0, k0, hk, hL, h0⟩
 have hrl : b0.length = (ptL t).length := by rw [← Bs, j0]
 have hp8 := Md hb
 have hLn : Ls.length = k := by rw [← Bs, hL, BT, Ah]; omega
 refine Ac fun h0 i0 => rR o0 fun h0 q0 => ?_
 rcases Cb ((k : Int) < (b0.length : Int)) with h0 | h0
 obtain ⟨hpe, hpk, hpb, hpl, hps, hp0'⟩ := KQ hb hsm j0 (show k < b0.length by omega)
 refine wct q0 (Aw h0) fun j0 => ?_
 refine Am <| xn i0 <| Ac fun i0 o0 => A4 ?_
 refine A0 ?_
 refine lR j0 fun i0 m0 => ?_
 refine ix k (k * 1) m0 (BD (t := b0) (k := k) (k0.row (i := 1) rfl).2 (by omega)).some_ fun i0 j0 => ?_
 refine lde 0 (k * 1) j0 (BD (t := b0) (k := k) (k0.row (i := 1) rfl).2 (by omega)) fun i0 m0 => ?_
 have i0 := k0.el 2 k
 have j0 := i0.nf
 refine kcl m0 ok64 (ih (((BF b0 k).2.2).length) (by omega) _ (imm Z w0 [.box c0 30 [.int .i64 ((nth t (t.length - 1)).K), .int .i64 ((nth t (t.length - 1)).N), .int .i64 ((nth t (t.length - 1)).M), .string ((nth t (t.length - 1)).S)], .row Ao ((Ls).length) co 22 1 (B7 Ls)] _) (fun _ h => h.1) _ _ ((BF b0 k).2.2) (j0.g 4) (by omega) (by assumption) (by assumption) rfl) ?_
 rintro m0 c0 ⟨i0, n0, rfl, d0, f0⟩
 have c0 := j0.below d0.below
 have d0 := j0.dN c0 f0
 refine ⟨_, rfl, fun c0 f0 => ?_⟩
 have c0 := d0.data (Cl [((i0, n0, erL ((BF b0 k).2.2)) : Sl)]) (Cy (d0.get (i := 5) rfl) Cp)
 refine bsl f0 c0 fun d0 j0 m0 t0 u0 => ?_
 refine BL (f := FK) (i := 1) Ls ([((i0, n0, erL ((BF b0 k).2.2)) : Sl)]) sv t0 u0 rfl rfl rfl rfl rfl Dc (D7 _) Be L3 rfl rfl (BU (f := FK) (u0.res (i := 2) rfl)) rfl (by (simp only [Ad, Aj]; omega)) (by decide) fun m0 j0 d0 c0 f0 v0 x0 => ?_
 have f0 : (Ls ++ ([((i0, n0, erL ((BF b0 k).2.2)) : Sl)]) : List Sl).length = (Ls).length + 1 := by (simp only [Ab, Ah, Ad, Aj]; done)
 have f0 := x0.erase 2
 have x0 := f0.data (Cl (Ls ++ ([((i0, n0, erL ((BF b0 k).2.2)) : Sl)]))) (CH (f0.get (i := 3) rfl) (f0.get (i := 6) rfl))
 refine asg v0 fun f0 j0 => ?_
 refine Ae ?_
 refine A7 <| xn o0 <| A0 ?_
 refine mv j0 fun o0 f0 => ?_
 refine adi ((k + 1 : Nat) : Int) f0 fun o0 j0 => ?_
 refine asg j0 fun o0 f0 => ?_
 refine Ae ?_
 have o0 := x0.forget 6
 have x0 := o0.forget 5
 have o0 := x0.forget 4
 have x0 := o0.forget 3
 exact ⟨_, by omega, k + 1, Ls ++ ([((i0, n0, erL ((BF b0 k).2.2)) : Sl)]), d0, c0, (f0.sub (rc4 (rc rfl (rc rfl rnl)))), x0, by omega, KY hL hpk (by rw [hpe]), rfl⟩
 have hLx : Bt Ls = (ptL t).map erL := by rw [hL, AM (by omega)]
 have hLl := Bs Ls
 rw [hLx, BT] at hLl
 refine wcf q0 (Ai h0) fun x0 => ?_
 refine xe ?_
 refine xn p0 <| wsc fun p0 h0 => lR x0 fun p0 q0 => ?_
 have p0 := k0.nf
 have k0 := p0.pub 1 (Bw 1 Ao ((Ls).length) co (B7 Ls))
 refine krb q0 k0 ok68 (GV _ _ k0.il (nth t (t.length - 1)) _ _ _ (k0.g 4) (k0.g 3) (hl := (by omega)) (hb := (by rw [hLx]; have hft := Mw (f := erL) hb (fun p hp => So (G4 hb hp).1) (ptL t).length; rw [CQ] at hft; omega))) fun p0 x0 f0 c0 d0 n0 => ?_
 refine aw n0 h0 fun d0 p0 => ?_
 refine rt1 p0 ?_
 have p0 : erL t = (Bt Ls).flatten ++ [(nth t (t.length - 1))] := by rw [Sn hb (by omega), hLx]
 rw [p0]
 refine ⟨x0, f0, ?_, c0.fr, c0.rx 5⟩
 exact cre rfl
theorem LV (w0 : World) (Z : Nat → Prop) (hZ : HZ w0 Z) (tA : Option Addr) (tc : Nat) (t : List Nd) (ht : N4 tA tc t w0 Z) (hl : t.length ≤ 1000000 := by exact ax) (hsm : sml t := by exact ax) (hb : BW t = true := by exact ax) :
    Calls Tryz.prog 64 [.slice tA t.length tc].toArray w0 (fun e w' => ∃ (rA0 : Option Addr) (rc0 : Nat), e = .returned (.slice rA0 (erL t).length rc0) ∧ Fr A6 w0 w' ∧ N4 rA0 rc0 (erL t) w' (nxt Z w0 w')) := Ia _ w0 Z hZ tA tc t ht hl hsm hb rfl
theorem HI (w0 : World) (Z : Nat → Prop) (hZ : HZ w0 Z) (tA : Option Addr) (tc : Nat) (t : List Nd) (ht : N4 tA tc t w0 Z) (hsm : sml t := by exact ax) (hl : t.length ≤ 1000000 := by exact ax) :
    Calls Tryz.prog 26 [.slice tA t.length tc].toArray w0 (fun e w' => ∃ (rA0 : Option Addr) (rc0 : Nat), e = .returned (.tuple #[.slice rA0 (erA t).length rc0, .int .i64 (chk t)]) ∧ Fr A6 w0 w' ∧ N4 rA0 rc0 (erA t) w' (nxt Z w0 w')) := by
 have b0 := s0 (M := A6) hZ (zc ht zn)
 refine AE Tryz.func26 rfl Tryz.ntmps26 rfl fun c0 d0 => ?_
 refine rR d0 fun c0 f0 => ?_
 refine wsc fun c0 d0 => mv f0 fun c0 h0 => ?_
 have c0 := b0.nf
 refine kra h0 c0 Th (De _ _ c0.il _ _ _ (c0.g 0)) fun b0 f0 i0 j0 => ?_
 refine aw j0 d0 fun i0 b0 => ?_
 refine Ac fun d0 i0 => rR b0 fun d0 j0 => ?_
 refine wce j0 (fun d0 b0 => ?_) fun d0 c0 => ?_
 refine Am <| xn i0 <| wsc fun i0 d0 => mv b0 fun i0 j0 => ?_
 have i0 := f0.nf
 refine krb j0 i0 ok64 (LV _ _ i0.il _ _ _ (i0.g 0) (hl := hl) (hsm := hsm) (hb := (BO (by assumption)))) fun b0 h0 k0 m0 n0 o0 => ?_
 refine lR o0 fun n0 b0 => ?_
 refine wn d0 <| rt2 b0 ?_
 have b0 : erA t = erL t := Kq (by assumption)
 rw [b0]
 refine ⟨h0, k0, ?_, m0.fr, m0.rx 1⟩
 exact Bj rfl (Bz (by first | rfl | omega))
 refine rR c0 fun m0 k0 => ?_
 refine rt2 k0 ?_
 have k0 : erA t = [] := Sq (by assumption)
 rw [k0]
 refine ⟨none, 0, ?_, f0.fr, ⟨Af _, RowI.nil _ _ _ _⟩⟩
 exact Bj rfl (Bz (by first | rfl | omega))
theorem Nm (w0 : World) (Z : Nat → Prop) (hZ : HZ w0 Z) (tA : Option Addr) (tc : Nat) (t : List Nd) (ht : N4 tA tc t w0 Z) (hsm : sml t := by exact ax) (hl : t.length ≤ 1000000 := by exact ax) :
    Calls Tryz.prog 11 [.slice tA t.length tc].toArray w0 (fun e w' => ∃ (rA0 : Option Addr) (rc0 : Nat), e = .returned (.slice rA0 (erA t).length rc0) ∧ Fr A6 w0 w' ∧ N4 rA0 rc0 (erA t) w' (nxt Z w0 w')) := by
 have b0 := s0 (M := A6) hZ (zc ht zn)
 refine AE Tryz.func11 rfl Tryz.ntmps11 rfl fun c0 d0 => ?_
 refine rR d0 fun c0 f0 => ?_
 refine wsc fun c0 d0 => mv f0 fun c0 h0 => ?_
 have c0 := b0.nf
 refine krb h0 c0 ok26 (HI _ _ c0.il _ _ _ (c0.g 0) (hsm := hsm) (hl := hl)) fun b0 f0 i0 j0 k0 m0 => ?_
 refine lR m0 fun k0 b0 => ?_
 refine wn d0 <| rR b0 fun d0 k0 => ?_
 refine rt1 k0 ?_
 refine ⟨f0, i0, ?_, j0.fr, j0.rx 1⟩
 exact cre rfl
theorem Nl (w0 : World) (Z : Nat → Prop) (hZ : HZ w0 Z) (dK : Int) (dL : Int) (dS : ByteArray) (dTA : Option Addr) (dTc : Nat) (dT : List Nd) (dBA : Option Addr) (dBc : Nat) (dB : List Nd) (dCA : Option Addr) (dCc : Nat) (dC : List Tl) (k : Int) (stA : Option Addr) (stc : Nat) (st : List Bool) (pr : Bool) (moA : Option Addr) (moc : Nat) (mo : List Nd) (hdT : N4 dTA dTc dT w0 Z) (hdB : N4 dBA dBc dB w0 Z) (hdC : (Bw 1 dCA dC.length dCc (CW dC)).φ w0 Z) (hdCs : (CG dC).φ w0 Z) (hst : (Bw 1 stA st.length stc (D2 st)).φ w0 Z) (hmo : N4 moA moc mo w0 Z) (hl : dC.length ≤ 100 := by exact ax) (hb : ∀ s ∈ dC, s.2.2.length ≤ 100 := by exact ax) (hall : ∀ x ∈ tmD dK dT dB (B1 dC), sml x ∧ x.length ≤ 1000000 := by exact ax) (hsS : dS.size < 1000000 := by exact ax) (hm2 : mo = m2L := by exact ax) :
    Calls Tryz.prog 8 [.agg #[.int .i64 dK, .int .i64 dL, .string dS, .slice dTA dT.length dTc, .slice dBA dB.length dBc, .slice dCA dC.length dCc], .int .i64 k, .slice stA st.length stc, .bool pr, .slice moA mo.length moc].toArray w0 (fun e w' => ∃ (rA0 : Option Addr) (rc0 : Nat), e = .returned (.tuple #[.slice rA0 (cqL dK dL dS dT dB dC k st pr).length rc0, .int .i64 (cqE dK dL dS dT dB dC k st pr)]) ∧ Fr A6 w0 w' ∧ N4 rA0 rc0 (cqL dK dL dS dT dB dC k st pr) w' (nxt Z w0 w')) := by
 have b0 := s0 (M := A6) hZ (zc hdT (zc hdB (zc hdC (zc hdCs (zc hst (zc hmo zn))))))
 refine AE Tryz.func8 rfl Tryz.ntmps8 rfl fun c0 d0 => ?_
 refine wsc fun c0 f0 => bxx d0 b0 fun c0 i0 j0 k0 m0 => ?_
 refine lR k0 fun i0 c0 => ?_
 refine wn f0 <| wsc fun f0 i0 => lR c0 fun f0 k0 => ?_
 have f0 := m0.nf
 refine kra k0 f0 ok24 (J4 _ _ f0.il dK dL dS _ _ _ _ _ _ _ _ _ (f0.g 0) (f0.g 1) (f0.g 2) (f0.g 3) (hl := hl) (hb := hb) (hall := hall) (hsS := hsS)) fun m0 c0 d0 b0 => ?_
 refine aw b0 i0 fun d0 m0 => ?_
 refine Ac fun i0 d0 => rR m0 fun i0 b0 => ?_
 refine wcd b0 (fun i0 m0 => ?_) fun i0 f0 => ?_
 have hsc := i0
 obtain ⟨b0, hC6, hA6, hcl⟩ := Tt hsc
 refine A0 ?_
 refine mv m0 fun k0 n0 => ?_
 have k0 := c0.nf
 refine kra n0 k0 Th (De _ _ k0.il _ _ _ (k0.g 5) (hl := (by rw [hm2]; decide)) (hsm := (by rw [hm2]; exact OK))) fun m0 o0 p0 q0 => ?_
 refine aw q0 d0 fun p0 m0 => ?_
 refine Ac fun p0 q0 => wsc fun p0 k0 => lR m0 fun p0 n0 => ?_
 have p0 : (chk mo) = 0 := (by rw [hm2]; exact Kg)
 have m0 := n0.setb (d := 40) (b := true) rfl (Aw p0)
 refine lR m0 fun n0 t0 => ?_
 refine spd 43 t0 (fun n0 m0 => ?_) fun n0 u0 => ?_
 refine lR m0 fun n0 t0 => ?_
 refine wn k0 <| CF (t0.ev rfl) ?_
 refine A0 ?_
 refine aw t0 q0 fun n0 m0 => ?_
 refine Ac fun n0 t0 => rR m0 fun t0 n0 => ?_
 refine wck n0 fun t0 => ?_
 refine rR t0 fun n0 m0 => ?_
 refine rt2 m0 ?_
 have m0 : cqL dK dL dS dT dB dC k st pr = [] := (by exact (M4 hsc (by omega)).1)
 rw [m0]
 refine ⟨none, 0, ?_, o0.fr, ⟨Af _, RowI.nil _ _ _ _⟩⟩
 exact Bj rfl (Bz (by (first | exact (Qc (by assumption)).2.symm | exact (M4 hsc (by omega)).2.symm | exact (Qd hsc (by omega) (by rw [hO2, show r = 0 by omega, Nat.sub_zero])).2.symm)))
 refine lR u0 fun m0 n0 => ?_
 refine spd 50 n0 (fun m0 u0 => ?_) fun m0 t0 => ?_
 refine lR u0 fun m0 n0 => ?_
 refine wn k0 <| CF (n0.ev rfl) ?_
 refine A0 ?_
 refine aw n0 q0 fun m0 u0 => ?_
 refine Ac fun m0 n0 => rR u0 fun n0 m0 => ?_
 refine wck m0 fun n0 => ?_
 refine rR n0 fun m0 u0 => ?_
 refine rt2 u0 ?_
 have u0 : cqL dK dL dS dT dB dC k st pr = [] := (by exact (M4 hsc (by omega)).1)
 rw [u0]
 refine ⟨none, 0, ?_, o0.fr, ⟨Af _, RowI.nil _ _ _ _⟩⟩
 exact Bj rfl (Bz (by (first | exact (Qc (by assumption)).2.symm | exact (M4 hsc (by omega)).2.symm | exact (Qd hsc (by omega) (by rw [hO2, show r = 0 by omega, Nat.sub_zero])).2.symm)))
 refine lR t0 fun u0 m0 => ?_
 have u0 := Reg.cons m0 m0 (ri (i := 55) (b := (k.toNat : Int)) rfl (by omega))
 refine ix k.toNat (k.toNat * 1) u0 (Cn (t := dC) (k := k.toNat) (o0.row (i := 2) rfl).2 (by omega)).some_ fun m0 t0 => ?_
 refine lde 0 (k.toNat * 1) t0 (Cn (t := dC) (k := k.toNat) (o0.row (i := 2) rfl).2 (by omega)) fun m0 u0 => ?_
 have m0 := o0.elT 3 k.toNat
 have o0 := m0.elA 3 k.toNat
 refine lR u0 fun m0 t0 => ?_
 refine wn k0 <| wce t0 (fun k0 m0 => ?_) fun k0 u0 => ?_
 refine Am <| xn q0 <| Ac fun k0 t0 => rR m0 fun k0 n0 => ?_
 refine U1 n0 rfl (by rw [(Aw p0)]; rfl) fun k0 => ?_
 refine Am <| xn t0 <| wsc fun t0 n0 => lR k0 fun t0 p0 => ?_
 have t0 := Reg.cons p0 p0 (ri (i := 67) (b := (k.toNat : Int)) rfl (by omega))
 refine ix k.toNat (k.toNat * 1) t0 (Cn (t := dC) (k := k.toNat) (o0.row (i := 2) rfl).2 (by omega)).some_ fun p0 k0 => ?_
 refine lde 0 (k.toNat * 1) k0 (Cn (t := dC) (k := k.toNat) (o0.row (i := 2) rfl).2 (by omega)) fun p0 t0 => ?_
 have p0 := o0.elT 3 k.toNat
 have k0 := p0.elA 3 k.toNat
 refine lR t0 fun p0 m0 => ?_
 refine wn n0 <| wsc fun n0 p0 => ?_
 have n0 := k0.data (Cl []) Cp
 refine bsl m0 n0 fun k0 t0 v0 x0 y0 => ?_
 refine aw x0 p0 fun t0 k0 => ?_
 refine wsc fun p0 t0 => bsl k0 y0 fun p0 x0 n0 m0 z0 => ?_
 refine aw m0 t0 fun x0 p0 => ?_
 refine Ac fun t0 x0 => rR p0 fun t0 m0 => ?_
 refine A4 ?_
 refine AH (fun gn ga gw => ∃ i : Nat, ∃ Ls : List Sl, ∃ us : List Int, ∃ Ao : Option Addr, ∃ co : Nat, ∃ Bq : Option Addr, ∃ dq : Nat, (Reg ga 234 [(1000000, .bool false), (1, .int .i64 k), (2, .slice stA st.length stc), (3, .bool pr), (4, .slice moA mo.length moc), (5, .pointer (some ⟨j0, 0, none⟩)), (10, .slice none 0 0), (11, .int .i64 0), (13, .int .i64 ((Bm dC k.toNat).2.2.length : Int)), (16, .int .i64 (i : Int)), (14, .slice Ao ((Ls).length) co), (15, .slice Bq ((us).length) dq)]) ∧ (St w0 Z A6 gw [.box j0 35 [.int .i64 dK, .int .i64 dL, .string dS, .slice dTA dT.length dTc, .slice dBA dB.length dBc, .slice dCA dC.length dCc], .row Ao ((Ls).length) co 22 1 (B7 Ls), .row Bq ((us).length) dq 3 1 (BN us)] [n4 dTA dTc dT, n4 dBA dBc dB, Bw 1 dCA dC.length dCc (CW dC), CG dC, Bw 1 stA st.length stc (D2 st), n4 moA moc mo, Bw 1 ((Bm dC k.toNat).1) ((Bm dC k.toNat).2.2.length) ((Bm dC k.toNat).2.1) (B7 ((Bm dC k.toNat).2.2)), Cl ((Bm dC k.toNat).2.2), Bw 1 ((Bm dC k.toNat).1) ((Bm dC k.toNat).2.2.length) ((Bm dC k.toNat).2.1) (B7 ((Bm dC k.toNat).2.2)), Cl ((Bm dC k.toNat).2.2), Cl Ls]) ∧ (i ≤ (Bm dC k.toNat).2.2.length) ∧ (Bt Ls = ((Bt (Bm dC k.toNat).2.2).take i).map erA) ∧ (us = Qk (Ea dS (csT (B1 dC) k) i)) ∧ ((Bm dC k.toNat).2.2.length - i) = gn) _ ⟨0, [], [], (some ⟨v0, 0, none⟩), 0, (some ⟨n0, 0, none⟩), 0, (m0.sub (rc4 (rc4 (rc2 (rc rfl (rc rfl rnl)))))), z0, by omega, rfl, rfl, rfl⟩ ?_
 rintro m0 z0 n0 ⟨i, Ls, us, Ao, co, Bq, dq, v0, t0, hi, hL, hus0, p0⟩
 have hT := WM hcl hall b0 (show k.toNat < dC.length by omega)
 have hLn := Vt hL hi
 have hT6 := hA6 _ (DT (show k.toNat < dC.length by omega))
 have hTn : i < (Bm dC k.toNat).2.2.length → Ce (csT (B1 dC) k) i = erA (BF (Bm dC k.toNat).2.2 i).2.2 := fun h => S3 h
 have hul : us.length ≤ i := by rw [hus0, Lo]; exact G5
 refine Ac fun b0 p0 => rR v0 fun b0 n0 => ?_
 refine wcd n0 (fun b0 v0 => ?_) fun b0 z0 => ?_
 refine Am <| xn p0 <| Ac fun p0 b0 => A4 ?_
 refine wsc fun p0 n0 => lR v0 fun p0 m0 => ?_
 have p0 := Reg.cons m0 m0 (ri (i := 81) (b := (k.toNat : Int)) rfl (by omega))
 refine ix k.toNat (k.toNat * 1) p0 (Cn (t := dC) (k := k.toNat) (t0.row (i := 2) rfl).2 (by omega)).some_ fun m0 v0 => ?_
 refine lde 0 (k.toNat * 1) v0 (Cn (t := dC) (k := k.toNat) (t0.row (i := 2) rfl).2 (by omega)) fun m0 p0 => ?_
 have m0 := t0.elT 3 k.toNat
 have v0 := m0.elA 3 k.toNat
 refine mv p0 fun m0 k0 => ?_
 refine ix i (i * 1) k0 (BD (t := (Bm dC k.toNat).2.2) (k := i) (v0.row (i := 11) rfl).2 (by omega)).some_ fun m0 p0 => ?_
 refine lde 0 (i * 1) p0 (BD (t := (Bm dC k.toNat).2.2) (k := i) (v0.row (i := 11) rfl).2 (by omega)) fun m0 k0 => ?_
 have m0 := v0.el 12 i
 have v0 := m0.nf
 refine krb k0 v0 ok26 (HI _ _ v0.il _ _ ((BF ((Bm dC k.toNat).2.2) i).2.2) (v0.g 13) (hsm := (S4 hT (by omega)).1) (hl := (S4 hT (by omega)).2)) fun m0 p0 y0 b1 c1 f1 => ?_
 refine lR f1 fun c1 m0 => ?_
 refine wn n0 <| wsc fun n0 c1 => lR m0 fun n0 f1 => ?_
 have n0 := b1.data (Cl [((p0, y0, erA ((BF ((Bm dC k.toNat).2.2) i).2.2)) : Sl)]) (Cy (b1.get (i := 14) rfl) Cp)
 refine bsl f1 n0 fun b1 m0 v0 k0 h1 => ?_
 refine BL (f := FK) (i := 1) Ls ([((p0, y0, erA ((BF ((Bm dC k.toNat).2.2) i).2.2)) : Sl)]) sv k0 h1 rfl rfl rfl rfl rfl Dc (D7 _) Be L3 rfl rfl (BU (f := FK) (h1.res (i := 3) rfl)) rfl (by (simp only [Ad, Aj]; omega)) (by decide) fun v0 m0 b1 n0 f1 i1 j1 => ?_
 have f1 : (Ls ++ ([((p0, y0, erA ((BF ((Bm dC k.toNat).2.2) i).2.2)) : Sl)]) : List Sl).length = (Ls).length + 1 := by (simp only [Ab, Ah, Ad, Aj]; done)
 have f1 := j1.erase 3
 have j1 := f1.data (Cl (Ls ++ ([((p0, y0, erA ((BF ((Bm dC k.toNat).2.2) i).2.2)) : Sl)]))) (CH (f1.get (i := 10) rfl) (f1.get (i := 15) rfl))
 refine aw i1 c1 fun f1 m0 => ?_
 refine wsc fun c1 f1 => lR m0 fun c1 i1 => ?_
 have c1 := j1.nf
 refine kra i1 c1 ok14 (FE _ _ c1.il dS _ _ (erA ((BF ((Bm dC k.toNat).2.2) i).2.2)) (c1.g 14) (hsm := (by (rw [← hTn (by omega)]; exact (Pa hT i).1))) (hl := (by (rw [← hTn (by omega)]; exact Bo (Pa hT i).2 (by decide))))) fun j1 m0 v0 h1 => ?_
 refine lR h1 fun v0 j1 => ?_
 refine wn f1 <| wcd j1 (fun f1 v0 => ?_) fun f1 h1 => ?_
 refine A0 ?_
 refine lR v0 fun f1 j1 => ?_
 refine bsl j1 m0 fun f1 v0 c1 i1 k0 => ?_
 refine BL (f := EI) (i := 2) us ([(i : Int)]) sv i1 k0 rfl rfl rfl rfl rfl CC (Do _) AU zi3 rfl rfl (BU (f := EI) (k0.res (i := 3) rfl)) rfl (by (simp only [Ad, Aj]; omega)) (by decide) fun c1 v0 f1 j1 k1 m1 n1 => ?_
 have k1 : (us ++ ([(i : Int)]) : List Int).length = (us).length + 1 := by (simp only [Ab, Ah, Ad, Aj]; done)
 have k1 := n1.erase 3
 refine asg m1 fun n1 v0 => ?_
 refine Ae ?_
 refine A7 <| xn b0 <| A0 ?_
 refine mv v0 fun n1 m1 => ?_
 refine adi ((i + 1 : Nat) : Int) m1 fun n1 v0 => ?_
 refine asg v0 fun n1 m1 => ?_
 refine Ae ?_
 have n1 := k1.forget 15
 have k1 := n1.forget 14
 have n1 := k1.forget 13
 have k1 := n1.forget 12
 have n1 := k1.forget 11
 have k1 := n1.forget 10
 exact ⟨_, by omega, i + 1, Ls ++ ([((p0, y0, erA ((BF ((Bm dC k.toNat).2.2) i).2.2)) : Sl)]), us ++ ([(i : Int)]), b1, n0, f1, j1, (m1.sub (rc4 (rc4 (rc2 (rc rfl (rc rfl rnl)))))), k1, by omega, S2 hL (by omega), ow_yes hus0 (by rw [hTn (by omega)]; assumption), rfl⟩
 refine Am <| A7 <| xn b0 <| A0 ?_
 refine mv h1 fun b0 k1 => ?_
 refine adi ((i + 1 : Nat) : Int) k1 fun b0 h1 => ?_
 refine asg h1 fun b0 k1 => ?_
 refine Ae ?_
 have b0 := m0.forget 15
 have m0 := b0.forget 14
 have b0 := m0.forget 13
 have m0 := b0.forget 12
 have b0 := m0.forget 11
 have m0 := b0.forget 10
 exact ⟨_, by omega, i + 1, Ls ++ ([((p0, y0, erA ((BF ((Bm dC k.toNat).2.2) i).2.2)) : Sl)]), us, b1, n0, Bq, dq, (k1.sub (rc4 (rc4 (rc2 (rc rfl (rc rfl rnl)))))), m0, by omega, S2 hL (by omega), ow_no hus0 (by rw [hTn (by omega)]; assumption), rfl⟩
 refine xe ?_
 refine xn x0 <| rR z0 fun x0 m0 => ?_
 refine wsc fun x0 z0 => ?_
 have x0 := t0.data (Fo []) Ir
 refine bsl m0 x0 fun t0 k1 n0 b1 y0 => ?_
 refine aw b1 z0 fun k1 t0 => ?_
 refine Ac fun z0 k1 => rR t0 fun z0 b1 => ?_
 refine A4 ?_
 refine AH (fun gn ga gw => ∃ j : Nat, ∃ Zs : List Bu, ∃ uA : Option Addr, ∃ uc : Nat, (Reg ga 234 [(1000000, .bool false), (1, .int .i64 k), (2, .slice stA st.length stc), (3, .bool pr), (4, .slice moA mo.length moc), (5, .pointer (some ⟨j0, 0, none⟩)), (10, .slice none 0 0), (11, .int .i64 0), (13, .int .i64 ((Bm dC k.toNat).2.2.length : Int)), (14, .slice Ao ((Ls).length) co), (15, .slice Bq ((us).length) dq), (19, .int .i64 ((us).length : Int)), (21, .int .i64 (j : Int)), (20, .slice uA ((Zs).length) uc)]) ∧ (St w0 Z A6 gw [.box j0 35 [.int .i64 dK, .int .i64 dL, .string dS, .slice dTA dT.length dTc, .slice dBA dB.length dBc, .slice dCA dC.length dCc], .row Ao ((Ls).length) co 22 1 (B7 Ls), .row Bq ((us).length) dq 3 1 (BN us), .row uA ((Zs).length) uc 65 2 (Hn Zs)] [n4 dTA dTc dT, n4 dBA dBc dB, Bw 1 dCA dC.length dCc (CW dC), CG dC, Bw 1 stA st.length stc (D2 st), n4 moA moc mo, Bw 1 ((Bm dC k.toNat).1) ((Bm dC k.toNat).2.2.length) ((Bm dC k.toNat).2.1) (B7 ((Bm dC k.toNat).2.2)), Cl ((Bm dC k.toNat).2.2), Bw 1 ((Bm dC k.toNat).1) ((Bm dC k.toNat).2.2.length) ((Bm dC k.toNat).2.1) (B7 ((Bm dC k.toNat).2.2)), Cl ((Bm dC k.toNat).2.2), Cl Ls, Fo Zs]) ∧ (j ≤ (Bm dC k.toNat).2.2.length) ∧ (EG Zs = (List.range j).map fun i => (FP st (((Bm dC k.toNat).2.2.length : Int) + (us.length : Int)) i, (0 : Int))) ∧ ((Bm dC k.toNat).2.2.length - j) = gn) _ ⟨0, [], (some ⟨n0, 0, none⟩), 0, (b1.sub (rc4 (rc4 (rc4 (rc rfl (rc rfl rnl)))))), y0, by omega, rfl, rfl⟩ ?_
 rintro b1 y0 n0 ⟨j, Zs, uA, uc, z0, t0, hj, hZ, x0⟩
 have hZn : Zs.length = j := by rw [← Fe, hZ]; simp
 have hus : us = Qk (Ea dS (csT (B1 dC) k) (Bm dC k.toNat).2.2.length) := by rw [hus0, show i = (Bm dC k.toNat).2.2.length by omega]
 have hLs : Bt Ls = (csT (B1 dC) k) := Ku hL (by omega)
 have hTZ := Pa hT
 refine Ac fun x0 n0 => rR z0 fun x0 y0 => ?_
 refine wcd y0 (fun x0 z0 => ?_) fun x0 b1 => ?_
 refine Am <| xn n0 <| Ac fun n0 x0 => A4 ?_
 refine A0 ?_
 refine lR z0 fun n0 y0 => ?_
 refine adi (((Bm dC k.toNat).2.2.length + (us).length : Nat) : Int) y0 fun n0 z0 => ?_
 refine sbi (((Bm dC k.toNat).2.2.length : Int) + ((us).length : Int) - 1) z0 fun n0 y0 => ?_
 refine mv y0 fun n0 z0 => ?_
 refine sbi (((Bm dC k.toNat).2.2.length : Int) + ((us).length : Int) - (j : Int) - 1) z0 fun n0 y0 => ?_
 refine lR y0 fun n0 z0 => ?_
 refine ix j (j * 1) z0 (DX (t := st) (k := j) (t0.row (i := 4) rfl).2 (by omega)).some_ fun n0 y0 => ?_
 refine lde 0 (j * 1) y0 (DX (t := st) (k := j) (t0.row (i := 4) rfl).2 (by omega)) fun n0 z0 => ?_
 have n0 := t0.nf
 refine krc z0 n0 ok27 (Hy _ _ n0.il (((Bm dC k.toNat).2.2.length : Int) + ((us).length : Int) - (j : Int) - 1) (H1 st j)) fun y0 m0 p0 b0 h1 m1 j1 f1 => ?_
 have j1 := m1.data (Fo [((((m0, p0, b0) : Sl), ((0) : Int)) : Bu)]) (Hr (m1.get (i := 12) rfl) Ir)
 refine bsl f1 j1 fun m1 y0 n0 z0 n1 => ?_
 refine BL (f := WF) (i := 3) Zs ([((((m0, p0, b0) : Sl), ((0) : Int)) : Bu)]) sv z0 n1 rfl rfl rfl rfl rfl OV (Uf _) Tryz.underlying63 zi65 rfl rfl (BU (f := WF) (n1.res (i := 4) rfl)) rfl (by (simp only [Ad, Aj]; omega)) (by decide) fun n0 y0 m1 j1 f1 v0 c1 => ?_
 have f1 : (Zs ++ ([((((m0, p0, b0) : Sl), ((0) : Int)) : Bu)]) : List Bu).length = (Zs).length + 1 := by (simp only [Ab, Ah, Ad, Aj]; done)
 have f1 := c1.erase 4
 have c1 := f1.data (Fo (Zs ++ ([((((m0, p0, b0) : Sl), ((0) : Int)) : Bu)]))) (Oe (f1.get (i := 11) rfl) (f1.get (i := 13) rfl))
 refine asg v0 fun f1 y0 => ?_
 refine Ae ?_
 refine A7 <| xn x0 <| A0 ?_
 refine mv y0 fun x0 f1 => ?_
 refine adi ((j + 1 : Nat) : Int) f1 fun x0 y0 => ?_
 refine asg y0 fun x0 f1 => ?_
 refine Ae ?_
 have x0 := c1.forget 13
 have c1 := x0.forget 12
 have x0 := c1.forget 11
 exact ⟨_, by omega, j + 1, Zs ++ ([((((m0, p0, b0) : Sl), ((0) : Int)) : Bu)]), m1, j1, (f1.sub (rc4 (rc4 (rc4 (rc rfl (rc rfl rnl)))))), x0, by omega, by rw [Pj, hZ, Qaz, C3, Jn, Ly]; refine congrArg _ ?_; rw [List.map_singleton, h1]; unfold FP; first | rfl | (rw [show (((Bm dC k.toNat).2.2.length : Int) + ((us).length : Int) - (j : Int) - 1) = ((Bm dC k.toNat).2.2.length : Int) + (us.length : Int) - 1 - (j : Int) by omega]), rfl⟩
 refine xe ?_
 refine xn k1 <| wsc fun k1 x0 => lR b1 fun k1 f1 => ?_
 refine adi (((Bm dC k.toNat).2.2.length + (us).length : Nat) : Int) f1 fun k1 b1 => ?_
 refine lR b1 fun k1 f1 => ?_
 refine bld f1 fun k1 b1 => ?_
 refine mv b1 fun k1 f1 => ?_
 have k1 := t0.nf
 have t0 := k1.pub 3 (Bw 2 uA ((Zs).length) uc (Hn Zs))
 refine krc f1 t0 ok29 (ME _ _ t0.il (⟨26, k, ((Bm dC k.toNat).2.2.length : Int), dS⟩ : Nd) _ _ _ (t0.g 12) (t0.g 11) (hln := (by omega)) (hbn := (by rw [hZ]; intro x hx; obtain ⟨y, _, rfl⟩ := Ch.1 hx; exact Bo (Nat.le_of_eq Jr.1) (by decide)))) fun k1 b1 j1 m1 h1 b0 p0 m0 => ?_
 have hZ2 := hZ
 rw [show j = (Bm dC k.toNat).2.2.length by omega] at hZ2
 have hcX : m1 = M7 dS k st (Bm dC k.toNat).2.2.length (((Bm dC k.toNat).2.2.length : Int) + (us.length : Int)) := by rw [h1, WU hZ2]
 have hoxc : OX m1 := by rw [hcX]; exact Vx (QI hsc) (by omega) hT6 (by omega) (by omega)
 have hsxc : sml m1 := by rw [hcX]; exact (Uo hsS).2
 have p0 := b0.nf
 refine krc m0 p0 ok28 (G2 _ _ p0.il _ _ _ (((Bm dC k.toNat).2.2.length + (us).length : Nat) : Int) _ _ _ ((bOf (⟨26, k, ((Bm dC k.toNat).2.2.length : Int), dS⟩ : Nd) (EG Zs)).2) (p0.g 5) (p0.g 13) (hm2 := hm2) (hxe := (by (rw [WU hZ2]; done))) (hox := (by exact hoxc)) (hsx := (by exact hsxc))) fun b0 k1 t0 f1 c1 y0 v0 n0 => ?_
 have htl595 : f1.length ≤ 30 := by rw [c1]; first | exact F5 hoxf | exact F5 hoxx | exact F5 hoxc
 refine alc n0 y0 fun v0 b0 p0 m0 n1 => ?_
 refine sto 3 m0 n1 fun b0 v0 n0 y0 => ?_
 refine wn x0 <| Ac fun x0 v0 => wsc fun x0 b0 => mv n0 fun x0 n1 => ?_
 refine sbi (((us).length : Int) - 1) n1 fun x0 n0 => ?_
 refine aw n0 b0 fun x0 n1 => ?_
 refine A4 ?_
 have b0 := y0.pub 1 (Bw 1 Ao ((Ls).length) co (B7 Ls))
 have y0 := b0.pub 1 (Bw 1 Bq ((us).length) dq (BN us))
 refine AH (fun gn ga gw => ∃ q : Nat, ∃ oL : List Nd, ∃ oA : Option Addr, ∃ oc : Nat, (Reg ga 234 [(1000000, .bool false), (2, .slice stA st.length stc), (3, .bool pr), (4, .slice moA mo.length moc), (5, .pointer (some ⟨j0, 0, none⟩)), (10, .slice none 0 0), (11, .int .i64 0), (13, .int .i64 ((Bm dC k.toNat).2.2.length : Int)), (14, .slice Ao ((Ls).length) co), (15, .slice Bq ((us).length) dq), (22, .pointer (some ⟨p0, 0, none⟩)), (23, .int .i64 ((q : Int) - 1))]) ∧ (St w0 Z A6 gw [.box j0 35 [.int .i64 dK, .int .i64 dL, .string dS, .slice dTA dT.length dTc, .slice dBA dB.length dBc, .slice dCA dC.length dCc], .box p0 65 [.slice oA oL.length oc, .int .i64 0]] [n4 dTA dTc dT, n4 dBA dBc dB, Bw 1 dCA dC.length dCc (CW dC), CG dC, Bw 1 stA st.length stc (D2 st), n4 moA moc mo, Bw 1 ((Bm dC k.toNat).1) ((Bm dC k.toNat).2.2.length) ((Bm dC k.toNat).2.1) (B7 ((Bm dC k.toNat).2.2)), Cl ((Bm dC k.toNat).2.2), Bw 1 ((Bm dC k.toNat).1) ((Bm dC k.toNat).2.2.length) ((Bm dC k.toNat).2.1) (B7 ((Bm dC k.toNat).2.2)), Cl ((Bm dC k.toNat).2.2), Cl Ls, Fo Zs, Bw 2 uA ((Zs).length) uc (Hn Zs), n4 b1 j1 m1, n4 oA oc oL, Bw 1 Ao ((Ls).length) co (B7 Ls), Bw 1 Bq ((us).length) dq (BN us)]) ∧ (q ≤ us.length) ∧ (oL = hoX dS k st pr (csT (B1 dC) k) (Bm dC k.toNat).2.2.length ((Ea dS (csT (B1 dC) k) (Bm dC k.toNat).2.2.length).drop q) (((Bm dC k.toNat).2.2.length : Int) + (q : Int))) ∧ q = gn) _ ⟨us.length, f1, k1, t0, (n1.sub (rc4 (rc4 (rc2 (rc rfl (rc rfl rnl)))))), y0, Af _, VH hus c1 h1 hZ2, rfl⟩ ?_
 rintro y0 n1 c1 ⟨q, oL, oA, oc, f1, t0, hq, hO, k1⟩
 have hoz := ho_Z (k := k) (st := st) (pr := pr) (n := (Bm dC k.toNat).2.2.length) hsS hTZ ((Ea dS (csT (B1 dC) k) (Bm dC k.toNat).2.2.length).drop q) (((Bm dC k.toNat).2.2.length : Int) + (q : Int))
 have hod : ((Ea dS (csT (B1 dC) k) (Bm dC k.toNat).2.2.length).drop q).length ≤ 6 := by rw [BK]; have := G5 (S := dS) (ty := (csT (B1 dC) k)) (n := (Bm dC k.toNat).2.2.length); omega
 have hol : oL.length ≤ 60000 ∧ sml oL := by rw [hO]; exact ⟨by omega, hoz.2⟩
 refine Ac fun k1 c1 => rR f1 fun k1 n1 => ?_
 rcases Cb (0 ≤ ((q : Int) - 1)) with k1 | k1
 have f1 : 1 ≤ q := by omega
 have hql : q - 1 < (Ea dS (csT (B1 dC) k) (Bm dC k.toNat).2.2.length).length := by rw [← Lo, ← hus]; omega
 obtain ⟨oi, hoe⟩ : ∃ oi, oi = ((Ea dS (csT (B1 dC) k) (Bm dC k.toNat).2.2.length).getD (q - 1) 0) := ⟨_, rfl⟩
 obtain ⟨hoi, hok⟩ := Rx hql
 rw [← hoe] at hoi hok
 have hOI : Ci us (q - 1) = (oi : Int) := by rw [hus, Up, hoe]
 have hTO : (BF Ls oi).2.2 = Ce (csT (B1 dC) k) oi := by rw [AQ, hLs]
 have htz := hTZ oi
 have htz2 := hTO ▸ htz
 refine wct n1 (Aw k1) fun y0 => ?_
 refine Am <| xn c1 <| Ac fun c1 h1 => A4 ?_
 refine wsc fun c1 b0 => lR y0 fun c1 x0 => ?_
 have c1 := Reg.cons x0 x0 (ri (i := 144) (b := ((q - 1 : Nat) : Int)) rfl (by omega))
 refine ix (q - 1) ((q - 1) * 1) c1 (Ds (t := us) (k := q - 1) (t0.row (i := 16) rfl).2 (by omega)).some_ fun x0 y0 => ?_
 refine lde 0 ((q - 1) * 1) y0 (Ds (t := us) (k := q - 1) (t0.row (i := 16) rfl).2 (by omega)) fun x0 c1 => ?_
 refine asg c1 fun x0 y0 => ?_
 have x0 := Reg.cons y0 y0 (ri (i := 24) (b := (oi : Int)) rfl (hOI.symm))
 refine wn b0 <| wsc fun b0 y0 => lR x0 fun b0 c1 => ?_
 refine adi (((Bm dC k.toNat).2.2.length : Int) + ((q : Int) - 1)) c1 fun b0 x0 => ?_
 refine aw x0 y0 fun b0 c1 => ?_
 refine wsc fun y0 b0 => mv c1 fun y0 x0 => ?_
 refine sbi (((Bm dC k.toNat).2.2.length : Int) + ((q : Int) - 1) - 1) x0 fun y0 c1 => ?_
 refine mv c1 fun y0 x0 => ?_
 refine sbi (((Bm dC k.toNat).2.2.length : Int) + ((q : Int) - 1) - (oi : Int) - 1) x0 fun y0 c1 => ?_
 refine lR c1 fun y0 x0 => ?_
 refine ix oi (oi * 1) x0 (DX (t := st) (k := oi) (t0.row (i := 4) rfl).2 (by omega)).some_ fun y0 c1 => ?_
 refine lde 0 (oi * 1) c1 (DX (t := st) (k := oi) (t0.row (i := 4) rfl).2 (by omega)) fun y0 x0 => ?_
 have y0 := t0.nf
 refine krc x0 y0 ok27 (Hy _ _ y0.il (((Bm dC k.toNat).2.2.length : Int) + ((q : Int) - 1) - (oi : Int) - 1) (H1 st oi)) fun c1 n0 m0 z0 k0 i1 o1 p1 => ?_
 have hxX : z0 = FP st (((Bm dC k.toNat).2.2.length : Int) + (q : Int) - 1) oi := by rw [k0]; unfold FP; first | rfl | (rw [show ((((Bm dC k.toNat).2.2.length : Int) + ((q : Int) - 1) - (oi : Int) - 1) : Int) = (((Bm dC k.toNat).2.2.length : Int) + (q : Int) - 1) - 1 - (oi : Int) by omega])
 obtain ⟨hoxx, hsxl, _⟩ := HW (st := st) (a := (((Bm dC k.toNat).2.2.length : Int) + (q : Int) - 1)) (i := oi) (by omega) (by omega)
 rw [← hxX] at hoxx
 have hsxx : sml z0 := by rw [hxX]; exact Jr.2
 refine alc p1 i1 fun k0 o1 c1 y0 x0 => ?_
 refine sto 2 y0 x0 fun o1 k0 p1 i1 => ?_
 refine wn b0 <| wsc fun b0 k0 => lR p1 fun b0 o1 => ?_
 have b0 := i1.nf
 refine krc o1 b0 ok28 (G2 _ _ b0.il _ _ _ (((Bm dC k.toNat).2.2.length : Int) + ((q : Int) - 1)) _ _ _ (0) (b0.g 5) (b0.g 17) (hm2 := hm2) (hxe := (by rfl)) (hox := (by exact hoxx)) (hsx := (by exact hsxx))) fun i1 p1 x0 y0 q1 s1 t1 u1 => ?_
 have htl730 : y0.length ≤ 30 := by rw [q1]; first | exact F5 hoxf | exact F5 hoxx | exact F5 hoxc
 refine alc u1 s1 fun t1 i1 b0 o1 v1 => ?_
 refine sto 3 o1 v1 fun i1 t1 u1 s1 => ?_
 refine wn k0 <| Ac fun k0 i1 => Ac fun k0 v1 => ?_
 obtain ⟨k0, o1, x1⟩ := s1.agree
 refine Cj (n := 8) x1 19 (pB 0 0 pn) (A5 (A5 (B3 (A5 (A5 (B3 (A5 BC))))))) fun s1 y1 z1 b2 c2 d2 => ?_
 refine dR [0, 1, 2, 3] u1 fun d2 b2 => ?_
 refine dix 4 oi (oi * 1) b2 (fun x hx => (BD (t := Ls) (k := oi) (D6 (o1 15 _ rfl) hx.ag).2 (by omega)).some_) fun d2 u1 => ?_
 refine dle 5 0 (oi * 1) u1 (fun x hx => BD (t := Ls) (k := oi) (D6 (o1 15 _ rfl) hx.ag).2 (by omega)) fun d2 b2 => ?_
 have d2 := c2.el 10 oi
 refine d1 6 ?_
 have c2 := d2.nf
 refine kra b2 c2 ok14 (FE _ _ c2.il dS _ _ ((BF Ls oi).2.2) (c2.g 20) (hsm := (by exact htz2.1)) (hl := (by exact Bo htz2.2 (by decide)))) fun d2 u1 o1 y1 => ?_
 have o1 := sWI u1 19 (pB 0 0 pn)
 refine ⟨o1, ?_⟩
 refine dR [7] y1 fun o1 c2 => ?_
 refine AL (by kernel_rfl) (z1 _ _ ?_) _
 refine xn v1 <| wcd c2 (fun v1 z1 => ?_) fun v1 o1 => ?_
 obtain ⟨_, hkc, c2⟩ := IX (show ¬ kdA dS (BF Ls oi).2.2 = 0 by omega) (show ¬ kdA dS (BF Ls oi).2.2 = 1 by omega)
 obtain ⟨y1, b2⟩ := Ll hkc (.inl c2)
 have hpt := FL hkc
 have hm2p := IR c2
 obtain ⟨htd0, htd1⟩ := td_bd y1 (show _ ≤ (3 : Int) by omega)
 have hmx : 0 ≤ mkX (Ce (csT (B1 dC) k) oi) ∧ mkX (Ce (csT (B1 dC) k) oi) ≤ 2 := by unfold mkX; rw [← hTO]; omega
 have hp01 := JY (b := pr)
 refine wsc fun c2 b2 => lR z1 fun c2 s1 => ?_
 refine ix oi (oi * 1) s1 (BD (t := Ls) (k := oi) (u1.row (i := 15) rfl).2 (by omega)).some_ fun c2 z1 => ?_
 refine lde 0 (oi * 1) z1 (BD (t := Ls) (k := oi) (u1.row (i := 15) rfl).2 (by omega)) fun c2 s1 => ?_
 have c2 := u1.el 10 oi
 have z1 := c2.nf
 refine kra s1 z1 R3 (Dl _ _ z1.il _ _ ((BF Ls oi).2.2) (z1.g 21) (hl := (by omega)) (h0 := hpt)) fun c2 x1 f2 h2 => ?_
 refine Io (v := .int .i64 ((nth ((BF Ls oi).2.2) (((BF Ls oi).2.2).length - 1)).N)) sv h2 rfl rfl rfl (fun _ => by kernel_rfl) (by decide) fun f2 c2 => ?_
 refine LZ (v := .int .i64 (((nth ((BF Ls oi).2.2) (((BF Ls oi).2.2).length - 1)).N).tdiv 2)) sv c2 rfl rfl rfl rfl (by decide) (Ot y1 (by omega)) fun f2 h2 => ?_
 refine r_mul (z := (2 * (((nth ((BF Ls oi).2.2) (((BF Ls oi).2.2).length - 1)).N).tdiv 2))) sv h2 rfl rfl rfl rfl (by decide) (by omega) (by omega) (by omega) fun f2 c2 => ?_
 refine asg c2 fun f2 h2 => ?_
 have f2 := Reg.cons h2 h2 (ri (i := 28) (b := (mkX (Ce (csT (B1 dC) k) oi))) rfl (by unfold mkX; rw [← hTO]; omega))
 refine wn b2 <| wsc fun b2 h2 => lR f2 fun b2 c2 => ?_
 have b2 := x1.nf
 refine krc c2 b2 ok27 (Hy _ _ b2.il 0 (decide (0 < (mkX (Ce (csT (B1 dC) k) oi))))) fun x1 f2 y1 z1 s1 i2 j2 k2 => ?_
 have hyX_ : z1 = yX (mkX (Ce (csT (B1 dC) k) oi)) := by rw [s1]; unfold yX; simp
 refine alc k2 i2 fun s1 j2 x1 b2 c2 => ?_
 refine sto 4 b2 c2 fun j2 s1 k2 i2 => ?_
 refine wn h2 ?_
 have h2 := i2.nf
 refine Gc (fun ga gw => ∃ fL : List Nd, ∃ fA : Option Addr, ∃ fc : Nat, ∃ gf : Nat, Reg ga 234 [(1000000, .bool false), (2, .slice stA st.length stc), (3, .bool pr), (4, .slice moA mo.length moc), (5, .pointer (some ⟨j0, 0, none⟩)), (10, .slice none 0 0), (11, .int .i64 0), (13, .int .i64 ((Bm dC k.toNat).2.2.length : Int)), (14, .slice Ao ((Ls).length) co), (15, .slice Bq ((us).length) dq), (22, .pointer (some ⟨p0, 0, none⟩)), (23, .int .i64 ((q : Int) - 1)), (24, .int .i64 (oi : Int)), (25, .int .i64 (((Bm dC k.toNat).2.2.length : Int) + ((q : Int) - 1))), (27, .pointer (some ⟨b0, 0, none⟩)), (28, .int .i64 (mkX (Ce (csT (B1 dC) k) oi))), (30, .pointer (some ⟨gf, 0, none⟩))] ∧ St w0 Z A6 gw [.box j0 35 [.int .i64 dK, .int .i64 dL, .string dS, .slice dTA dT.length dTc, .slice dBA dB.length dBc, .slice dCA dC.length dCc], .box p0 65 [.slice oA oL.length oc, .int .i64 0], .box c1 65 [.slice n0 z0.length m0, .int .i64 (0)], .box b0 65 [.slice p1 y0.length x0, .int .i64 (0)], .box x1 65 [.slice f2 z1.length y1, .int .i64 (0)], .box gf 65 [.slice fA fL.length fc, .int .i64 0]] [n4 dTA dTc dT, n4 dBA dBc dB, Bw 1 dCA dC.length dCc (CW dC), CG dC, Bw 1 stA st.length stc (D2 st), n4 moA moc mo, Bw 1 ((Bm dC k.toNat).1) ((Bm dC k.toNat).2.2.length) ((Bm dC k.toNat).2.1) (B7 ((Bm dC k.toNat).2.2)), Cl ((Bm dC k.toNat).2.2), Bw 1 ((Bm dC k.toNat).1) ((Bm dC k.toNat).2.2.length) ((Bm dC k.toNat).2.1) (B7 ((Bm dC k.toNat).2.2)), Cl ((Bm dC k.toNat).2.2), Cl Ls, Fo Zs, Bw 2 uA ((Zs).length) uc (Hn Zs), n4 b1 j1 m1, n4 oA oc oL, Bw 1 Ao ((Ls).length) co (B7 Ls), Bw 1 Bq ((us).length) dq (BN us), n4 n0 m0 z0, n4 p1 x0 y0, dAg t1 k0, n4 ((BF Ls oi).1) ((BF Ls oi).2.1) ((BF Ls oi).2.2), n4 ((BF Ls oi).1) ((BF Ls oi).2.1) ((BF Ls oi).2.2), n4 f2 y1 z1, n4 fA fc fL] ∧ (fL = Pr (FP st ((((Bm dC k.toNat).2.2.length : Int) + (q : Int) - 1) + 1) oi) (yX (mkX (Ce (csT (B1 dC) k) oi))))) ?_ ?_
 obtain ⟨x1, y1, f2⟩ := h2.agree
 refine Cj (n := 6) f2 23 (pB 2 0 (pB 4 0 pn)) (A5 (A5 (B3 (A5 (A5 (B3 (A5 BC))))))) fun y1 x1 h2 k0 t1 c1 => ?_
 refine dt 0 rfl x1 k2 (AJ rfl) (fun x hx => C9 (sy k2) k2 rfl rfl rfl (Ay (hx.c 0) (Ay (hx.c 1) (CellsAt.nil _ _))) AO rfl Hs (by decide) gt) c1 fun k0 y1 => ?_
 refine dt 2 rfl x1 y1 (AJ rfl) (fun x hx => C9 (sy y1) y1 rfl rfl rfl (Ay (hx.c 2) (Ay (hx.c 3) (CellsAt.nil _ _))) AO rfl Hs (by decide) gt) c1 fun k0 k2 => ?_
 refine wpAnyH_all (rs := [1, 4]) (by kernel_rfl) (by simp) ?_
 rintro i k0
 simp only [AD, AG, or_false] at k0
 rcases k0 with rfl | rfl
 have k0 := t1.nf
 refine krc k2 k0 ok31 (Jm _ _ k0.il _ _ _ (0) 1 0 (k0.g 17) (hla := (by have := hoxx.2.1; omega)) (hsa := hsxx)) fun y1 c1 x1 f2 m0 n0 i2 s1 => ?_
 have hupe : bUp (z0, 0) 1 0 = (FP st ((((Bm dC k.toNat).2.2.length : Int) + (q : Int) - 1) + 1) oi, 0) := by rw [hxX]; exact U5 (by omega) (by omega)
 have huL : f2.length ≤ 10 := by rw [m0, hupe]; exact Bo (Nat.le_of_eq Jr.1) (by decide)
 have i2 := sWI n0 23 (pB 2 0 (pB 4 0 pn))
 refine ⟨i2, ?_⟩
 refine wpAnyH_all (rs := [3, 4]) (by kernel_rfl) (by simp) ?_
 rintro i i2
 simp only [AD, AG, or_false] at i2
 rcases i2 with rfl | rfl
 have i2 := n0.nf
 refine krc s1 i2 ok30 (Gu _ _ i2.il 5 0 _ _ _ ((bUp (z0, (0)) 1 0).2) _ _ _ (0) (i2.g 24) (i2.g 22) (hla := (by omega)) (hlb := (by rw [hyX_]; exact Bo (Nat.le_of_eq y_Z.1) (by decide)))) fun x1 c1 y1 k0 j2 c2 b2 m2 => ?_
 have hfe : bOf ⟨5, 0, 0, ⟨#[]⟩⟩ [(f2, ((bUp (z0, (0)) 1 0).2)), (z1, 0)] = (Pr (FP st ((((Bm dC k.toNat).2.2.length : Int) + (q : Int) - 1) + 1) oi) (yX (mkX (Ce (csT (B1 dC) k) oi))), 0) := by rw [m0, hupe, hyX_]; rfl
 have b2 := sWI c2 23 (pB 2 0 (pB 4 0 pn))
 refine ⟨b2, ?_⟩
 refine d1 4 ?_
 refine alc m2 c2 fun b2 x1 i2 n2 o2 => ?_
 have x1 := sWI o2 23 (pB 2 0 (pB 4 0 pn))
 refine ⟨x1, ?_⟩
 refine d1 5 ?_
 refine sto 5 n2 o2 fun x1 b2 m2 c2 => ?_
 have b2 := sWI c2 23 (pB 2 0 (pB 4 0 pn))
 refine ⟨b2, ?_⟩
 refine AL (by kernel_rfl) (h2 _ _ ?_) _
 have b2 := c2.nf
 have c2 : (((bOf ⟨5, 0, 0, ⟨#[]⟩⟩ [(f2, ((bUp (z0, (0)) 1 0).2)), (z1, (0))]).2) : Int) = 0 := by rw [hfe]
 have x1 := b2
 rw [c2] at x1
 exact AC ⟨k0, c1, y1, i2, (m2.sub (rc4 (rc4 (rc4 (rc4 (rc rfl rnl)))))), (x1.sub (Av (i := 0) rfl (Av (i := 1) rfl (Av (i := 2) rfl (Av (i := 3) rfl (Av (i := 4) rfl (Av (i := 5) rfl (Av (i := 6) rfl (Av (i := 7) rfl (Av (i := 8) rfl (Av (i := 9) rfl (Av (i := 10) rfl (Av (i := 11) rfl (Av (i := 12) rfl (Av (i := 13) rfl (Av (i := 14) rfl (Av (i := 15) rfl (Av (i := 16) rfl (Av (i := 17) rfl (Av (i := 18) rfl (Av (i := 19) rfl (Av (i := 20) rfl (Av (i := 21) rfl (Av (i := 22) rfl (Av (i := 25) rfl F6))))))))))))))))))))))))), by rw [j2, hfe]⟩
 refine alc s1 n0 fun x1 m2 i2 j2 k0 => ?_
 have m2 := sWI k0 23 (pB 2 0 (pB 4 0 pn))
 refine ⟨m2, ?_⟩
 refine d1 3 ?_
 have m2 := k0.nf
 refine krc j2 m2 ok30 (Gu _ _ m2.il 5 0 _ _ _ ((bUp (z0, (0)) 1 0).2) _ _ _ (0) (m2.g 24) (m2.g 22) (hla := (by omega)) (hlb := (by rw [hyX_]; exact Bo (Nat.le_of_eq y_Z.1) (by decide)))) fun k0 x1 s1 n0 y1 c1 c2 b2 => ?_
 have hfe : bOf ⟨5, 0, 0, ⟨#[]⟩⟩ [(f2, ((bUp (z0, (0)) 1 0).2)), (z1, 0)] = (Pr (FP st ((((Bm dC k.toNat).2.2.length : Int) + (q : Int) - 1) + 1) oi) (yX (mkX (Ce (csT (B1 dC) k) oi))), 0) := by rw [m0, hupe, hyX_]; rfl
 have m0 := sWI c1 23 (pB 2 0 (pB 4 0 pn))
 refine ⟨m0, ?_⟩
 refine d1 5 ?_
 refine sto 5 b2 c1 fun m0 c2 k0 m2 => ?_
 have c2 := sWI m2 23 (pB 2 0 (pB 4 0 pn))
 refine ⟨c2, ?_⟩
 refine AL (by kernel_rfl) (h2 _ _ ?_) _
 have c2 := m2.nf
 have m2 : (((bOf ⟨5, 0, 0, ⟨#[]⟩⟩ [(f2, ((bUp (z0, (0)) 1 0).2)), (z1, (0))]).2) : Int) = 0 := by rw [hfe]
 have f2 := c2
 rw [m2] at f2
 exact AC ⟨n0, x1, s1, i2, (k0.sub (rc4 (rc4 (rc4 (rc4 (rc rfl rnl)))))), (f2.sub (Av (i := 0) rfl (Av (i := 1) rfl (Av (i := 2) rfl (Av (i := 3) rfl (Av (i := 4) rfl (Av (i := 5) rfl (Av (i := 6) rfl (Av (i := 7) rfl (Av (i := 8) rfl (Av (i := 9) rfl (Av (i := 10) rfl (Av (i := 11) rfl (Av (i := 12) rfl (Av (i := 13) rfl (Av (i := 14) rfl (Av (i := 15) rfl (Av (i := 16) rfl (Av (i := 17) rfl (Av (i := 18) rfl (Av (i := 19) rfl (Av (i := 20) rfl (Av (i := 21) rfl (Av (i := 22) rfl (Av (i := 25) rfl F6))))))))))))))))))))))))), by rw [y1, hfe]⟩
 refine alc k2 t1 fun f2 k0 y1 n0 s1 => ?_
 have k0 := sWI s1 23 (pB 2 0 (pB 4 0 pn))
 refine ⟨k0, ?_⟩
 refine d1 1 ?_
 have k0 := s1.nf
 refine krc n0 k0 ok31 (Jm _ _ k0.il _ _ _ (0) 1 0 (k0.g 17) (hla := (by have := hoxx.2.1; omega)) (hsa := hsxx)) fun s1 f2 k2 t1 x1 i2 m2 c2 => ?_
 have hupe : bUp (z0, 0) 1 0 = (FP st ((((Bm dC k.toNat).2.2.length : Int) + (q : Int) - 1) + 1) oi, 0) := by rw [hxX]; exact U5 (by omega) (by omega)
 have huL : t1.length ≤ 10 := by rw [x1, hupe]; exact Bo (Nat.le_of_eq Jr.1) (by decide)
 have m2 := sWI i2 23 (pB 2 0 (pB 4 0 pn))
 refine ⟨m2, ?_⟩
 refine d1 3 ?_
 have m2 := i2.nf
 refine krc c2 m2 ok30 (Gu _ _ m2.il 5 0 _ _ _ ((bUp (z0, (0)) 1 0).2) _ _ _ (0) (m2.g 24) (m2.g 22) (hla := (by omega)) (hlb := (by rw [hyX_]; exact Bo (Nat.le_of_eq y_Z.1) (by decide)))) fun i2 k2 f2 s1 k0 n0 m0 b2 => ?_
 have hfe : bOf ⟨5, 0, 0, ⟨#[]⟩⟩ [(t1, ((bUp (z0, (0)) 1 0).2)), (z1, 0)] = (Pr (FP st ((((Bm dC k.toNat).2.2.length : Int) + (q : Int) - 1) + 1) oi) (yX (mkX (Ce (csT (B1 dC) k) oi))), 0) := by rw [x1, hupe, hyX_]; rfl
 have x1 := sWI n0 23 (pB 2 0 (pB 4 0 pn))
 refine ⟨x1, ?_⟩
 refine d1 5 ?_
 refine sto 5 b2 n0 fun x1 m0 i2 m2 => ?_
 have m0 := sWI m2 23 (pB 2 0 (pB 4 0 pn))
 refine ⟨m0, ?_⟩
 refine AL (by kernel_rfl) (h2 _ _ ?_) _
 have h2 := m2.nf
 have m2 : (((bOf ⟨5, 0, 0, ⟨#[]⟩⟩ [(t1, ((bUp (z0, (0)) 1 0).2)), (z1, (0))]).2) : Int) = 0 := by rw [hfe]
 have t1 := h2
 rw [m2] at t1
 exact AC ⟨s1, k2, f2, y1, (i2.sub (rc4 (rc4 (rc4 (rc4 (rc rfl rnl)))))), (t1.sub (Av (i := 0) rfl (Av (i := 1) rfl (Av (i := 2) rfl (Av (i := 3) rfl (Av (i := 4) rfl (Av (i := 5) rfl (Av (i := 6) rfl (Av (i := 7) rfl (Av (i := 8) rfl (Av (i := 9) rfl (Av (i := 10) rfl (Av (i := 11) rfl (Av (i := 12) rfl (Av (i := 13) rfl (Av (i := 14) rfl (Av (i := 15) rfl (Av (i := 16) rfl (Av (i := 17) rfl (Av (i := 18) rfl (Av (i := 19) rfl (Av (i := 20) rfl (Av (i := 21) rfl (Av (i := 22) rfl (Av (i := 25) rfl F6))))))))))))))))))))))))), by rw [k0, hfe]⟩
 rintro t1 i2 ⟨fL, fA, fc, gf, k0, s1, hfX⟩
 have hoxf : OX fL := by rw [hfX]; exact Tb (HW (by omega) (by omega)) (OX_y _)
 have hsxf : sml fL := by rw [hfX]; exact (app_Z Jr.2 y_Z.2).2
 obtain ⟨i2, t1, f2⟩ := s1.agree
 refine Cj (n := 19) f2 24 (pB 5 0 pn) (A5 (B3 (A5 (A5 (B3 (A5 BC)))))) fun i2 s1 k2 y1 m2 h2 => ?_
 refine dR [0, 1, 4, 5] k0 fun y1 i2 => ?_
 refine dix 6 oi (oi * 1) i2 (fun x hx => (BD (t := Ls) (k := oi) (D6 (t1 15 _ rfl) hx.ag).2 (by omega)).some_) fun y1 k0 => ?_
 refine dle 7 0 (oi * 1) k0 (fun x hx => BD (t := Ls) (k := oi) (D6 (t1 15 _ rfl) hx.ag).2 (by omega)) fun y1 i2 => ?_
 have y1 := m2.el 10 oi
 refine dR [12, 13] i2 fun m2 k0 => ?_
 refine dt 14 rfl s1 k0 (AJ rfl) (fun x hx => IB (z := (((Bm dC k.toNat).2.2.length : Int) + ((q : Int) - 1) + 1)) (sy k0) k0 rfl rfl rfl rfl (by decide) (by omega) (by omega) (by omega) gt) h2 fun m2 i2 => ?_
 refine dt 15 rfl s1 i2 (AJ rfl) (fun x hx => C9 (sy i2) i2 rfl rfl rfl (Ay (hx.c 0) (Ay (hx.c 1) (CellsAt.nil _ _))) AO rfl Hs (by decide) gt) h2 fun m2 k0 => ?_
 refine d1 2 ?_
 have m2 := y1.nf
 refine kra k0 m2 ok33 (EN _ _ m2.il pr 1) fun y1 i2 h2 t1 => ?_
 have h2 := sWI i2 24 (pB 5 0 pn)
 refine ⟨h2, ?_⟩
 refine dt 3 rfl s1 t1 (AJ rfl) (fun x hx => IB (z := ((mkX (Ce (csT (B1 dC) k) oi)) + (mkI pr 1))) (sy t1) t1 rfl rfl rfl rfl (by decide) (by omega) (by omega) (by omega) gt) h2 fun y1 m2 => ?_
 refine d1 8 ?_
 have y1 := i2.nf
 refine krd m2 y1 R4 (CN _ _ y1.il _ _ ((BF Ls oi).2.2) (y1.g 25) (hl := (by omega)) (hsm := htz2.1) (hb := (BO hkc))) fun i2 h2 t1 k0 f2 z1 z0 m0 => ?_
 have hag := f2.trans (Fh hkc).symm
 have hgl : k0.length = many (nth (BF Ls oi).2.2 ((BF Ls oi).2.2.length - 1)) := by rw [← Bs, hag, Fh hkc, Cz (BO hkc)]
 have hgx : (BF k0 0).2.2 = Ce (agA (Ce (csT (B1 dC) k) oi)) 0 := by rw [AQ, hag, hTO]
 have hgz := WH htz.1
 rw [← hgx] at hgz
 have f2 := sWI z1 24 (pB 5 0 pn)
 refine ⟨f2, ?_⟩
 obtain ⟨f2, z0, t1⟩ := z1.agree
 refine Sz (z0 24 _ rfl) ?_
 have f2 := sWI t1 28 (pB 5 0 pn)
 refine dix 9 0 (0 * 1) m0 (fun x hx => (BD (t := k0) (k := 0) (D6 (z0 26 _ rfl) hx.ag).2 (by omega)).some_) fun z1 h2 => ?_
 refine dle 10 0 (0 * 1) h2 (fun x hx => BD (t := k0) (k := 0) (D6 (z0 26 _ rfl) hx.ag).2 (by omega)) fun z1 m0 => ?_
 have z1 := t1.el 27 0
 refine dt 11 rfl s1 m0 (AJ rfl) (fun x hx => WV m0) f2 fun t1 h2 => ?_
 refine d1 16 ?_
 have t1 := z1.nf
 refine krc h2 t1 ok28 (G2 _ _ t1.il _ _ _ (((Bm dC k.toNat).2.2.length : Int) + ((q : Int) - 1) + 1) _ _ _ 0 (t1.g 5) (t1.g 23) (hm2 := hm2) (hxe := (by rfl)) (hox := (by exact hoxf)) (hsx := (by exact hsxf))) fun z1 m0 f2 s1 z0 i2 y1 m2 => ?_
 have htl1067 : s1.length ≤ 30 := by rw [z0]; first | exact F5 hoxf | exact F5 hoxx | exact F5 hoxc
 have s1 := sWI i2 28 (pB 5 0 pn)
 refine ⟨s1, ?_⟩
 refine d1 17 ?_
 have s1 := i2.nf
 refine krc m2 s1 ok32 (GS _ _ s1.il ((mkX (Ce (csT (B1 dC) k) oi)) + (mkI pr 1)) _ _ ((BF k0 0).2.2) 0 _ _ _ (0) (s1.g 29) (s1.g 30) (hae := rfl) (hbe := rfl) (hla := (by omega)) (hlb := (by omega))) fun i2 y1 f2 m0 z1 t1 h2 x1 => ?_
 have hPl : m0.length ≤ 5000 := by rw [z1, pi_len]; omega
 have h2 := sWI t1 28 (pB 5 0 pn)
 refine ⟨h2, ?_⟩
 refine d1 18 ?_
 refine sto 3 x1 t1 fun h2 i2 s1 m2 => ?_
 have h2 := sWI m2 28 (pB 5 0 pn)
 refine ⟨h2, ?_⟩
 refine AL (by kernel_rfl) (k2 _ _ ?_) _
 refine xn i1 ?_
 obtain ⟨k2, h2, x1⟩ := m2.agree
 refine Fz (S := (sW i2 k2 [cel p0 0 (.slice oA oL.length oc), cel p0 1 (.int .i64 0), cel b0 0 (.slice y1 m0.length f2), cel b0 1 (.int .i64 (0))])) (n := 6) [5] J9 rfl x1 (B3 (A5 (A5 (B3 (A5 BC))))) fun h2 m2 t1 k0 b2 => ?_
 have k0 := sWI b2 32 (pc 1 0 (pc 1 1 (pc 3 0 (pc 3 1 pn))))
 refine dtv 0 m2 s1 fun h2 x1 => ?_
 refine dlt 2 rfl m2 x1 (AJ rfl) (fun x hx => C9 (sy x1) x1 rfl rfl rfl (Ay (hx.c 2) (Ay (hx.c 3) (CellsAt.nil _ _))) AO rfl Hs (by decide) gt) k0 fun h2 s1 => ?_
 refine dlt 3 rfl m2 s1 (AJ rfl) (fun x hx => C9 (sy s1) s1 rfl rfl rfl (Ay (hx.c 0) (Ay (hx.c 1) (CellsAt.nil _ _))) AO rfl Hs (by decide) gt) k0 fun h2 x1 => ?_
 refine Eg (i := 1) (by kernel_rfl) ?_
 have h2 := b2.nf
 refine kra x1 h2 ok33 (EN _ _ h2.il pr 3) fun b2 s1 k0 m2 => ?_
 have k0 := sWI s1 32 (pc 1 0 (pc 1 1 (pc 3 0 (pc 3 1 pn))))
 refine ⟨fun _ _ => k0, ?_⟩
 refine Eg (i := 4) (by kernel_rfl) ?_
 have k0 := s1.nf
 refine krc m2 k0 ok32 (GS _ _ k0.il (mkI pr 3) _ _ _ (0) _ _ _ 0 (k0.g 31) (k0.g 14) (hae := rfl) (hbe := rfl) (hla := (by omega)) (hlb := (by omega))) fun s1 b2 h2 x1 k2 i2 m0 f2 => ?_
 have m0 := sWI i2 32 (pc 1 0 (pc 1 1 (pc 3 0 (pc 3 1 pn))))
 refine ⟨fun _ _ => m0, ?_⟩
 refine Eg (i := 5) (by kernel_rfl) ?_
 refine sto 1 f2 i2 fun m0 s1 k0 m2 => ?_
 refine ⟨fun h => absurd h (by decide), ?_⟩
 refine GC (by kernel_rfl) (t1 _ _ ?_) _
 refine A7 <| xn h1 <| A0 ?_
 refine mv k0 fun t1 s1 => ?_
 refine sbi (((q : Int) - 1) - 1) s1 fun t1 k0 => ?_
 refine asg k0 fun t1 s1 => ?_
 refine Ae ?_
 have t1 := m2.erase 5
 have m2 := t1.erase 4
 have t1 := m2.erase 3
 have m2 := t1.erase 2
 have t1 := m2.sub (Av (i := 0) rfl (Av (i := 1) rfl (Av (i := 2) rfl (Av (i := 3) rfl (Av (i := 4) rfl (Av (i := 5) rfl (Av (i := 6) rfl (Av (i := 7) rfl (Av (i := 8) rfl (Av (i := 9) rfl (Av (i := 10) rfl (Av (i := 11) rfl (Av (i := 12) rfl (Av (i := 13) rfl (Av (i := 33) rfl (Av (i := 15) rfl (Av (i := 16) rfl F6)))))))))))))))))
 exact ⟨_, by omega, q - 1, x1, b2, h2, (s1.sub (rc4 (rc4 (rc2 (rc rfl (rc (ri rfl (by omega)) rnl)))))), t1, by omega, QN hO f1 hql (by rw [← hoe, z1, hgx, z0, hfX]; unfold hyX; rw [At (by rw [← hTO]; exact v1)]) k2, rfl⟩
 refine Am <| xn i1 ?_
 obtain ⟨i1, t1, s1⟩ := u1.agree
 refine Fz (S := (sW d2 i1 [cel p0 0 (.slice oA oL.length oc), cel p0 1 (.int .i64 0), cel b0 0 (.slice p1 y0.length x0), cel b0 1 (.int .i64 (0))])) (n := 6) [5] J9 rfl s1 (B3 (A5 (A5 (B3 (A5 BC))))) fun t1 u1 k2 x1 h2 => ?_
 have x1 := sWI h2 21 (pc 1 0 (pc 1 1 (pc 3 0 (pc 3 1 pn))))
 refine dtv 0 u1 o1 fun t1 s1 => ?_
 refine dlt 2 rfl u1 s1 (AJ rfl) (fun x hx => C9 (sy s1) s1 rfl rfl rfl (Ay (hx.c 2) (Ay (hx.c 3) (CellsAt.nil _ _))) AO rfl Hs (by decide) gt) x1 fun t1 o1 => ?_
 refine dlt 3 rfl u1 o1 (AJ rfl) (fun x hx => C9 (sy o1) o1 rfl rfl rfl (Ay (hx.c 0) (Ay (hx.c 1) (CellsAt.nil _ _))) AO rfl Hs (by decide) gt) x1 fun t1 s1 => ?_
 refine Eg (i := 1) (by kernel_rfl) ?_
 have t1 := h2.nf
 refine kra s1 t1 ok33 (EN _ _ t1.il pr 3) fun h2 o1 x1 u1 => ?_
 have x1 := sWI o1 21 (pc 1 0 (pc 1 1 (pc 3 0 (pc 3 1 pn))))
 refine ⟨fun _ _ => x1, ?_⟩
 refine Eg (i := 4) (by kernel_rfl) ?_
 have x1 := o1.nf
 refine krc u1 x1 ok32 (GS _ _ x1.il (mkI pr 3) _ _ _ (0) _ _ _ 0 (x1.g 18) (x1.g 14) (hae := rfl) (hbe := rfl) (hla := (by omega)) (hlb := (by omega))) fun o1 h2 t1 s1 i1 d2 b0 y0 => ?_
 have b0 := sWI d2 21 (pc 1 0 (pc 1 1 (pc 3 0 (pc 3 1 pn))))
 refine ⟨fun _ _ => b0, ?_⟩
 refine Eg (i := 5) (by kernel_rfl) ?_
 refine sto 1 y0 d2 fun b0 o1 x1 u1 => ?_
 refine ⟨fun h => absurd h (by decide), ?_⟩
 refine GC (by kernel_rfl) (k2 _ _ ?_) _
 refine A7 <| xn h1 <| A0 ?_
 refine mv x1 fun h1 k2 => ?_
 refine sbi (((q : Int) - 1) - 1) k2 fun h1 x1 => ?_
 refine asg x1 fun h1 k2 => ?_
 refine Ae ?_
 have h1 := u1.erase 3
 have u1 := h1.erase 2
 have h1 := u1.sub (Av (i := 0) rfl (Av (i := 1) rfl (Av (i := 2) rfl (Av (i := 3) rfl (Av (i := 4) rfl (Av (i := 5) rfl (Av (i := 6) rfl (Av (i := 7) rfl (Av (i := 8) rfl (Av (i := 9) rfl (Av (i := 10) rfl (Av (i := 11) rfl (Av (i := 12) rfl (Av (i := 13) rfl (Av (i := 22) rfl (Av (i := 15) rfl (Av (i := 16) rfl F6)))))))))))))))))
 exact ⟨_, by omega, q - 1, s1, h2, t1, (k2.sub (rc4 (rc4 (rc2 (rc rfl (rc (ri rfl (by omega)) rnl)))))), h1, by omega, QN hO f1 hql (by rw [← hoe, q1, hxX]; unfold hyX; rw [Aq (by rw [← hTO]; exact v1)]) i1, rfl⟩
 refine wcf n1 (Ai k1) fun h1 => ?_
 refine xe ?_
 refine xn v0 <| Ac fun v0 k1 => wsc fun v0 n1 => mv h1 fun v0 k2 => ?_
 refine sbi (((Bm dC k.toNat).2.2.length : Int) - 1) k2 fun v0 h1 => ?_
 refine aw h1 n1 fun v0 k2 => ?_
 refine A4 ?_
 refine AH (fun gn ga gw => ∃ r : Nat, ∃ oM : List Nd, ∃ oB : Option Addr, ∃ od : Nat, (Reg ga 234 [(1000000, .bool false), (2, .slice stA st.length stc), (3, .bool pr), (10, .slice none 0 0), (11, .int .i64 0), (14, .slice Ao ((Ls).length) co), (22, .pointer (some ⟨p0, 0, none⟩)), (31, .int .i64 ((r : Int) - 1))]) ∧ (St w0 Z A6 gw [.box j0 35 [.int .i64 dK, .int .i64 dL, .string dS, .slice dTA dT.length dTc, .slice dBA dB.length dBc, .slice dCA dC.length dCc], .box p0 65 [.slice oB oM.length od, .int .i64 0]] [n4 dTA dTc dT, n4 dBA dBc dB, Bw 1 dCA dC.length dCc (CW dC), CG dC, Bw 1 stA st.length stc (D2 st), n4 moA moc mo, Bw 1 ((Bm dC k.toNat).1) ((Bm dC k.toNat).2.2.length) ((Bm dC k.toNat).2.1) (B7 ((Bm dC k.toNat).2.2)), Cl ((Bm dC k.toNat).2.2), Bw 1 ((Bm dC k.toNat).1) ((Bm dC k.toNat).2.2.length) ((Bm dC k.toNat).2.1) (B7 ((Bm dC k.toNat).2.2)), Cl ((Bm dC k.toNat).2.2), Cl Ls, Fo Zs, Bw 2 uA ((Zs).length) uc (Hn Zs), n4 b1 j1 m1, n4 oB od oM, Bw 1 Ao ((Ls).length) co (B7 Ls), Bw 1 Bq ((us).length) dq (BN us)]) ∧ (r ≤ (Bm dC k.toNat).2.2.length) ∧ (oM = arX dS k st pr (csT (B1 dC) k) (Bm dC k.toNat).2.2.length ((Bm dC k.toNat).2.2.length - r)) ∧ r = gn) _ ⟨(Bm dC k.toNat).2.2.length, oL, oA, oc, (k2.sub (rc4 (rc2 (rc rfl (rc rfl rnl))))), t0, Af _, by rw [hO, show q = 0 by omega, Nat.sub_self]; rfl, rfl⟩ ?_
 rintro k2 t0 m1 ⟨r, oM, oB, od, j1, b1, hr, hO2, j0⟩
 have hrz := ar_Z (k := k) (st := st) (pr := pr) (n := (Bm dC k.toNat).2.2.length) hsS hTZ ((Bm dC k.toNat).2.2.length - r)
 have hrl : oM.length ≤ 60000 ∧ sml oM := by rw [hO2]; exact ⟨by omega, hrz.2⟩
 have htr := hTZ (r - 1)
 have hp01 := JY (b := pr)
 have hp02 := RE (b := H1 st (r - 1))
 have hTr : (BF Ls (r - 1)).2.2 = Ce (csT (B1 dC) k) (r - 1) := by rw [AQ, hLs]
 rw [← hTr] at htr
 refine Ac fun j0 t0 => rR j1 fun j0 k2 => ?_
 refine wcd k2 (fun j0 j1 => ?_) fun j0 n1 => ?_
 refine Am <| xn t0 <| Ac fun t0 j0 => A4 ?_
 obtain ⟨t0, k2, v0⟩ := b1.agree
 refine Fz (S := (sW m1 t0 [cel p0 0 (.slice oB oM.length od), cel p0 1 (.int .i64 0)])) (n := 16) [15] J9 rfl v0 (B3 (A5 (A5 (B3 (A5 BC))))) fun h1 i1 s1 t1 h2 => ?_
 have t1 := sWI h2 17 (pc 1 0 (pc 1 1 pn))
 refine dtv 0 i1 j1 fun h1 v0 => ?_
 refine dtv 1 i1 v0 fun h1 j1 => ?_
 have h1 := Reg.cons j1 j1 (ri (i := 216) (b := ((r - 1 : Nat) : Int)) rfl (by omega))
 refine dta 2 rfl i1 h1 (AJ rfl) (fun x => CV (i := r - 1) (j := (r - 1) * 1) (sy h1) h1 rfl rfl rfl rfl Ek sz4 (by omega) (by omega) (DX (t := st) (k := r - 1) (h2.row (i := 4) rfl).2 (by omega)).some_ rfl (by decide) gt) fun j1 v0 => ?_
 refine dlt 3 rfl i1 v0 (AJ rfl) (fun x hx => G8 (sy v0) v0 rfl rfl rfl 0 ((r - 1) * 1) (DX (t := st) (k := r - 1) (D6 (k2 4 _ rfl) hx.ag).2 (by omega)) rfl rfl C2 rfl (by decide) gt) t1 fun j1 h1 => ?_
 refine dtv 5 i1 h1 fun j1 v0 => ?_
 refine dtv 8 i1 v0 fun j1 h1 => ?_
 refine dtv 9 i1 h1 fun j1 v0 => ?_
 have j1 := Reg.cons v0 v0 (ri (i := 224) (b := ((r - 1 : Nat) : Int)) rfl (by omega))
 refine dta 10 rfl i1 j1 (AJ rfl) (fun x => CV (i := r - 1) (j := (r - 1) * 1) (sy j1) j1 rfl rfl rfl rfl Be LG (by omega) (by omega) (BD (t := Ls) (k := r - 1) (h2.row (i := 15) rfl).2 (by omega)).some_ rfl (by decide) gt) fun v0 h1 => ?_
 refine dlt 11 rfl i1 h1 (AJ rfl) (fun x hx => G8 (sy h1) h1 rfl rfl rfl 0 ((r - 1) * 1) (BD (t := Ls) (k := r - 1) (D6 (k2 15 _ rfl) hx.ag).2 (by omega)) rfl rfl Au rfl (by decide) gt) t1 fun v0 j1 => ?_
 have v0 := h2.el 10 (r - 1)
 refine dta 12 rfl i1 j1 (AJ rfl) (fun x => WV j1) fun h2 h1 => ?_
 refine dlt 13 rfl i1 h1 (AJ rfl) (fun x hx => C9 (sy h1) h1 rfl rfl rfl (Ay (hx.c 0) (Ay (hx.c 1) (CellsAt.nil _ _))) AO rfl Hs (by decide) gt) t1 fun h2 j1 => ?_
 refine Eg (i := 4) (by kernel_rfl) ?_
 have h2 := v0.nf
 refine kra j1 h2 ok33 (EN _ _ h2.il (H1 st (r - 1)) 2) fun v0 h1 t1 k2 => ?_
 have t1 := sWI h1 17 (pc 1 0 (pc 1 1 pn))
 refine ⟨fun _ _ => t1, ?_⟩
 refine Eg (i := 6) (by kernel_rfl) ?_
 have t1 := h1.nf
 refine kra k2 t1 ok33 (EN _ _ t1.il pr 1) fun h1 v0 h2 j1 => ?_
 have h2 := sWI v0 17 (pc 1 0 (pc 1 1 pn))
 refine ⟨fun _ _ => h2, ?_⟩
 refine dta 7 rfl i1 j1 (AJ rfl) (fun x => IB (z := ((mkI (H1 st (r - 1)) 2) + (mkI pr 1))) (sy j1) j1 rfl rfl rfl rfl (by decide) (by omega) (by omega) (by omega) gt) fun h2 h1 => ?_
 refine Eg (i := 14) (by kernel_rfl) ?_
 have h2 := v0.nf
 refine krc h1 h2 ok32 (GS _ _ h2.il ((mkI (H1 st (r - 1)) 2) + (mkI pr 1)) _ _ ((BF Ls (r - 1)).2.2) 0 _ _ _ 0 (h2.g 18) (h2.g 14) (hae := rfl) (hbe := rfl) (hla := (by omega)) (hlb := (by omega))) fun v0 j1 i1 t1 k2 t0 m1 p0 => ?_
 have m1 := sWI t0 17 (pc 1 0 (pc 1 1 pn))
 refine ⟨fun _ _ => m1, ?_⟩
 refine Eg (i := 15) (by kernel_rfl) ?_
 refine sto 1 p0 t0 fun m1 v0 h2 h1 => ?_
 refine ⟨fun h => absurd h (by decide), ?_⟩
 refine GC (by kernel_rfl) (s1 _ _ ?_) _
 refine A7 <| xn j0 <| A0 ?_
 refine mv h2 fun j0 s1 => ?_
 refine sbi (((r : Int) - 1) - 1) s1 fun j0 h2 => ?_
 refine asg h2 fun j0 s1 => ?_
 refine Ae ?_
 have j0 := h1.sub (Av (i := 0) rfl (Av (i := 1) rfl (Av (i := 2) rfl (Av (i := 3) rfl (Av (i := 4) rfl (Av (i := 5) rfl (Av (i := 6) rfl (Av (i := 7) rfl (Av (i := 8) rfl (Av (i := 9) rfl (Av (i := 10) rfl (Av (i := 11) rfl (Av (i := 12) rfl (Av (i := 13) rfl (Av (i := 19) rfl (Av (i := 15) rfl (Av (i := 16) rfl F6)))))))))))))))))
 exact ⟨_, by omega, r - 1, t1, j1, i1, (s1.sub (rc4 (rc2 (rc rfl (rc (ri rfl (by omega)) rnl))))), j0, by omega, by rw [SO (show r - 1 < (Bm dC k.toNat).2.2.length by omega), show r - 1 + 1 = r by omega, ← hO2, ← hTr]; exact k2, rfl⟩
 refine xe ?_
 refine xn k1 <| wsc fun k1 j0 => lR n1 fun k1 s1 => ?_
 have k1 := b1.nf
 refine krb s1 k1 ok34 (Oa _ _ k1.il _ _ _ 0 (k1.g 14) (hsa := hrl.2) (hla := (by omega))) fun b1 n1 k2 t1 i1 j1 => ?_
 refine lR j1 fun i1 b1 => ?_
 refine wn j0 <| rt2 b1 ?_
 have b1 : cqL dK dL dS dT dB dC k st pr = (Ge (oM, 0)).1 := (by (exact (Qd hsc (by omega) (by rw [hO2, show r = 0 by omega, Nat.sub_zero])).1))
 rw [b1]
 refine ⟨n1, k2, ?_, t1.fr, t1.rx 17⟩
 exact Bj rfl (Bz (by (first | exact (Qc (by assumption)).2.symm | exact (M4 hsc (by omega)).2.symm | exact (Qd hsc (by omega) (by rw [hO2, show r = 0 by omega, Nat.sub_zero])).2.symm)))
 refine A0 ?_
 refine aw u0 q0 fun t1 k2 => ?_
 refine Ac fun q0 t1 => rR k2 fun t1 q0 => ?_
 refine wck q0 fun t1 => ?_
 refine rR t1 fun q0 k2 => ?_
 refine rt2 k2 ?_
 have k2 : cqL dK dL dS dT dB dC k st pr = [] := (by exact (M4 hsc (by omega)).1)
 rw [k2]
 refine ⟨none, 0, ?_, o0.fr, ⟨Af _, RowI.nil _ _ _ _⟩⟩
 exact Bj rfl (Bz (by (first | exact (Qc (by assumption)).2.symm | exact (M4 hsc (by omega)).2.symm | exact (Qd hsc (by omega) (by rw [hO2, show r = 0 by omega, Nat.sub_zero])).2.symm)))
 refine Am <| xn d0 <| Ac fun d0 o0 => wsc fun d0 k2 => lR f0 fun d0 q0 => ?_
 have d0 := q0.setb (d := 40) (b := false) rfl (Ai i0)
 refine lR d0 fun q0 f0 => ?_
 refine wn k2 <| CP (f0.ev rfl) ?_
 refine Am <| xn o0 <| Ac fun o0 k2 => rR f0 fun k2 o0 => ?_
 refine wctb o0 rfl (by rw [(Ai i0)]; rfl) fun k2 => ?_
 refine rR k2 fun o0 i0 => ?_
 refine rt2 i0 ?_
 have i0 : cqL dK dL dS dT dB dC k st pr = [] := (by exact (Qc (by assumption)).1)
 rw [i0]
 refine ⟨none, 0, ?_, c0.fr, ⟨Af _, RowI.nil _ _ _ _⟩⟩
 exact Bj rfl (Bz (by (first | exact (Qc (by assumption)).2.symm | exact (M4 hsc (by omega)).2.symm | exact (Qd hsc (by omega) (by rw [hO2, show r = 0 by omega, Nat.sub_zero])).2.symm)))
end Go.Proofs.YtpfmnpaifchleaaGreatDoor
namespace Go.Proofs.YtpfmnpaifchleaaGreatDoor
set_option linter.unusedSimpArgs false
set_option linter.unusedVariables false
section
/- A case's type, part by part: what it is Lx of. -/
open Go Go.RowKit
theorem GZ {m : Int} {d b : List Nd} (hm : 0 ≤ m ∧ m ≤ 3) (hd : BW d = true) (hb : BW b = true) : BW (piX m d b) = true ∧ ptL (piX m d b) = [d, b] ∧ nth (piX m d b) ((piX m d b).length - 1) = piN m := by
 obtain ⟨b1, _, b3, b4⟩ := Lx (n := piN m) (p := [d, b]) (by rw [KH (.inl rfl)]; exact Aw ⟨hm.1, hm.2, rfl, rfl⟩) rfl (by
  intro z hz
  simp only [AD, AG, or_false] at hz
  rcases hz with rfl | rfl
  · exact hd
  · exact hb)
 exact ⟨b1, b3, b4⟩
theorem GM {x : List Nd} (hx : BW x = true) : BW (Iy x) = true ∧ ptL (Iy x) = [x] ∧ nth (Iy x) ((Iy x).length - 1) = UD := by
 obtain ⟨b1, _, b3, b4⟩ := Lx (n := UD) (p := [x]) (by decide) rfl (by intro z hz; rw [AB.1 hz]; exact hx)
 exact ⟨b1, b3, b4⟩
theorem mk3 {b : Bool} : 0 ≤ mkI b 3 ∧ mkI b 3 ≤ 3 := mkI_3 (by omega)
theorem mk21 {a b : Bool} : 0 ≤ mkI a 2 + mkI b 1 ∧ mkI a 2 + mkI b 1 ≤ 3 := by
 have := RE (b := a)
 have := JY (b := b)
 omega
section
variable {S : ByteArray} {k a : Int} {st : List Bool} {pr : Bool} {ty : List (List Nd)} {n i m : Nat}
theorem OO (hc : chk (Ce ty i) = 0) (hi : i < n) (h0 : (n : Int) ≤ a) (ha : a ≤ 90) : BW (hyX S st pr ty a i) = true := by
 unfold hyX
 split
 ·
  rename_i h2
  have h3 := (IX (s := S) (t := Ce ty i) (by omega) (by omega)).2.2
  obtain ⟨hN0, hN4⟩ := Ll hc (.inl h3)
  obtain ⟨m1, m2⟩ := SK hN0 (by omega)
  have hp : Ce (agA (Ce ty i)) 0 ∈ ptL (Ce ty i) := by
   rw [Fh hc]
   exact CR (by rw [Cz (BO hc), IR h3]; decide)
  refine (GZ ?_ (G4 (BO hc) hp).1 (GM (BO (Tb (HW (st := st) (a := a + 1) (i := i) (by omega) (by omega)) (OX_y _)).1)).1).1
  have h4 := JY (b := pr)
  unfold mkX
  omega
 · exact (GM (BO (HW (st := st) (a := a) (i := i) (by omega) (by omega)).1.1)).1
theorem Lh (hS : CJ S = true) (hk : 0 ≤ k ∧ k < 6) (hn : n ≤ 6) (hc : ∀ i, i < n → chk (Ce ty i) = 0) : ∀ (l : List Nat) (a : Int), (∀ i ∈ l, i < n) → (n : Int) ≤ a → a + l.length ≤ 80 → BW (hoX S k st pr ty n l a) = true
 | [], a, _, h0, h1 => (GM (Jh (st := st) hS hk hn h0 (by simp at h1; omega)).1).1
 | i :: l, a, hl, h0, h1 => by
  have hi := hl i (by simp)
  rw [Ad] at h1
  exact (GZ mk3 (OO (hc i hi) hi h0 (by omega)) (Lh hS hk hn hc l (a + 1) (fun j hj => hl j (by simp [hj])) (by omega) (by omega))).1
theorem UW : ∀ i ∈ Ea S ty n, i < n := fun i hi => List.mem_range.1 (List.mem_filter.1 hi).1
theorem ho_at (hS : CJ S = true) (hk : 0 ≤ k ∧ k < 6) (hn : n ≤ 6) (hc : ∀ i, i < n → chk (Ce ty i) = 0) {j : Nat} (hj : j < (Ea S ty n).length) :
  BW (hoX S k st pr ty n ((Ea S ty n).drop j) (((n : Nat) : Int) + ((j : Nat) : Int))) = true ∧
  ptL (hoX S k st pr ty n ((Ea S ty n).drop j) (((n : Nat) : Int) + ((j : Nat) : Int))) = [hyX S st pr ty (((n : Nat) : Int) + ((j : Nat) : Int)) ((Ea S ty n).getD j 0), hoX S k st pr ty n ((Ea S ty n).drop (j + 1)) (((n : Nat) : Int) + ((j + 1 : Nat) : Int))] ∧
  nth (hoX S k st pr ty n ((Ea S ty n).drop j) (((n : Nat) : Int) + ((j : Nat) : Int))) ((hoX S k st pr ty n ((Ea S ty n).drop j) (((n : Nat) : Int) + ((j : Nat) : Int))).length - 1) = piN (mkI pr 3) := by
 have h1 := G5 (S := S) (ty := ty) (n := n)
 have h2 := Rx hj
 rw [RZ hj, show ((n : Nat) : Int) + ((j : Nat) : Int) + 1 = ((n : Nat) : Int) + ((j + 1 : Nat) : Int) by omega]
 exact GZ mk3 (OO (hc _ h2.1) h2.1 (by omega) (by omega)) (Lh hS hk hn hc _ _ (fun i hi => UW i (List.mem_of_mem_drop hi)) (by omega) (by rw [BK]; omega))
theorem ho_end : hoX S k st pr ty n ((Ea S ty n).drop (Ea S ty n).length) (((n : Nat) : Int) + (((Ea S ty n).length : Nat) : Int)) = Iy (M7 S k st n (((n : Nat) : Int) + (((Ea S ty n).length : Nat) : Int))) := by
 rw [List.drop_length]
 rfl
theorem Pq (hS : CJ S = true) (hk : 0 ≤ k ∧ k < 6) (hn : n ≤ 6) (hc : ∀ i, i < n → chk (Ce ty i) = 0) : ∀ m, m ≤ n → BW (arX S k st pr ty n m) = true
 | 0, _ => Lh hS hk hn hc _ _ UW (Int.le_refl _) (by have := G5 (S := S) (ty := ty) (n := n); omega)
 | m + 1, h => (GZ mk21 (BO (hc _ (by omega))) (Pq hS hk hn hc m (by omega))).1
theorem ar_at (hS : CJ S = true) (hk : 0 ≤ k ∧ k < 6) (hn : n ≤ 6) (hc : ∀ i, i < n → chk (Ce ty i) = 0) (hi : i < n) :
  BW (arX S k st pr ty n (n - i)) = true ∧ ptL (arX S k st pr ty n (n - i)) = [Ce ty i, arX S k st pr ty n (n - (i + 1))] ∧ nth (arX S k st pr ty n (n - i)) ((arX S k st pr ty n (n - i)).length - 1) = piN (mkI (H1 st i) 2 + mkI pr 1) := by
 rw [SO hi]
 exact GZ mk21 (BO (hc _ hi)) (Pq hS hk hn hc _ (by omega))
theorem ar_end : arX S k st pr ty n (n - n) = hoX S k st pr ty n ((Ea S ty n).drop 0) (((n : Nat) : Int) + ((0 : Nat) : Int)) := by
 rw [Nat.sub_self, List.drop_zero, show ((n : Nat) : Int) + ((0 : Nat) : Int) = ((n : Nat) : Int) by omega]
 rfl
end
section
variable {K L k : Int} {S : ByteArray} {T B : List Nd} {C : List Tl} {st : List Bool} {pr : Bool}
theorem SF (h : csC K L S T B C k st m2L = 0) : CJ S = true ∧ (0 ≤ k ∧ k < 6) ∧ (Bm C k.toNat).2.2.length ≤ 6 ∧ k.toNat < C.length ∧ st.length = (Bm C k.toNat).2.2.length ∧ ∀ x ∈ (B1 C).flatten, clT x = 0 := by
 have h2 : scE K L S T B C = 0 := Classical.byContradiction fun hn => by rw [Un hn] at h; exact hn h
 have h4 : ¬ (k < 0 ∨ ((C.length : Nat) : Int) ≤ k ∨ ¬ st.length = (Bm C k.toNat).2.2.length) := fun hn => by rw [WN h2 Kg hn] at h; exact absurd h (by decide)
 obtain ⟨hK3, hC6, hA6, hcl⟩ := Tt h2
 have hkc : k.toNat < C.length := by omega
 exact ⟨QI h2, by omega, hA6 _ (DT hkc), hkc, Classical.byContradiction fun hn => h4 (.inr (.inr hn)), hcl⟩
theorem cc_eq : csE K L S T B C k st pr m2L = cqE K L S T B C k st pr := by
 by_cases h : csC K L S T B C k st m2L = 0
 ·
  obtain ⟨h1, h2, h3, _⟩ := SF h
  unfold csE cqE
  rw [Aq (AR h), Aq (AR h), csP_X h1 h2 (by rw [H6]; exact h3), H6]
  exact At rfl
 ·
  rw [Kv h]
  unfold cqE
  rw [At h]
theorem WS (h : csE K L S T B C k st pr m2L = 0) : csC K L S T B C k st m2L = 0 ∧ csL K L S T B C k st pr m2L = arX S k st pr (csT (B1 C) k) (Bm C k.toNat).2.2.length ((Bm C k.toNat).2.2.length - 0) := by
 have h0 : csC K L S T B C k st m2L = 0 := Classical.byContradiction fun hn => by rw [Kv hn] at h; exact hn h
 obtain ⟨h1, h2, h3, _⟩ := SF h0
 refine ⟨h0, ?_⟩
 unfold csL
 rw [At h, csP_X h1 h2 (by rw [H6]; exact h3), H6]
 rfl
theorem cc_chk (h : csC K L S T B C k st m2L = 0) (hs : ∀ x ∈ (B1 C).flatten, sml x) : ∀ i, i < (Bm C k.toNat).2.2.length → chk (Ce (csT (B1 C) k) i) = 0 := fun i hi =>
 (cs_ty2 (SF h).2.2.2.2.2 hs i (by rw [H6]; exact hi)).1
theorem mk_d2 {a b : Bool} : decide ((mkI a 2 + mkI b 1).tdiv 2 = 1) = a := by cases a <;> cases b <;> rfl
theorem mk_m2 {a b : Bool} : decide ((mkI a 2 + mkI b 1).tmod 2 = 1) = b := by cases a <;> cases b <;> rfl
theorem mk_33 {b : Bool} : decide (mkI b 3 = 3) = b := by cases b <;> rfl
theorem mk_30 {b : Bool} : decide (mkI b 3 = 0) = !b := by cases b <;> rfl
end
theorem cc_T {K L k : Int} {S : ByteArray} {T B : List Nd} {C : List Tl} {st : List Bool} (h : csC K L S T B C k st m2L = 0) (hall : ∀ x ∈ tmD K T B (B1 C), sml x ∧ x.length ≤ 1000000) : ∀ x ∈ Bt (Bm C k.toNat).2.2, chk x = 0 ∧ sml x := by
 have h2 : scE K L S T B C = 0 := Classical.byContradiction fun hn => by rw [Un hn] at h; exact hn h
 obtain ⟨hK3, _, _, hcl⟩ := Tt h2
 exact WM hcl hall hK3 (SF h).2.2.2.1
theorem cc_nil {K L k : Int} {S : ByteArray} {T B : List Nd} {C : List Tl} {st : List Bool} {pr : Bool} (h : ¬ csE K L S T B C k st pr m2L = 0) : csL K L S T B C k st pr m2L = [] := Aq h
theorem UY {S : ByteArray} {ty : List (List Nd)} {i : Nat} : (Ea S ty (i + 1)).length = (Ea S ty i).length + if 0 < kdA S (Ce ty i) then 1 else 0 := by
 unfold Ea
 rw [Qaz, E9]
 by_cases h : 0 < kdA S (Ce ty i) <;> simp [Te, h]
theorem Po {st : List Bool} {a : Int} {i : Nat} : nth (FP st a i) ((FP st a i).length - 1) = if H1 st i = true then tkN else vN (a - 1 - (i : Int)) := by
 unfold FP
 split <;> rfl
theorem Xb {st : List Bool} {a : Int} {i : Nat} : 0 < (FP st a i).length := by rw [Jr.1]; decide
theorem R5 {a b : List Nd} {pL : List Sl} (h : Bt pL = [a, b]) : pL.length = 2 ∧ (BF pL 0).2.2 = a ∧ (BF pL 1).2.2 = b := ⟨by rw [← Bs, h]; rfl, by rw [AQ, h]; rfl, by rw [AQ, h]; rfl⟩
theorem nth_1a {a : List Nd} {pL : List Sl} (h : Bt pL = [a]) : pL.length = 1 ∧ (BF pL 0).2.2 = a := ⟨by rw [← Bs, h]; rfl, by rw [AQ, h]; rfl⟩
theorem TF {st : List Bool} {a : Int} {n l : Nat} {pL : List Sl} (h : Bt pL = (List.range n).map (FP st a)) (hl : l < n) : (BF pL l).2.2 = FP st a l := by
 rw [AQ, h]
 simp [Ce, hl]
end
end Go.Proofs.YtpfmnpaifchleaaGreatDoor
namespace Go.Proofs.YtpfmnpaifchleaaGreatDoor
open Go Go.RowKit
set_option linter.unusedSimpArgs false
set_option linter.unusedVariables false
set_option maxRecDepth 100000
set_option maxHeartbeats 4000000
theorem NE (w0 : World) (Z : Nat → Prop) (hZ : HZ w0 Z) (er : Int) (fr : Int)  :
    Calls Tryz.prog 9 [.int .i64 er, .int .i64 fr].toArray w0 (fun e w' => e = .returned (.bool (kinB er fr)) ∧ Fr A6 w0 w') := by
 have b0 := s0 (M := A6) hZ zn
 refine AE Tryz.func9 rfl Tryz.ntmps9 rfl fun c0 d0 => ?_
 refine rR d0 fun c0 f0 => ?_
 refine wsc fun c0 d0 => lR f0 fun c0 h0 => ?_
 refine EA (fun ga gw => Reg ga 16 [(4, .bool false), (15, .bool ((decide (er = fr)) || ((grB er) && (grB fr)))), (1000000, .bool false)] ∧ St w0 Z A6 gw [] []) 7 ?_ ?_
 refine spd 8 h0 (fun c0 f0 => ?_) fun c0 i0 => ?_
 refine lR f0 fun h0 j0 => ?_
 refine Ae ?_
 exact AC ⟨(j0.sub (rc rfl (rc (rb rfl (by (simp only [Aw c0, At c0, bl]; done))) (rc rfl rnl)))), b0⟩
 refine lR i0 fun j0 h0 => ?_
 have j0 := b0.nf
 refine kra h0 j0 ok18 (Hk _ _ j0.il er) fun b0 i0 f0 k0 => ?_
 refine lR k0 fun f0 b0 => ?_
 refine spg 11 b0 (fun f0 k0 => ?_) fun f0 j0 => ?_
 refine lR k0 fun b0 h0 => ?_
 have b0 := i0.nf
 refine kra h0 b0 ok18 (Hk _ _ b0.il fr) fun k0 m0 n0 o0 => ?_
 refine lR o0 fun n0 k0 => ?_
 refine Ae ?_
 exact AC ⟨(k0.sub (rc rfl (rc (rb rfl (by (simp only [Ai c0, Aq c0, f0, bl]; done))) (rc rfl rnl)))), m0⟩
 refine lR j0 fun k0 m0 => ?_
 refine Ae ?_
 exact AC ⟨(m0.sub (rc rfl (rc (rb rfl (by (simp only [Ai c0, Aq c0, f0, bl]; done))) (rc rfl rnl)))), i0⟩
 rintro m0 f0 ⟨i0, c0⟩
 refine aw i0 d0 fun f0 m0 => ?_
 refine rt m0 c0.fr ?_
 exact BQ (by (unfold kinB; first | (simp []; done) | (simp_all; done)))
theorem Hg (w0 : World) (Z : Nat → Prop) (hZ : HZ w0 Z) (dK : Int) (dL : Int) (dS : ByteArray) (dTA : Option Addr) (dTc : Nat) (dT : List Nd) (dBA : Option Addr) (dBc : Nat) (dB : List Nd) (dCA : Option Addr) (dCc : Nat) (dC : List Tl) (k : Int) (stA : Option Addr) (stc : Nat) (st : List Bool) (pr : Bool) (hShp : Cu w0 Z) (hdT : N4 dTA dTc dT w0 Z) (hdB : N4 dBA dBc dB w0 Z) (hdC : (Bw 1 dCA dC.length dCc (CW dC)).φ w0 Z) (hdCs : (CG dC).φ w0 Z) (hst : (Bw 1 stA st.length stc (D2 st)).φ w0 Z) (hzS : dS.size ≤ 9223372036854775807 := by exact ax) :
    Calls Tryz.prog 3 [.agg #[.int .i64 dK, .int .i64 dL, .string dS, .slice dTA dT.length dTc, .slice dBA dB.length dBc, .slice dCA dC.length dCc], .int .i64 k, .slice stA st.length stc, .bool pr].toArray w0 (fun e w' => e = .returned (.bool true) ∧ Fr A6 w0 w') := by
 have b0 := s0 (M := A6) hZ (zc (d := Br) hShp (zc hdT (zc hdB (zc hdC (zc hdCs (zc hst zn))))))
 refine AE Tryz.func3 rfl Tryz.ntmps3 rfl fun c0 d0 => ?_
 refine wsc fun c0 f0 => bxx d0 b0 fun c0 i0 j0 k0 m0 => ?_
 refine aw k0 f0 fun i0 c0 => ?_
 refine Ac fun f0 i0 => wsc fun f0 k0 => lR c0 fun f0 d0 => ?_
 have f0 := m0.nf
 refine kra d0 f0 ok5 (Mi _ _ f0.il dK dL dS _ _ _ _ _ _ _ _ _ (f0.g 1) (f0.g 2) (f0.g 3) (f0.g 4) (hzS := hzS)) fun m0 c0 b0 n0 => ?_
 refine mv n0 fun b0 m0 => ?_
 refine l_or 3 (decide (10 < (st.length : Int))) m0 (fun b0 n0 f0 => ?_) fun d0 o0 => ?_
 obtain ⟨_, _, _, _, d0, hC10, hA10, hxx⟩ := Wm b0
 have hall := mu_tm (K := dK) b0
 have hA100 : ∀ s ∈ dC, s.2.2.length ≤ 100 := fun s hs => Bo (hA10 s hs) (by decide)
 refine CI (Bb (wt n0)) n0 rfl rfl rfl (by decide) fun b0 m0 => ?_
 refine P4 (Bb (wt m0)) m0 rfl rfl rfl rfl Ek (by decide) fun b0 n0 => ?_
 refine r_gtr (Bb (wt n0)) n0 rfl rfl rfl rfl (by decide) fun b0 m0 => ?_
 refine FG sv m0 rfl rfl rfl rfl (by decide) fun b0 n0 => ?_
 exact f0.fin n0
 refine mv o0 fun n0 f0 => ?_
 refine spg 33 f0 (fun n0 o0 => ?_) fun n0 b0 => ?_
 have f0 := n0
 try simp only [bz] at f0
 refine lR o0 fun f0 m0 => ?_
 refine wn k0 <| CF (m0.ev rfl) ?_
 refine wsc fun f0 o0 => ?_
 have f0 := c0.nf
 refine kra m0 f0 ok6 (GO _ _ f0.il (f0.g 0)) fun p0 q0 t0 u0 => ?_
 refine aw u0 o0 fun t0 p0 => ?_
 refine rt p0 q0.fr ?_
 exact BQ (by rfl)
 have p0 := CU n0
 obtain ⟨_, _, _, _, d0, hC10, hA10, hxx⟩ := Wm p0
 have hall := mu_tm (K := dK) p0
 have hA100 : ∀ s ∈ dC, s.2.2.length ≤ 100 := fun s hs => Bo (hA10 s hs) (by decide)
 have d0 := CT n0
 have q0 := Ak d0
 have d0 := c0.nf
 refine kra b0 d0 ok6 (GO _ _ d0.il (d0.g 0)) fun c0 o0 t0 u0 => ?_
 refine lR u0 fun t0 c0 => ?_
 refine wn k0 <| wcf c0 rfl fun k0 => ?_
 refine Am <| xn i0 <| wsc fun i0 c0 => bld k0 fun i0 t0 => ?_
 refine bld t0 fun i0 k0 => ?_
 refine bsl k0 o0 fun i0 t0 u0 d0 b0 => ?_
 refine aw d0 c0 fun t0 i0 => ?_
 refine wsc fun c0 t0 => lR i0 fun c0 d0 => ?_
 have c0 := b0.nf
 have b0 := c0.pub 1 (Bw 4 (some ⟨u0, 0, none⟩) 2 2 (Cd ([(⟨0, 0, 0, (⟨#[]⟩ : ByteArray)⟩ : Nd), (⟨12, 0, 0, (⟨#[]⟩ : ByteArray)⟩ : Nd)])))
 refine krb d0 b0 ok7 (Kw _ _ b0.il dK dL dS _ _ _ _ _ _ _ _ _ k _ _ _ pr _ _ ([(⟨0, 0, 0, (⟨#[]⟩ : ByteArray)⟩ : Nd), (⟨12, 0, 0, (⟨#[]⟩ : ByteArray)⟩ : Nd)]) (b0.g 0) (b0.g 1) (b0.g 2) (b0.g 3) (b0.g 4) (b0.g 5) (b0.g 6) (hl := (by omega)) (hb := hA100) (hall := hall) (hsS := (by omega)) (hsm := OK) (hlm := (by decide))) fun c0 i0 k0 o0 f0 m0 => ?_
 refine lR m0 fun f0 c0 => ?_
 refine wn t0 <| wsc fun t0 f0 => lR c0 fun t0 m0 => ?_
 have t0 := o0.nf
 refine krb m0 t0 ok8 (Nl _ _ t0.il dK dL dS _ _ _ _ _ _ _ _ _ k _ _ _ pr _ _ ([(⟨0, 0, 0, (⟨#[]⟩ : ByteArray)⟩ : Nd), (⟨12, 0, 0, (⟨#[]⟩ : ByteArray)⟩ : Nd)]) (t0.g 1) (t0.g 2) (t0.g 3) (t0.g 4) (t0.g 5) (t0.g 6) (hl := (by omega)) (hb := hA100) (hall := hall) (hsS := (by omega)) (hm2 := rfl)) fun o0 c0 b0 d0 v0 x0 => ?_
 refine lR x0 fun v0 o0 => ?_
 refine wn f0 <| Ac fun f0 v0 => wsc fun f0 x0 => lR o0 fun f0 t0 => ?_
 have f0 := d0.nf
 refine kra t0 f0 ok9 (NE _ _ f0.il (csE dK dL dS dT dB dC k st pr ([(⟨0, 0, 0, (⟨#[]⟩ : ByteArray)⟩ : Nd), (⟨12, 0, 0, (⟨#[]⟩ : ByteArray)⟩ : Nd)])) (cqE dK dL dS dT dB dC k st pr)) fun d0 o0 m0 y0 => ?_
 refine lR y0 fun m0 d0 => ?_
 refine wn x0 ?_
 have x0 : (kinB (csE dK dL dS dT dB dC k st pr ([(⟨0, 0, 0, (⟨#[]⟩ : ByteArray)⟩ : Nd), (⟨12, 0, 0, (⟨#[]⟩ : ByteArray)⟩ : Nd)])) (cqE dK dL dS dT dB dC k st pr)) = true := (kin_of cc_eq)
 refine U1 d0 rfl (by rw [x0]; rfl) fun m0 => ?_
 refine Am <| xn v0 <| Ac fun v0 d0 => rR m0 fun v0 y0 => ?_
 refine wce y0 (fun v0 m0 => ?_) fun v0 f0 => ?_
 obtain ⟨y0, hll⟩ := WS (pr := pr) v0
 obtain ⟨hnm, hkk, t0, hkl, hstl, hcl⟩ := SF y0
 have hTc := cc_chk y0 (fun x hx => (hxx x hx).1)
 have hTZ := Pa (cc_T y0 hall)
 refine Am <| xn d0 <| wsc fun d0 z0 => lR m0 fun d0 b1 => ?_
 have d0 := Reg.cons b1 b1 (ri (i := 70) (b := (k.toNat : Int)) rfl (by omega))
 refine ix k.toNat (k.toNat * 1) d0 (Cn (t := dC) (k := k.toNat) (o0.row (i := 3) rfl).2 (by omega)).some_ fun b1 m0 => ?_
 refine lde 0 (k.toNat * 1) m0 (Cn (t := dC) (k := k.toNat) (o0.row (i := 3) rfl).2 (by omega)) fun b1 d0 => ?_
 have b1 := o0.elT 4 k.toNat
 have m0 := b1.elA 4 k.toNat
 refine lR d0 fun b1 c1 => ?_
 refine wn z0 <| rR c1 fun z0 b1 => ?_
 refine Ac fun z0 c1 => rR b1 fun z0 d0 => ?_
 refine A4 ?_
 refine AH (fun gn ga gw => ∃ i : Nat, ∃ tL : List Nd, ∃ tA : Option Addr, ∃ tc : Nat, ∃ ow : Nat, (Reg ga 215 [(1000000, .bool false), (1, .int .i64 k), (2, .slice stA st.length stc), (3, .bool pr), (4, .pointer (some ⟨j0, 0, none⟩)), (14, .int .i64 ((Bm dC k.toNat).2.2.length : Int)), (16, .int .i64 (i : Int)), (15, .int .i64 (ow : Int)), (10, .slice tA tL.length tc)]) ∧ (St w0 Z A6 gw [.box j0 25 [.int .i64 dK, .int .i64 dL, .string dS, .slice dTA dT.length dTc, .slice dBA dB.length dBc, .slice dCA dC.length dCc]] [Br, n4 dTA dTc dT, n4 dBA dBc dB, Bw 1 dCA dC.length dCc (CW dC), CG dC, Bw 1 stA st.length stc (D2 st), Bw 4 (some ⟨u0, 0, none⟩) 2 2 (Cd ([(⟨0, 0, 0, (⟨#[]⟩ : ByteArray)⟩ : Nd), (⟨12, 0, 0, (⟨#[]⟩ : ByteArray)⟩ : Nd)])), n4 tA tc tL, n4 c0 b0 (cqL dK dL dS dT dB dC k st pr), Bw 1 ((Bm dC k.toNat).1) ((Bm dC k.toNat).2.2.length) ((Bm dC k.toNat).2.1) (B7 ((Bm dC k.toNat).2.2)), Cl ((Bm dC k.toNat).2.2)]) ∧ (i ≤ (Bm dC k.toNat).2.2.length) ∧ (tL = arX dS k st pr (csT (B1 dC) k) (Bm dC k.toNat).2.2.length ((Bm dC k.toNat).2.2.length - i)) ∧ (ow = (Ea dS (csT (B1 dC) k) i).length) ∧ ((Bm dC k.toNat).2.2.length - i) = gn) _ ⟨0, csL dK dL dS dT dB dC k st pr ([(⟨0, 0, 0, (⟨#[]⟩ : ByteArray)⟩ : Nd), (⟨12, 0, 0, (⟨#[]⟩ : ByteArray)⟩ : Nd)]), i0, k0, 0, (d0.sub (rc4 (rc4 (rc rfl rnl)))), m0, by omega, hll, rfl, rfl⟩ ?_
 rintro d0 m0 k0 ⟨i, tL, tA, tc, ow, i0, z0, hi, ht, how, b1⟩
 have hzt := ar_Z (k := k) (st := st) (pr := pr) (n := (Bm dC k.toNat).2.2.length) (show dS.size < 1000000 by omega) hTZ ((Bm dC k.toNat).2.2.length - i)
 have hzl : tL.length ≤ 60000 ∧ sml tL := by rw [ht]; exact ⟨by omega, hzt.2⟩
 have hol := G5 (S := dS) (ty := (csT (B1 dC) k)) (n := i)
 refine Ac fun b1 k0 => rR i0 fun b1 m0 => ?_
 rcases Cb ((i : Int) < ((Bm dC k.toNat).2.2.length : Int)) with b1 | b1
 obtain ⟨hm1, hm2, hm3⟩ := ar_at (S := dS) (st := st) (pr := pr) hnm hkk t0 hTc (show i < (Bm dC k.toNat).2.2.length by omega)
 rw [← ht] at hm1 hm2 hm3
 have hpt := Dy hm1
 have hcn := S3 (C := dC) (k := k) (show i < (Bm dC k.toNat).2.2.length by omega)
 have hti := hTZ i
 have hti2 := hcn ▸ hti
 obtain ⟨hx1, hx2⟩ := S4 (cc_T y0 hall) (show i < (Bm dC k.toNat).2.2.length by omega)
 refine wct m0 (Aw b1) fun y0 => ?_
 refine Am <| xn k0 <| Ac fun k0 i0 => A4 ?_
 refine wsc fun k0 d0 => mv y0 fun k0 f1 => ?_
 have k0 := z0.nf
 refine krd f1 k0 R4 (CN _ _ k0.il _ _ _ (k0.g 7) (hl := (by omega)) (hsm := (by exact hzl.2)) (hb := (by exact hm1))) fun y0 h1 i1 j1 k1 m1 n1 o1 => ?_
 have hp := R5 (k1.trans hm2)
 refine aw o1 d0 fun k1 n1 => ?_
 refine wsc fun d0 k1 => lR n1 fun d0 o1 => ?_
 have d0 := Reg.cons o1 o1 (ri (i := 83) (b := (k.toNat : Int)) rfl (by omega))
 refine ix k.toNat (k.toNat * 1) d0 (Cn (t := dC) (k := k.toNat) (m1.row (i := 3) rfl).2 (by omega)).some_ fun o1 n1 => ?_
 refine lde 0 (k.toNat * 1) n1 (Cn (t := dC) (k := k.toNat) (m1.row (i := 3) rfl).2 (by omega)) fun o1 d0 => ?_
 have o1 := m1.elT 4 k.toNat
 have m1 := o1.elA 4 k.toNat
 refine mv d0 fun o1 n1 => ?_
 refine ix i (i * 1) n1 (BD (t := (Bm dC k.toNat).2.2) (k := i) (m1.row (i := 13) rfl).2 (by omega)).some_ fun o1 d0 => ?_
 refine lde 0 (i * 1) d0 (BD (t := (Bm dC k.toNat).2.2) (k := i) (m1.row (i := 13) rfl).2 (by omega)) fun o1 n1 => ?_
 have o1 := m1.el 14 i
 have m1 := o1.nf
 refine krb n1 m1 ok11 (Nm _ _ m1.il _ _ ((BF ((Bm dC k.toNat).2.2) i).2.2) (m1.g 15) (hsm := hx1) (hl := hx2)) fun o1 d0 i1 h1 y0 k0 => ?_
 refine aw k0 k1 fun y0 i1 => ?_
 refine wsc fun k1 y0 => mv i1 fun k1 k0 => ?_
 have k1 := h1.nf
 refine kra k0 k1 R3 (Dl _ _ k1.il _ _ _ (k1.g 7) (hl := (by omega)) (h0 := (by exact hpt))) fun h1 i1 d0 o1 => ?_
 refine alc o1 i1 fun d0 h1 k1 k0 m1 => ?_
 refine sto 1 k0 m1 fun k1 h1 d0 o1 => ?_
 refine wn y0 <| Ac fun y0 h1 => Ac fun y0 k1 => ?_
 obtain ⟨y0, m1, k0⟩ := o1.agree
 refine Cj (n := 30) k0 17 (pB 1 0 pn) (A5 (A5 (B3 (A5 (A5 (B3 (A5 BC))))))) fun y0 o1 i1 n1 f1 p1 => ?_
 refine dR [0, 1, 2] d0 fun n1 y0 => ?_
 have n1 := Reg.cons y0 y0 (rb (i := 94) (b := false) rfl (by rw [hm3]; rfl))
 refine dR [3, 4, 5] n1 fun y0 d0 => ?_
 refine dt 6 rfl o1 d0 (wt d0) (fun x hx => LZ (v := .int .i64 (((nth tL (tL.length - 1)).N).tdiv 2)) (sy d0) d0 rfl rfl rfl rfl (by decide) (Ot (by rw [hm3]; exact mk21.1) (by rw [hm3]; exact Int.lt_of_le_of_lt mk21.2 (by decide))) gt) p1 fun y0 n1 => ?_
 refine dR [7] n1 fun y0 d0 => ?_
 have y0 := Reg.cons d0 d0 (rb (i := 99) (b := (H1 st i)) rfl (by rw [hm3]; exact mk_d2.symm))
 refine dR [8, 9] y0 fun d0 n1 => ?_
 refine dix 10 i (i * 1) n1 (fun x hx => (DX (t := st) (k := i) (D6 (m1 5 _ rfl) hx.ag).2 (by omega)).some_) fun d0 y0 => ?_
 refine dle 11 0 (i * 1) y0 (fun x hx => DX (t := st) (k := i) (D6 (m1 5 _ rfl) hx.ag).2 (by omega)) fun d0 n1 => ?_
 refine dt 12 rfl o1 n1 (wt n1) (fun x hx => Ra (sy n1) n1 rfl rfl rfl rfl C2 (by decide) gt) p1 fun d0 y0 => ?_
 have d0 := Reg.cons y0 y0 (rb (i := 104) (b := false) rfl (by cases (H1 st i) <;> rfl))
 refine dR [13, 14, 15, 16] d0 fun y0 n1 => ?_
 refine dt 17 rfl o1 n1 (wt n1) (fun x hx => r_rem (z := (Int.tmod ((nth tL (tL.length - 1)).N) 2)) (sy n1) n1 rfl rfl rfl rfl (by decide) rfl (by decide) gt) p1 fun y0 d0 => ?_
 refine dR [18] d0 fun y0 n1 => ?_
 have y0 := Reg.cons n1 n1 (rb (i := 110) (b := pr) rfl (by rw [hm3]; exact mk_m2.symm))
 refine dR [19] y0 fun n1 d0 => ?_
 refine dt 20 rfl o1 d0 (wt d0) (fun x hx => Ra (sy d0) d0 rfl rfl rfl rfl C2 (by decide) gt) p1 fun n1 y0 => ?_
 have n1 := Reg.cons y0 y0 (rb (i := 112) (b := false) rfl (by cases pr <;> rfl))
 refine dR [21, 22, 23] n1 fun y0 d0 => ?_
 refine dix 24 0 (0 * 1) d0 (fun x hx => (BD (t := j1) (k := 0) (D6 (m1 11 _ rfl) hx.ag).2 (by omega)).some_) fun y0 n1 => ?_
 refine dle 25 0 (0 * 1) n1 (fun x hx => BD (t := j1) (k := 0) (D6 (m1 11 _ rfl) hx.ag).2 (by omega)) fun y0 d0 => ?_
 have y0 := f1.el 12 0
 refine dR [26] d0 fun f1 n1 => ?_
 refine d1 27 ?_
 have f1 := y0.nf
 refine kra n1 f1 ok13 (Na _ _ f1.il _ _ ((BF j1 0).2.2) _ _ (erA ((BF ((Bm dC k.toNat).2.2) i).2.2)) (f1.g 18) (f1.g 16) (hl := (by rw [hp.2.1]; exact Bo hti.2 (by decide)))) fun y0 d0 m1 p1 => ?_
 have m1 := sWI d0 17 (pB 1 0 pn)
 refine ⟨m1, ?_⟩
 refine dR [28, 29] p1 fun m1 y0 => ?_
 refine AL (by kernel_rfl) (i1 _ _ ?_) _
 refine xn k1 ?_
 have k1 : (decide (((BF j1 0).2.2) = (erA ((BF ((Bm dC k.toNat).2.2) i).2.2)))) = true := (Aw (hp.2.1.trans hcn))
 have i1 := A9 k1
 refine U1 y0 rfl (by rw [k1]; rfl) fun i1 => ?_
 refine Am <| xn h1 <| Ac fun h1 k1 => wsc fun h1 y0 => lR i1 fun h1 m1 => ?_
 have h1 := d0.nf
 refine kra m1 h1 ok14 (FE _ _ h1.il dS _ _ (erA ((BF ((Bm dC k.toNat).2.2) i).2.2)) (h1.g 16) (hsm := hti2.1) (hl := (Bo hti2.2 (by decide)))) fun d0 i1 p1 f1 => ?_
 refine lR f1 fun p1 d0 => ?_
 refine wn y0 <| wcd d0 (fun y0 p1 => ?_) fun y0 f1 => ?_
 refine A0 ?_
 refine mv p1 fun y0 d0 => ?_
 refine adi ((ow + 1 : Nat) : Int) d0 fun y0 p1 => ?_
 refine asg p1 fun y0 d0 => ?_
 refine Ae (AC (k1 _ _ (A0 ?_)))
 refine mv d0 fun y0 p1 => ?_
 refine ix 1 (1 * 1) p1 (BD (t := j1) (k := 1) (i1.row (i := 11) rfl).2 (by omega)).some_ fun y0 d0 => ?_
 refine lde 0 (1 * 1) d0 (BD (t := j1) (k := 1) (i1.row (i := 11) rfl).2 (by omega)) fun y0 p1 => ?_
 have y0 := i1.el 12 1
 refine asg p1 fun d0 h1 => ?_
 refine Ae ?_
 refine A7 <| xn i0 <| A0 ?_
 refine mv h1 fun d0 p1 => ?_
 refine adi ((i + 1 : Nat) : Int) p1 fun d0 h1 => ?_
 refine asg h1 fun d0 p1 => ?_
 refine Ae ?_
 have d0 := y0.erase 1
 have y0 := d0.sub (Av (i := 0) rfl (Av (i := 1) rfl (Av (i := 2) rfl (Av (i := 3) rfl (Av (i := 4) rfl (Av (i := 5) rfl (Av (i := 6) rfl (Av (i := 19) rfl (Av (i := 8) rfl (Av (i := 9) rfl (Av (i := 10) rfl F6)))))))))))
 exact ⟨_, by omega, i + 1, (BF j1 1).2.2, (BF j1 1).1, (BF j1 1).2.1, ow + 1, (p1.sub (rc4 (rc4 (rc rfl rnl)))), y0, by omega, hp.2.2, by rw [UY, ← how, hcn]; first | (rw [At (by assumption)]; done) | (rw [Aq (by assumption)]; rfl), rfl⟩
 refine Am <| xn k1 <| A0 ?_
 refine mv f1 fun k1 y0 => ?_
 refine ix 1 (1 * 1) y0 (BD (t := j1) (k := 1) (i1.row (i := 11) rfl).2 (by omega)).some_ fun k1 f1 => ?_
 refine lde 0 (1 * 1) f1 (BD (t := j1) (k := 1) (i1.row (i := 11) rfl).2 (by omega)) fun k1 y0 => ?_
 have k1 := i1.el 12 1
 refine asg y0 fun i1 f1 => ?_
 refine Ae ?_
 refine A7 <| xn i0 <| A0 ?_
 refine mv f1 fun i0 i1 => ?_
 refine adi ((i + 1 : Nat) : Int) i1 fun i0 f1 => ?_
 refine asg f1 fun i0 i1 => ?_
 refine Ae ?_
 have i0 := k1.erase 1
 have k1 := i0.sub (Av (i := 0) rfl (Av (i := 1) rfl (Av (i := 2) rfl (Av (i := 3) rfl (Av (i := 4) rfl (Av (i := 5) rfl (Av (i := 6) rfl (Av (i := 19) rfl (Av (i := 8) rfl (Av (i := 9) rfl (Av (i := 10) rfl F6)))))))))))
 exact ⟨_, by omega, i + 1, (BF j1 1).2.2, (BF j1 1).1, (BF j1 1).2.1, ow, (i1.sub (rc4 (rc4 (rc rfl rnl)))), k1, by omega, hp.2.2, by rw [UY, ← how, hcn]; first | (rw [At (by assumption)]; done) | (rw [Aq (by assumption)]; rfl), rfl⟩
 refine wcf m0 (Ai b1) fun k1 => ?_
 refine xe ?_
 refine xn c1 <| Ac fun c1 b1 => rR k1 fun c1 m0 => ?_
 refine A4 ?_
 refine AH (fun gn ga gw => ∃ j : Nat, ∃ uL : List Nd, ∃ uA : Option Addr, ∃ uc : Nat, (Reg ga 215 [(1000000, .bool false), (1, .int .i64 k), (2, .slice stA st.length stc), (3, .bool pr), (4, .pointer (some ⟨j0, 0, none⟩)), (14, .int .i64 ((Bm dC k.toNat).2.2.length : Int)), (15, .int .i64 (ow : Int)), (20, .int .i64 (j : Int)), (10, .slice uA uL.length uc)]) ∧ (St w0 Z A6 gw [.box j0 25 [.int .i64 dK, .int .i64 dL, .string dS, .slice dTA dT.length dTc, .slice dBA dB.length dBc, .slice dCA dC.length dCc]] [Br, n4 dTA dTc dT, n4 dBA dBc dB, Bw 1 dCA dC.length dCc (CW dC), CG dC, Bw 1 stA st.length stc (D2 st), Bw 4 (some ⟨u0, 0, none⟩) 2 2 (Cd ([(⟨0, 0, 0, (⟨#[]⟩ : ByteArray)⟩ : Nd), (⟨12, 0, 0, (⟨#[]⟩ : ByteArray)⟩ : Nd)])), n4 uA uc uL, n4 c0 b0 (cqL dK dL dS dT dB dC k st pr), Bw 1 ((Bm dC k.toNat).1) ((Bm dC k.toNat).2.2.length) ((Bm dC k.toNat).2.1) (B7 ((Bm dC k.toNat).2.2)), Cl ((Bm dC k.toNat).2.2)]) ∧ (j ≤ ow) ∧ (uL = hoX dS k st pr (csT (B1 dC) k) (Bm dC k.toNat).2.2.length ((Ea dS (csT (B1 dC) k) (Bm dC k.toNat).2.2.length).drop j) (((Bm dC k.toNat).2.2.length : Int) + (j : Int))) ∧ (ow - j) = gn) _ ⟨0, tL, tA, tc, (m0.sub (rc4 (rc4 (rc rfl rnl)))), z0, by omega, by rw [ht, show i = (Bm dC k.toNat).2.2.length by omega]; exact ar_end, rfl⟩ ?_
 rintro m0 z0 c1 ⟨j, uL, uA, uc, k1, i1, hj, hu, j1⟩
 have how2 : ow = (Ea dS (csT (B1 dC) k) (Bm dC k.toNat).2.2.length).length := by rw [how, show i = (Bm dC k.toNat).2.2.length by omega]
 have hzt2 := ho_Z (k := k) (st := st) (pr := pr) (n := (Bm dC k.toNat).2.2.length) (show dS.size < 1000000 by omega) hTZ ((Ea dS (csT (B1 dC) k) (Bm dC k.toNat).2.2.length).drop j) (((Bm dC k.toNat).2.2.length : Int) + (j : Int))
 have hod : ((Ea dS (csT (B1 dC) k) (Bm dC k.toNat).2.2.length).drop j).length ≤ 6 := by rw [BK]; have := G5 (S := dS) (ty := (csT (B1 dC) k)) (n := (Bm dC k.toNat).2.2.length); omega
 have hzl2 : uL.length ≤ 60000 ∧ sml uL := by rw [hu]; exact ⟨by omega, hzt2.2⟩
 refine Ac fun j1 c1 => rR k1 fun j1 z0 => ?_
 rcases Cb ((j : Int) < (ow : Int)) with j1 | j1
 obtain ⟨hm1, hm2, hm3⟩ := ho_at (S := dS) (st := st) (pr := pr) hnm hkk t0 hTc (show j < (Ea dS (csT (B1 dC) k) (Bm dC k.toNat).2.2.length).length by omega)
 rw [← hu] at hm1 hm2 hm3
 have hpt := Dy hm1
 refine wct z0 (Aw j1) fun k1 => ?_
 refine Am <| xn c1 <| Ac fun c1 m0 => A4 ?_
 refine wsc fun c1 i0 => mv k1 fun c1 f1 => ?_
 have c1 := i1.nf
 refine kra f1 c1 R3 (Dl _ _ c1.il _ _ _ (c1.g 7) (hl := (by omega)) (h0 := (by exact hpt))) fun k1 y0 p1 d0 => ?_
 refine alc d0 y0 fun p1 k1 c1 f1 h1 => ?_
 refine sto 1 f1 h1 fun c1 k1 p1 d0 => ?_
 refine wn i0 <| Ac fun i0 k1 => wsc fun i0 c1 => H5 (j' := 0) sv p1 rfl rfl rfl Ar rfl sz3 rfl rfl (by decide) fun i0 h1 => ?_
 refine Hj (i := 1) sv h1 d0 rfl rfl rfl rfl rfl Bl rfl (by decide) fun i0 p1 => ?_
 refine r_neq sv p1 rfl rfl rfl rfl (by decide) fun i0 h1 => ?_
 have i0 := Reg.cons h1 h1 (rb (i := 141) (b := false) rfl (by rw [hm3]; rfl))
 refine mv i0 fun h1 p1 => ?_
 refine H5 (j' := 1) (Bb (wt p1)) p1 rfl rfl rfl Ar rfl sz3 rfl rfl (by decide) fun h1 i0 => ?_
 refine Hj (i := 1) (Bb (wt i0)) i0 d0 rfl rfl rfl rfl rfl Bl rfl (by decide) fun h1 p1 => ?_
 refine Nn (Bb (wt p1)) p1 rfl rfl rfl rfl (by decide) fun h1 i0 => ?_
 have h1 := Reg.cons i0 i0 (rb (i := 145) (b := pr) rfl (by rw [hm3]; exact mk_33.symm))
 refine lR h1 fun i0 p1 => ?_
 refine Ra (Bb (wt p1)) p1 rfl rfl rfl rfl C2 (by decide) fun i0 h1 => ?_
 have i0 := Reg.cons h1 h1 (rb (i := 147) (b := false) rfl (by cases pr <;> rfl))
 refine FG sv i0 rfl rfl rfl rfl (by decide) fun h1 p1 => ?_
 refine mv p1 fun h1 i0 => ?_
 refine H5 (j' := 1) (Bb (wt i0)) i0 rfl rfl rfl Ar rfl sz3 rfl rfl (by decide) fun h1 p1 => ?_
 refine Hj (i := 1) (Bb (wt p1)) p1 d0 rfl rfl rfl rfl rfl Bl rfl (by decide) fun h1 i0 => ?_
 refine Nn (Bb (wt i0)) i0 rfl rfl rfl rfl (by decide) fun h1 p1 => ?_
 have h1 := Reg.cons p1 p1 (rb (i := 152) (b := (!pr)) rfl (by rw [hm3]; exact mk_30.symm))
 refine lR h1 fun p1 i0 => ?_
 refine r_eqlB (Bb (wt i0)) i0 rfl rfl rfl rfl C2 (by decide) fun p1 h1 => ?_
 have p1 := Reg.cons h1 h1 (rb (i := 154) (b := false) rfl (by cases pr <;> rfl))
 refine lR p1 fun h1 i0 => ?_
 refine wn c1 <| CP (i0.ev rfl) ?_
 refine Am <| xn k1 <| A0 ?_
 refine mv i0 fun k1 c1 => ?_
 have k1 := d0.nf
 refine krd c1 k1 R4 (CN _ _ k1.il _ _ _ (k1.g 7) (hl := (by omega)) (hsm := (by exact hzl2.2)) (hb := (by exact hm1))) fun d0 i0 h1 p1 f1 y0 m1 n1 => ?_
 have hp := R5 (f1.trans hm2)
 refine ix 1 (1 * 1) n1 (BD (t := p1) (k := 1) (y0.row (i := 11) rfl).2 (by omega)).some_ fun f1 m1 => ?_
 refine lde 0 (1 * 1) m1 (BD (t := p1) (k := 1) (y0.row (i := 11) rfl).2 (by omega)) fun f1 n1 => ?_
 have f1 := y0.el 12 1
 refine asg n1 fun y0 m1 => ?_
 refine Ae ?_
 refine A7 <| xn m0 <| A0 ?_
 refine mv m1 fun m0 y0 => ?_
 refine adi ((j + 1 : Nat) : Int) y0 fun m0 m1 => ?_
 refine asg m1 fun m0 y0 => ?_
 refine Ae ?_
 have m0 := f1.erase 1
 have f1 := m0.sub (Av (i := 0) rfl (Av (i := 1) rfl (Av (i := 2) rfl (Av (i := 3) rfl (Av (i := 4) rfl (Av (i := 5) rfl (Av (i := 6) rfl (Av (i := 13) rfl (Av (i := 8) rfl (Av (i := 9) rfl (Av (i := 10) rfl F6)))))))))))
 exact ⟨_, by omega, j + 1, (BF p1 1).2.2, (BF p1 1).1, (BF p1 1).2.1, (y0.sub (rc4 (rc4 (rc rfl rnl)))), f1, by omega, hp.2.2, rfl⟩
 have hue : uL = Iy (M7 dS k st (Bm dC k.toNat).2.2.length (((Bm dC k.toNat).2.2.length : Int) + ((Ea dS (csT (B1 dC) k) (Bm dC k.toNat).2.2.length).length : Int))) := by rw [hu, show j = (Ea dS (csT (B1 dC) k) (Bm dC k.toNat).2.2.length).length by omega]; exact ho_end
 have hcB := Jh (st := st) hnm hkk t0 (show ((Bm dC k.toNat).2.2.length : Int) ≤ ((Bm dC k.toNat).2.2.length : Int) + ((Ea dS (csT (B1 dC) k) (Bm dC k.toNat).2.2.length).length : Int) by omega) (show ((Bm dC k.toNat).2.2.length : Int) + ((Ea dS (csT (B1 dC) k) (Bm dC k.toNat).2.2.length).length : Int) ≤ 100 by omega)
 have hsu := GM hcB.1
 rw [← hue] at hsu
 have hpt := Dy hsu.1
 refine wcf z0 (Ai j1) fun t0 => ?_
 refine xe ?_
 refine xn b1 <| Ac fun b1 j1 => wsc fun b1 z0 => mv t0 fun b1 f1 => ?_
 have b1 := i1.nf
 refine kra f1 b1 R3 (Dl _ _ b1.il _ _ _ (b1.g 7) (hl := (by omega)) (h0 := (by exact hpt))) fun i1 t0 y0 p1 => ?_
 refine Io (v := .int .i64 ((nth uL (uL.length - 1)).K)) sv p1 rfl rfl rfl (fun _ => by kernel_rfl) (by decide) fun y0 i1 => ?_
 refine lR i1 fun y0 p1 => ?_
 refine wn z0 ?_
 have z0 : ((nth uL (uL.length - 1)).K) = 12 := (by rw [hsu.2.2]; first | done | rfl)
 refine U1 p1 rfl (by rw [(Aw z0)]; rfl) fun y0 => ?_
 refine Am <| xn j1 <| wsc fun j1 z0 => mv y0 fun j1 p1 => ?_
 have j1 := t0.nf
 refine krd p1 j1 R4 (CN _ _ j1.il _ _ _ (j1.g 7) (hl := (by omega)) (hsm := (by exact hzl2.2)) (hb := (by exact hsu.1))) fun t0 y0 i1 b1 f1 m0 m1 n1 => ?_
 have hp1 := nth_1a (f1.trans hsu.2.1)
 have hcb := hcB
 rw [← hp1.2] at hcb
 have hcs : (BF b1 0).2.2.length ≤ 10 ∧ sml (BF b1 0).2.2 := by rw [hp1.2]; exact ⟨by rw [(Uo (by omega)).1]; omega, (Uo (by omega)).2⟩
 have hpt := Dy hcb.1
 refine ix 0 (0 * 1) n1 (BD (t := b1) (k := 0) (m0.row (i := 11) rfl).2 (by omega)).some_ fun f1 m1 => ?_
 refine lde 0 (0 * 1) m1 (BD (t := b1) (k := 0) (m0.row (i := 11) rfl).2 (by omega)) fun f1 n1 => ?_
 have f1 := m0.el 12 0
 refine aw n1 z0 fun m0 m1 => ?_
 refine Ac fun z0 m0 => Ac fun z0 n1 => ?_
 obtain ⟨z0, j1, p1⟩ := f1.agree
 refine Cj (n := 8) p1 14 (pB 0 0 pn) (A5 (A5 BC)) fun j1 f1 h1 i0 d0 k1 => ?_
 refine dR [0, 2, 3, 4, 5] m1 fun i0 j1 => ?_
 refine dt 6 rfl f1 j1 (AJ rfl) (fun x hx => WV j1) k1 fun i0 m1 => ?_
 refine d1 1 ?_
 have i0 := d0.nf
 refine kra m1 i0 R3 (Dl _ _ i0.il _ _ ((BF b1 0).2.2) (i0.g 13) (hl := (by omega)) (h0 := (by exact hpt))) fun d0 j1 k1 p1 => ?_
 have k1 := sWI j1 14 (pB 0 0 pn)
 refine ⟨k1, ?_⟩
 refine dt 7 rfl f1 p1 (AJ rfl) (fun x hx => Oz (m := (nth ((BF b1 0).2.2) (((BF b1 0).2.2).length - 1))) (n := (⟨26, k, ((Bm dC k.toNat).2.2.length : Int), dS⟩ : Nd)) (sy p1) p1 rfl rfl rfl rfl (by decide) gt) k1 fun d0 i0 => ?_
 refine AL (by kernel_rfl) (h1 _ _ ?_) _
 refine xn n1 ?_
 have n1 : (nth ((BF b1 0).2.2) (((BF b1 0).2.2).length - 1)) = (⟨26, k, ((Bm dC k.toNat).2.2.length : Int), dS⟩ : Nd) := (hcb.2.2)
 refine U1 i0 rfl (by rw [(Aw n1)]; rfl) fun h1 => ?_
 refine Am <| xn m0 <| wsc fun m0 n1 => mv h1 fun m0 i0 => ?_
 have m0 := j1.nf
 refine krd i0 m0 R4 (CN _ _ m0.il _ _ ((BF b1 0).2.2) (m0.g 13) (hl := (by omega)) (hsm := (by exact hcs.2)) (hb := (by exact hcb.1))) fun j1 h1 d0 k1 p1 f1 m1 c1 => ?_
 have hpa := p1.trans hcb.2.1
 have hpn : k1.length = (Bm dC k.toNat).2.2.length := by rw [← Bs, hpa]; simp
 refine aw c1 n1 fun p1 m1 => ?_
 refine Ac fun n1 p1 => rR m1 fun n1 c1 => ?_
 refine A4 ?_
 refine AH (fun gn ga gw => ∃ l : Nat, (Reg ga 215 [(1000000, .bool false), (2, .slice stA st.length stc), (14, .int .i64 ((Bm dC k.toNat).2.2.length : Int)), (15, .int .i64 (ow : Int)), (23, .slice h1 k1.length d0), (24, .int .i64 (l : Int))]) ∧ (St w0 Z A6 gw [.box j0 25 [.int .i64 dK, .int .i64 dL, .string dS, .slice dTA dT.length dTc, .slice dBA dB.length dBc, .slice dCA dC.length dCc]] [Br, n4 dTA dTc dT, n4 dBA dBc dB, Bw 1 dCA dC.length dCc (CW dC), CG dC, Bw 1 stA st.length stc (D2 st), Bw 4 (some ⟨u0, 0, none⟩) 2 2 (Cd ([(⟨0, 0, 0, (⟨#[]⟩ : ByteArray)⟩ : Nd), (⟨12, 0, 0, (⟨#[]⟩ : ByteArray)⟩ : Nd)])), n4 uA uc uL, n4 c0 b0 (cqL dK dL dS dT dB dC k st pr), Bw 1 ((Bm dC k.toNat).1) ((Bm dC k.toNat).2.2.length) ((Bm dC k.toNat).2.1) (B7 ((Bm dC k.toNat).2.2)), Cl ((Bm dC k.toNat).2.2), Bw 1 y0 b1.length i1 (B7 b1), Cl b1, n4 ((BF b1 0).1) ((BF b1 0).2.1) ((BF b1 0).2.2), dAg t0 z0, Bw 1 h1 k1.length d0 (B7 k1), Cl k1]) ∧ (l ≤ (Bm dC k.toNat).2.2.length) ∧ ((Bm dC k.toNat).2.2.length - l) = gn) _ ⟨0, (c1.sub (rc4 (rc rfl (rc rfl rnl)))), f1, by omega, rfl⟩ ?_
 rintro c1 f1 d0 ⟨l, h1, z0, hl, b1⟩
 refine Ac fun b1 d0 => rR h1 fun b1 f1 => ?_
 refine wcd f1 (fun b1 h1 => ?_) fun b1 c1 => ?_
 have hag := TF hpa (show l < (Bm dC k.toNat).2.2.length by omega)
 have hpt : 0 < (BF k1 l).2.2.length := by rw [hag]; exact Xb
 have hag1 : (BF k1 l).2.2.length = 1 := by rw [hag]; exact Jr.1
 refine Am <| xn d0 <| Ac fun d0 b1 => A4 ?_
 refine wsc fun d0 f1 => lR h1 fun d0 i1 => ?_
 refine ix l (l * 1) i1 (BD (t := k1) (k := l) (z0.row (i := 15) rfl).2 (by omega)).some_ fun d0 h1 => ?_
 refine lde 0 (l * 1) h1 (BD (t := k1) (k := l) (z0.row (i := 15) rfl).2 (by omega)) fun d0 i1 => ?_
 have d0 := z0.el 16 l
 have h1 := d0.nf
 refine kra i1 h1 R3 (Dl _ _ h1.il _ _ ((BF k1 l).2.2) (h1.g 17) (hl := (by omega)) (h0 := (by exact hpt))) fun d0 y0 t0 b0 => ?_
 refine alc b0 y0 fun t0 d0 h1 i1 c0 => ?_
 refine sto 1 i1 c0 fun h1 d0 t0 b0 => ?_
 refine wn f1 <| wsc fun f1 d0 => lR t0 fun f1 h1 => ?_
 refine ix l (l * 1) h1 (DX (t := st) (k := l) (b0.row (i := 5) rfl).2 (by omega)).some_ fun f1 t0 => ?_
 refine lde 0 (l * 1) t0 (DX (t := st) (k := l) (b0.row (i := 5) rfl).2 (by omega)) fun f1 h1 => ?_
 refine mv h1 fun f1 t0 => ?_
 refine lAn 3 (!(decide (((nth ((BF k1 l).2.2) (((BF k1 l).2.2).length - 1)).K) = 29))) t0 fun f1 h1 => ?_
 refine mv h1 fun f1 t0 => ?_
 have f1 : ((H1 st l) && (!(decide (((nth ((BF k1 l).2.2) (((BF k1 l).2.2).length - 1)).K) = 29)))) = false := (by rw [hag, Po]; cases H1 st l <;> rfl)
 have h1 := f1
 try simp only [bz] at h1
 have h1 := t0.setb (d := 197) (b := false) rfl f1
 refine lR h1 fun f1 t0 => ?_
 refine ix l (l * 1) t0 (DX (t := st) (k := l) (b0.row (i := 5) rfl).2 (by omega)).some_ fun f1 h1 => ?_
 refine lde 0 (l * 1) h1 (DX (t := st) (k := l) (b0.row (i := 5) rfl).2 (by omega)) fun f1 t0 => ?_
 refine lR t0 fun f1 h1 => ?_
 refine sph 203 h1 (fun f1 t0 => ?_) fun f1 c0 => ?_
 refine lR t0 fun h1 i1 => ?_
 refine wn d0 <| CP (i1.ev rfl) ?_
 refine Am <| A7 <| xn b1 <| A0 ?_
 refine mv i1 fun h1 t0 => ?_
 refine adi ((l + 1 : Nat) : Int) t0 fun h1 i1 => ?_
 refine asg i1 fun h1 t0 => ?_
 refine Ae ?_
 have h1 := b0.erase 1
 have i1 := h1.forget 17
 exact ⟨_, by omega, l + 1, (t0.sub (rc4 (rc rfl (rc rfl rnl)))), i1, by omega, rfl⟩
 refine lR c0 fun i1 t0 => ?_
 refine adi (((Bm dC k.toNat).2.2.length + ow : Nat) : Int) t0 fun i1 c0 => ?_
 refine sbi (((Bm dC k.toNat).2.2.length : Int) + (ow : Int) - 1) c0 fun i1 t0 => ?_
 refine lR t0 fun i1 c0 => ?_
 refine sbi (((Bm dC k.toNat).2.2.length : Int) + (ow : Int) - (l : Int) - 1) c0 fun i1 t0 => ?_
 refine bld t0 fun i1 c0 => ?_
 refine Oz (m := (nth ((BF k1 l).2.2) (((BF k1 l).2.2).length - 1))) (n := (⟨0, (((Bm dC k.toNat).2.2.length : Int) + (ow : Int) - (l : Int) - 1), 0, (⟨#[]⟩ : ByteArray)⟩ : Nd)) (Bb (wt c0)) c0 rfl rfl rfl rfl (by decide) fun i1 t0 => ?_
 refine lR t0 fun i1 c0 => ?_
 refine wn d0 ?_
 have d0 : (nth ((BF k1 l).2.2) (((BF k1 l).2.2).length - 1)) = (⟨0, (((Bm dC k.toNat).2.2.length : Int) + (ow : Int) - (l : Int) - 1), 0, (⟨#[]⟩ : ByteArray)⟩ : Nd) := (by rw [hag, Po, Aq (by rw [f1]; decide)]; show vN _ = vN _; rw [show (ow : Int) = ((Ea dS (csT (B1 dC) k) (Bm dC k.toNat).2.2.length).length : Int) by omega]; first | rfl | (congr 1; omega))
 refine U1 c0 rfl (by rw [(Aw d0)]; rfl) fun f1 => ?_
 refine Am <| A7 <| xn b1 <| A0 ?_
 refine mv f1 fun b1 d0 => ?_
 refine adi ((l + 1 : Nat) : Int) d0 fun b1 f1 => ?_
 refine asg f1 fun b1 d0 => ?_
 refine Ae ?_
 have b1 := b0.erase 1
 have b0 := b1.forget 17
 exact ⟨_, by omega, l + 1, (d0.sub (rc4 (rc rfl (rc rfl rnl)))), b0, by omega, rfl⟩
 refine xe ?_
 refine xn p1 <| rR c1 fun p1 b0 => ?_
 refine rt b0 z0.fr ?_
 exact BQ (by rfl)
 refine rR f0 fun b0 z0 => ?_
 refine rt1 z0 ?_
 have z0 : ((csL dK dL dS dT dB dC k st pr ([(⟨0, 0, 0, (⟨#[]⟩ : ByteArray)⟩ : Nd), (⟨12, 0, 0, (⟨#[]⟩ : ByteArray)⟩ : Nd)])).length : Int) = 0 := (congrArg (fun l : List Nd => (l.length : Int)) (cc_nil (by assumption)))
 refine ⟨?_, o0.fr⟩
 exact cre (BQ (by (simp [n0, p0, q0, x0, v0, z0]; done)))
end Go.Proofs.YtpfmnpaifchleaaGreatDoor
namespace Go.Proofs.YtpfmnpaifchleaaGreatDoor
set_option linter.unusedSimpArgs false
set_option linter.unusedVariables false
section
/- From a row's reading to cells, and back: slices of nodes, the table of shapes, arguments that nobody changed. -/
open Go Go.RowKit Go.WideShapes Go.ChangeShapes
theorem kids : Kids Tryz.prog (· < Tryz.prog.types.size) := kids_rows (by kernel_rfl) (by kernel_rfl)
theorem Pv : ∀ t e, t < Tryz.prog.types.size → Tryz.prog.underlying t = some (.slice e) → 0 < Tryz.prog.cellsOf e := slices_full_of Tryz.prog (by kernel_rfl)
theorem N0 : ownKnob Tryz.prog.godebug = none := by kernel_rfl
section
variable {H : Type} {enc : TypeId × Value → H} {P : Program} {w W W' : World}
theorem GL {base : Nat} {sp : Nat → Bool} {held : Bool} : ∀ {ts : List TypeId} {vs : List Value} {ds : List (DataW H)} {ps : List MemPlace},
  DataW.TrodAll enc P W base sp held ts vs ds ps → (∀ p ∈ ps, W.sameAt W' p) → DataW.TrodAll enc P W' base sp held ts vs ds ps
 | [], [], [], _, h, _ => h
 | _ :: _, _ :: _, _ :: _, _, ⟨p, q, ⟨n, h1⟩, h2, e⟩, hs =>
  ⟨p, q, ⟨n, DataW.trod_carry n _ _ _ h1 (fun x hx => hs x (by rw [e]; exact List.mem_append_left _ hx))⟩,
   GL h2 (fun x hx => hs x (by rw [e]; exact List.mem_append_right _ hx)), e⟩
 | [], [], _ :: _, _, h, _ => h.elim
 | [], _ :: _, _, _, h, _ => h.elim
 | _ :: _, [], _, _, h, _ => h.elim
 | _ :: _, _ :: _, [], _, h, _ => h.elim
theorem LP (hb : Below W.heap.size W W') {p : MemPlace} (hp : p.block < W.heap.size) : W.sameAt W' p := by
 cases p with
 | cell b off => exact hb.cell (p := ⟨b, off, none⟩) hp
 | map b => exact hb.block b hp
theorem Rm {f : Func} {s : ChangeSpec} {apart fresh handsOn again : Bool} {args : Array Value} {ds : List (DataW H)} {before : List MemPlace}
  (K : Kids P (· < P.types.size)) (hz : ∀ t e, t < P.types.size → P.underlying t = some (.slice e) → 0 < P.cellsOf e) (hts : ∀ t ∈ f.params.toList, t < P.types.size)
  (hvars : s.vars = []) (hW : DataW.Whole enc P f.params.toList s.vars apart W args.toList ds [] before)
  {tb : TypeId} (hrt : f.resultTypes = #[tb]) (htb : P.underlying tb = some .bool)
  (hfn : (s.fn H ds).results = [.lit (.bool true)] ∧ (s.fn H ds).args = ds ∧ (s.fn H ds).vars = []) (hb : Below W.heap.size W W') :
  s.post enc P f apart fresh handsOn again W args (.bool true) W' := by
 have hlt : ∀ p ∈ before, p.block < W.heap.size := fun p hp => hW.lt p hp
 have hold : ∀ p ∈ before, (fun b => decide (b < W.heap.size)) p.block = true := fun p hp => by simpa using hlt p hp
 have hW0 := hW
 obtain ⟨p, q, hA, hV, he, hzf, hn⟩ := hW0
 rw [hvars] at hV
 have hq : q = [] := hV
 subst hq
 rw [CL] at he
 subst he
 have hA' := GL (W' := W') hA (fun x hx => LP hb (hlt x hx))
 have hres : ∀ (b : Nat) (sp : Nat → Bool) (hd : Bool), DataW.TrodAll enc P W' b sp hd f.resultTypes.toList ((Value.bool true).resultList f.resultTypes.size) (s.fn H ds).results [] := fun b sp hd => by
  rw [hfn.1, hrt]
  exact trodAll_mk1 (shut_bool htb true)
 refine ⟨ds, [], before, [], before, [], hW, ?_, ?_, ?_, World.keptBut_mono (fun p hp => ⟨hp, .inr (.inl hp)⟩) (hb.frame (· ∈ before)), fun _ => ⟨?_, ?_⟩⟩
 · rw [CL]; exact hres _ _ _
 ·
  rw [CL, hfn.2.1]
  exact DataW.TrodAll.respare K hz hts hA' hold
 ·
  rw [CL, hfn.2.2, hvars]
  exact rfl
 · exact ok_one hrt rfl (okWide_bool_mk htb true)
 ·
  refine ⟨[.lit (.bool true)] ++ ds, [], [] ++ before, ⟨[] ++ before, [], ?_, ?_, by simp, ?_, ?_⟩, ?_⟩
  ·
   rw [hrt]
   exact trodAll_append hA' (trodAll_mk1 (shut_bool htb true))
  ·
   rw [hvars]
   exact rfl
  ·
   intro b off hp
   have hin : MemPlace.cell b off ∈ before := by simpa using hp
   rw [hb.frozen (hlt _ hin)]
   exact hzf b off hin
  ·
   intro ha
   simpa using hn ha
  ·
   intro x hx _
   simpa using hx
end
section
variable {H : Type} {enc : TypeId × Value → H} {w : World}
theorem Gq {p : Addr} {v : Value} (h : w.cell? p = some v) : p.block < w.heap.size := by
 unfold World.cell? at h
 cases ho : w.heap[p.block]? with
 | none => simp [ho] at h
 | some o => exact (AV.1 ho).1
set_option maxRecDepth 100000 in
theorem PF {base : Nat} {sp : Nat → Bool} {held : Bool} {n : Nat} {cs : List Value} {x : DataW H × List MemPlace} (h : DataW.trod enc Tryz.prog w base sp held n 30 cs = some x) : ∃ nd : Nd, cs = Eb nd := by
 have hu : Tryz.prog.underlying 30 = some (.struct (Tryz.prog.fieldsOf 30)) := by kernel_rfl
 have hf : (Tryz.prog.fieldsOf 30).toList.map (fun f => (f.type, f.offset)) = [(3, 0), (3, 1), (3, 2), (9, 3)] := by kernel_rfl
 have hci : Tryz.prog.cellsOf 3 = 1 := by kernel_rfl
 have hcs : Tryz.prog.cellsOf 9 = 1 := by kernel_rfl
 have hcn : Tryz.prog.cellsOf 30 = 4 := by kernel_rfl
 obtain ⟨xs, m, _, _, hl, _, hg⟩ := DataW.trod_struct hu h
 rw [hcn] at hl
 have fld : ∀ (j : Nat) (t : TypeId) (off : Nat), ((Tryz.prog.fieldsOf 30).toList.map (fun f => (f.type, f.offset)))[j]? = some (t, off) → ∃ y, DataW.trod enc Tryz.prog w base sp held m t ((cs.drop off).take (Tryz.prog.cellsOf t)) = some y := by
  intro j t off hj
  rw [El] at hj
  cases hfj : (Tryz.prog.fieldsOf 30).toList[j]? with
  | none => rw [hfj] at hj; cases hj
  | some f =>
   rw [hfj] at hj
   simp only [Cm, Cs, DH] at hj
   obtain ⟨rfl, rfl⟩ := hj
   have h1 := hg j f (by rw [← Array.getElem?_toList]; exact hfj)
   have hjl : j < (Tryz.prog.fieldsOf 30).size := by
    have := (List.getElem?_eq_some_iff.1 hfj).1
    simpa using this
   have hxl : j < xs.length := by omega
   exact ⟨xs[j], by rw [h1]; exact Bx hxl⟩
 rw [hf] at fld
 match cs, hl with
 | [c0, c1, c2, c3], _ =>
  obtain ⟨y0, h0⟩ := fld 0 _ _ rfl
  obtain ⟨y1, h1⟩ := fld 1 _ _ rfl
  obtain ⟨y2, h2⟩ := fld 2 _ _ rfl
  obtain ⟨y3, h3⟩ := fld 3 _ _ rfl
  rw [hci] at h0 h1 h2
  rw [hcs] at h3
  obtain ⟨a, ha, _⟩ := DataW.trod_int Bl h0
  obtain ⟨b, hb, _⟩ := DataW.trod_int Bl h1
  obtain ⟨c, hc, _⟩ := DataW.trod_int Bl h2
  obtain ⟨s, hs, _⟩ := DataW.trod_string A8 h3
  simp at ha hb hc hs
  exact ⟨⟨a, b, c, s⟩, by simp [Eb, ha, hb, hc, hs]⟩
end
end
section
/- An argument that is a slice of slices of nodes; one that is a slice of these. -/
open Go Go.RowKit Go.WideShapes Go.ChangeShapes
section
variable {H : Type} {enc : TypeId × Value → H} {w : World}
set_option maxRecDepth 100000 in
theorem H2 {base : Nat} {sp : Nat → Bool} {held : Bool} {n : Nat} {cs : List Value} {x : DataW H × List MemPlace} (hf : DataW.trod enc Tryz.prog w base sp held n 22 cs = some x) :
  ∃ s : Sl, cs = FK s ∧ (Bw 4 s.1 s.2.2.length s.2.1 (Cd s.2.2)).φ w (fun k => k < w.heap.size) := by
 have hcn : Tryz.prog.cellsOf 30 = 4 := by kernel_rfl
 rcases Deep.open_slice Au hf with ⟨hcs, _⟩ | ⟨a, len, cap, m, _, D, Pl, hcs, _, hl, _, hm, _, hi⟩
 · exact ⟨slz, hcs, Af _, rfl, fun h => absurd h (by simp [slz])⟩
 ·
  have hmm : len ≤ m := by rw [hm]; split <;> omega
  have hnd : ∀ i, ∃ nd : Nd, i < len → w.cells? base (a.add (i * 4)) 4 = some (Eb nd) := by
   intro i
   by_cases hil : i < len
   ·
    obtain ⟨cs', hc, ht⟩ := hi i (by omega)
    obtain ⟨nd, rfl⟩ := PF ht
    rw [hcn] at hc
    exact ⟨nd, fun _ => hc⟩
   · exact ⟨ndz, fun h => absurd h hil⟩
  obtain ⟨f, hf'⟩ := Classical.axiomOfChoice hnd
  refine ⟨(some a, cap, (List.range len).map f), by rw [hcs]; simp [FK], ?_, ?_, fun hpos => ⟨a, rfl, ?_, ?_⟩⟩
  · simpa using hl
  · exact HQ _
  ·
   have hp0 : 0 < len := by simpa using hpos
   obtain ⟨_, _, hat⟩ := World.cells?_some (hf' 0 hp0)
   have h0 := hat 0 (by omega)
   rw [DE] at h0
   have := Gq (w := w) (p := a.add (0 * 4 + 0)) (by rw [h0]; rfl)
   rwa [Eh] at this
  ·
   intro j u hu
   have hjl : j < len * 4 := by
    have h1 := (List.getElem?_eq_some_iff.1 hu).1
    rw [HQ] at h1
    simpa using h1
   have hi4 : j / 4 < len := by omega
   obtain ⟨_, hcl, hat⟩ := World.cells?_some (hf' (j / 4) hi4)
   have h1 := hat (j % 4) (by omega)
   rw [DE, show j / 4 * 4 + j % 4 = j by omega] at h1
   rw [h1, ← hu]
   have h2 := EO Cq ((List.range len).map f) (j / 4) (by simpa using hi4) ndz
   have h3 : (((List.range len).map f).getD (j / 4) ndz) = f (j / 4) := by simp [hi4]
   rw [h3] at h2
   have h4 : (Cd ((List.range len).map f))[j]? = (((((List.range len).map f).flatMap Eb).drop (j / 4 * 4)).take 4)[j % 4]? := by
    rw [List.getElem?_take_of_lt (by omega), List.getElem?_drop, show j / 4 * 4 + j % 4 = j by omega]
    rfl
   rw [h4, h2]
theorem Jj {α : Type} {f : α → List Value} {z : α} {Q : α → Prop} (hf1 : ∀ x, (f x).length = 1) {len base : Nat} {a : Addr} (hi : ∀ i, i < len → ∃ x : α, w.cells? base (a.add (i * 1)) 1 = some (f x) ∧ Q x) :
  ∃ L : List α, L.length = len ∧ (∀ x ∈ L, Q x) ∧ RowI w (fun k => k < w.heap.size) 1 (some a) len (L.flatMap f) := by
 have hnd : ∀ i, ∃ x : α, i < len → w.cells? base (a.add (i * 1)) 1 = some (f x) ∧ Q x := by
  intro i
  by_cases hil : i < len
  ·
   obtain ⟨x, h1, h2⟩ := hi i hil
   exact ⟨x, fun _ => ⟨h1, h2⟩⟩
  · exact ⟨z, fun h => absurd h hil⟩
 obtain ⟨g, hg⟩ := Classical.axiomOfChoice hnd
 refine ⟨(List.range len).map g, by simp, ?_, ?_, fun hpos => ⟨a, rfl, ?_, ?_⟩⟩
 ·
  intro x hx
  obtain ⟨i, hi', rfl⟩ := Ch.1 hx
  exact (hg i (List.mem_range.1 hi')).2
 · rw [Dr hf1]; simp
 ·
  obtain ⟨_, _, hat⟩ := World.cells?_some (hg 0 hpos).1
  have h0 := hat 0 (by omega)
  rw [DE] at h0
  have hl := hf1 (g 0)
  cases hgo : f (g 0) with
  | nil => rw [hgo] at hl; simp at hl
  | cons v r =>
   have := Gq (w := w) (p := a.add (0 * 1 + 0)) (by rw [h0, hgo]; rfl)
   rwa [Eh] at this
 ·
  intro j u hu
  have hjl : j < len := by
   have h1 := (List.getElem?_eq_some_iff.1 hu).1
   rw [Dr hf1] at h1
   simpa using h1
  obtain ⟨_, hcl, hat⟩ := World.cells?_some (hg j hjl).1
  have h1 := hat 0 (by omega)
  rw [DE, show j * 1 + 0 = j by omega] at h1
  rw [h1, ← hu]
  have h2 := EO hf1 ((List.range len).map g) j (by simpa using hjl) z
  have h3 : (((List.range len).map g).getD j z) = g j := by simp [hjl]
  rw [h3] at h2
  have h4 : ((List.range len).map g |>.flatMap f)[j]? = (((((List.range len).map g).flatMap f).drop (j * 1)).take 1)[0]? := by
   rw [List.getElem?_take_of_lt (by omega), List.getElem?_drop, show j * 1 + 0 = j by omega]
  rw [h4, h2]
set_option maxRecDepth 100000 in
theorem PK {base : Nat} {sp : Nat → Bool} {held : Bool} {n : Nat} {cs : List Value} {x : DataW H × List MemPlace} (hf : DataW.trod enc Tryz.prog w base sp held n 37 cs = some x) :
  ∃ s : Tl, cs = Xr s ∧ (Bw 1 s.1 s.2.2.length s.2.1 (B7 s.2.2)).φ w (fun k => k < w.heap.size) ∧ (Cl s.2.2).φ w (fun k => k < w.heap.size) := by
 have hcn : Tryz.prog.cellsOf 22 = 1 := by kernel_rfl
 rcases Deep.open_slice Be hf with ⟨hcs, _⟩ | ⟨a, len, cap, m, _, D, Pl, hcs, _, hl, _, hm, _, hi⟩
 · exact ⟨tlz, hcs, ⟨Af _, rfl, fun h => absurd h (by simp [tlz])⟩, Cp⟩
 ·
  have hmm : len ≤ m := by rw [hm]; split <;> omega
  obtain ⟨L, h1, h2, h3⟩ := Jj (w := w) (f := FK) (z := slz) (Q := fun s => (Bw 4 s.1 s.2.2.length s.2.1 (Cd s.2.2)).φ w (fun k => k < w.heap.size)) Dc (len := len) (base := base) (a := a) (fun i hil => by
   obtain ⟨cs', hc, ht⟩ := hi i (by omega)
   obtain ⟨s, rfl, hd⟩ := H2 ht
   rw [hcn] at hc
   exact ⟨s, hc, hd⟩)
  subst h1
  exact ⟨(some a, cap, L), by rw [hcs]; rfl, ⟨hl, h3⟩, fun s hs => h2 s hs⟩
end
end
section
/- Arguments that are a declaration, a slice of truths, an int, a truth. -/
open Go Go.RowKit Go.WideShapes Go.ChangeShapes
section
variable {H : Type} {enc : TypeId × Value → H} {w : World}
set_option maxRecDepth 100000 in
theorem PC {r : Reach} {base b0 : Nat} {sp : Nat → Bool} {held : Bool} {v : Value} {d : DataW H} {ps : List MemPlace} (hval : Value.okWide Tryz.prog w r b0 26 v) (hd : DataW.Trod enc Tryz.prog w base sp held 26 v d ps) :
  ∃ (A : Option Addr) (c : Nat) (t : List Bool), v = .slice A t.length c ∧ (Bw 1 A t.length c (D2 t)).φ w (fun k => k < w.heap.size) := by
 obtain ⟨A, len, cap, rfl⟩ := okWide_slice Ek hval
 obtain ⟨fuel, hf⟩ := hd
 have hcn : Tryz.prog.cellsOf 4 = 1 := by kernel_rfl
 rcases Deep.open_slice Ek hf with ⟨hcs, _⟩ | ⟨a, len', cap', m, n, D, Pl, hcs, _, hl, _, hm, _, hi⟩
 ·
  simp [Value.cells] at hcs
  obtain ⟨rfl, rfl, rfl⟩ := hcs
  exact ⟨none, 0, [], rfl, ⟨Af _, rfl, fun h => absurd h (by simp)⟩⟩
 ·
  simp [Value.cells] at hcs
  obtain ⟨rfl, rfl, rfl⟩ := hcs
  have hmm : len ≤ m := by rw [hm]; split <;> omega
  obtain ⟨L, h1, h2, h3⟩ := Jj (w := w) (f := encB) (z := false) (Q := fun _ => True) (fun _ => rfl) (len := len) (base := base) (a := a) (fun i hil => by
   obtain ⟨cs', hc, ht⟩ := hi i (by omega)
   obtain ⟨b, hb, _⟩ := DataW.trod_bool C2 ht
   rw [hcn] at hc
   refine ⟨b, ?_, trivial⟩
   rw [hc, hb]
   rfl)
  subst h1
  exact ⟨some a, cap, L, rfl, ⟨hl, h3⟩⟩
set_option maxRecDepth 100000 in
theorem TD {r : Reach} {b0 : Nat} {v : Value} (hval : Value.okWide Tryz.prog w r b0 3 v) : ∃ n : Int, v = .int .i64 n := okWide_int Bl hval
set_option maxRecDepth 100000 in
theorem R0 {r : Reach} {b0 : Nat} {v : Value} (hval : Value.okWide Tryz.prog w r b0 4 v) : ∃ b : Bool, v = .bool b := okWide_bool C2 hval
set_option maxRecDepth 100000 in
theorem NC {base : Nat} {sp : Nat → Bool} {held : Bool} {n : Nat} {cs : List Value} {x : DataW H × List MemPlace} (hf : DataW.trod enc Tryz.prog w base sp held n 23 cs = some x) :
  ∃ (A : Option Addr) (c : Nat) (t : List Tl), cs = [.slice A t.length c] ∧ (Bw 1 A t.length c (CW t)).φ w (fun k => k < w.heap.size) ∧ (CG t).φ w (fun k => k < w.heap.size) := by
 have hcn : Tryz.prog.cellsOf 37 = 1 := by kernel_rfl
 rcases Deep.open_slice G0 hf with ⟨hcs, _⟩ | ⟨a, len, cap, m, _, D, Pl, hcs, _, hl, _, hm, _, hi⟩
 · exact ⟨none, 0, [], hcs, ⟨Af _, rfl, fun h => absurd h (by simp)⟩, Ps⟩
 ·
  have hmm : len ≤ m := by rw [hm]; split <;> omega
  obtain ⟨L, h1, h2, h3⟩ := Jj (w := w) (f := Xr) (z := tlz) (Q := fun s => (Bw 1 s.1 s.2.2.length s.2.1 (B7 s.2.2)).φ w (fun k => k < w.heap.size) ∧ (Cl s.2.2).φ w (fun k => k < w.heap.size)) OW (len := len) (base := base) (a := a) (fun i hil => by
   obtain ⟨cs', hc, ht⟩ := hi i (by omega)
   obtain ⟨s, rfl, hd⟩ := PK ht
   rw [hcn] at hc
   exact ⟨s, hc, hd⟩)
  subst h1
  exact ⟨some a, cap, L, hcs, ⟨hl, h3⟩, fun s hs => h2 s hs⟩
set_option maxRecDepth 100000 in
theorem Rz {r : Reach} {base b0 : Nat} {sp : Nat → Bool} {held : Bool} {v : Value} {d : DataW H} {ps : List MemPlace} (hval : Value.okWide Tryz.prog w r b0 25 v) (hd : DataW.Trod enc Tryz.prog w base sp held 25 v d ps) :
  ∃ (K L : Int) (S : ByteArray) (TA : Option Addr) (Tc : Nat) (T : List Nd) (BA : Option Addr) (Bc : Nat) (B : List Nd) (CA : Option Addr) (Cc : Nat) (C : List Tl),
   v = .agg #[.int .i64 K, .int .i64 L, .string S, .slice TA T.length Tc, .slice BA B.length Bc, .slice CA C.length Cc] ∧ S.size ≤ 9223372036854775807 ∧ (Bw 4 TA T.length Tc (Cd T)).φ w (fun k => k < w.heap.size) ∧ (Bw 4 BA B.length Bc (Cd B)).φ w (fun k => k < w.heap.size) ∧
   (Bw 1 CA C.length Cc (CW C)).φ w (fun k => k < w.heap.size) ∧ (CG C).φ w (fun k => k < w.heap.size) := by
 have hu : Tryz.prog.underlying 25 = some (.struct (Tryz.prog.fieldsOf 25)) := by kernel_rfl
 have hf : (Tryz.prog.fieldsOf 25).toList.map (fun f => (f.type, f.offset)) = [(3, 0), (3, 1), (9, 2), (22, 3), (22, 4), (23, 5)] := by kernel_rfl
 have hci : Tryz.prog.cellsOf 3 = 1 := by kernel_rfl
 have hcs : Tryz.prog.cellsOf 9 = 1 := by kernel_rfl
 have hc1 : Tryz.prog.cellsOf 22 = 1 := by kernel_rfl
 have hc3 : Tryz.prog.cellsOf 23 = 1 := by kernel_rfl
 have hcn : Tryz.prog.cellsOf 25 = 6 := by kernel_rfl
 have hct : Tryz.prog.cellTypes Tryz.prog.depth 25 = some [3, 3, 9, 22, 22, 23] := by kernel_rfl
 obtain ⟨fuel, h⟩ := hd
 have hval' := hval
 simp only [Value.okWide, hu] at hval'
 obtain ⟨arr, rfl, _, ts, hts, _, hrow⟩ := hval'
 rw [hct] at hts
 obtain rfl := B4 hts
 obtain ⟨xs, m, _, _, hl, _, hg⟩ := DataW.trod_struct hu h
 rw [hcn] at hl
 have fld : ∀ (j : Nat) (t : TypeId) (off : Nat), ((Tryz.prog.fieldsOf 25).toList.map (fun f => (f.type, f.offset)))[j]? = some (t, off) → ∃ y, DataW.trod enc Tryz.prog w base sp held m t (((Value.agg arr).cells.toList.drop off).take (Tryz.prog.cellsOf t)) = some y := by
  intro j t off hj
  rw [El] at hj
  cases hfj : (Tryz.prog.fieldsOf 25).toList[j]? with
  | none => rw [hfj] at hj; cases hj
  | some f =>
   rw [hfj] at hj
   simp only [Cm, Cs, DH] at hj
   obtain ⟨rfl, rfl⟩ := hj
   have h1 := hg j f (by rw [← Array.getElem?_toList]; exact hfj)
   have hjl : j < (Tryz.prog.fieldsOf 25).size := by
    have := (List.getElem?_eq_some_iff.1 hfj).1
    simpa using this
   have hxl : j < xs.length := by omega
   exact ⟨xs[j], by rw [h1]; exact Bx hxl⟩
 rw [hf] at fld
 obtain ⟨l⟩ := arr
 simp only [Value.cells] at hl fld
 match l, hl with
 | [c0, c1, c2, c3, c4, c5], _ =>
  obtain ⟨y0, h0⟩ := fld 0 _ _ rfl
  obtain ⟨y1, h1⟩ := fld 1 _ _ rfl
  obtain ⟨y2, h2⟩ := fld 2 _ _ rfl
  obtain ⟨y3, h3⟩ := fld 3 _ _ rfl
  obtain ⟨y4, h4⟩ := fld 4 _ _ rfl
  obtain ⟨y5, h5⟩ := fld 5 _ _ rfl
  rw [hci] at h0 h1
  rw [hcs] at h2
  rw [hc1] at h3 h4
  rw [hc3] at h5
  obtain ⟨a, ha, _⟩ := DataW.trod_int Bl h0
  obtain ⟨b, hb, _⟩ := DataW.trod_int Bl h1
  obtain ⟨s, hs, _⟩ := DataW.trod_string A8 h2
  obtain ⟨⟨TA, Tc, T⟩, hT, dT⟩ := H2 h3
  obtain ⟨⟨BA, Bc, B⟩, hB, dB⟩ := H2 h4
  obtain ⟨CA, Cc, C, hC, dC, dCs⟩ := NC h5
  simp [FK] at ha hb hs hT hB hC
  subst ha hb hs hT hB hC
  refine ⟨a, b, s, TA, Tc, T, BA, Bc, B, CA, Cc, C, rfl, ?_, dT, dB, dC, dCs⟩
  obtain ⟨u, hu2, hw⟩ := hrow 2 (.string s) rfl
  obtain rfl : 9 = u := by simpa using hu2
  have ht : Tryz.prog.underlying 9 = some .string := A8
  simp only [Cell.okWide, ht] at hw
  have h1 : (s.size : Int) ≤ IntKind.i64.max := by simpa [Cell.ok, ht] using hw
  have h2 : IntKind.i64.max = 9223372036854775807 := rfl
  omega
end
end
section
/- The table of shapes: from the row's list to cells; a world that holds it. -/
open Go Go.RowKit Go.WideShapes Go.ChangeShapes
set_option maxRecDepth 100000
def JK (k : Nat) : DataW Unit := .agg [(match (shp k).b with | [] => .nil | b => .slice (lits .i64 b) []), .lit (.bool (shp k).n), .lit (.bool (shp k).m), .lit (.bool (shp k).s)]
theorem Wv : (Rows.laid_cornice_term_shapes : DataW Unit) = .agg ((List.range 30).map JK) := by kernel_rfl
theorem Su (l : List Int) : BN l = l.map (fun n => Value.int .i64 n) := by
 induction l with
 | nil => rfl
 | cons x t ih => rw [BJ, ← ih]; rfl
theorem MW {w : World} {base : Nat} {sp : Nat → Bool} {held : Bool} {n : Nat} {cs : List Value} {k : Nat} {p : List MemPlace}
  (h : DataW.trod (fun _ => ()) Tryz.prog w base sp held n 154 cs = some (JK k, p)) :
  ∃ (A : Option Addr) (cap : Nat), cs = [.slice A (shp k).b.length cap, .bool (shp k).n, .bool (shp k).m, .bool (shp k).s] ∧ (shp k).b.length ≤ cap ∧ RowI w (fun k => k < w.heap.size) 1 A (shp k).b.length (BN (shp k).b) := by
 have hu : Tryz.prog.underlying 154 = some (.struct (Tryz.prog.fieldsOf 154)) := by kernel_rfl
 have hf : (Tryz.prog.fieldsOf 154).toList.map (fun f => (f.type, f.offset)) = [(57, 0), (4, 1), (4, 2), (4, 3)] := by kernel_rfl
 have hci : Tryz.prog.cellsOf 57 = 1 := by kernel_rfl
 have hci1 : Tryz.prog.cellsOf 3 = 1 := by kernel_rfl
 have hcs : Tryz.prog.cellsOf 4 = 1 := by kernel_rfl
 have hcn : Tryz.prog.cellsOf 154 = 4 := by kernel_rfl
 obtain ⟨xs, m, _, hx, hl, hxl, hg⟩ := DataW.trod_struct hu h
 rw [hcn] at hl
 have hd : xs.map (·.1) = [(match (shp k).b with | [] => .nil | b => .slice (lits .i64 b) []), .lit (.bool (shp k).n), .lit (.bool (shp k).m), .lit (.bool (shp k).s)] := by
  have := congrArg Prod.fst hx
  simp only [JK] at this
  injection this with h1
  exact h1.symm
 have fld : ∀ (j : Nat) (t : TypeId) (off : Nat), ((Tryz.prog.fieldsOf 154).toList.map (fun f => (f.type, f.offset)))[j]? = some (t, off) → DataW.trod (fun _ => ()) Tryz.prog w base sp held m t ((cs.drop off).take (Tryz.prog.cellsOf t)) = xs[j]? := by
  intro j t off hj
  rw [El] at hj
  cases hfj : (Tryz.prog.fieldsOf 154).toList[j]? with
  | none => rw [hfj] at hj; cases hj
  | some f =>
   rw [hfj] at hj
   simp only [Cm, Cs, DH] at hj
   obtain ⟨rfl, rfl⟩ := hj
   exact hg j f (by rw [← Array.getElem?_toList]; exact hfj)
 rw [hf] at fld
 match cs, hl, xs, hd with
 | [c0, c1, c2, c3], _, [y0, y1, y2, y3], hd =>
  simp only [BJ, C6, List.cons.injEq, and_true] at hd
  obtain ⟨d0, d1, d2, d3⟩ := hd
  have h0 := fld 0 _ _ rfl
  have h1 := fld 1 _ _ rfl
  have h2 := fld 2 _ _ rfl
  have h3 := fld 3 _ _ rfl
  rw [hci] at h0
  rw [hcs] at h1 h2 h3
  obtain ⟨b1, e1, f1⟩ := DataW.trod_bool C2 h1
  obtain ⟨b2, e2, f2⟩ := DataW.trod_bool C2 h2
  obtain ⟨b3, e3, f3⟩ := DataW.trod_bool C2 h3
  simp at e1 e2 e3
  simp [f1] at d1
  simp [f2] at d2
  simp [f3] at d3
  subst e1 e2 e3 d1 d2 d3
  rcases open_ints AU Bl hci1 h0 with ⟨hcs0, hy⟩ | ⟨a, len, cap, zs, hcs0, _, hle, _, hzl, hy, hcell, _⟩
  ·
   simp at hcs0
   subst hcs0
   rw [hy] at d0
   cases hb : (shp k).b with
   | nil => exact ⟨none, 0, by simp, by simp, by simp [BN], fun h => absurd h (by simp)⟩
   | cons z zs => rw [hb] at d0; simp at d0
  ·
   simp at hcs0
   subst hcs0
   rw [hy] at d0
   cases hb : (shp k).b with
   | nil => rw [hb] at d0; simp at d0
   | cons z l =>
    rw [hb] at d0
    simp only [DataW.slice.injEq] at d0
    obtain ⟨d4, d5⟩ := d0
    have hinj : ∀ a b : List Int, (lits .i64 a : List (DataW Unit)) = lits .i64 b → a = b := by
     intro a
     induction a with
     | nil => intro b hb; cases b with
      | nil => rfl
      | cons _ _ => simp [lits] at hb
     | cons x a ih => intro b hb; cases b with
      | nil => simp [lits] at hb
      | cons y b =>
       simp only [lits, BJ, List.cons.injEq, DataW.lit.injEq, Lit.int.injEq, true_and] at hb
       rw [hb.1, ih b hb.2]
    have d6 := hinj _ _ d4
    have hll : len = (z :: l).length := by
     have := congrArg List.length d6
     rw [Ah] at this
     have hz : len ≤ zs.length := by rw [hzl]; split <;> omega
     omega
    subst hll
    refine ⟨some a, cap, rfl, hle, by simp [HR], fun _ => ⟨a, rfl, ?_, ?_⟩⟩
    ·
     have h9 := hcell 0 (by have hz2 : (z :: l).length ≤ zs.length := (by rw [hzl]; split <;> omega); rw [Ad] at hz2; omega)
     have := Gq h9
     rwa [Eh] at this
    ·
     intro j u hu
     have hjl : j < (z :: l).length := by
      have := (List.getElem?_eq_some_iff.1 hu).1
      rw [HR] at this
      simpa using this
     have hzz : (z :: l).length ≤ zs.length := by rw [hzl]; split <;> omega
     rw [hcell j (by omega)]
     have h8 : (z :: l)[j]? = zs[j]? := by rw [← d6, List.getElem?_take_of_lt hjl]
     have h7 := Su (z :: l)
     rw [h7, El, h8] at hu
     cases hq : zs[j]? with
     | none => rw [hq] at hu; simp at hu
     | some q =>
      rw [hq] at hu
      simp only [Cm, Cs] at hu
      rw [← hu, AP, hq]
      rfl
theorem Jy {W : World} (h : laidMetH Tryz.prog [("cornice/term.shapes", Rows.laid_cornice_term_shapes)] W) : Cu W (fun k => k < W.heap.size) := by
 have h' : laidMet Tryz.prog [("cornice/term.shapes", Rows.laid_cornice_term_shapes)] W := h
 obtain ⟨ps, ⟨g, t, cs, fuel, p, q, hg, ht, hvar, hd, _, _⟩, _⟩ := h'
 have hg0 : Tryz.prog.globalNamed "cornice/term.shapes" = some 0 := by kernel_rfl
 have ht0 : (Tryz.prog.globals[0]?).map (·.type) = some 155 := by kernel_rfl
 obtain rfl : 0 = g := B4 (hg0.symm.trans hg)
 obtain rfl : 155 = t := B4 (ht0.symm.trans ht)
 have hcn : Tryz.prog.cellsOf 154 = 4 := by kernel_rfl
 have hct : Tryz.prog.cellsOf 155 = 120 := by kernel_rfl
 obtain ⟨xs, m, _, hx, hl, hxl, hi⟩ := DataW.trod_array Tryz.underlying155 hd
 rw [hct] at hl
 have hxd : xs.map (·.1) = (List.range 30).map JK := by
  have := congrArg Prod.fst hx
  simp only [Wv] at this
  injection this with h1
  exact h1.symm
 intro k hk
 have h1 := hi k hk
 rw [hcn] at h1
 have hkx : k < xs.length := by omega
 have h2 : xs[k]? = some (JK k, (xs[k]).2) := by
  rw [Bx hkx]
  have h3 : (xs.map (·.1))[k]? = some (JK k) := by rw [hxd]; simp [hk]
  rw [El, Bx hkx] at h3
  simp only [Cm, Cs] at h3
  rw [← h3]
 rw [h2] at h1
 obtain ⟨A, cap, hcs, hle, hrow⟩ := MW h1
 refine ⟨A, cap, ⟨hle, hrow⟩, ?_, ?_⟩
 ·
  have h4 := World.var?_cell hg hvar 0
  have h5 : cs[0]? ≠ none := by
   intro e
   rw [← Array.getElem?_toList, List.getElem?_eq_none_iff] at e
   omega
  cases h6 : cs[0]? with
  | none => exact absurd h6 h5
  | some v => rw [h6] at h4; exact Gq h4
 ·
  intro j u hu
  have hj : j < 4 := by
   have := (List.getElem?_eq_some_iff.1 hu).1
   simpa using this
  have h4 := World.var?_cell hg hvar (k * 4 + j)
  rw [← hcs, List.getElem?_take_of_lt hj, List.getElem?_drop, Array.getElem?_toList] at hu
  rw [hu] at h4
  rw [DE]
  have : (⟨0, 0, none⟩ : Addr).add (k * 4 + j) = ⟨0, k * 4 + j, none⟩ := by unfold Addr.add; split <;> simp_all
  rw [this]
  exact h4
noncomputable def IW (os : Os) : World :=
 { World.holding Tryz.prog os ⟨#[.cells #[.int .i64 0, .int .i64 1, .int .i64 0, .int .i64 1, .int .i64 0, .int .i64 0, .int .i64 0, .int .i64 1, .int .i64 0, .int .i64 0, .int .i64 0, .int .i64 0, .int .i64 0, .int .i64 0, .int .i64 1, .int .i64 0, .int .i64 2, .int .i64 0, .int .i64 0, .int .i64 0, .int .i64 0, .int .i64 0, .int .i64 0, .int .i64 0, .int .i64 0, .int .i64 0, .int .i64 0, .int .i64 0, .int .i64 0, .int .i64 0, .int .i64 0, .int .i64 1, .int .i64 0, .int .i64 0, .int .i64 0, .int .i64 0, .int .i64 2, .int .i64 0, .int .i64 0, .int .i64 0, .int .i64 0, .int .i64 0, .int .i64 0, .int .i64 1, .int .i64 0, .int .i64 0, .int .i64 0] 3], #[], []⟩ with heap := (World.holding Tryz.prog os ⟨#[.cells #[.int .i64 0, .int .i64 1, .int .i64 0, .int .i64 1, .int .i64 0, .int .i64 0, .int .i64 0, .int .i64 1, .int .i64 0, .int .i64 0, .int .i64 0, .int .i64 0, .int .i64 0, .int .i64 0, .int .i64 1, .int .i64 0, .int .i64 2, .int .i64 0, .int .i64 0, .int .i64 0, .int .i64 0, .int .i64 0, .int .i64 0, .int .i64 0, .int .i64 0, .int .i64 0, .int .i64 0, .int .i64 0, .int .i64 0, .int .i64 0, .int .i64 0, .int .i64 1, .int .i64 0, .int .i64 0, .int .i64 0, .int .i64 0, .int .i64 2, .int .i64 0, .int .i64 0, .int .i64 0, .int .i64 0, .int .i64 0, .int .i64 0, .int .i64 1, .int .i64 0, .int .i64 0, .int .i64 0] 3], #[], []⟩).heap.modify 0 fun
   | .cells _ t frozen => .cells #[.slice none 0 0, .bool true, .bool false, .bool false, .slice none 0 0, .bool false, .bool false, .bool true, .slice none 0 0, .bool true, .bool false, .bool false, .slice (some ⟨6, 0, none⟩) 2 2, .bool true, .bool false, .bool false, .slice (some ⟨6, 2, none⟩) 2 2, .bool false, .bool false, .bool false, .slice (some ⟨6, 4, none⟩) 2 2, .bool false, .bool false, .bool false, .slice (some ⟨6, 6, none⟩) 2 2, .bool true, .bool false, .bool false, .slice (some ⟨6, 8, none⟩) 3 3, .bool false, .bool false, .bool false, .slice (some ⟨6, 11, none⟩) 1 1, .bool false, .bool false, .bool false, .slice (some ⟨6, 12, none⟩) 1 1, .bool false, .bool false, .bool false, .slice none 0 0, .bool false, .bool false, .bool false, .slice none 0 0, .bool false, .bool false, .bool false, .slice (some ⟨6, 13, none⟩) 1 1, .bool false, .bool false, .bool false, .slice (some ⟨6, 14, none⟩) 4 4, .bool false, .bool false, .bool false, .slice none 0 0, .bool false, .bool false, .bool false, .slice (some ⟨6, 18, none⟩) 2 2, .bool false, .bool false, .bool false, .slice none 0 0, .bool false, .bool false, .bool false, .slice none 0 0, .bool false, .bool false, .bool false, .slice (some ⟨6, 20, none⟩) 3 3, .bool false, .bool false, .bool false, .slice (some ⟨6, 23, none⟩) 2 2, .bool false, .bool false, .bool false, .slice (some ⟨6, 25, none⟩) 4 4, .bool false, .bool false, .bool false, .slice (some ⟨6, 29, none⟩) 6 6, .bool false, .bool false, .bool false, .slice (some ⟨6, 35, none⟩) 5 5, .bool false, .bool false, .bool false, .slice (some ⟨6, 40, none⟩) 2 2, .bool false, .bool false, .bool false, .slice (some ⟨6, 42, none⟩) 4 4, .bool false, .bool false, .bool false, .slice none 0 0, .bool false, .bool false, .bool true, .slice none 0 0, .bool true, .bool true, .bool true, .slice none 0 0, .bool false, .bool true, .bool true, .slice (some ⟨6, 46, none⟩) 1 1, .bool false, .bool false, .bool false, .slice none 0 0, .bool false, .bool false, .bool false] t frozen
   | o => o }
end
end Go.Proofs.YtpfmnpaifchleaaGreatDoor
