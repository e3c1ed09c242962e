import Derived.Test.YtpfmnpaifchleaaGreatDoorYqe
namespace Go.Proofs.YtpfmnpaifchleaaGreatDoor
open Go Go.RowKit
set_option linter.unusedSimpArgs false
set_option linter.unusedVariables false
set_option maxRecDepth 100000
set_option maxHeartbeats 4000000
theorem PY (w0 : World) (Z : Nat → Prop) (hZ : HZ w0 Z) (mg : Nat) (mt : TypeId) (me : Int) (mr : List Value) (tA : Option Addr) (tc : Nat) (t : List Nd) (hShp : Cu w0 Z) (hm : (Res.box mg mt (.int .i64 me :: mr)).holds w0) (hmz : ¬ Z mg) (ht : N4 tA tc t w0 Z) (hsm : sml t := by exact ax) (hl : t.length ≤ 1000000 := by exact ax) :
    Calls Tryz.prog 22 [.pointer (some ⟨mg, 0, none⟩), .slice tA t.length tc].toArray w0 (fun e w' => ∃ (rA0 : Option Addr) (rc0 : Nat), e = .returned (.tuple #[.slice rA0 (if (if me = 0 then chk t else me) = 0 then t else []).length rc0, .int .i64 (if me = 0 then chk t else me)]) ∧ Fr (· = mg) w0 w' ∧ (Res.box mg mt (.int .i64 (if me = 0 then chk t else me) :: mr)).holds w' ∧ (Bw 4 rA0 ((if (if me = 0 then chk t else me) = 0 then t else []).length) rc0 (Cd (if (if me = 0 then chk t else me) = 0 then t else []))).φ w' (nxt Z w0 w')) := by
 have b0 := sM hm hmz hZ (zc (d := Br) hShp (zc ht zn))
 refine AE Tryz.func22 rfl Tryz.ntmps22 rfl fun c0 d0 => ?_
 refine rR d0 fun c0 f0 => ?_
 refine Gc (fun ga gw => Reg ga 26 [(0, .pointer (some ⟨mg, 0, none⟩)), (1, .slice tA t.length tc), (4, .slice none 0 0), (5, .int .i64 0), (1000000, .bool false)] ∧ St w0 Z (· = mg) gw [.box mg mt (.int .i64 (if (me = 0) then (chk t) else me) :: mr)] [Br, n4 tA tc t]) ?_ ?_
 refine rR f0 fun c0 d0 => ?_
 refine wcd d0 (fun c0 f0 => ?_) fun c0 h0 => ?_
 refine A0 ?_
 refine lR f0 fun d0 i0 => ?_
 have d0 := b0.nf
 refine kra i0 d0 Vb (DP _ _ d0.il _ _ _ (d0.g 0) (d0.g 1)) fun f0 j0 k0 m0 => ?_
 refine lR m0 fun k0 f0 => ?_
 refine sto 0 f0 j0 fun k0 m0 d0 i0 => ?_
 refine Ae ?_
 have hSj := i0
 exact AC ⟨(d0.sub (rc4 (rc rfl rnl))), by rw [(show ((if (me = 0) then (chk t) else me) : Int) = (chk t) by (simp only [Aw c0, At c0, bl]; done))]; exact hSj⟩
 refine Am ?_
 have hSj := b0
 exact AC ⟨(h0.sub (rc4 (rc rfl rnl))), by rw [(show ((if (me = 0) then (chk t) else me) : Int) = me by (simp only [Ai c0, Aq c0, bl]; done))]; exact hSj⟩
 rintro h0 c0 ⟨b0, d0⟩
 refine Ac fun c0 h0 => rR b0 fun c0 i0 => ?_
 refine wce i0 (fun c0 b0 => ?_) fun c0 m0 => ?_
 refine Am <| xn h0 <| rR b0 fun h0 i0 => ?_
 refine rt2 i0 ?_
 have i0 : (if (if me = 0 then chk t else me) = 0 then t else []) = t := by simp [c0]
 rw [i0]
 refine ⟨tA, tc, ?_, d0.fr, (by rw [show (if me = 0 then chk t else me : Int) = (if (me = 0) then (chk t) else me) by (simp [c0]; done)]; exact d0.res (i := 0) rfl), d0.rx 1⟩
 exact Bj rfl (Bz (by (simp [c0]; done)))
 refine Ac fun i0 h0 => ?_
 obtain ⟨i0, b0, k0⟩ := d0.agree
 refine Cj (n := 6) k0 2 (pc 0 0 pn) (A5 (A5 BC)) fun b0 i0 d0 f0 j0 n0 => ?_
 refine dR [0, 1, 2, 3, 4, 5] m0 fun n0 f0 => ?_
 refine AL (by kernel_rfl) (d0 _ _ ?_) _
 refine xn h0 <| rt2 f0 ?_
 have f0 : (if (if me = 0 then chk t else me) = 0 then t else []) = [] := by simp [c0]
 rw [f0]
 refine ⟨none, 0, ?_, j0.fr, (by rw [show (if me = 0 then chk t else me : Int) = (if (me = 0) then (chk t) else me) by (simp [c0]; done)]; exact j0.res (i := 0) rfl), ⟨Af _, RowI.nil _ _ _ _⟩⟩
 exact Bj rfl (Bz (by (simp [c0]; done)))
theorem Ex (w0 : World) (Z : Nat → Prop) (hZ : HZ w0 Z) (mg : Nat) (mt : TypeId) (me : Int) (mr : List Value) (n : Nd) (pA : Option Addr) (pc : Nat) (p : List Sl) (hm : (Res.box mg mt (.int .i64 me :: mr)).holds w0) (hmz : ¬ Z mg) (hp : (Bw 1 pA p.length pc (B7 p)).φ w0 Z) (hps : (Cl p).φ w0 Z) (hl : p.length ≤ 100 := by exact ax) (hb : ∀ s ∈ p, s.2.2.length ≤ 100000 := by exact ax) :
    Calls Tryz.prog 96 [.pointer (some ⟨mg, 0, none⟩), .agg #[.int .i64 (n.K), .int .i64 (n.N), .int .i64 (n.M), .string n.S], .slice pA p.length pc].toArray w0 (fun e w' => ∃ (rA0 : Option Addr) (rc0 : Nat) (rL0 : List Nd), e = .returned (.slice rA0 rL0.length rc0) ∧ Fr (· = mg) w0 w' ∧ (Res.box mg mt (.int .i64 me :: mr)).holds w' ∧ N4 rA0 rc0 rL0 w' (nxt Z w0 w') ∧ rL0 = noL me n (Bt p)) := by
 have b0 := sM hm hmz hZ (zc hp (zc hps zn))
 refine AE Tryz.func96 rfl Tryz.ntmps96 rfl fun c0 d0 => ?_
 refine wsc fun c0 f0 => bxx d0 b0 fun c0 h0 i0 j0 k0 => ?_
 refine aw j0 f0 fun h0 c0 => ?_
 refine Ac fun f0 h0 => rR c0 fun f0 j0 => ?_
 refine wce j0 (fun f0 c0 => ?_) fun f0 d0 => ?_
 refine Am <| xn h0 <| rR c0 fun h0 f0 => ?_
 refine Ac fun h0 c0 => rR f0 fun h0 j0 => ?_
 refine A4 ?_
 have h0 := k0.nilrow 30 4
 refine AH (fun gn ga gw => ∃ k : Nat, ∃ Ao : Option Addr, ∃ co : Nat, (Reg ga 29 [(1000000, .bool false), (4, .pointer (some ⟨i0, 0, none⟩)), (6, .slice none 0 0), (15, .slice pA p.length pc), (16, .int .i64 (p.length : Int)), (17, .int .i64 (k : Int)), (7, .slice Ao (((Bt (p.take k)).flatten).length) co)]) ∧ (St w0 Z (· = mg) gw [.box mg mt (.int .i64 me :: mr), .box i0 30 [.int .i64 (n.K), .int .i64 (n.N), .int .i64 (n.M), .string n.S], .row Ao (((Bt (p.take k)).flatten).length) co 30 4 (Cd ((Bt (p.take k)).flatten))] [Bw 1 pA p.length pc (B7 p), Cl p]) ∧ (k ≤ p.length) ∧ (p.length - k) = gn) _ ⟨0, none, 0, (j0.sub (rc4 (rc2 (rc rfl rnl)))), h0, by omega, rfl⟩ ?_
 rintro h0 j0 i0 ⟨k, Ao, co, f0, b0, hk, m0⟩
 have hfl := WD hb hk
 refine rR f0 fun m0 i0 => ?_
 refine Ac fun m0 f0 => wcd i0 (fun m0 j0 => ?_) fun m0 h0 => ?_
 refine Am <| xn f0 <| Ac fun f0 m0 => A4 ?_
 refine wsc fun f0 i0 => ix k (k * 1) j0 (BD (t := p) (k := k) (b0.row (i := 0) rfl).2 (by omega)).some_ fun f0 n0 => ?_
 refine lde 0 (k * 1) n0 (BD (t := p) (k := k) (b0.row (i := 0) rfl).2 (by omega)) fun f0 j0 => ?_
 have f0 := b0.el 1 k
 refine asg j0 fun n0 o0 => ?_
 refine Ae (AC (i0 _ _ (A0 ?_)))
 refine lR o0 fun i0 n0 => ?_
 refine BL (f := Eb) (i := 2) ((Bt (p.take k)).flatten) ((BF p k).2.2) sv n0 f0 rfl rfl rfl rfl rfl Cq (Dz _) Au Qj rfl rfl (f0.row (i := 2) rfl).2.news rfl (by omega) (by decide) fun i0 o0 j0 p0 q0 s0 t0 => ?_
 have q0 : (((Bt (p.take k)).flatten) ++ ((BF p k).2.2)).length = ((Bt (p.take k)).flatten).length + (BF p k).2.2.length := by (simp only [Ab, Ah, Ad, Aj]; done)
 refine asg s0 fun q0 o0 => ?_
 refine Ae ?_
 refine A7 <| xn m0 <| A0 ?_
 refine adi ((k + 1 : Nat) : Int) o0 fun m0 q0 => ?_
 refine mv q0 fun m0 o0 => ?_
 refine Ae ?_
 have m0 : ((Bt (p.take k)).flatten) ++ ((BF p k).2.2) = (Bt (p.take (k + 1))).flatten := (Hl (by omega)).symm
 have q0 := o0
 have o0 := t0
 rw [m0] at q0 o0
 have m0 := o0.forget 2
 exact ⟨_, by omega, k + 1, j0, p0, (q0.sub (rc4 (rc2 (rc rfl rnl)))), m0, by omega, rfl⟩
 refine xe ?_
 refine xn c0 <| wsc fun c0 m0 => lR h0 fun c0 q0 => ?_
 refine bsl q0 b0 fun c0 h0 p0 j0 o0 => ?_
 refine BL (f := Eb) (i := 2) ((Bt (p.take k)).flatten) ([n]) sv j0 o0 rfl rfl rfl rfl rfl Cq (Dz _) Au Qj rfl rfl (BU (f := Eb) (o0.res (i := 3) rfl)) rfl (by (simp only [Ad, Aj]; omega)) (by decide) fun p0 h0 c0 q0 b0 t0 s0 => ?_
 have b0 : (((Bt (p.take k)).flatten) ++ ([n]) : List Nd).length = ((Bt (p.take k)).flatten).length + 1 := by (simp only [Ab, Ah, Ad, Aj]; done)
 have b0 := s0.erase 3
 refine aw t0 m0 fun s0 h0 => ?_
 refine rt1 h0 ?_
 have h0 := Db (b0.res (i := 2) rfl)
 obtain ⟨m0, s0⟩ := b0.row_dataM (i := 2) rfl (j := 0) rfl (by decide)
 have b0 := m0.data (Bw 4 c0 ((((Bt (p.take k)).flatten) ++ ([n]) : List Nd).length) q0 (Cd (((Bt (p.take k)).flatten) ++ ([n])))) ⟨h0, s0⟩
 refine ⟨c0, q0, (((Bt (p.take k)).flatten) ++ ([n])), ?_, b0.fr, b0.res (i := 0) rfl, b0.rx 2, (by unfold noL; rw [At (by assumption), AM (by omega)])⟩
 exact cre (CZ (by rfl))
 refine rR d0 fun b0 q0 => ?_
 refine rt1 q0 ?_
 refine ⟨none, 0, [], ?_, k0.fr, k0.res (i := 0) rfl, ⟨Af _, RowI.nil _ _ _ _⟩, (by unfold noL; rw [Aq (by assumption)])⟩
 exact cre (CZ (by rfl))
theorem JH (w0 : World) (Z : Nat → Prop) (hZ : HZ w0 Z) (mg : Nat) (mt : TypeId) (me : Int) (mr : List Value) (hm : (Res.box mg mt (.int .i64 me :: mr)).holds w0) (hmz : ¬ Z mg) :
    Calls Tryz.prog 129 [.pointer (some ⟨mg, 0, none⟩)].toArray w0 (fun e w' => ∃ (rA0 : Option Addr) (rc0 : Nat) (rL0 : List Nd), e = .returned (.slice rA0 rL0.length rc0) ∧ Fr (· = mg) w0 w' ∧ (Res.box mg mt (.int .i64 me :: mr)).holds w' ∧ N4 rA0 rc0 rL0 w' (nxt Z w0 w') ∧ rL0 = noL me ⟨29, 0, 0, ⟨#[]⟩⟩ []) := by
 have b0 := sM hm hmz hZ zn
 refine AE Tryz.func129 rfl Tryz.ntmps129 rfl fun c0 d0 => ?_
 refine rR d0 fun c0 f0 => ?_
 refine wsc fun c0 d0 => mv f0 fun c0 h0 => ?_
 refine bld h0 fun c0 f0 => ?_
 have c0 := b0.nf
 refine kcl f0 Wg (Ex _ _ c0.il _ _ _ _ (⟨29, 0, 0, (⟨#[]⟩ : ByteArray)⟩ : Nd) none 0 [] (c0.z 0) (Ca (i := 0) rfl) ⟨Af _, RowI.nil _ _ _ _⟩ Cp) ?_
 rintro f0 b0 ⟨h0, i0, j0, rfl, k0, m0, n0, o0⟩
 have b0 := c0.callM (i := 0) rfl k0 m0
 have m0 := c0.dM 0 b0 n0
 refine ⟨_, rfl, fun b0 n0 => ?_⟩
 refine aw n0 d0 fun b0 c0 => ?_
 refine rt1 c0 ?_
 refine ⟨h0, i0, j0, ?_, m0.fr, m0.res (i := 0) rfl, m0.rx 0, (by exact o0)⟩
 exact cre (CZ (by rfl))
theorem Kp (w0 : World) (Z : Nat → Prop) (hZ : HZ w0 Z) (mg : Nat) (mt : TypeId) (me : Int) (mr : List Value) (ee : Int) (hm : (Res.box mg mt (.int .i64 me :: mr)).holds w0) (hmz : ¬ Z mg) :
    Calls Tryz.prog 111 [.pointer (some ⟨mg, 0, none⟩), .int .i64 ee].toArray w0 (fun e w' => ∃ (rA0 : Option Addr) (rc0 : Nat), e = .returned (.slice rA0 ([] : List Nd).length rc0) ∧ Fr (· = mg) w0 w' ∧ (Res.box mg mt (.int .i64 (if me = 0 then ee else me) :: mr)).holds w' ∧ N4 rA0 rc0 ([] : List Nd) w' (nxt Z w0 w')) := by
 have b0 := sM hm hmz hZ zn
 refine AE Tryz.func111 rfl Tryz.ntmps111 rfl fun c0 d0 => ?_
 refine rR d0 fun c0 f0 => ?_
 refine Ac fun c0 d0 => rR f0 fun c0 h0 => ?_
 refine wcd h0 (fun c0 f0 => ?_) fun c0 i0 => ?_
 refine A0 ?_
 refine lR f0 fun c0 h0 => ?_
 refine sto 0 h0 b0 fun c0 f0 j0 k0 => ?_
 refine wn d0 <| rR j0 fun f0 c0 => ?_
 refine rt1 c0 ?_
 have c0 : ([] : List Nd) = [] := rfl
 rw [c0]
 refine ⟨none, 0, ?_, k0.fr, (by rw [show (if me = 0 then ee else me : Int) = ee by omega]; exact k0.res (i := 0) rfl), ⟨Af _, RowI.nil _ _ _ _⟩⟩
 exact cre rfl
 refine Am <| xn d0 <| rR i0 fun d0 k0 => ?_
 refine rt1 k0 ?_
 have k0 : ([] : List Nd) = [] := rfl
 rw [k0]
 refine ⟨none, 0, ?_, b0.fr, (by rw [show (if me = 0 then ee else me : Int) = me by omega]; exact b0.res (i := 0) rfl), ⟨Af _, RowI.nil _ _ _ _⟩⟩
 exact cre rfl
theorem Tn (w0 : World) (Z : Nat → Prop) (hZ : HZ w0 Z) (mg : Nat) (mt : TypeId) (me : Int) (mr : List Value) (tA : Option Addr) (tc : Nat) (t : List Nd) (n : Int) (k : Int) (hShp : Cu w0 Z) (hm : (Res.box mg mt (.int .i64 me :: mr)).holds w0) (hmz : ¬ Z mg) (ht : N4 tA tc t w0 Z) (hsm : sml t := by exact ax) (hl : t.length ≤ 1000000 := by exact ax) :
    Calls Tryz.prog 109 [.pointer (some ⟨mg, 0, none⟩), .slice tA t.length tc, .int .i64 n, .int .i64 k].toArray w0 (fun e w' => ∃ (rA0 : Option Addr) (rc0 : Nat) (rL0 : List Nd), e = .returned (.slice rA0 rL0.length rc0) ∧ Fr (· = mg) w0 w' ∧ (Res.box mg mt (.int .i64 (upE me t n k) :: mr)).holds w' ∧ N4 rA0 rc0 rL0 w' (nxt Z w0 w') ∧ rL0 = upL me t n k) := by
 have b0 := sM hm hmz hZ (zc (d := Br) hShp (zc ht zn))
 refine AE Tryz.func109 rfl Tryz.ntmps109 rfl fun c0 d0 => ?_
 refine rR d0 fun c0 f0 => ?_
 refine Ac fun c0 d0 => rR f0 fun c0 h0 => ?_
 refine wce h0 (fun c0 f0 => ?_) fun c0 i0 => ?_
 refine Am <| xn d0 <| wsc fun d0 h0 => lR f0 fun d0 j0 => ?_
 have d0 := b0.nf
 refine kcl j0 ok137 (Iz _ _ d0.il _ _ _ n k (d0.g 0) (d0.g 1)) ?_
 rintro j0 f0 ⟨k0, m0, rfl, n0, o0, p0⟩
 have f0 := d0.callO n0 o0 p0
 refine ⟨_, rfl, fun p0 o0 => ?_⟩
 refine lR o0 fun p0 n0 => ?_
 refine wn h0 <| Ac fun h0 p0 => rR n0 fun h0 o0 => ?_
 refine wce o0 (fun h0 n0 => ?_) fun h0 d0 => ?_
 refine Am <| xn p0 <| rR n0 fun p0 o0 => ?_
 refine rt1 o0 ?_
 have o0 := Db (f0.res (i := 1) rfl)
 obtain ⟨p0, n0⟩ := f0.row_dataM (i := 1) rfl (j := 0) rfl (by decide)
 have j0 := p0.data (n4 k0 m0 (sfA t n k)) ⟨o0, n0⟩
 refine ⟨k0, m0, (sfA t n k), ?_, j0.fr, (by rw [show (upE me t n k : Int) = me by (simp [upE, inQ, c0, h0]; done)]; exact j0.res (i := 0) rfl), j0.rx 2, (by unfold upL; rw [At (by assumption)])⟩
 exact cre (CZ (by rfl))
 refine wsc fun j0 m0 => lR d0 fun j0 k0 => ?_
 have j0 := f0.nf
 refine kcl k0 ok111 (Kp _ _ j0.il _ _ _ _ (sfE t n k) (j0.z 0) (Ca (i := 0) rfl)) ?_
 rintro k0 f0 ⟨d0, n0, rfl, p0, o0, q0⟩
 have f0 := j0.callM (i := 0) rfl p0 o0
 have o0 := j0.dM 0 f0 q0
 refine ⟨_, rfl, fun f0 q0 => ?_⟩
 refine aw q0 m0 fun f0 j0 => ?_
 refine rt1 j0 ?_
 refine ⟨d0, n0, ([] : List Nd), ?_, o0.fr, (by rw [show (upE me t n k : Int) = (if me = 0 then (sfE t n k) else me) by (simp [upE, inQ, c0, h0]; done)]; exact o0.res (i := 0) rfl), o0.rx 2, (by unfold upL; first | (rw [Aq (by assumption)]; done) | (rw [At (by assumption), LL (by assumption)]; done))⟩
 exact cre (CZ (by rfl))
 refine rR i0 fun o0 n0 => ?_
 refine rt1 n0 ?_
 refine ⟨none, 0, [], ?_, b0.fr, (by rw [show (upE me t n k : Int) = me by (simp [upE, inQ, c0]; done)]; exact b0.res (i := 0) rfl), ⟨Af _, RowI.nil _ _ _ _⟩, (by unfold upL; first | (rw [Aq (by assumption)]; done) | (rw [At (by assumption), LL (by assumption)]; done))⟩
 exact cre (CZ (by rfl))
theorem IP (w0 : World) (Z : Nat → Prop) (hZ : HZ w0 Z) (mg : Nat) (mt : TypeId) (me : Int) (mr : List Value) (tA : Option Addr) (tc : Nat) (t : List Nd) (psA : Option Addr) (psc : Nat) (ps : List Sl) (hShp : Cu w0 Z) (hm : (Res.box mg mt (.int .i64 me :: mr)).holds w0) (hmz : ¬ Z mg) (ht : N4 tA tc t w0 Z) (hps : (Bw 1 psA ps.length psc (B7 ps)).φ w0 Z) (hpss : (Cl ps).φ w0 Z) (hsm : sml t := by exact ax) (hl : t.length ≤ 1000000 := by exact ax) (hls : ∀ x ∈ Bt ps, sml x := by exact ax) (hlb : ∀ x ∈ Bt ps, x.length ≤ 1000000 := by exact ax) (hl0 : ps.length ≤ 1000 := by exact ax) :
    Calls Tryz.prog 75 [.pointer (some ⟨mg, 0, none⟩), .slice tA t.length tc, .slice psA ps.length psc].toArray w0 (fun e w' => ∃ (rA0 : Option Addr) (rc0 : Nat) (rL0 : List Nd), e = .returned (.slice rA0 rL0.length rc0) ∧ Fr (· = mg) w0 w' ∧ (Res.box mg mt (.int .i64 (inQ me t (Bt ps)) :: mr)).holds w' ∧ N4 rA0 rc0 rL0 w' (nxt Z w0 w') ∧ rL0 = inL me t (Bt ps)) := by
 have b0 := sM hm hmz hZ (zc (d := Br) hShp (zc ht (zc hps (zc hpss zn))))
 refine AE Tryz.func75 rfl Tryz.ntmps75 rfl fun c0 d0 => ?_
 refine rR d0 fun c0 f0 => ?_
 refine Ac fun c0 d0 => rR f0 fun c0 h0 => ?_
 refine wce h0 (fun c0 f0 => ?_) fun c0 i0 => ?_
 refine Am <| xn d0 <| wsc fun d0 h0 => lR f0 fun d0 j0 => ?_
 have d0 := b0.nf
 refine krb j0 d0 ok110 (PN _ _ d0.il _ _ _ _ _ _ (d0.g 0) (d0.g 1) (d0.g 2) (d0.g 3)) fun f0 k0 m0 n0 o0 p0 => ?_
 refine lR p0 fun o0 f0 => ?_
 refine wn h0 <| Ac fun h0 o0 => rR f0 fun h0 p0 => ?_
 refine wce p0 (fun h0 f0 => ?_) fun h0 d0 => ?_
 refine Am <| xn o0 <| rR f0 fun o0 p0 => ?_
 refine rt1 p0 ?_
 refine ⟨k0, m0, (inA t (Bt ps)), ?_, n0.fr, (by rw [show (inQ me t (Bt ps) : Int) = me by (simp [upE, inQ, c0, h0]; done)]; exact n0.res (i := 0) rfl), n0.rx 4, (by unfold inL; rw [At (by assumption)])⟩
 exact cre (CZ (by rfl))
 refine wsc fun m0 k0 => lR d0 fun m0 p0 => ?_
 have m0 := n0.nf
 refine kcl p0 ok111 (Kp _ _ m0.il _ _ _ _ (inE t (Bt ps)) (m0.z 0) (Ca (i := 0) rfl)) ?_
 rintro p0 n0 ⟨d0, o0, rfl, f0, j0, q0⟩
 have n0 := m0.callM (i := 0) rfl f0 j0
 have j0 := m0.dM 0 n0 q0
 refine ⟨_, rfl, fun n0 q0 => ?_⟩
 refine aw q0 k0 fun n0 m0 => ?_
 refine rt1 m0 ?_
 refine ⟨d0, o0, ([] : List Nd), ?_, j0.fr, (by rw [show (inQ me t (Bt ps) : Int) = (if me = 0 then (inE t (Bt ps)) else me) by (simp [upE, inQ, c0, h0]; done)]; exact j0.res (i := 0) rfl), j0.rx 5, (by unfold inL; first | (rw [Aq (by assumption)]; done) | (rw [At (by assumption), Vk (by assumption)]; done))⟩
 exact cre (CZ (by rfl))
 refine rR i0 fun j0 o0 => ?_
 refine rt1 o0 ?_
 refine ⟨none, 0, [], ?_, b0.fr, (by rw [show (inQ me t (Bt ps) : Int) = me by (simp [upE, inQ, c0]; done)]; exact b0.res (i := 0) rfl), ⟨Af _, RowI.nil _ _ _ _⟩, (by unfold inL; first | (rw [Aq (by assumption)]; done) | (rw [At (by assumption), Vk (by assumption)]; done))⟩
 exact cre (CZ (by rfl))
theorem Qs (w0 : World) (Z : Nat → Prop) (hZ : HZ w0 Z) (mg : Nat) (mt : TypeId) (me : Int) (mr : List Value) (n : Int) (hm : (Res.box mg mt (.int .i64 me :: mr)).holds w0) (hmz : ¬ Z mg) :
    Calls Tryz.prog 112 [.pointer (some ⟨mg, 0, none⟩), .int .i64 n].toArray w0 (fun e w' => ∃ (rA0 : Option Addr) (rc0 : Nat) (rL0 : List Nd), e = .returned (.slice rA0 rL0.length rc0) ∧ Fr (· = mg) w0 w' ∧ (Res.box mg mt (.int .i64 me :: mr)).holds w' ∧ N4 rA0 rc0 rL0 w' (nxt Z w0 w') ∧ rL0 = noL me ⟨0, n, 0, ⟨#[]⟩⟩ []) := by
 have b0 := sM hm hmz hZ zn
 refine AE Tryz.func112 rfl Tryz.ntmps112 rfl fun c0 d0 => ?_
 refine rR d0 fun c0 f0 => ?_
 refine wsc fun c0 d0 => lR f0 fun c0 h0 => ?_
 refine bld h0 fun c0 f0 => ?_
 have c0 := b0.nf
 refine kcl f0 Wg (Ex _ _ c0.il _ _ _ _ (⟨0, n, 0, (⟨#[]⟩ : ByteArray)⟩ : Nd) none 0 [] (c0.z 0) (Ca (i := 0) rfl) ⟨Af _, RowI.nil _ _ _ _⟩ Cp) ?_
 rintro f0 b0 ⟨h0, i0, j0, rfl, k0, m0, n0, o0⟩
 have b0 := c0.callM (i := 0) rfl k0 m0
 have m0 := c0.dM 0 b0 n0
 refine ⟨_, rfl, fun b0 n0 => ?_⟩
 refine aw n0 d0 fun b0 c0 => ?_
 refine rt1 c0 ?_
 refine ⟨h0, i0, j0, ?_, m0.fr, m0.res (i := 0) rfl, m0.rx 0, (by exact o0)⟩
 exact cre (CZ (by rfl))
theorem Nu (w0 : World) (Z : Nat → Prop) (hZ : HZ w0 Z) (mg : Nat) (mt : TypeId) (me : Int) (mr : List Value) (n : Int) (tA : Option Addr) (tc : Nat) (t : List Nd) (hm : (Res.box mg mt (.int .i64 me :: mr)).holds w0) (hmz : ¬ Z mg) (ht : N4 tA tc t w0 Z) (h0 : 0 ≤ n := by exact ax) (hn : n < 1000 := by exact ax) :
    Calls Tryz.prog 134 [.pointer (some ⟨mg, 0, none⟩), .int .i64 n, .slice tA t.length tc].toArray w0 (fun e w' => ∃ (rA0 : Option Addr) (rc0 : Nat) (rL0 : List Nd), e = .returned (.slice rA0 rL0.length rc0) ∧ Fr (· = mg) w0 w' ∧ (Res.box mg mt (.int .i64 me :: mr)).holds w' ∧ N4 rA0 rc0 rL0 w' (nxt Z w0 w') ∧ rL0 = plL me n t) := by
 have b0 := sM hm hmz hZ (zc ht zn)
 refine AE Tryz.func134 rfl Tryz.ntmps134 rfl fun c0 d0 => ?_
 refine rR d0 fun c0 f0 => ?_
 refine Ac fun c0 d0 => wsc fun c0 i0 => mv f0 fun c0 j0 => ?_
 refine LZ (v := .int .i64 (GF n 2)) sv j0 rfl rfl rfl rfl (by decide) (Ov (b := 2) (by omega) (by omega) (by decide)) fun c0 f0 => ?_
 refine lR f0 fun c0 j0 => ?_
 refine wn i0 <| wcd j0 (fun i0 c0 => ?_) fun i0 f0 => ?_
 refine wsc fun i0 j0 => mv c0 fun i0 k0 => ?_
 have i0 := b0.nf
 refine kcl k0 ok129 (JH _ _ i0.il _ _ _ _ (i0.z 0) (Ca (i := 0) rfl)) ?_
 rintro k0 c0 ⟨m0, n0, o0, rfl, p0, q0, s0, t0⟩
 have t0 := i0.callM (i := 0) rfl p0 q0
 have q0 := i0.dM 0 t0 s0
 refine ⟨_, rfl, fun t0 s0 => ?_⟩
 refine aw s0 j0 fun t0 i0 => ?_
 refine rt1 i0 ?_
 refine ⟨m0, n0, o0, ?_, q0.fr, q0.res (i := 0) rfl, q0.rx 1, (by unfold plL; first | (rw [Aq (by assumption)]; done) | (rw [At (by assumption)]; assumption))⟩
 exact cre (CZ (by rfl))
 refine Am <| xn d0 <| rR f0 fun d0 q0 => ?_
 refine rt1 q0 ?_
 refine ⟨tA, tc, t, ?_, b0.fr, b0.res (i := 0) rfl, b0.rx 0, (by unfold plL; first | (rw [Aq (by assumption)]; done) | (rw [At (by assumption)]; assumption))⟩
 exact cre (CZ (by rfl))
theorem Nz (w0 : World) (Z : Nat → Prop) (hZ : HZ w0 Z) (mg : Nat) (mt : TypeId) (me : Int) (mr : List Value) (tA : Option Addr) (tc : Nat) (t : List Nd) (hShp : Cu w0 Z) (hm : (Res.box mg mt (.int .i64 me :: mr)).holds w0) (hmz : ¬ Z mg) (ht : N4 tA tc t w0 Z) (hsm : sml t := by exact ax) (hl : t.length ≤ 1000000 := by exact ax) (hc : chk t = 0 := by exact ax) :
    Calls Tryz.prog 132 [.pointer (some ⟨mg, 0, none⟩), .slice tA t.length tc].toArray w0 (fun e w' => ∃ (rA0 : Option Addr) (rc0 : Nat) (rL0 : List Sl), e = .returned (.slice rA0 rL0.length rc0) ∧ Fr (· = mg) w0 w' ∧ (Res.box mg mt (.int .i64 me :: mr)).holds w' ∧ (Bw 1 rA0 rL0.length rc0 (B7 rL0)).φ w' (nxt Z w0 w') ∧ (Cl rL0).φ w' (nxt Z w0 w') ∧ Bt rL0 = agA t) := by
 have b0 := sM hm hmz hZ (zc (d := Br) hShp (zc ht zn))
 refine AE Tryz.func132 rfl Tryz.ntmps132 rfl fun c0 d0 => ?_
 refine rR d0 fun c0 f0 => ?_
 refine wsc fun c0 d0 => mv f0 fun c0 h0 => ?_
 have c0 := b0.nf
 refine krd h0 c0 ok84 (HB _ _ c0.il _ _ _ (c0.g 0) (c0.g 1)) fun b0 f0 i0 j0 k0 m0 n0 o0 => ?_
 refine lR o0 fun n0 b0 => ?_
 refine wn d0 <| Ac fun d0 n0 => rR b0 fun d0 o0 => ?_
 have d0 : (chk t) = 0 := hc
 refine U1 o0 rfl (by rw [(Aw d0)]; rfl) fun b0 => ?_
 refine Am <| xn n0 <| rR b0 fun n0 d0 => ?_
 refine rt1 d0 ?_
 refine ⟨f0, i0, j0, ?_, m0.fr, m0.res (i := 0) rfl, m0.rx 2, m0.rx 3, k0⟩
 exact cre (CZ (by rfl))
theorem Pn (w0 : World) (Z : Nat → Prop) (hZ : HZ w0 Z) (mg : Nat) (mt : TypeId) (me ma : Int) (mr : List Value) (p : Int) (hm : (Res.box mg mt (.int .i64 me :: .int .i64 ma :: mr)).holds w0) (hmz : ¬ Z mg) (hma : -1000 ≤ ma ∧ ma ≤ 1000 := by exact ax) (hp : -1000 ≤ p ∧ p ≤ 1000 := by exact ax) :
    Calls Tryz.prog 76 [.pointer (some ⟨mg, 0, none⟩), .int .i64 p].toArray w0 (fun e w' => ∃ (rA0 : Option Addr) (rc0 : Nat) (rL0 : List Nd), e = .returned (.slice rA0 rL0.length rc0) ∧ Fr (· = mg) w0 w' ∧ (Res.box mg mt (.int .i64 me :: .int .i64 ma :: mr)).holds w' ∧ N4 rA0 rc0 rL0 w' (nxt Z w0 w') ∧ rL0 = atL me ma p) := by
 have b0 := sM hm hmz hZ zn
 refine AE Tryz.func76 rfl Tryz.ntmps76 rfl fun c0 d0 => ?_
 refine rR d0 fun c0 f0 => ?_
 refine Ac fun c0 d0 => ?_
 obtain ⟨c0, h0, i0⟩ := b0.agree
 refine Cj (n := 11) i0 0 (pc 0 0 (pc 0 1 pn)) (A5 BC) fun h0 c0 b0 j0 k0 m0 => ?_
 refine dR [0, 1, 2, 3, 4, 5, 6, 7] f0 fun j0 h0 => ?_
 refine dt 8 rfl c0 h0 (AJ rfl) (fun x hx => P3 (z := (ma - p)) (sy h0) h0 rfl rfl rfl rfl (by decide) (by omega) (by omega) (by omega) gt) m0 fun j0 f0 => ?_
 refine d1 9 ?_
 have j0 := k0.nf
 refine kcl f0 ok112 (Qs _ _ j0.il _ _ _ _ (ma - p) (j0.z 0) (Ca (i := 0) rfl)) ?_
 rintro f0 k0 ⟨h0, m0, c0, rfl, i0, n0, o0, p0⟩
 have k0 := j0.callM (i := 0) rfl i0 n0
 have n0 := j0.dM 0 k0 o0
 refine ⟨_, rfl, fun k0 o0 => ?_⟩
 have k0 := sWI n0 0 (pc 0 0 (pc 0 1 pn))
 refine ⟨k0, ?_⟩
 refine dR [10] o0 fun k0 j0 => ?_
 refine AL (by kernel_rfl) (b0 _ _ ?_) _
 refine xn d0 <| rt1 j0 ?_
 refine ⟨h0, m0, c0, ?_, n0.fr, n0.res (i := 0) rfl, n0.rx 1, (by exact p0)⟩
 exact cre (CZ (by rfl))
theorem Kn (w0 : World) (Z : Nat → Prop) (hZ : HZ w0 Z) (mg : Nat) (mt : TypeId) (me ma : Int) (mr : List Value) (tA : Option Addr) (tc : Nat) (t : List Nd) (k : Int) (hShp : Cu w0 Z) (hm : (Res.box mg mt (.int .i64 me :: .int .i64 ma :: mr)).holds w0) (hmz : ¬ Z mg) (ht : N4 tA tc t w0 Z) (hsm : sml t := by exact ax) (hl : t.length ≤ 1000000 := by exact ax) :
    Calls Tryz.prog 73 [.pointer (some ⟨mg, 0, none⟩), .slice tA t.length tc, .int .i64 k].toArray w0 (fun e w' => ∃ (rA0 : Option Addr) (rc0 : Nat) (rL0 : List Nd), e = .returned (.slice rA0 rL0.length rc0) ∧ Fr (· = mg) w0 w' ∧ (Res.box mg mt (.int .i64 (upE me t ma k) :: .int .i64 ma :: mr)).holds w' ∧ N4 rA0 rc0 rL0 w' (nxt Z w0 w') ∧ rL0 = upL me t ma k) := by
 have b0 := sM hm hmz hZ (zc (d := Br) hShp (zc ht zn))
 refine AE Tryz.func73 rfl Tryz.ntmps73 rfl fun c0 d0 => ?_
 refine rR d0 fun c0 f0 => ?_
 refine Ac fun c0 d0 => ?_
 obtain ⟨c0, h0, i0⟩ := b0.agree
 refine Cj (n := 11) i0 2 (pc 0 1 pn) (A5 BC) fun h0 c0 b0 j0 k0 m0 => ?_
 refine dR [0, 1, 2, 3, 4, 5, 6, 7, 8] f0 fun m0 j0 => ?_
 refine d1 9 ?_
 have m0 := k0.nf
 refine kcl j0 ok109 (Tn _ _ m0.il _ _ _ _ _ _ _ ma k (m0.g 0) (m0.z 0) (Ca (i := 0) rfl) (m0.g 1)) ?_
 rintro j0 k0 ⟨f0, c0, h0, rfl, i0, n0, o0, p0⟩
 have k0 := m0.callM (i := 0) rfl i0 n0
 have n0 := m0.dM 0 k0 o0
 refine ⟨_, rfl, fun k0 o0 => ?_⟩
 have k0 := sWI n0 2 (pc 0 1 pn)
 refine ⟨k0, ?_⟩
 refine dR [10] o0 fun k0 m0 => ?_
 refine AL (by kernel_rfl) (b0 _ _ ?_) _
 refine xn d0 <| rt1 m0 ?_
 refine ⟨f0, c0, h0, ?_, n0.fr, (by rw [show (upE me t ma k : Int) = (upE me t ma k) by rfl]; exact n0.res (i := 0) rfl), n0.rx 3, (by exact p0)⟩
 exact cre (CZ (by rfl))
theorem Hv (w0 : World) (Z : Nat → Prop) (hZ : HZ w0 Z) (cg : Nat) (ce : Int) (cn : Int) (cK : Value) (cL : Value) (cS : Value) (cT : Value) (cB : Value) (cC : Value) (ck : Value) (cst : Value) (cpr : Value) (cmoA : Option Addr) (cmoc : Nat) (cmo : List Nd) (cty : Value) (cpl : Value) (xA : Option Addr) (xc : Nat) (x : List Nd) (hShp : Cu w0 Z) (hc : (Res.box cg 59 [.int .i64 ce, .int .i64 cn, cK, cL, cS, cT, cB, cC, ck, cst, cpr, .slice cmoA cmo.length cmoc, cty, cpl]).holds w0) (hcz : ¬ Z cg) (hcmo : N4 cmoA cmoc cmo w0 Z) (hx : N4 xA xc x w0 Z) (hmo : sml cmo := by exact ax) (hml : cmo.length ≤ 100000 := by exact ax) (hsx : sml x := by exact ax) (hxl : x.length ≤ 1000000 := by exact ax) (hcn : -1000 ≤ cn ∧ cn ≤ 1000 := by exact ax) :
    Calls Tryz.prog 95 [.pointer (some ⟨cg, 0, none⟩), .slice xA x.length xc].toArray w0 (fun e w' => ∃ (rA0 : Option Addr) (rc0 : Nat) (rL0 : List Nd), e = .returned (.slice rA0 rL0.length rc0) ∧ Fr (· = cg) w0 w' ∧ (Res.box cg 59 [.int .i64 (HD ce cn cmo x), .int .i64 cn, cK, cL, cS, cT, cB, cC, ck, cst, cpr, .slice cmoA cmo.length cmoc, cty, cpl]).holds w' ∧ N4 rA0 rc0 rL0 w' (nxt Z w0 w') ∧ rL0 = K6 ce cn cmo x) := by
 have b0 := sM hc hcz hZ (zc (d := Br) hShp (zc hcmo (zc hx zn)))
 refine AE Tryz.func95 rfl Tryz.ntmps95 rfl fun c0 d0 => ?_
 refine rR d0 fun c0 f0 => ?_
 refine Ac fun c0 d0 => ?_
 obtain ⟨c0, h0, i0⟩ := b0.agree
 refine Cj (n := 16) i0 3 (pB 0 1 pn) (A5 BC) fun h0 c0 b0 j0 k0 m0 => ?_
 refine dR [0, 1, 2, 3, 4, 5, 6, 7, 8, 9, 10, 12] f0 fun m0 j0 => ?_
 refine wpAnyH_all (rs := [11, 13]) (by kernel_rfl) (by simp) ?_
 rintro i m0
 simp only [AD, AG, or_false] at m0
 rcases m0 with rfl | rfl
 have m0 := k0.nf
 refine kcl j0 ok73 (Kn _ _ m0.il _ _ _ _ _ _ _ _ 1 (m0.g 0) (m0.z 0) (Ca (i := 0) rfl) (m0.g 1)) ?_
 rintro f0 c0 ⟨h0, i0, n0, rfl, o0, p0, q0, s0⟩
 have i0 := m0.callM (i := 0) rfl o0 p0
 have p0 := m0.dM 0 i0 q0
 refine ⟨_, rfl, fun i0 q0 => ?_⟩
 obtain ⟨i0, m0⟩ := upZ s0 (by assumption)
 have m0 := sWI p0 3 (pB 0 1 pn)
 refine ⟨m0, ?_⟩
 refine d1 13 ?_
 have m0 := p0.data (Cl [((xA, xc, x) : Sl)]) (Cy (p0.get (i := 2) rfl) Cp)
 refine bsl q0 m0 fun p0 i0 s0 o0 h0 => ?_
 have i0 := sWI h0 3 (pB 0 1 pn)
 refine ⟨i0, ?_⟩
 refine d1 14 ?_
 have i0 := h0.nf
 have h0 := Db (i0.res (i := 1) rfl)
 obtain ⟨p0, m0⟩ := i0.row_dataM (i := 1) rfl (j := 0) rfl (by decide)
 have i0 := p0.data (Bw 1 (some ⟨s0, 0, none⟩) 1 1 (B7 ([((xA, xc, x) : Sl)]))) ⟨h0, m0⟩
 refine kcl o0 ok75 (IP _ _ i0.il _ _ _ _ _ _ _ _ _ ([((xA, xc, x) : Sl)]) (i0.g 0) (i0.z 0) (Ca (i := 0) rfl) (i0.g 4) (i0.g 6) (i0.g 5) (hsm := (by assumption)) (hl := (by omega)) (hls := (by simp only [Bt, BJ, C6, AD, AG, or_false, forall_eq_or_imp, forall_eq]; first | assumption | omega | (and_intros <;> first | assumption | omega))) (hlb := (by simp only [Bt, BJ, C6, AD, AG, or_false, forall_eq_or_imp, forall_eq]; first | assumption | omega | (and_intros <;> first | assumption | omega))) (hl0 := (by simp))) ?_
 rintro o0 m0 ⟨p0, h0, s0, rfl, q0, c0, f0, t0⟩
 have t0 := i0.callM (i := 0) rfl q0 c0
 have c0 := i0.dM 0 t0 f0
 refine ⟨_, rfl, fun t0 f0 => ?_⟩
 have t0 := sWI c0 3 (pB 0 1 pn)
 refine ⟨t0, ?_⟩
 refine dR [15] f0 fun t0 i0 => ?_
 refine AL (by kernel_rfl) (b0 _ _ ?_) _
 refine xn d0 <| rt1 i0 ?_
 refine ⟨p0, h0, s0, ?_, c0.fr, (by rw [show (HD ce cn cmo x : Int) = (inQ (upE ce cmo cn 1) n0 (Bt ([((xA, xc, x) : Sl)]))) by (first | rfl | (simp only [AQ, *]; done) | (simp only [AQ, *]; rfl))]; exact c0.res (i := 0) rfl), c0.rx 7, (by (simp only [AQ, *]; rfl))⟩
 exact cre (CZ (by rfl))
 have c0 := k0.data (Cl [((xA, xc, x) : Sl)]) (Cy (k0.get (i := 2) rfl) Cp)
 refine bsl j0 c0 fun k0 s0 h0 p0 n0 => ?_
 have s0 := sWI n0 3 (pB 0 1 pn)
 refine ⟨s0, ?_⟩
 refine d1 11 ?_
 have s0 := n0.nf
 refine kcl p0 ok73 (Kn _ _ s0.il _ _ _ _ _ _ _ _ 1 (s0.g 0) (s0.z 0) (Ca (i := 0) rfl) (s0.g 1)) ?_
 rintro p0 n0 ⟨k0, c0, j0, rfl, i0, t0, f0, q0⟩
 have c0 := s0.callM (i := 0) rfl i0 t0
 have t0 := s0.dM 0 c0 f0
 refine ⟨_, rfl, fun c0 f0 => ?_⟩
 obtain ⟨c0, s0⟩ := upZ q0 (by assumption)
 have s0 := sWI t0 3 (pB 0 1 pn)
 refine ⟨s0, ?_⟩
 refine d1 14 ?_
 have s0 := t0.nf
 have t0 := Db (s0.res (i := 1) rfl)
 obtain ⟨c0, q0⟩ := s0.row_dataM (i := 1) rfl (j := 0) rfl (by decide)
 have s0 := c0.data (Bw 1 (some ⟨h0, 0, none⟩) 1 1 (B7 ([((xA, xc, x) : Sl)]))) ⟨t0, q0⟩
 refine kcl f0 ok75 (IP _ _ s0.il _ _ _ _ _ _ _ _ _ ([((xA, xc, x) : Sl)]) (s0.g 0) (s0.z 0) (Ca (i := 0) rfl) (s0.g 5) (s0.g 6) (s0.g 4) (hsm := (by assumption)) (hl := (by omega)) (hls := (by simp only [Bt, BJ, C6, AD, AG, or_false, forall_eq_or_imp, forall_eq]; first | assumption | omega | (and_intros <;> first | assumption | omega))) (hlb := (by simp only [Bt, BJ, C6, AD, AG, or_false, forall_eq_or_imp, forall_eq]; first | assumption | omega | (and_intros <;> first | assumption | omega))) (hl0 := (by simp))) ?_
 rintro f0 q0 ⟨c0, t0, h0, rfl, i0, k0, n0, p0⟩
 have p0 := s0.callM (i := 0) rfl i0 k0
 have k0 := s0.dM 0 p0 n0
 refine ⟨_, rfl, fun p0 n0 => ?_⟩
 have p0 := sWI k0 3 (pB 0 1 pn)
 refine ⟨p0, ?_⟩
 refine dR [15] n0 fun p0 s0 => ?_
 refine AL (by kernel_rfl) (b0 _ _ ?_) _
 refine xn d0 <| rt1 s0 ?_
 refine ⟨c0, t0, h0, ?_, k0.fr, (by rw [show (HD ce cn cmo x : Int) = (inQ (upE ce cmo cn 1) j0 (Bt ([((xA, xc, x) : Sl)]))) by (first | rfl | (simp only [AQ, *]; done) | (simp only [AQ, *]; rfl))]; exact k0.res (i := 0) rfl), k0.rx 7, (by (simp only [AQ, *]; rfl))⟩
 exact cre (CZ (by rfl))
theorem Jq (w0 : World) (Z : Nat → Prop) (hZ : HZ w0 Z) (cg : Nat) (ce : Int) (cn : Int) (cK : Value) (cL : Value) (cS : Value) (cT : Value) (cB : Value) (cC : Value) (ck : Value) (cstA : Option Addr) (cstc : Nat) (cst : List Bool) (cpr : Value) (cmo : Value) (cty : Value) (cplA : Option Addr) (cplc : Nat) (cpl : List Int) (i : Nat) (hc : (Res.box cg 59 [.int .i64 ce, .int .i64 cn, cK, cL, cS, cT, cB, cC, ck, .slice cstA cst.length cstc, cpr, cmo, cty, .slice cplA cpl.length cplc]).holds w0) (hcz : ¬ Z cg) (hcpl : (Res.row cplA cpl.length cplc 3 1 (BN cpl)).holds w0) (hcplz : ∀ k, rM cplA k → ¬ Z k) (hcpln : ∀ k, rM cplA k → k ≠ cg) (hcst : (Bw 1 cstA cst.length cstc (D2 cst)).φ w0 Z) (hi : i < cst.length := by exact ax) (hi2 : i < cpl.length := by exact ax) (hcn : -1000 ≤ cn ∧ cn ≤ 1000 := by exact ax) (hpl : ∀ j, -1000 ≤ Ci cpl j ∧ Ci cpl j ≤ 1000 := by exact ax) :
    Calls Tryz.prog 94 [.pointer (some ⟨cg, 0, none⟩), .int .i64 (i : Int)].toArray w0 (fun e w' => ∃ (rA0 : Option Addr) (rc0 : Nat) (rL0 : List Nd), e = .returned (.slice rA0 rL0.length rc0) ∧ Fr (fun k => k = cg ∨ rM cplA k) w0 w' ∧ (Res.box cg 59 [.int .i64 ce, .int .i64 cn, cK, cL, cS, cT, cB, cC, ck, .slice cstA cst.length cstc, cpr, cmo, cty, .slice cplA cpl.length cplc]).holds w' ∧ (Res.row cplA cpl.length cplc 3 1 (BN cpl)).holds w' ∧ N4 rA0 rc0 rL0 w' (nxt Z w0 w') ∧ rL0 = Gf ce cn cst cpl i) := by
 have hstart : ∀ k, Z k → imm Z w0 [.box cg 59 [.int .i64 ce, .int .i64 cn, cK, cL, cS, cT, cB, cC, ck, .slice cstA cst.length cstc, cpr, cmo, cty, .slice cplA cpl.length cplc], .row cplA cpl.length cplc 3 1 (BN cpl)] w0 k ∧ w0.heap[k]? = w0.heap[k]? := fun k hk => Dm hZ hcz hcplz hk
 have b0 : St w0 Z (fun k => k = cg ∨ rM cplA k) w0 [.box cg 59 [.int .i64 ce, .int .i64 cn, cK, cL, cS, cT, cB, cC, ck, .slice cstA cst.length cstc, cpr, cmo, cty, .slice cplA cpl.length cplc], .row cplA cpl.length cplc 3 1 (BN cpl)] [Bw 1 cstA cst.length cstc (D2 cst)] := D3 w0 Z _ hc hcpl hcpln (by
  intro d hd
  simp only [AD, AG, or_false] at hd
  rcases hd with rfl
  exact Dat.mono _ _ _ _ _ (Af _) hcst hstart
  )
 refine AE Tryz.func94 rfl Tryz.ntmps94 rfl fun c0 d0 => ?_
 refine rR d0 fun c0 f0 => ?_
 refine Ac fun c0 d0 => wsc fun c0 h0 => lR f0 fun c0 i0 => ?_
 refine ix i (i * 1) i0 (DX (t := cst) (k := i) (b0.row (i := 0) rfl).2 (by omega)).some_ fun c0 f0 => ?_
 refine lde 0 (i * 1) f0 (DX (t := cst) (k := i) (b0.row (i := 0) rfl).2 (by omega)) fun c0 i0 => ?_
 refine wn h0 <| wcg i0 (fun h0 c0 => ?_) fun h0 f0 => ?_
 refine wsc fun i0 j0 => lR c0 fun i0 k0 => ?_
 have i0 := b0.nf
 refine kcl k0 ok129 (JH _ _ i0.il _ _ _ _ (i0.z 0) (Ca (i := 0) rfl)) ?_
 rintro k0 c0 ⟨m0, n0, o0, rfl, p0, q0, s0, t0⟩
 have c0 := i0.callM (i := 0) rfl p0 q0
 have q0 := i0.dM 0 c0 s0
 refine ⟨_, rfl, fun c0 s0 => ?_⟩
 refine aw s0 j0 fun c0 i0 => ?_
 refine rt1 i0 ?_
 refine ⟨m0, n0, o0, ?_, q0.fr, q0.res (i := 0) rfl, q0.res (i := 1) rfl, q0.rx 1, (by unfold Gf; first | (rw [At (by assumption)]; exact t0) | (rw [Aq (by simp [h0])]; exact t0))⟩
 exact cre (CZ (by rfl))
 refine Am <| xn d0 <| Ac fun d0 q0 => ?_
 obtain ⟨d0, t0, o0⟩ := b0.agree
 refine Cj (n := 12) o0 1 (pB 0 0 (pr 1 pn)) (A5 BC) fun t0 d0 b0 n0 m0 i0 => ?_
 refine dR [0, 1, 2, 3, 4, 5, 6, 7] f0 fun i0 n0 => ?_
 refine dix 8 i (i * 1) n0 (fun x hx => (EZ (t := cpl) (k := i) (m0.res (i := 1) rfl) (by omega)).some_) fun i0 f0 => ?_
 refine dle 9 0 (i * 1) f0 (fun x hx => EZ (t := cpl) (k := i) (hx.r 14) (by omega)) fun i0 n0 => ?_
 refine d1 10 ?_
 have i0 := m0.nf
 refine kcl n0 ok76 (Pn _ _ i0.il _ _ _ _ _ (Ci cpl i) (i0.z 0) (Ca (i := 0) rfl) (hma := hcn) (hp := (hpl i))) ?_
 rintro n0 m0 ⟨f0, d0, t0, rfl, o0, j0, c0, s0⟩
 have m0 := i0.callM (i := 0) rfl o0 j0
 have j0 := i0.dM 0 m0 c0
 refine ⟨_, rfl, fun m0 c0 => ?_⟩
 have m0 := sWI j0 1 (pB 0 0 (pr 1 pn))
 refine ⟨m0, ?_⟩
 refine dR [11] c0 fun m0 i0 => ?_
 refine AL (by kernel_rfl) (b0 _ _ ?_) _
 refine xn q0 <| rt1 i0 ?_
 refine ⟨f0, d0, t0, ?_, j0.fr, j0.res (i := 0) rfl, j0.res (i := 1) rfl, j0.rx 2, (by unfold Gf; first | (rw [At (by assumption)]; exact s0) | (rw [Aq (by simp [h0])]; exact s0))⟩
 exact cre (CZ (by rfl))
theorem PT (w0 : World) (Z : Nat → Prop) (hZ : HZ w0 Z) (cg : Nat) (ce : Int) (cn : Int) (cK : Value) (cL : Value) (cS : ByteArray) (cT : Value) (cB : Value) (cC : Value) (ck : Int) (cstA : Option Addr) (cstc : Nat) (cst : List Bool) (cpr : Bool) (cmoA : Option Addr) (cmoc : Nat) (cmo : List Nd) (ctyA : Option Addr) (ctyc : Nat) (cty : List Sl) (cplA : Option Addr) (cplc : Nat) (cpl : List Int) (uag : Nat) (ubg : Nat) (ubi : Nat) (hShp : Cu w0 Z) (hc : (Res.box cg 59 [.int .i64 ce, .int .i64 cn, cK, cL, .string cS, cT, cB, cC, .int .i64 ck, .slice cstA cst.length cstc, .bool cpr, .slice cmoA cmo.length cmoc, .slice ctyA cty.length ctyc, .slice cplA cpl.length cplc]).holds w0) (hcz : ¬ Z cg) (hcpl : (Res.row cplA cpl.length cplc 3 1 (BN cpl)).holds w0) (hcplz : ∀ k, rM cplA k → ¬ Z k) (hcpln : ∀ k, rM cplA k → k ≠ cg) (hcst : (Bw 1 cstA cst.length cstc (D2 cst)).φ w0 Z) (hcmo : N4 cmoA cmoc cmo w0 Z) (hcty : (Bw 1 ctyA cty.length ctyc (B7 cty)).φ w0 Z) (hctys : (Cl cty).φ w0 Z) (huaQ : (Ct uag [.pointer (some ⟨cg, 0, none⟩)]).φ w0 Z) (hubQ : (Ct ubg [.int .i64 (ubi : Int)]).φ w0 Z) (hmo : sml cmo := by exact ax) (hml : cmo.length ≤ 100000 := by exact ax) (hpl : ∀ j, -1000 ≤ Ci cpl j ∧ Ci cpl j ≤ 1000 := by exact ax) (hi : ubi < cst.length := by exact ax) (hi2 : ubi < cpl.length := by exact ax) (hcn : -1000 ≤ cn ∧ cn ≤ 1000 := by exact ax) :
    Calls Tryz.prog 130 [.pointer (some ⟨uag, 0, none⟩), .pointer (some ⟨ubg, 0, none⟩)].toArray w0 (fun e w' => ∃ (rA0 : Option Addr) (rc0 : Nat) (rL0 : List Nd), e = .returned (.slice rA0 rL0.length rc0) ∧ Fr (fun k => k = cg ∨ rM cplA k) w0 w' ∧ (Res.box cg 59 [.int .i64 (HD ce cn cmo (Gf ce cn cst cpl ubi)), .int .i64 cn, cK, cL, .string cS, cT, cB, cC, .int .i64 ck, .slice cstA cst.length cstc, .bool cpr, .slice cmoA cmo.length cmoc, .slice ctyA cty.length ctyc, .slice cplA cpl.length cplc]).holds w' ∧ (Res.row cplA cpl.length cplc 3 1 (BN cpl)).holds w' ∧ N4 rA0 rc0 rL0 w' (nxt Z w0 w') ∧ rL0 = K6 ce cn cmo (Gf ce cn cst cpl ubi)) := by
 have hstart : ∀ k, Z k → imm Z w0 [.box cg 59 [.int .i64 ce, .int .i64 cn, cK, cL, .string cS, cT, cB, cC, .int .i64 ck, .slice cstA cst.length cstc, .bool cpr, .slice cmoA cmo.length cmoc, .slice ctyA cty.length ctyc, .slice cplA cpl.length cplc], .row cplA cpl.length cplc 3 1 (BN cpl)] w0 k ∧ w0.heap[k]? = w0.heap[k]? := fun k hk => Dm hZ hcz hcplz hk
 have b0 : St w0 Z (fun k => k = cg ∨ rM cplA k) w0 [.box cg 59 [.int .i64 ce, .int .i64 cn, cK, cL, .string cS, cT, cB, cC, .int .i64 ck, .slice cstA cst.length cstc, .bool cpr, .slice cmoA cmo.length cmoc, .slice ctyA cty.length ctyc, .slice cplA cpl.length cplc], .row cplA cpl.length cplc 3 1 (BN cpl)] [Br, Bw 1 cstA cst.length cstc (D2 cst), n4 cmoA cmoc cmo, Bw 1 ctyA cty.length ctyc (B7 cty), Cl cty, Ct uag [.pointer (some ⟨cg, 0, none⟩)], Ct ubg [.int .i64 (ubi : Int)]] := D3 w0 Z _ hc hcpl hcpln (by
  intro d hd
  simp only [AD, AG, or_false] at hd
  rcases hd with rfl | rfl | rfl | rfl | rfl | rfl | rfl
  exact Dat.mono _ _ _ _ _ (Af _) hShp hstart
  exact Dat.mono _ _ _ _ _ (Af _) hcst hstart
  exact Dat.mono _ _ _ _ _ (Af _) hcmo hstart
  exact Dat.mono _ _ _ _ _ (Af _) hcty hstart
  exact Dat.mono _ _ _ _ _ (Af _) hctys hstart
  exact Dat.mono _ _ _ _ _ (Af _) huaQ hstart
  exact Dat.mono _ _ _ _ _ (Af _) hubQ hstart
  )
 refine AE Tryz.func130 rfl Tryz.ntmps130 rfl fun c0 d0 => ?_
 refine rR d0 fun c0 f0 => ?_
 refine Ac fun c0 d0 => ?_
 obtain ⟨c0, h0, i0⟩ := b0.agree
 refine Cj (n := 6) i0 7 (pB 0 1 pn) (A5 BC) fun c0 b0 j0 k0 m0 n0 => ?_
 refine dt 0 rfl b0 f0 (AJ rfl) (fun x hx => BR (sy f0) f0 rfl rfl rfl (Bn (D6 (h0 5 _ rfl) hx.ag) rfl) B9 rfl (by decide) gt) n0 fun k0 c0 => ?_
 refine dt 1 rfl b0 c0 (AJ rfl) (fun x hx => BR (sy c0) c0 rfl rfl rfl (Bn (D6 (h0 5 _ rfl) hx.ag) rfl) B9 rfl (by decide) gt) n0 fun k0 f0 => ?_
 refine dt 2 rfl b0 f0 (AJ rfl) (fun x hx => BR (sy f0) f0 rfl rfl rfl (Bn (D6 (h0 6 _ rfl) hx.ag) rfl) Bl rfl (by decide) gt) n0 fun k0 c0 => ?_
 refine d1 3 ?_
 have k0 := m0.nf
 refine kcl c0 ok94 (Jq _ _ k0.il _ _ _ _ _ _ _ _ _ _ _ _ _ _ _ _ _ _ _ ubi (k0.z 0) (Ca (i := 0) rfl) (k0.z 1) (Dw (i := 1) rfl) (k0.rowne (i := 0) (j := 1) rfl rfl (by decide)) (k0.g 1)) ?_
 rintro c0 m0 ⟨f0, n0, b0, rfl, h0, i0, o0, p0, q0⟩
 have n0 := k0.callMK (i := 0) (j := 1) rfl rfl (by decide) h0 i0 o0
 have o0 := k0.dM 0 n0 p0
 refine ⟨_, rfl, fun n0 p0 => ?_⟩
 obtain ⟨n0, k0⟩ : b0.length ≤ 1 ∧ sml b0 := by rw [q0]; exact ⟨Hq, Ff⟩
 have k0 := sWI o0 7 (pB 0 1 pn)
 refine ⟨k0, ?_⟩
 refine d1 4 ?_
 have k0 := o0.nf
 refine kcl p0 ok95 (Hv _ _ k0.il _ _ _ _ _ _ _ _ _ _ _ _ _ _ _ _ _ _ _ _ (k0.g 0) (k0.z 0) (Ca (i := 0) rfl) (k0.g 2) (k0.g 8)) ?_
 rintro p0 o0 ⟨n0, q0, i0, rfl, h0, f0, m0, c0⟩
 have c0 := k0.callM (i := 0) rfl h0 f0
 have f0 := k0.dM 0 c0 m0
 refine ⟨_, rfl, fun c0 m0 => ?_⟩
 have c0 := sWI f0 7 (pB 0 1 pn)
 refine ⟨c0, ?_⟩
 refine dR [5] m0 fun c0 k0 => ?_
 refine AL (by kernel_rfl) (j0 _ _ ?_) _
 refine xn d0 <| rt1 k0 ?_
 refine ⟨n0, q0, i0, ?_, f0.fr, (by rw [show (HD ce cn cmo (Gf ce cn cst cpl ubi) : Int) = (HD ce cn cmo b0) by (first | rfl | (simp only [AQ, *]; done) | (simp only [AQ, *]; rfl))]; exact f0.res (i := 0) rfl), f0.res (i := 1) rfl, f0.rx 9, (by (simp only [AQ, *]; done))⟩
 exact cre (CZ (by rfl))
theorem NJ (w0 : World) (Z : Nat → Prop) (hZ : HZ w0 Z) (cg : Nat) (ce : Int) (cn : Int) (cK : Value) (cL : Value) (cS : ByteArray) (cT : Value) (cB : Value) (cC : Value) (ck : Int) (cstA : Option Addr) (cstc : Nat) (cst : List Bool) (cpr : Bool) (cmoA : Option Addr) (cmoc : Nat) (cmo : List Nd) (ctyA : Option Addr) (ctyc : Nat) (cty : List Sl) (cplA : Option Addr) (cplc : Nat) (cpl : List Int) (qq : Int) (uag : Nat) (ubg : Nat) (ubi : Nat) (ucg : Nat) (ucn : Int) (hShp : Cu w0 Z) (hc : (Res.box cg 59 [.int .i64 ce, .int .i64 cn, cK, cL, .string cS, cT, cB, cC, .int .i64 ck, .slice cstA cst.length cstc, .bool cpr, .slice cmoA cmo.length cmoc, .slice ctyA cty.length ctyc, .slice cplA cpl.length cplc]).holds w0) (hcz : ¬ Z cg) (hcpl : (Res.row cplA cpl.length cplc 3 1 (BN cpl)).holds w0) (hcplz : ∀ k, rM cplA k → ¬ Z k) (hcpln : ∀ k, rM cplA k → k ≠ cg) (hcst : (Bw 1 cstA cst.length cstc (D2 cst)).φ w0 Z) (hcmo : N4 cmoA cmoc cmo w0 Z) (hcty : (Bw 1 ctyA cty.length ctyc (B7 cty)).φ w0 Z) (hctys : (Cl cty).φ w0 Z) (huaQ : (Ct uag [.pointer (some ⟨cg, 0, none⟩)]).φ w0 Z) (hubQ : (Ct ubg [.int .i64 (ubi : Int)]).φ w0 Z) (hucQ : (Ct ucg [.int .i64 ucn]).φ w0 Z) (hmo : sml cmo := by exact ax) (hml : cmo.length ≤ 100000 := by exact ax) (hpl : ∀ j, -1000 ≤ Ci cpl j ∧ Ci cpl j ≤ 1000 := by exact ax) (hi : ubi < cst.length := by exact ax) (hi2 : ubi < cpl.length := by exact ax) (hbcn : -900 ≤ cn ∧ cn ≤ 900 := by exact ax) (hbqq : -900 ≤ qq ∧ qq ≤ 900 := by exact ax) (h0 : 0 ≤ ucn := by exact ax) (h4 : ucn < 1000 := by exact ax) :
    Calls Tryz.prog 133 [.int .i64 qq, .pointer (some ⟨uag, 0, none⟩), .pointer (some ⟨ubg, 0, none⟩), .pointer (some ⟨ucg, 0, none⟩)].toArray w0 (fun e w' => ∃ (rA0 : Option Addr) (rc0 : Nat) (rL0 : List Nd), e = .returned (.slice rA0 rL0.length rc0) ∧ Fr (fun k => k = cg ∨ rM cplA k) w0 w' ∧ (Res.box cg 59 [.int .i64 (HD ce cn cmo (hfX ce cn cst cpl ubi ucn qq)), .int .i64 cn, cK, cL, .string cS, cT, cB, cC, .int .i64 ck, .slice cstA cst.length cstc, .bool cpr, .slice cmoA cmo.length cmoc, .slice ctyA cty.length ctyc, .slice cplA cpl.length cplc]).holds w' ∧ (Res.row cplA cpl.length cplc 3 1 (BN cpl)).holds w' ∧ N4 rA0 rc0 rL0 w' (nxt Z w0 w') ∧ rL0 = K6 ce cn cmo (hfX ce cn cst cpl ubi ucn qq)) := by
 have hstart : ∀ k, Z k → imm Z w0 [.box cg 59 [.int .i64 ce, .int .i64 cn, cK, cL, .string cS, cT, cB, cC, .int .i64 ck, .slice cstA cst.length cstc, .bool cpr, .slice cmoA cmo.length cmoc, .slice ctyA cty.length ctyc, .slice cplA cpl.length cplc], .row cplA cpl.length cplc 3 1 (BN cpl)] w0 k ∧ w0.heap[k]? = w0.heap[k]? := fun k hk => Dm hZ hcz hcplz hk
 have b0 : St w0 Z (fun k => k = cg ∨ rM cplA k) w0 [.box cg 59 [.int .i64 ce, .int .i64 cn, cK, cL, .string cS, cT, cB, cC, .int .i64 ck, .slice cstA cst.length cstc, .bool cpr, .slice cmoA cmo.length cmoc, .slice ctyA cty.length ctyc, .slice cplA cpl.length cplc], .row cplA cpl.length cplc 3 1 (BN cpl)] [Br, Bw 1 cstA cst.length cstc (D2 cst), n4 cmoA cmoc cmo, Bw 1 ctyA cty.length ctyc (B7 cty), Cl cty, Ct uag [.pointer (some ⟨cg, 0, none⟩)], Ct ubg [.int .i64 (ubi : Int)], Ct ucg [.int .i64 ucn]] := D3 w0 Z _ hc hcpl hcpln (by
  intro d hd
  simp only [AD, AG, or_false] at hd
  rcases hd with rfl | rfl | rfl | rfl | rfl | rfl | rfl | rfl
  exact Dat.mono _ _ _ _ _ (Af _) hShp hstart
  exact Dat.mono _ _ _ _ _ (Af _) hcst hstart
  exact Dat.mono _ _ _ _ _ (Af _) hcmo hstart
  exact Dat.mono _ _ _ _ _ (Af _) hcty hstart
  exact Dat.mono _ _ _ _ _ (Af _) hctys hstart
  exact Dat.mono _ _ _ _ _ (Af _) huaQ hstart
  exact Dat.mono _ _ _ _ _ (Af _) hubQ hstart
  exact Dat.mono _ _ _ _ _ (Af _) hucQ hstart
  )
 refine AE Tryz.func133 rfl Tryz.ntmps133 rfl fun c0 d0 => ?_
 refine rR d0 fun c0 f0 => ?_
 refine Ac fun c0 d0 => ?_
 obtain ⟨c0, i0, j0⟩ := b0.agree
 refine Cj (n := 24) j0 8 (pB 0 1 pn) (A5 BC) fun c0 b0 k0 m0 n0 o0 => ?_
 refine dt 0 rfl b0 f0 (AJ rfl) (fun x hx => BR (sy f0) f0 rfl rfl rfl (Bn (D6 (i0 5 _ rfl) hx.ag) rfl) B9 rfl (by decide) gt) o0 fun m0 c0 => ?_
 refine dt 1 rfl b0 c0 (AJ rfl) (fun x hx => BR (sy c0) c0 rfl rfl rfl (Bn (D6 (i0 5 _ rfl) hx.ag) rfl) B9 rfl (by decide) gt) o0 fun m0 f0 => ?_
 refine dR [2, 3, 4] f0 fun m0 c0 => ?_
 refine dt 5 rfl b0 c0 (AJ rfl) (fun x hx => WV c0) o0 fun m0 f0 => ?_
 refine dt 6 rfl b0 f0 (AJ rfl) (fun x hx => BR (sy f0) f0 rfl rfl rfl (Bn (D6 (i0 5 _ rfl) hx.ag) rfl) B9 rfl (by decide) gt) o0 fun m0 c0 => ?_
 refine dt 7 rfl b0 c0 (AJ rfl) (fun x hx => BR (sy c0) c0 rfl rfl rfl (Bn (D6 (i0 6 _ rfl) hx.ag) rfl) Bl rfl (by decide) gt) o0 fun m0 f0 => ?_
 refine dt 9 rfl b0 f0 (AJ rfl) (fun x hx => BR (sy f0) f0 rfl rfl rfl (Bn (D6 (i0 5 _ rfl) hx.ag) rfl) B9 rfl (by decide) gt) o0 fun m0 c0 => ?_
 refine dR [10, 11, 12] c0 fun m0 f0 => ?_
 refine dt 13 rfl b0 f0 (AJ rfl) (fun x hx => BR (sy f0) f0 rfl rfl rfl (Bn (D6 (i0 7 _ rfl) hx.ag) rfl) Bl rfl (by decide) gt) o0 fun m0 c0 => ?_
 refine dt 14 rfl b0 c0 (AJ rfl) (fun x hx => BR (sy c0) c0 rfl rfl rfl (Bn (D6 (i0 5 _ rfl) hx.ag) rfl) B9 rfl (by decide) gt) o0 fun m0 f0 => ?_
 refine dR [15, 16, 17] f0 fun m0 c0 => ?_
 refine d1 8 ?_
 have m0 := n0.nf
 refine kcl c0 ok94 (Jq _ _ m0.il _ _ _ _ _ _ _ _ _ _ _ _ _ _ _ _ _ _ _ ubi (m0.z 0) (Ca (i := 0) rfl) (m0.z 1) (Dw (i := 1) rfl) (m0.rowne (i := 0) (j := 1) rfl rfl (by decide)) (m0.g 1)) ?_
 rintro c0 n0 ⟨f0, o0, b0, rfl, i0, j0, p0, q0, s0⟩
 have n0 := m0.callMK (i := 0) (j := 1) rfl rfl (by decide) i0 j0 p0
 have p0 := m0.dM 0 n0 q0
 refine ⟨_, rfl, fun n0 q0 => ?_⟩
 obtain ⟨n0, m0⟩ : b0.length ≤ 1 ∧ sml b0 := by rw [s0]; exact ⟨Hq, Ff⟩
 have m0 := sWI p0 8 (pB 0 1 pn)
 refine ⟨m0, ?_⟩
 refine d1 18 ?_
 have m0 := p0.nf
 refine kcl q0 ok76 (Pn _ _ m0.il _ _ _ _ _ qq (m0.z 0) (Ca (i := 0) rfl)) ?_
 rintro q0 p0 ⟨n0, s0, j0, rfl, i0, c0, t0, u0⟩
 have s0 := m0.callM (i := 0) rfl i0 c0
 have c0 := m0.dM 0 s0 t0
 refine ⟨_, rfl, fun s0 t0 => ?_⟩
 obtain ⟨s0, m0⟩ : j0.length ≤ 1 ∧ sml j0 := by rw [u0]; exact ⟨SN, Ob⟩
 have m0 := sWI c0 8 (pB 0 1 pn)
 refine ⟨m0, ?_⟩
 refine d1 19 ?_
 have m0 := c0.nf
 refine kcl t0 ok134 (Nu _ _ m0.il _ _ _ _ ucn _ _ _ (m0.z 0) (Ca (i := 0) rfl) (m0.g 10)) ?_
 rintro t0 c0 ⟨s0, u0, j0, rfl, i0, n0, p0, q0⟩
 have c0 := m0.callM (i := 0) rfl i0 n0
 have n0 := m0.dM 0 c0 p0
 refine ⟨_, rfl, fun c0 p0 => ?_⟩
 obtain ⟨c0, m0⟩ := plZ q0 (by assumption)
 have m0 := sWI n0 8 (pB 0 1 pn)
 refine ⟨m0, ?_⟩
 refine d1 20 ?_
 have m0 := n0.data (Cl [((f0, o0, b0) : Sl), ((s0, u0, j0) : Sl)]) (Cy (n0.get (i := 9) rfl) (Cy (n0.get (i := 11) rfl) Cp))
 refine bsl p0 m0 fun n0 c0 q0 i0 t0 => ?_
 have c0 := sWI t0 8 (pB 0 1 pn)
 refine ⟨c0, ?_⟩
 refine d1 21 ?_
 have c0 := t0.nf
 have t0 := Db (c0.res (i := 2) rfl)
 obtain ⟨n0, m0⟩ := c0.row_dataG (i := 2) rfl (Gv (i := 2) rfl rfl (by decide) (by decide))
 have c0 := n0.data (Bw 1 (some ⟨q0, 0, none⟩) 2 2 (B7 ([((f0, o0, b0) : Sl), ((s0, u0, j0) : Sl)]))) ⟨t0, m0⟩
 refine kcl i0 Wg (Ex _ _ c0.il _ _ _ _ (⟨5, 0, 0, (⟨#[]⟩ : ByteArray)⟩ : Nd) _ _ ([((f0, o0, b0) : Sl), ((s0, u0, j0) : Sl)]) (c0.z 0) (Ca (i := 0) rfl) (c0.g 13) (c0.g 12) (hb := (by simp; omega))) ?_
 rintro i0 j0 ⟨u0, s0, b0, rfl, o0, f0, m0, n0⟩
 have s0 := c0.callM (i := 0) rfl o0 f0
 have f0 := c0.dM 0 s0 m0
 refine ⟨_, rfl, fun s0 m0 => ?_⟩
 obtain ⟨s0, c0⟩ := noZ2 n0 (by decide) (by assumption) (by assumption)
 have c0 := sWI f0 8 (pB 0 1 pn)
 refine ⟨c0, ?_⟩
 refine d1 22 ?_
 have c0 := f0.nf
 refine kcl m0 ok95 (Hv _ _ c0.il _ _ _ _ _ _ _ _ _ _ _ _ _ _ _ _ _ _ _ _ (c0.g 0) (c0.z 0) (Ca (i := 0) rfl) (c0.g 2) (c0.g 14)) ?_
 rintro m0 f0 ⟨s0, n0, o0, rfl, u0, j0, i0, t0⟩
 have t0 := c0.callM (i := 0) rfl u0 j0
 have j0 := c0.dM 0 t0 i0
 refine ⟨_, rfl, fun t0 i0 => ?_⟩
 have t0 := sWI j0 8 (pB 0 1 pn)
 refine ⟨t0, ?_⟩
 refine dR [23] i0 fun t0 c0 => ?_
 refine AL (by kernel_rfl) (k0 _ _ ?_) _
 refine xn d0 <| rt1 c0 ?_
 refine ⟨s0, n0, o0, ?_, j0.fr, (by rw [show (HD ce cn cmo (hfX ce cn cst cpl ubi ucn qq) : Int) = (HD ce cn cmo b0) by (first | rfl | (simp only [AQ, *]; done) | (simp only [AQ, *]; rfl))]; exact j0.res (i := 0) rfl), j0.res (i := 1) rfl, j0.rx 15, (by (simp only [AQ, *]; rfl))⟩
 exact cre (CZ (by rfl))
theorem PA (w0 : World) (Z : Nat → Prop) (hZ : HZ w0 Z) (cg : Nat) (ce : Int) (cn : Int) (cK : Value) (cL : Value) (cS : ByteArray) (cT : Value) (cB : Value) (cC : Value) (ck : Int) (cstA : Option Addr) (cstc : Nat) (cst : List Bool) (cpr : Bool) (cmoA : Option Addr) (cmoc : Nat) (cmo : List Nd) (ctyA : Option Addr) (ctyc : Nat) (cty : List Sl) (cplA : Option Addr) (cplc : Nat) (cpl : List Int) (mm : Int) (dA : Option Addr) (dc : Nat) (d : List Nd) (vvpg : Nat) (vvqg : Nat) (vvqi : Nat) (vvrg : Nat) (vvrn : Int) (hShp : Cu w0 Z) (hc : (Res.box cg 59 [.int .i64 ce, .int .i64 cn, cK, cL, .string cS, cT, cB, cC, .int .i64 ck, .slice cstA cst.length cstc, .bool cpr, .slice cmoA cmo.length cmoc, .slice ctyA cty.length ctyc, .slice cplA cpl.length cplc]).holds w0) (hcz : ¬ Z cg) (hcpl : (Res.row cplA cpl.length cplc 3 1 (BN cpl)).holds w0) (hcplz : ∀ k, rM cplA k → ¬ Z k) (hcpln : ∀ k, rM cplA k → k ≠ cg) (hcst : (Bw 1 cstA cst.length cstc (D2 cst)).φ w0 Z) (hcmo : N4 cmoA cmoc cmo w0 Z) (hcty : (Bw 1 ctyA cty.length ctyc (B7 cty)).φ w0 Z) (hctys : (Cl cty).φ w0 Z) (hd : N4 dA dc d w0 Z) (hvvpQ : (Ct vvpg [.pointer (some ⟨cg, 0, none⟩)]).φ w0 Z) (hvvqQ : (Ct vvqg [.int .i64 (vvqi : Int)]).φ w0 Z) (hvvrQ : (Ct vvrg [.int .i64 vvrn]).φ w0 Z) (hmo : sml cmo := by exact ax) (hml : cmo.length ≤ 100000 := by exact ax) (hpl : ∀ j, -1000 ≤ Ci cpl j ∧ Ci cpl j ≤ 1000 := by exact ax) (hi : vvqi < cst.length := by exact ax) (hi2 : vvqi < cpl.length := by exact ax) (hbcn : -800 ≤ cn ∧ cn ≤ 800 := by exact ax) (h0 : 0 ≤ vvrn := by exact ax) (h4 : vvrn < 1000 := by exact ax) (hsd : sml d := by exact ax) (hld : d.length ≤ 20000 := by exact ax) :
    Calls Tryz.prog 57 [.pointer (some ⟨cg, 0, none⟩), .int .i64 mm, .slice dA d.length dc, .func (.func 133) #[] #[.pointer (some ⟨vvpg, 0, none⟩), .pointer (some ⟨vvqg, 0, none⟩), .pointer (some ⟨vvrg, 0, none⟩)]].toArray w0 (fun e w' => ∃ (rA0 : Option Addr) (rc0 : Nat) (rL0 : List Nd), e = .returned (.slice rA0 rL0.length rc0) ∧ Fr (fun k => k = cg ∨ rM cplA k) w0 w' ∧ (Res.box cg 59 [.int .i64 ((piP (K6 ce (cn + 1) cmo (hfX ce (cn + 1) cst cpl vvqi vvrn (cn + 1)), HD ce (cn + 1) cmo (hfX ce (cn + 1) cst cpl vvqi vvrn (cn + 1))) mm d).2), .int .i64 cn, cK, cL, .string cS, cT, cB, cC, .int .i64 ck, .slice cstA cst.length cstc, .bool cpr, .slice cmoA cmo.length cmoc, .slice ctyA cty.length ctyc, .slice cplA cpl.length cplc]).holds w' ∧ (Res.row cplA cpl.length cplc 3 1 (BN cpl)).holds w' ∧ N4 rA0 rc0 rL0 w' (nxt Z w0 w') ∧ rL0 = (piP (K6 ce (cn + 1) cmo (hfX ce (cn + 1) cst cpl vvqi vvrn (cn + 1)), HD ce (cn + 1) cmo (hfX ce (cn + 1) cst cpl vvqi vvrn (cn + 1))) mm d).1) := by
 have hstart : ∀ k, Z k → imm Z w0 [.box cg 59 [.int .i64 ce, .int .i64 cn, cK, cL, .string cS, cT, cB, cC, .int .i64 ck, .slice cstA cst.length cstc, .bool cpr, .slice cmoA cmo.length cmoc, .slice ctyA cty.length ctyc, .slice cplA cpl.length cplc], .row cplA cpl.length cplc 3 1 (BN cpl)] w0 k ∧ w0.heap[k]? = w0.heap[k]? := fun k hk => Dm hZ hcz hcplz hk
 have b0 : St w0 Z (fun k => k = cg ∨ rM cplA k) w0 [.box cg 59 [.int .i64 ce, .int .i64 cn, cK, cL, .string cS, cT, cB, cC, .int .i64 ck, .slice cstA cst.length cstc, .bool cpr, .slice cmoA cmo.length cmoc, .slice ctyA cty.length ctyc, .slice cplA cpl.length cplc], .row cplA cpl.length cplc 3 1 (BN cpl)] [Br, Bw 1 cstA cst.length cstc (D2 cst), n4 cmoA cmoc cmo, Bw 1 ctyA cty.length ctyc (B7 cty), Cl cty, n4 dA dc d, Ct vvpg [.pointer (some ⟨cg, 0, none⟩)], Ct vvqg [.int .i64 (vvqi : Int)], Ct vvrg [.int .i64 vvrn]] := D3 w0 Z _ hc hcpl hcpln (by
  intro d hd
  simp only [AD, AG, or_false] at hd
  rcases hd with rfl | rfl | rfl | rfl | rfl | rfl | rfl | rfl | rfl
  exact Dat.mono _ _ _ _ _ (Af _) hShp hstart
  exact Dat.mono _ _ _ _ _ (Af _) hcst hstart
  exact Dat.mono _ _ _ _ _ (Af _) hcmo hstart
  exact Dat.mono _ _ _ _ _ (Af _) hcty hstart
  exact Dat.mono _ _ _ _ _ (Af _) hctys hstart
  exact Dat.mono _ _ _ _ _ (Af _) hd hstart
  exact Dat.mono _ _ _ _ _ (Af _) hvvpQ hstart
  exact Dat.mono _ _ _ _ _ (Af _) hvvqQ hstart
  exact Dat.mono _ _ _ _ _ (Af _) hvvrQ hstart
  )
 refine AE Tryz.func57 rfl Tryz.ntmps57 rfl fun c0 d0 => ?_
 refine rR d0 fun c0 f0 => ?_
 refine wsc fun c0 d0 => lR f0 fun c0 i0 => ?_
 refine adi (cn + 1) i0 fun c0 f0 => ?_
 refine lR f0 fun c0 i0 => ?_
 refine sto 0 i0 b0 fun c0 f0 j0 k0 => ?_
 refine wn d0 <| wsc fun d0 f0 => lR j0 fun d0 c0 => ?_
 have d0 := k0.nf
 refine DI (xs := [.tmp 21]) se c0 rfl rfl rfl rfl (by decide) ok133 (NJ _ _ d0.il _ _ _ _ _ _ _ _ _ _ _ _ _ _ _ _ _ _ _ _ _ _ _ (cn + 1) vvpg vvqg vvqi vvrg vvrn (d0.g 0) (d0.z 0) (Ca (i := 0) rfl) (d0.z 1) (Dw (i := 1) rfl) (d0.rowne (i := 0) (j := 1) rfl rfl (by decide)) (d0.g 1) (d0.g 2) (d0.g 3) (d0.g 4) (d0.g 6) (d0.g 7) (d0.g 8)) ?_
 rintro c0 k0 ⟨j0, i0, b0, rfl, m0, n0, o0, p0, q0⟩
 have k0 := d0.callMK (i := 0) (j := 1) rfl rfl (by decide) m0 n0 o0
 have o0 := d0.dM 0 k0 p0
 refine ⟨_, rfl, fun k0 p0 => ?_⟩
 obtain ⟨k0, d0⟩ : b0.length ≤ 4000 ∧ sml b0 := by rw [q0]; exact ⟨Gi, Gh hmo Sa⟩
 refine aw p0 f0 fun d0 k0 => ?_
 refine wsc fun f0 d0 => lR k0 fun f0 p0 => ?_
 refine sbi cn p0 fun f0 k0 => ?_
 refine lR k0 fun f0 p0 => ?_
 refine sto 0 p0 o0 fun f0 k0 q0 n0 => ?_
 refine wn d0 <| wsc fun d0 k0 => lR q0 fun d0 f0 => ?_
 refine bld f0 fun d0 q0 => ?_
 refine lR q0 fun d0 f0 => ?_
 have d0 := n0.data (Cl [((dA, dc, d) : Sl), ((j0, i0, b0) : Sl)]) (Cy (n0.get (i := 5) rfl) (Cy (n0.get (i := 9) rfl) Cp))
 refine bsl f0 d0 fun n0 q0 p0 o0 m0 => ?_
 have q0 := m0.nf
 have m0 := Db (q0.res (i := 2) rfl)
 obtain ⟨n0, d0⟩ := q0.row_dataG (i := 2) rfl (Gv (i := 2) rfl rfl (by decide) (by decide))
 have q0 := n0.data (Bw 1 (some ⟨p0, 0, none⟩) 2 2 (B7 ([((dA, dc, d) : Sl), ((j0, i0, b0) : Sl)]))) ⟨m0, d0⟩
 refine kcl o0 Wg (Ex _ _ q0.il _ _ _ _ (⟨3, mm, 0, (⟨#[]⟩ : ByteArray)⟩ : Nd) _ _ ([((dA, dc, d) : Sl), ((j0, i0, b0) : Sl)]) (q0.z 0) (Ca (i := 0) rfl) (q0.g 11) (q0.g 10) (hb := (by simp; omega))) ?_
 rintro o0 b0 ⟨i0, j0, d0, rfl, n0, m0, p0, f0⟩
 have f0 := q0.callM (i := 0) rfl n0 m0
 have m0 := q0.dM 0 f0 p0
 refine ⟨_, rfl, fun f0 p0 => ?_⟩
 refine aw p0 k0 fun f0 q0 => ?_
 refine rt1 q0 ?_
 refine ⟨i0, j0, d0, ?_, m0.fr, (by rw [show ((piP (K6 ce (cn + 1) cmo (hfX ce (cn + 1) cst cpl vvqi vvrn (cn + 1)), HD ce (cn + 1) cmo (hfX ce (cn + 1) cst cpl vvqi vvrn (cn + 1))) mm d).2 : Int) = (HD ce (cn + 1) cmo (hfX ce (cn + 1) cst cpl vvqi vvrn (cn + 1))) by (first | rfl | (simp only [AQ, *]; done) | (simp only [AQ, *]; rfl))]; exact m0.res (i := 0) rfl), m0.res (i := 1) rfl, m0.rx 12, (by (simp only [AQ, *]; rfl))⟩
 exact cre (CZ (by rfl))
theorem PS (w0 : World) (Z : Nat → Prop) (hZ : HZ w0 Z) (cg : Nat) (ce : Int) (cn : Int) (cK : Value) (cL : Value) (cS : ByteArray) (cT : Value) (cB : Value) (cC : Value) (ck : Int) (cstA : Option Addr) (cstc : Nat) (cst : List Bool) (cpr : Bool) (cmoA : Option Addr) (cmoc : Nat) (cmo : List Nd) (ctyA : Option Addr) (ctyc : Nat) (cty : List Sl) (cplA : Option Addr) (cplc : Nat) (cpl : List Int) (uag : Nat) (ubg : Nat) (ubn : Int) (ucg : Nat) (uctA : Option Addr) (uctc : Nat) (uct : List Nd) (udg : Nat) (udi : Nat) (hShp : Cu w0 Z) (hc : (Res.box cg 59 [.int .i64 ce, .int .i64 cn, cK, cL, .string cS, cT, cB, cC, .int .i64 ck, .slice cstA cst.length cstc, .bool cpr, .slice cmoA cmo.length cmoc, .slice ctyA cty.length ctyc, .slice cplA cpl.length cplc]).holds w0) (hcz : ¬ Z cg) (hcpl : (Res.row cplA cpl.length cplc 3 1 (BN cpl)).holds w0) (hcplz : ∀ k, rM cplA k → ¬ Z k) (hcpln : ∀ k, rM cplA k → k ≠ cg) (hcst : (Bw 1 cstA cst.length cstc (D2 cst)).φ w0 Z) (hcmo : N4 cmoA cmoc cmo w0 Z) (hcty : (Bw 1 ctyA cty.length ctyc (B7 cty)).φ w0 Z) (hctys : (Cl cty).φ w0 Z) (huaQ : (Ct uag [.pointer (some ⟨cg, 0, none⟩)]).φ w0 Z) (hubQ : (Ct ubg [.int .i64 ubn]).φ w0 Z) (huct : N4 uctA uctc uct w0 Z) (hucQ : (Ct ucg [.slice uctA uct.length uctc]).φ w0 Z) (hudQ : (Ct udg [.int .i64 (udi : Int)]).φ w0 Z) (hmo : sml cmo := by exact ax) (hml : cmo.length ≤ 100000 := by exact ax) (hpl : ∀ j, -1000 ≤ Ci cpl j ∧ Ci cpl j ≤ 1000 := by exact ax) (hi : udi < cst.length := by exact ax) (hi2 : udi < cpl.length := by exact ax) (hbcn : -700 ≤ cn ∧ cn ≤ 700 := by exact ax) (h0 : 0 ≤ ubn := by exact ax) (h4 : ubn < 1000 := by exact ax) (hct : chk uct = 0 := by exact ax) (hk3 : (nth uct (uct.length - 1)).K = 3 := by exact ax) (hst : sml uct := by exact ax) (hlt : uct.length ≤ 4000 := by exact ax) :
    Calls Tryz.prog 131 [.pointer (some ⟨uag, 0, none⟩), .pointer (some ⟨ubg, 0, none⟩), .pointer (some ⟨ucg, 0, none⟩), .pointer (some ⟨udg, 0, none⟩)].toArray w0 (fun e w' => ∃ (rA0 : Option Addr) (rc0 : Nat) (rL0 : List Nd), e = .returned (.slice rA0 rL0.length rc0) ∧ Fr (fun k => k = cg ∨ rM cplA k) w0 w' ∧ (Res.box cg 59 [.int .i64 ((hy2 ce cn cst cpr cmo uct ubn cpl udi).2), .int .i64 cn, cK, cL, .string cS, cT, cB, cC, .int .i64 ck, .slice cstA cst.length cstc, .bool cpr, .slice cmoA cmo.length cmoc, .slice ctyA cty.length ctyc, .slice cplA cpl.length cplc]).holds w' ∧ (Res.row cplA cpl.length cplc 3 1 (BN cpl)).holds w' ∧ N4 rA0 rc0 rL0 w' (nxt Z w0 w') ∧ rL0 = (hy2 ce cn cst cpr cmo uct ubn cpl udi).1) := by
 have hstart : ∀ k, Z k → imm Z w0 [.box cg 59 [.int .i64 ce, .int .i64 cn, cK, cL, .string cS, cT, cB, cC, .int .i64 ck, .slice cstA cst.length cstc, .bool cpr, .slice cmoA cmo.length cmoc, .slice ctyA cty.length ctyc, .slice cplA cpl.length cplc], .row cplA cpl.length cplc 3 1 (BN cpl)] w0 k ∧ w0.heap[k]? = w0.heap[k]? := fun k hk => Dm hZ hcz hcplz hk
 have b0 : St w0 Z (fun k => k = cg ∨ rM cplA k) w0 [.box cg 59 [.int .i64 ce, .int .i64 cn, cK, cL, .string cS, cT, cB, cC, .int .i64 ck, .slice cstA cst.length cstc, .bool cpr, .slice cmoA cmo.length cmoc, .slice ctyA cty.length ctyc, .slice cplA cpl.length cplc], .row cplA cpl.length cplc 3 1 (BN cpl)] [Br, Bw 1 cstA cst.length cstc (D2 cst), n4 cmoA cmoc cmo, Bw 1 ctyA cty.length ctyc (B7 cty), Cl cty, Ct uag [.pointer (some ⟨cg, 0, none⟩)], Ct ubg [.int .i64 ubn], n4 uctA uctc uct, Ct ucg [.slice uctA uct.length uctc], Ct udg [.int .i64 (udi : Int)]] := D3 w0 Z _ hc hcpl hcpln (by
  intro d hd
  simp only [AD, AG, or_false] at hd
  rcases hd with rfl | rfl | rfl | rfl | rfl | rfl | rfl | rfl | rfl | rfl
  exact Dat.mono _ _ _ _ _ (Af _) hShp hstart
  exact Dat.mono _ _ _ _ _ (Af _) hcst hstart
  exact Dat.mono _ _ _ _ _ (Af _) hcmo hstart
  exact Dat.mono _ _ _ _ _ (Af _) hcty hstart
  exact Dat.mono _ _ _ _ _ (Af _) hctys hstart
  exact Dat.mono _ _ _ _ _ (Af _) huaQ hstart
  exact Dat.mono _ _ _ _ _ (Af _) hubQ hstart
  exact Dat.mono _ _ _ _ _ (Af _) huct hstart
  exact Dat.mono _ _ _ _ _ (Af _) hucQ hstart
  exact Dat.mono _ _ _ _ _ (Af _) hudQ hstart
  )
 have hm2 := IR hk3
 refine AE Tryz.func131 rfl Tryz.ntmps131 rfl fun c0 d0 => ?_
 refine rR d0 fun c0 f0 => ?_
 refine Ac fun c0 d0 => ?_
 obtain ⟨c0, i0, j0⟩ := b0.agree
 refine Cj (n := 22) j0 10 (pB 0 1 pn) (A5 BC) fun c0 b0 k0 m0 n0 o0 => ?_
 refine dt 0 rfl b0 f0 (AJ rfl) (fun x hx => BR (sy f0) f0 rfl rfl rfl (Bn (D6 (i0 5 _ rfl) hx.ag) rfl) B9 rfl (by decide) gt) o0 fun m0 c0 => ?_
 refine dR [1, 2] c0 fun m0 f0 => ?_
 refine dt 3 rfl b0 f0 (AJ rfl) (fun x hx => BR (sy f0) f0 rfl rfl rfl (Bn (D6 (i0 6 _ rfl) hx.ag) rfl) Bl rfl (by decide) gt) o0 fun m0 c0 => ?_
 refine dt 4 rfl b0 c0 (AJ rfl) (fun x hx => LZ (v := .int .i64 (GF ubn 2)) (sy c0) c0 rfl rfl rfl rfl (by decide) (Ov (b := 2) (by omega) (by omega) (by decide)) gt) o0 fun m0 f0 => ?_
 refine dt 5 rfl b0 f0 (AJ rfl) (fun x hx => BR (sy f0) f0 rfl rfl rfl (Bn (D6 (i0 5 _ rfl) hx.ag) rfl) B9 rfl (by decide) gt) o0 fun m0 c0 => ?_
 refine dR [6, 7, 8] c0 fun m0 f0 => ?_
 refine dt 11 rfl b0 f0 (AJ rfl) (fun x hx => BR (sy f0) f0 rfl rfl rfl (Bn (D6 (i0 5 _ rfl) hx.ag) rfl) B9 rfl (by decide) gt) o0 fun m0 c0 => ?_
 refine dR [12, 13, 14] c0 fun m0 f0 => ?_
 refine dt 15 rfl b0 f0 (AJ rfl) (fun x hx => BR (sy f0) f0 rfl rfl rfl (Bn (D6 (i0 8 _ rfl) hx.ag) rfl) Au rfl (by decide) gt) o0 fun m0 c0 => ?_
 refine dt 19 rfl b0 c0 (AJ rfl) (fun x hx => C8 (sy c0) c0 rfl rfl rfl (by decide) gt) o0 fun m0 f0 => ?_
 refine d1 9 ?_
 have m0 := n0.nf
 refine kra f0 m0 ok58 (Fw _ _ m0.il cpr 1) fun n0 c0 o0 i0 => ?_
 have o0 := sWI c0 10 (pB 0 1 pn)
 refine ⟨o0, ?_⟩
 refine dt 10 rfl b0 i0 (AJ rfl) (fun x hx => LZ (v := .int .i64 (orI (GF ubn 2) (mkI cpr 1))) (sy i0) i0 rfl rfl rfl rfl (by decide) (QK (by exact Xa) (by exact WZ (by decide)) (by exact Wo (by decide)) (by exact Wn (by decide))) gt) o0 fun n0 m0 => ?_
 refine d1 16 ?_
 have n0 := c0.nf
 refine kcl m0 ok132 (Nz _ _ n0.il _ _ _ _ _ _ _ (n0.g 0) (n0.z 0) (Ca (i := 0) rfl) (n0.g 7) (hsm := hst) (hl := (by omega)) (hc := hct)) ?_
 rintro m0 c0 ⟨o0, i0, b0, rfl, f0, j0, p0, q0, s0⟩
 have i0 := n0.callM (i := 0) rfl f0 j0
 have j0 := n0.dM 0 i0 p0
 have i0 := n0.dM 0 j0 q0
 refine ⟨_, rfl, fun j0 q0 => ?_⟩
 have hag := s0
 have hgl : b0.length = many (nth uct (uct.length - 1)) := by rw [← Bs, hag, Fh hct, Cz (BO hct)]
 obtain ⟨hg1, hg2, _⟩ := ML hct hag hst (show 0 < many (nth uct (uct.length - 1)) by omega)
 have hg3 : (BF b0 0).2.2 = Ce (agA uct) 0 := by rw [AQ, hag]
 have s0 := sWI i0 10 (pB 0 1 pn)
 refine ⟨s0, ?_⟩
 obtain ⟨s0, j0, n0⟩ := i0.agree
 refine Sz (j0 10 _ rfl) ?_
 have s0 := sWI n0 13 (pB 0 1 pn)
 refine dix 17 0 (0 * 1) q0 (fun x hx => (BD (t := b0) (k := 0) (D6 (j0 11 _ rfl) hx.ag).2 (by omega)).some_) fun s0 i0 => ?_
 refine dle 18 0 (0 * 1) i0 (fun x hx => BD (t := b0) (k := 0) (D6 (j0 11 _ rfl) hx.ag).2 (by omega)) fun s0 q0 => ?_
 have s0 := n0.el 12 0
 refine d1 20 ?_
 have n0 := s0.nf
 refine kcl q0 ok57 (PA _ _ n0.il _ _ _ _ _ _ _ _ _ _ _ _ _ _ _ _ _ _ _ _ _ _ _ (orI (GF ubn 2) (mkI cpr 1)) _ _ ((BF b0 0).2.2) uag udg udi ubg ubn (n0.g 0) (n0.z 0) (Ca (i := 0) rfl) (n0.z 1) (Dw (i := 1) rfl) (n0.rowne (i := 0) (j := 1) rfl rfl (by decide)) (n0.g 1) (n0.g 2) (n0.g 3) (n0.g 4) (n0.g 14) (n0.g 5) (n0.g 9) (n0.g 6)) ?_
 rintro q0 s0 ⟨i0, j0, p0, rfl, f0, o0, c0, m0, t0⟩
 have s0 := n0.callMK (i := 0) (j := 1) rfl rfl (by decide) f0 o0 c0
 have c0 := n0.dM 0 s0 m0
 refine ⟨_, rfl, fun s0 m0 => ?_⟩
 have s0 := sWI c0 13 (pB 0 1 pn)
 refine ⟨s0, ?_⟩
 refine dR [21] m0 fun s0 n0 => ?_
 refine AL (by kernel_rfl) (k0 _ _ ?_) _
 refine xn d0 <| rt1 n0 ?_
 refine ⟨i0, j0, p0, ?_, c0.fr, (by rw [show ((hy2 ce cn cst cpr cmo uct ubn cpl udi).2 : Int) = ((piP (K6 ce (cn + 1) cmo (hfX ce (cn + 1) cst cpl udi ubn (cn + 1)), HD ce (cn + 1) cmo (hfX ce (cn + 1) cst cpl udi ubn (cn + 1))) (orI (GF ubn 2) (mkI cpr 1)) ((BF b0 0).2.2)).2) by (rw [hg3]; rfl)]; exact c0.res (i := 0) rfl), c0.res (i := 1) rfl, c0.rx 15, (by rw [t0, hg3]; rfl)⟩
 exact cre (CZ (by rfl))
def HypC (rn : Nat) : Prop := ∀ (w0 : World) (Z : Nat → Prop) (hZ : HZ w0 Z) (cg : Nat) (ce : Int) (cn : Int) (cK : Value) (cL : Value) (cS : ByteArray) (cT : Value) (cB : Value) (cC : Value) (ck : Int) (cstA : Option Addr) (cstc : Nat) (cst : List Bool) (cpr : Bool) (cmoA : Option Addr) (cmoc : Nat) (cmo : List Nd) (ctyA : Option Addr) (ctyc : Nat) (cty : List Sl) (cplA : Option Addr) (cplc : Nat) (cpl : List Int) (i : Nat) (hShp : Cu w0 Z) (hc : (Res.box cg 59 [.int .i64 ce, .int .i64 cn, cK, cL, .string cS, cT, cB, cC, .int .i64 ck, .slice cstA cst.length cstc, .bool cpr, .slice cmoA cmo.length cmoc, .slice ctyA cty.length ctyc, .slice cplA cpl.length cplc]).holds w0) (hcz : ¬ Z cg) (hcpl : (Res.row cplA cpl.length cplc 3 1 (BN cpl)).holds w0) (hcplz : ∀ k, rM cplA k → ¬ Z k) (hcpln : ∀ k, rM cplA k → k ≠ cg) (hcst : (Bw 1 cstA cst.length cstc (D2 cst)).φ w0 Z) (hcmo : N4 cmoA cmoc cmo w0 Z) (hcty : (Bw 1 ctyA cty.length ctyc (B7 cty)).φ w0 Z) (hctys : (Cl cty).φ w0 Z) (hmo : sml cmo) (hml : cmo.length ≤ 100000) (hpl : ∀ j, -1000 ≤ Ci cpl j ∧ Ci cpl j ≤ 1000) (hlc : cst.length = cty.length) (hlp : cpl.length = cty.length) (hty : ∀ t ∈ Bt cty, sml t ∧ t.length ≤ 4000) (hn6 : cty.length ≤ 6) (hcS : cS.size < 1000000) (hi : i ≤ cty.length) (hbn : -500 ≤ cn ∧ cn + ((cty.length - i : Nat) : Int) ≤ 500) (hrn : cty.length - i = rn),
    Calls Tryz.prog 56 [.pointer (some ⟨cg, 0, none⟩), .int .i64 (i : Int)].toArray w0 (fun e w' => ∃ (rA0 : Option Addr) (rc0 : Nat) (rL0 : List Nd), e = .returned (.slice rA0 rL0.length rc0) ∧ Fr (fun k => k = cg ∨ rM cplA k) w0 w' ∧ (Res.box cg 59 [.int .i64 ((hyF cS ck cst cpr cmo (Bt cty) cpl cty.length (cty.length - i) ce cn).2), .int .i64 cn, cK, cL, .string cS, cT, cB, cC, .int .i64 ck, .slice cstA cst.length cstc, .bool cpr, .slice cmoA cmo.length cmoc, .slice ctyA cty.length ctyc, .slice cplA cpl.length cplc]).holds w' ∧ (Res.row cplA cpl.length cplc 3 1 (BN cpl)).holds w' ∧ N4 rA0 rc0 rL0 w' (nxt Z w0 w') ∧ rL0 = (hyF cS ck cst cpr cmo (Bt cty) cpl cty.length (cty.length - i) ce cn).1)
theorem NI (w0 : World) (Z : Nat → Prop) (hZ : HZ w0 Z) (cg : Nat) (ce : Int) (cn : Int) (cK : Value) (cL : Value) (cS : ByteArray) (cT : Value) (cB : Value) (cC : Value) (ck : Int) (cstA : Option Addr) (cstc : Nat) (cst : List Bool) (cpr : Bool) (cmoA : Option Addr) (cmoc : Nat) (cmo : List Nd) (ctyA : Option Addr) (ctyc : Nat) (cty : List Sl) (cplA : Option Addr) (cplc : Nat) (cpl : List Int) (qq : Int) (uag : Nat) (ubg : Nat) (ubi : Nat) (hShp : Cu w0 Z) (hc : (Res.box cg 59 [.int .i64 ce, .int .i64 cn, cK, cL, .string cS, cT, cB, cC, .int .i64 ck, .slice cstA cst.length cstc, .bool cpr, .slice cmoA cmo.length cmoc, .slice ctyA cty.length ctyc, .slice cplA cpl.length cplc]).holds w0) (hcz : ¬ Z cg) (hcpl : (Res.row cplA cpl.length cplc 3 1 (BN cpl)).holds w0) (hcplz : ∀ k, rM cplA k → ¬ Z k) (hcpln : ∀ k, rM cplA k → k ≠ cg) (hcst : (Bw 1 cstA cst.length cstc (D2 cst)).φ w0 Z) (hcmo : N4 cmoA cmoc cmo w0 Z) (hcty : (Bw 1 ctyA cty.length ctyc (B7 cty)).φ w0 Z) (hctys : (Cl cty).φ w0 Z) (huaQ : (Ct uag [.pointer (some ⟨cg, 0, none⟩)]).φ w0 Z) (hubQ : (Ct ubg [.int .i64 (ubi : Int)]).φ w0 Z) (hmo : sml cmo := by exact ax) (hml : cmo.length ≤ 100000 := by exact ax) (hpl : ∀ j, -1000 ≤ Ci cpl j ∧ Ci cpl j ≤ 1000 := by exact ax) (hlc : cst.length = cty.length := by exact ax) (hlp : cpl.length = cty.length := by exact ax) (hty : ∀ t ∈ Bt cty, sml t ∧ t.length ≤ 4000 := by exact ax) (hn6 : cty.length ≤ 6 := by exact ax) (hcS : cS.size < 1000000 := by exact ax) (hiu : ubi < cty.length := by exact ax) (hbn : -500 ≤ cn ∧ cn + ((cty.length - (ubi + 1) : Nat) : Int) ≤ 500 := by exact ax) (hH : HypC (cty.length - (ubi + 1)) := by exact ax) :
    Calls Tryz.prog 98 [.int .i64 qq, .pointer (some ⟨uag, 0, none⟩), .pointer (some ⟨ubg, 0, none⟩)].toArray w0 (fun e w' => ∃ (rA0 : Option Addr) (rc0 : Nat) (rL0 : List Nd), e = .returned (.slice rA0 rL0.length rc0) ∧ Fr (fun k => k = cg ∨ rM cplA k) w0 w' ∧ (Res.box cg 59 [.int .i64 ((hyF cS ck cst cpr cmo (Bt cty) cpl cty.length (cty.length - (ubi + 1)) ce cn).2), .int .i64 cn, cK, cL, .string cS, cT, cB, cC, .int .i64 ck, .slice cstA cst.length cstc, .bool cpr, .slice cmoA cmo.length cmoc, .slice ctyA cty.length ctyc, .slice cplA cpl.length cplc]).holds w' ∧ (Res.row cplA cpl.length cplc 3 1 (BN cpl)).holds w' ∧ N4 rA0 rc0 rL0 w' (nxt Z w0 w') ∧ rL0 = (hyF cS ck cst cpr cmo (Bt cty) cpl cty.length (cty.length - (ubi + 1)) ce cn).1) := by
 have hstart : ∀ k, Z k → imm Z w0 [.box cg 59 [.int .i64 ce, .int .i64 cn, cK, cL, .string cS, cT, cB, cC, .int .i64 ck, .slice cstA cst.length cstc, .bool cpr, .slice cmoA cmo.length cmoc, .slice ctyA cty.length ctyc, .slice cplA cpl.length cplc], .row cplA cpl.length cplc 3 1 (BN cpl)] w0 k ∧ w0.heap[k]? = w0.heap[k]? := fun k hk => Dm hZ hcz hcplz hk
 have b0 : St w0 Z (fun k => k = cg ∨ rM cplA k) w0 [.box cg 59 [.int .i64 ce, .int .i64 cn, cK, cL, .string cS, cT, cB, cC, .int .i64 ck, .slice cstA cst.length cstc, .bool cpr, .slice cmoA cmo.length cmoc, .slice ctyA cty.length ctyc, .slice cplA cpl.length cplc], .row cplA cpl.length cplc 3 1 (BN cpl)] [Br, Bw 1 cstA cst.length cstc (D2 cst), n4 cmoA cmoc cmo, Bw 1 ctyA cty.length ctyc (B7 cty), Cl cty, Ct uag [.pointer (some ⟨cg, 0, none⟩)], Ct ubg [.int .i64 (ubi : Int)]] := D3 w0 Z _ hc hcpl hcpln (by
  intro d hd
  simp only [AD, AG, or_false] at hd
  rcases hd with rfl | rfl | rfl | rfl | rfl | rfl | rfl
  exact Dat.mono _ _ _ _ _ (Af _) hShp hstart
  exact Dat.mono _ _ _ _ _ (Af _) hcst hstart
  exact Dat.mono _ _ _ _ _ (Af _) hcmo hstart
  exact Dat.mono _ _ _ _ _ (Af _) hcty hstart
  exact Dat.mono _ _ _ _ _ (Af _) hctys hstart
  exact Dat.mono _ _ _ _ _ (Af _) huaQ hstart
  exact Dat.mono _ _ _ _ _ (Af _) hubQ hstart
  )
 refine AE Tryz.func98 rfl Tryz.ntmps98 rfl fun c0 d0 => ?_
 refine rR d0 fun c0 f0 => ?_
 refine wsc fun c0 d0 => BR sv f0 rfl rfl rfl (Bn (b0.get (i := 5) rfl) rfl) B9 rfl (by decide) fun c0 h0 => ?_
 refine BR sv h0 rfl rfl rfl (Bn (b0.get (i := 6) rfl) rfl) Bl rfl (by decide) fun c0 f0 => ?_
 refine adi ((ubi + 1 : Nat) : Int) f0 fun c0 h0 => ?_
 have c0 := b0.nf
 refine kcl h0 ok56 (hH _ (imm Z w0 [.box cg 59 [.int .i64 ce, .int .i64 cn, cK, cL, .string cS, cT, cB, cC, .int .i64 ck, .slice cstA cst.length cstc, .bool cpr, .slice cmoA cmo.length cmoc, .slice ctyA cty.length ctyc, .slice cplA cpl.length cplc], .row cplA cpl.length cplc 3 1 (BN cpl)] _) (fun _ h => h.1) _ _ _ _ _ _ _ _ _ _ _ _ _ _ _ _ _ _ _ _ _ _ _ (ubi + 1) (c0.g 0) (c0.z 0) (Ca (i := 0) rfl) (c0.z 1) (Dw (i := 1) rfl) (c0.rowne (i := 0) (j := 1) rfl rfl (by decide)) (c0.g 1) (c0.g 2) (c0.g 3) (c0.g 4) (by assumption) (by assumption) (by assumption) (by assumption) (by assumption) (by assumption) (by assumption) (by assumption) (by assumption) (by assumption) rfl) ?_
 rintro h0 b0 ⟨f0, i0, j0, rfl, k0, m0, n0, o0, p0⟩
 have b0 := c0.callMK (i := 0) (j := 1) rfl rfl (by decide) k0 m0 n0
 have n0 := c0.dM 0 b0 o0
 refine ⟨_, rfl, fun b0 o0 => ?_⟩
 refine aw o0 d0 fun b0 c0 => ?_
 refine rt1 c0 ?_
 refine ⟨f0, i0, j0, ?_, n0.fr, (by rw [show ((hyF cS ck cst cpr cmo (Bt cty) cpl cty.length (cty.length - (ubi + 1)) ce cn).2 : Int) = ((hyF cS ck cst cpr cmo (Bt cty) cpl cty.length (cty.length - (ubi + 1)) ce cn).2) by (first | rfl | (simp only [AQ, *]; done) | (simp only [AQ, *]; rfl))]; exact n0.res (i := 0) rfl), n0.res (i := 1) rfl, n0.rx 7, (by exact p0)⟩
 exact cre (CZ (by rfl))
theorem JP (w0 : World) (Z : Nat → Prop) (hZ : HZ w0 Z) (cg : Nat) (ce : Int) (cn : Int) (cK : Value) (cL : Value) (cS : ByteArray) (cT : Value) (cB : Value) (cC : Value) (ck : Int) (cstA : Option Addr) (cstc : Nat) (cst : List Bool) (cpr : Bool) (cmoA : Option Addr) (cmoc : Nat) (cmo : List Nd) (ctyA : Option Addr) (ctyc : Nat) (cty : List Sl) (cplA : Option Addr) (cplc : Nat) (cpl : List Int) (mm : Int) (dA : Option Addr) (dc : Nat) (d : List Nd) (vvpg : Nat) (vvqg : Nat) (vvqi : Nat) (hShp : Cu w0 Z) (hc : (Res.box cg 59 [.int .i64 ce, .int .i64 cn, cK, cL, .string cS, cT, cB, cC, .int .i64 ck, .slice cstA cst.length cstc, .bool cpr, .slice cmoA cmo.length cmoc, .slice ctyA cty.length ctyc, .slice cplA cpl.length cplc]).holds w0) (hcz : ¬ Z cg) (hcpl : (Res.row cplA cpl.length cplc 3 1 (BN cpl)).holds w0) (hcplz : ∀ k, rM cplA k → ¬ Z k) (hcpln : ∀ k, rM cplA k → k ≠ cg) (hcst : (Bw 1 cstA cst.length cstc (D2 cst)).φ w0 Z) (hcmo : N4 cmoA cmoc cmo w0 Z) (hcty : (Bw 1 ctyA cty.length ctyc (B7 cty)).φ w0 Z) (hctys : (Cl cty).φ w0 Z) (hd : N4 dA dc d w0 Z) (hvvpQ : (Ct vvpg [.pointer (some ⟨cg, 0, none⟩)]).φ w0 Z) (hvvqQ : (Ct vvqg [.int .i64 (vvqi : Int)]).φ w0 Z) (hmo : sml cmo := by exact ax) (hml : cmo.length ≤ 100000 := by exact ax) (hpl : ∀ j, -1000 ≤ Ci cpl j ∧ Ci cpl j ≤ 1000 := by exact ax) (hlc : cst.length = cty.length := by exact ax) (hlp : cpl.length = cty.length := by exact ax) (hty : ∀ t ∈ Bt cty, sml t ∧ t.length ≤ 4000 := by exact ax) (hn6 : cty.length ≤ 6 := by exact ax) (hcS : cS.size < 1000000 := by exact ax) (hiu : vvqi < cty.length := by exact ax) (hbn : -500 ≤ cn + 1 ∧ cn + 1 + ((cty.length - (vvqi + 1) : Nat) : Int) ≤ 500 := by exact ax) (hH : HypC (cty.length - (vvqi + 1)) := by exact ax) (hsd : sml d := by exact ax) (hld : d.length ≤ 20000 := by exact ax) :
    Calls Tryz.prog 57 [.pointer (some ⟨cg, 0, none⟩), .int .i64 mm, .slice dA d.length dc, .func (.func 98) #[] #[.pointer (some ⟨vvpg, 0, none⟩), .pointer (some ⟨vvqg, 0, none⟩)]].toArray w0 (fun e w' => ∃ (rA0 : Option Addr) (rc0 : Nat) (rL0 : List Nd), e = .returned (.slice rA0 rL0.length rc0) ∧ Fr (fun k => k = cg ∨ rM cplA k) w0 w' ∧ (Res.box cg 59 [.int .i64 ((piP (hyF cS ck cst cpr cmo (Bt cty) cpl cty.length (cty.length - (vvqi + 1)) ce (cn + 1)) mm d).2), .int .i64 cn, cK, cL, .string cS, cT, cB, cC, .int .i64 ck, .slice cstA cst.length cstc, .bool cpr, .slice cmoA cmo.length cmoc, .slice ctyA cty.length ctyc, .slice cplA cpl.length cplc]).holds w' ∧ (Res.row cplA cpl.length cplc 3 1 (BN cpl)).holds w' ∧ N4 rA0 rc0 rL0 w' (nxt Z w0 w') ∧ rL0 = (piP (hyF cS ck cst cpr cmo (Bt cty) cpl cty.length (cty.length - (vvqi + 1)) ce (cn + 1)) mm d).1) := by
 have hstart : ∀ k, Z k → imm Z w0 [.box cg 59 [.int .i64 ce, .int .i64 cn, cK, cL, .string cS, cT, cB, cC, .int .i64 ck, .slice cstA cst.length cstc, .bool cpr, .slice cmoA cmo.length cmoc, .slice ctyA cty.length ctyc, .slice cplA cpl.length cplc], .row cplA cpl.length cplc 3 1 (BN cpl)] w0 k ∧ w0.heap[k]? = w0.heap[k]? := fun k hk => Dm hZ hcz hcplz hk
 have b0 : St w0 Z (fun k => k = cg ∨ rM cplA k) w0 [.box cg 59 [.int .i64 ce, .int .i64 cn, cK, cL, .string cS, cT, cB, cC, .int .i64 ck, .slice cstA cst.length cstc, .bool cpr, .slice cmoA cmo.length cmoc, .slice ctyA cty.length ctyc, .slice cplA cpl.length cplc], .row cplA cpl.length cplc 3 1 (BN cpl)] [Br, Bw 1 cstA cst.length cstc (D2 cst), n4 cmoA cmoc cmo, Bw 1 ctyA cty.length ctyc (B7 cty), Cl cty, n4 dA dc d, Ct vvpg [.pointer (some ⟨cg, 0, none⟩)], Ct vvqg [.int .i64 (vvqi : Int)]] := D3 w0 Z _ hc hcpl hcpln (by
  intro d hd
  simp only [AD, AG, or_false] at hd
  rcases hd with rfl | rfl | rfl | rfl | rfl | rfl | rfl | rfl
  exact Dat.mono _ _ _ _ _ (Af _) hShp hstart
  exact Dat.mono _ _ _ _ _ (Af _) hcst hstart
  exact Dat.mono _ _ _ _ _ (Af _) hcmo hstart
  exact Dat.mono _ _ _ _ _ (Af _) hcty hstart
  exact Dat.mono _ _ _ _ _ (Af _) hctys hstart
  exact Dat.mono _ _ _ _ _ (Af _) hd hstart
  exact Dat.mono _ _ _ _ _ (Af _) hvvpQ hstart
  exact Dat.mono _ _ _ _ _ (Af _) hvvqQ hstart
  )
 refine AE Tryz.func57 rfl Tryz.ntmps57 rfl fun c0 d0 => ?_
 refine rR d0 fun c0 f0 => ?_
 refine wsc fun c0 d0 => lR f0 fun c0 h0 => ?_
 refine adi (cn + 1) h0 fun c0 f0 => ?_
 refine lR f0 fun c0 h0 => ?_
 refine sto 0 h0 b0 fun c0 f0 i0 j0 => ?_
 refine wn d0 <| wsc fun d0 f0 => lR i0 fun d0 c0 => ?_
 have d0 := j0.nf
 refine DI (xs := [.tmp 21]) se c0 rfl rfl rfl rfl (by decide) ok98 (NI _ _ d0.il _ _ _ _ _ _ _ _ _ _ _ _ _ _ _ _ _ _ _ _ _ _ _ (cn + 1) vvpg vvqg vvqi (d0.g 0) (d0.z 0) (Ca (i := 0) rfl) (d0.z 1) (Dw (i := 1) rfl) (d0.rowne (i := 0) (j := 1) rfl rfl (by decide)) (d0.g 1) (d0.g 2) (d0.g 3) (d0.g 4) (d0.g 6) (d0.g 7)) ?_
 rintro c0 j0 ⟨i0, h0, b0, rfl, k0, m0, n0, o0, p0⟩
 have j0 := d0.callMK (i := 0) (j := 1) rfl rfl (by decide) k0 m0 n0
 have n0 := d0.dM 0 j0 o0
 refine ⟨_, rfl, fun j0 o0 => ?_⟩
 obtain ⟨j0, d0⟩ := (show b0.length ≤ 60000 ∧ sml b0 by rw [p0]; have zz := TZ (S := cS) (k := ck) (st := cst) (pr := cpr) (pl := cpl) hcS hmo (fun t ht => (hty t ht).1) (Bs _).symm (cty.length - (vvqi + 1)) (by omega) ce (cn + 1); exact ⟨by omega, zz.2⟩)
 refine aw o0 f0 fun d0 j0 => ?_
 refine wsc fun f0 d0 => lR j0 fun f0 o0 => ?_
 refine sbi cn o0 fun f0 j0 => ?_
 refine lR j0 fun f0 o0 => ?_
 refine sto 0 o0 n0 fun f0 j0 p0 m0 => ?_
 refine wn d0 <| wsc fun d0 j0 => lR p0 fun d0 f0 => ?_
 refine bld f0 fun d0 p0 => ?_
 refine lR p0 fun d0 f0 => ?_
 have d0 := m0.data (Cl [((dA, dc, d) : Sl), ((i0, h0, b0) : Sl)]) (Cy (m0.get (i := 5) rfl) (Cy (m0.get (i := 8) rfl) Cp))
 refine bsl f0 d0 fun m0 p0 o0 n0 k0 => ?_
 have p0 := k0.nf
 have k0 := Db (p0.res (i := 2) rfl)
 obtain ⟨m0, d0⟩ := p0.row_dataG (i := 2) rfl (Gv (i := 2) rfl rfl (by decide) (by decide))
 have p0 := m0.data (Bw 1 (some ⟨o0, 0, none⟩) 2 2 (B7 ([((dA, dc, d) : Sl), ((i0, h0, b0) : Sl)]))) ⟨k0, d0⟩
 refine kcl n0 Wg (Ex _ _ p0.il _ _ _ _ (⟨3, mm, 0, (⟨#[]⟩ : ByteArray)⟩ : Nd) _ _ ([((dA, dc, d) : Sl), ((i0, h0, b0) : Sl)]) (p0.z 0) (Ca (i := 0) rfl) (p0.g 10) (p0.g 9) (hb := (by simp; omega))) ?_
 rintro n0 b0 ⟨h0, i0, d0, rfl, m0, k0, o0, f0⟩
 have f0 := p0.callM (i := 0) rfl m0 k0
 have k0 := p0.dM 0 f0 o0
 refine ⟨_, rfl, fun f0 o0 => ?_⟩
 refine aw o0 j0 fun f0 p0 => ?_
 refine rt1 p0 ?_
 refine ⟨h0, i0, d0, ?_, k0.fr, (by rw [show ((piP (hyF cS ck cst cpr cmo (Bt cty) cpl cty.length (cty.length - (vvqi + 1)) ce (cn + 1)) mm d).2 : Int) = ((hyF cS ck cst cpr cmo (Bt cty) cpl cty.length (cty.length - (vvqi + 1)) ce (cn + 1)).2) by (first | rfl | (simp only [AQ, *]; done) | (simp only [AQ, *]; rfl))]; exact k0.res (i := 0) rfl), k0.res (i := 1) rfl, k0.rx 11, (by (simp only [AQ, *]; rfl))⟩
 exact cre (CZ (by rfl))
theorem JB (rn : Nat) : HypC rn := by
 induction rn using Nat.strongRecOn
 rename_i rn ih
 intro w0 Z hZ cg ce cn cK cL cS cT cB cC ck cstA cstc cst cpr cmoA cmoc cmo ctyA ctyc cty cplA cplc cpl i hShp hc hcz hcpl hcplz hcpln hcst hcmo hcty hctys hmo hml hpl hlc hlp hty hn6 hcS hi hbn hrn
 have hstart : ∀ k, Z k → imm Z w0 [.box cg 59 [.int .i64 ce, .int .i64 cn, cK, cL, .string cS, cT, cB, cC, .int .i64 ck, .slice cstA cst.length cstc, .bool cpr, .slice cmoA cmo.length cmoc, .slice ctyA cty.length ctyc, .slice cplA cpl.length cplc], .row cplA cpl.length cplc 3 1 (BN cpl)] w0 k ∧ w0.heap[k]? = w0.heap[k]? := fun k hk => Dm hZ hcz hcplz hk
 have b0 : St w0 Z (fun k => k = cg ∨ rM cplA k) w0 [.box cg 59 [.int .i64 ce, .int .i64 cn, cK, cL, .string cS, cT, cB, cC, .int .i64 ck, .slice cstA cst.length cstc, .bool cpr, .slice cmoA cmo.length cmoc, .slice ctyA cty.length ctyc, .slice cplA cpl.length cplc], .row cplA cpl.length cplc 3 1 (BN cpl)] [Br, Bw 1 cstA cst.length cstc (D2 cst), n4 cmoA cmoc cmo, Bw 1 ctyA cty.length ctyc (B7 cty), Cl cty] := D3 w0 Z _ hc hcpl hcpln (by
  intro d hd
  simp only [AD, AG, or_false] at hd
  rcases hd with rfl | rfl | rfl | rfl | rfl
  exact Dat.mono _ _ _ _ _ (Af _) hShp hstart
  exact Dat.mono _ _ _ _ _ (Af _) hcst hstart
  exact Dat.mono _ _ _ _ _ (Af _) hcmo hstart
  exact Dat.mono _ _ _ _ _ (Af _) hcty hstart
  exact Dat.mono _ _ _ _ _ (Af _) hctys hstart
  )
 refine AE Tryz.func56 rfl Tryz.ntmps56 rfl fun c0 d0 => ?_
 refine wsc fun c0 f0 => bxx d0 b0 fun c0 h0 i0 j0 k0 => ?_
 refine bxx j0 k0 fun h0 c0 d0 b0 m0 => ?_
 refine aw b0 f0 fun h0 k0 => ?_
 refine Ac fun f0 h0 => Ac fun f0 b0 => ?_
 obtain ⟨f0, j0, n0⟩ := m0.agree
 refine Cj (n := 7) n0 5 (pB 0 1 (pc 2 0 (pc 3 0 pn))) (A5 (A5 BC)) fun j0 m0 o0 p0 q0 s0 => ?_
 refine dR [0, 1, 2, 3, 4, 5, 6] k0 fun s0 p0 => ?_
 refine AL (by kernel_rfl) (o0 _ _ ?_) _
 refine xn b0 <| wcd p0 (fun b0 o0 => ?_) fun b0 s0 => ?_
 have hkE := W9 (S := cS) (k := ck) (e := ce) (a := cn) (st := cst) (pr := cpr) (mo := cmo) (pl := cpl) (i := i) (Eq.refl cty.length) (show cty.length ≤ i by omega)
 refine rR o0 fun b0 p0 => ?_
 refine Ac fun b0 o0 => rR p0 fun b0 k0 => ?_
 refine A4 ?_
 have b0 := q0.nilrow 22 1
 have p0 := b0.data (Cl []) Cp
 refine AH (fun gn ga gw => ∃ k : Nat, ∃ Ls : List Sl, ∃ Ao : Option Addr, ∃ co : Nat, (Reg ga 71 [(1000000, .bool false), (2, .pointer (some ⟨i0, 0, none⟩)), (3, .pointer (some ⟨d0, 0, none⟩)), (4, .slice none 0 0), (19, .int .i64 (cty.length : Int)), (20, .int .i64 (k : Int)), (5, .slice Ao ((Ls).length) co)]) ∧ (St w0 Z (fun k => k = cg ∨ rM cplA k) gw [.box cg 59 [.int .i64 ce, .int .i64 cn, cK, cL, .string cS, cT, cB, cC, .int .i64 ck, .slice cstA cst.length cstc, .bool cpr, .slice cmoA cmo.length cmoc, .slice ctyA cty.length ctyc, .slice cplA cpl.length cplc], .row cplA cpl.length cplc 3 1 (BN cpl), .box i0 52 [.pointer (some ⟨cg, 0, none⟩)], .box d0 3 [.int .i64 (i : Int)], .row Ao ((Ls).length) co 22 1 (B7 Ls)] [Br, Bw 1 cstA cst.length cstc (D2 cst), n4 cmoA cmoc cmo, Bw 1 ctyA cty.length ctyc (B7 cty), Cl cty, dAg c0 f0, Cl Ls]) ∧ (k ≤ cty.length) ∧ (Bt Ls = (List.range k).map (Gf ce cn cst cpl)) ∧ (cty.length - k) = gn) _ ⟨0, [], none, 0, (k0.sub (rc4 (rc2 (rc rfl rnl)))), p0, by omega, rfl, rfl⟩ ?_
 rintro p0 k0 f0 ⟨k, Ls, Ao, co, c0, b0, hk, hL, m0⟩
 have hLn : Ls.length = k := by rw [← Bs, hL, BT, List.length_range]
 refine rR c0 fun m0 f0 => ?_
 refine Ac fun m0 c0 => wcd f0 (fun m0 k0 => ?_) fun m0 p0 => ?_
 refine Am <| xn c0 <| Ac fun c0 m0 => A4 ?_
 refine wsc fun c0 f0 => lR k0 fun c0 j0 => ?_
 refine Ae (AC (f0 _ _ (A0 ?_)))
 refine lR j0 fun f0 c0 => ?_
 have f0 := b0.nf
 refine kcl c0 ok94 (Jq _ _ f0.il _ _ _ _ _ _ _ _ _ _ _ _ _ _ _ _ _ _ _ k (f0.z 0) (Ca (i := 0) rfl) (f0.z 1) (Dw (i := 1) rfl) (f0.rowne (i := 0) (j := 1) rfl rfl (by decide)) (f0.g 1)) ?_
 rintro c0 j0 ⟨k0, n0, t0, rfl, u0, v0, x0, y0, z0⟩
 have j0 := f0.callMK (i := 0) (j := 1) rfl rfl (by decide) u0 v0 x0
 have x0 := f0.dM 0 j0 y0
 refine ⟨_, rfl, fun j0 y0 => ?_⟩
 obtain ⟨j0, f0⟩ : t0.length ≤ 1 ∧ sml t0 := by rw [z0]; exact ⟨Hq, Ff⟩
 have f0 := x0.data (Cl [((k0, n0, t0) : Sl)]) (Cy (x0.get (i := 7) rfl) Cp)
 refine bsl y0 f0 fun x0 j0 v0 u0 c0 => ?_
 refine BL (f := FK) (i := 4) Ls ([((k0, n0, t0) : Sl)]) sv u0 c0 rfl rfl rfl rfl rfl Dc (D7 _) Be L3 rfl rfl (BU (f := FK) (c0.res (i := 5) rfl)) rfl (by (simp only [Ad, Aj]; omega)) (by decide) fun v0 j0 x0 f0 y0 b1 c1 => ?_
 have y0 : (Ls ++ ([((k0, n0, t0) : Sl)]) : List Sl).length = (Ls).length + 1 := by (simp only [Ab, Ah, Ad, Aj]; done)
 have y0 := c1.erase 5
 have c1 := y0.data (Cl (Ls ++ ([((k0, n0, t0) : Sl)]))) (CH (y0.get (i := 6) rfl) (y0.get (i := 8) rfl))
 refine asg b1 fun y0 j0 => ?_
 refine Ae ?_
 refine A7 <| xn m0 <| A0 ?_
 refine adi ((k + 1 : Nat) : Int) j0 fun m0 y0 => ?_
 refine mv y0 fun m0 j0 => ?_
 refine Ae ?_
 have m0 := c1.forget 8
 have c1 := m0.forget 7
 have m0 := c1.forget 6
 exact ⟨_, by omega, k + 1, Ls ++ ([((k0, n0, t0) : Sl)]), x0, f0, (j0.sub (rc4 (rc2 (rc rfl rnl)))), m0, by omega, Xc hL z0, rfl⟩
 refine xe ?_
 refine xn o0 <| Ac fun o0 m0 => ?_
 obtain ⟨o0, j0, f0⟩ := b0.agree
 refine Cj (n := 21) f0 7 (pB 0 1 (pc 2 0 pn)) (A5 (A5 BC)) fun j0 o0 b0 x0 z0 t0 => ?_
 refine dR [0, 1, 2, 3, 4, 5, 6, 7, 8, 9, 10, 11, 12, 13, 14, 15] p0 fun x0 j0 => ?_
 refine dt 16 rfl o0 j0 (AJ rfl) (fun x hx => WV j0) t0 fun x0 p0 => ?_
 refine dR [17] p0 fun x0 j0 => ?_
 refine d1 18 ?_
 have x0 := z0.nf
 have z0 := Db (x0.res (i := 4) rfl)
 obtain ⟨p0, t0⟩ := x0.row_dataG (i := 4) rfl (Gv (i := 4) rfl rfl (by decide) (by decide))
 have x0 := p0.data (Bw 1 Ao ((Ls).length) co (B7 Ls)) ⟨z0, t0⟩
 refine kcl j0 Wg (Ex _ _ x0.il _ _ _ _ (⟨26, ck, ((Ls).length : Int), cS⟩ : Nd) _ _ _ (x0.z 0) (Ca (i := 0) rfl) (x0.g 8) (x0.g 6) (hl := (by omega)) (hb := (arg_bd hL))) ?_
 rintro j0 t0 ⟨p0, z0, o0, rfl, f0, n0, k0, c1⟩
 have z0 := x0.callM (i := 0) rfl f0 n0
 have n0 := x0.dM 0 z0 k0
 refine ⟨_, rfl, fun z0 k0 => ?_⟩
 rw [show k = cty.length by omega] at hL
 obtain ⟨z0, x0⟩ : o0.length ≤ cty.length + 1 ∧ sml o0 := by rw [c1]; exact hyN_Z hL hcS
 rw [hL, hLn, show k = cty.length by omega] at c1
 have x0 := sWI n0 7 (pB 0 1 (pc 2 0 pn))
 refine ⟨x0, ?_⟩
 refine d1 19 ?_
 have x0 := n0.nf
 refine kcl k0 ok95 (Hv _ _ x0.il _ _ _ _ _ _ _ _ _ _ _ _ _ _ _ _ _ _ _ _ (x0.g 0) (x0.z 0) (Ca (i := 0) rfl) (x0.g 2) (x0.g 9)) ?_
 rintro k0 n0 ⟨z0, f0, p0, rfl, t0, j0, y0, b1⟩
 have n0 := x0.callM (i := 0) rfl t0 j0
 have j0 := x0.dM 0 n0 y0
 refine ⟨_, rfl, fun n0 y0 => ?_⟩
 obtain ⟨n0, x0⟩ : p0.length ≤ 4000 ∧ sml p0 := by rw [b1]; exact ⟨Gi, Gh hmo (by assumption)⟩
 have x0 := sWI j0 7 (pB 0 1 (pc 2 0 pn))
 refine ⟨x0, ?_⟩
 refine dR [20] y0 fun x0 n0 => ?_
 refine AL (by kernel_rfl) (b0 _ _ ?_) _
 refine xn m0 <| rt1 n0 ?_
 refine ⟨z0, f0, p0, ?_, j0.fr, (by rw [show ((hyF cS ck cst cpr cmo (Bt cty) cpl cty.length (cty.length - i) ce cn).2 : Int) = (HD ce cn cmo o0) by (first | exact (congrArg Prod.snd hkE.symm) | (rw [hkE]; done) | (rw [hkE]; simp only [c1, b1]; done) | (rw [hkE]; simp only [*]; done))]; exact j0.res (i := 0) rfl), j0.res (i := 1) rfl, j0.rx 10, (by (rw [hkE]; simp only [*]; done))⟩
 exact cre (CZ (by rfl))
 have hiu : i < cty.length := by omega
 obtain ⟨hts, htl⟩ := ty_at hty hiu
 refine Am <| xn h0 <| wsc fun h0 j0 => lR s0 fun h0 b1 => ?_
 refine Wx (xs := [.tmp 50, .tmp 51]) se b1 rfl rfl rfl (by decide) ok97 ?_
 refine AE (vs := [.pointer (some ⟨cg, 0, none⟩), .int .i64 (i : Int)]) Tryz.func97 rfl Tryz.ntmps97 rfl fun b1 h0 => ?_
 refine wsc fun b1 s0 => bxx h0 q0 fun b1 p0 f0 z0 c1 => ?_
 refine bxx z0 c1 fun p0 b1 h0 q0 o0 => ?_
 refine aw q0 s0 fun b1 p0 => ?_
 refine Ac fun s0 b1 => ?_
 obtain ⟨s0, q0, c1⟩ := o0.agree
 refine Cj (n := 9) c1 6 (pB 0 1 (pc 4 0 (pc 5 0 pn))) (A5 BC) fun s0 o0 z0 n0 m0 b0 => ?_
 refine dR [0, 1, 2, 3, 4] p0 fun b0 n0 => ?_
 refine dix 5 i (i * 1) n0 (fun x hx => (BD (t := cty) (k := i) (D6 (q0 3 _ rfl) hx.ag).2 (by omega)).some_) fun b0 p0 => ?_
 refine dle 6 0 (i * 1) p0 (fun x hx => BD (t := cty) (k := i) (D6 (q0 3 _ rfl) hx.ag).2 (by omega)) fun b0 n0 => ?_
 have b0 := m0.el 4 i
 refine d1 7 ?_
 refine alc n0 b0 fun m0 p0 q0 o0 s0 => ?_
 have p0 := sWI s0 6 (pB 0 1 (pc 4 0 (pc 5 0 pn)))
 refine ⟨p0, ?_⟩
 refine d1 8 ?_
 refine sto 6 o0 s0 fun p0 m0 b0 n0 => ?_
 have m0 := sWI n0 6 (pB 0 1 (pc 4 0 (pc 5 0 pn)))
 refine ⟨m0, ?_⟩
 refine AL (by kernel_rfl) (z0 _ _ ?_) _
 refine xn b1 <| Ac fun b1 z0 => Ac fun b1 m0 => ?_
 obtain ⟨b1, p0, s0⟩ := n0.agree
 refine Cj (n := 7) s0 8 (pB 0 1 (pc 4 0 (pc 6 0 pn))) (A5 (A5 BC)) fun p0 b1 n0 o0 c1 x0 => ?_
 refine dR [0, 1, 2, 3, 4, 5] b0 fun x0 o0 => ?_
 refine d1 6 ?_
 have x0 := c1.nf
 refine kra o0 x0 ok85 (Iu _ _ x0.il cS _ _ ((BF cty i).2.2) (x0.g 0) (x0.g 7)) fun c1 b0 b1 p0 => ?_
 have b1 := sWI b0 8 (pB 0 1 (pc 4 0 (pc 6 0 pn)))
 refine ⟨b1, ?_⟩
 refine AL (by kernel_rfl) (n0 _ _ ?_) _
 refine xn m0 <| A4 ?_
 refine rR p0 fun m0 n0 => ?_
 refine wcd n0 (fun m0 p0 => ?_) fun m0 b1 => ?_
 have hkE := W8 (k := ck) (e := ce) (a := cn) (st := cst) (pr := cpr) (mo := cmo) (pl := cpl) (show i < cty.length by omega) m0
 refine wsc fun n0 c1 => C8 sv p0 rfl rfl rfl (by decide) fun n0 x0 => ?_
 refine aw x0 c1 fun n0 p0 => ?_
 refine rt1 p0 ?_
 refine ⟨_, rfl, fun p0 c1 => ?_⟩
 refine aw c1 j0 fun p0 n0 => ?_
 refine Ac fun p0 c1 => wsc fun p0 x0 => mv n0 fun p0 o0 => ?_
 refine Oy sv o0 rfl rfl rfl rfl Tryz.underlying85 (by decide) fun p0 n0 => ?_
 refine wn x0 <| CP (n0.ev rfl) ?_
 refine Am <| xn c1 <| Ac fun c1 x0 => ?_
 obtain ⟨c1, p0⟩ := b0.box_dataG (i := 4) rfl (Gv (i := 4) rfl rfl (by decide) (by decide))
 have o0 := c1.data (Ct f0 [.pointer (some ⟨cg, 0, none⟩)]) p0
 have p0 := o0.nf
 obtain ⟨o0, c1⟩ := p0.box_dataG (i := 4) rfl (Gv (i := 4) rfl rfl (by decide) (by decide))
 have p0 := o0.data (Ct h0 [.int .i64 (i : Int)]) c1
 have c1 := p0.nf
 obtain ⟨p0, o0⟩ := c1.box_dataG (i := 2) rfl (Gv (i := 2) rfl rfl (by decide) (by decide))
 have c1 := p0.data (Ct i0 [.pointer (some ⟨cg, 0, none⟩)]) o0
 have o0 := c1.nf
 obtain ⟨c1, p0⟩ := o0.box_dataG (i := 2) rfl (Gv (i := 2) rfl rfl (by decide) (by decide))
 have o0 := c1.data (Ct d0 [.int .i64 (i : Int)]) p0
 have p0 := o0.nf
 obtain ⟨o0, c1, s0⟩ := p0.agree
 refine Cj (n := 13) s0 13 (pB 0 1 pn) (A5 BC) fun o0 p0 y0 t0 k0 v0 => ?_
 refine dt 0 rfl p0 n0 (AJ rfl) (fun x hx => BR (sy n0) n0 rfl rfl rfl (Bn (D6 (c1 11 _ rfl) hx.ag) rfl) B9 rfl (by decide) gt) v0 fun t0 o0 => ?_
 refine dR [1, 2] o0 fun t0 n0 => ?_
 refine dt 3 rfl p0 n0 (AJ rfl) (fun x hx => BR (sy n0) n0 rfl rfl rfl (Bn (D6 (c1 11 _ rfl) hx.ag) rfl) B9 rfl (by decide) gt) v0 fun t0 o0 => ?_
 refine dR [4, 5, 6, 8] o0 fun t0 n0 => ?_
 refine dt 10 rfl p0 n0 (AJ rfl) (fun x hx => C8 (sy n0) n0 rfl rfl rfl (by decide) gt) v0 fun t0 o0 => ?_
 refine d1 7 ?_
 have t0 := k0.nf
 refine kra o0 t0 ok58 (Fw _ _ t0.il cpr 3) fun k0 n0 v0 p0 => ?_
 have v0 := sWI n0 13 (pB 0 1 pn)
 refine ⟨v0, ?_⟩
 refine d1 9 ?_
 have v0 := n0.nf
 refine DI (xs := []) (F8 rfl (AJ rfl)) p0 rfl rfl rfl rfl (by decide) ok130 (PT _ _ v0.il _ _ _ _ _ _ _ _ _ _ _ _ _ _ _ _ _ _ _ _ _ _ _ f0 h0 i (v0.g 0) (v0.z 0) (Ca (i := 0) rfl) (v0.z 1) (Dw (i := 1) rfl) (v0.rowne (i := 0) (j := 1) rfl rfl (by decide)) (v0.g 1) (v0.g 2) (v0.g 3) (v0.g 4) (v0.g 9) (v0.g 10)) ?_
 rintro p0 n0 ⟨k0, t0, o0, rfl, c1, s0, c0, u0, f1⟩
 have t0 := v0.callMK (i := 0) (j := 1) rfl rfl (by decide) c1 s0 c0
 have c0 := v0.dM 0 t0 u0
 refine ⟨_, rfl, fun t0 u0 => ?_⟩
 obtain ⟨t0, v0⟩ : o0.length ≤ 4000 ∧ sml o0 := by rw [f1]; exact ⟨Gi, Gh hmo Ff⟩
 have v0 := sWI c0 13 (pB 0 1 pn)
 refine ⟨v0, ?_⟩
 refine d1 11 ?_
 have v0 := c0.nf
 refine kcl u0 ok57 (JP _ _ v0.il _ _ _ _ _ _ _ _ _ _ _ _ _ _ _ _ _ _ _ _ _ _ _ (mkI cpr 3) _ _ _ i0 d0 i (v0.g 0) (v0.z 0) (Ca (i := 0) rfl) (v0.z 1) (Dw (i := 1) rfl) (v0.rowne (i := 0) (j := 1) rfl rfl (by decide)) (v0.g 1) (v0.g 2) (v0.g 3) (v0.g 4) (v0.g 14) (v0.g 11) (v0.g 12) (hH := (ih _ (by omega)))) ?_
 rintro u0 c0 ⟨t0, s0, c1, rfl, k0, n0, p0, h1, i1⟩
 have c0 := v0.callMK (i := 0) (j := 1) rfl rfl (by decide) k0 n0 p0
 have p0 := v0.dM 0 c0 h1
 refine ⟨_, rfl, fun c0 h1 => ?_⟩
 have c0 := sWI p0 13 (pB 0 1 pn)
 refine ⟨c0, ?_⟩
 refine dR [12] h1 fun c0 v0 => ?_
 refine AL (by kernel_rfl) (y0 _ _ ?_) _
 refine xn x0 <| rt1 v0 ?_
 refine ⟨t0, s0, c1, ?_, p0.fr, (by rw [show ((hyF cS ck cst cpr cmo (Bt cty) cpl cty.length (cty.length - i) ce cn).2 : Int) = ((piP (hyF cS ck cst cpr cmo (Bt cty) cpl cty.length (cty.length - (i + 1)) (HD ce cn cmo (Gf ce cn cst cpl i)) (cn + 1)) (mkI cpr 3) o0).2) by (first | exact (congrArg Prod.snd hkE.symm) | (rw [hkE]; done) | (rw [hkE]; simp only [f1, i1]; done) | (rw [hkE]; simp only [*]; done))]; exact p0.res (i := 0) rfl), p0.res (i := 1) rfl, p0.rx 15, (by (rw [hkE]; simp only [*]; done))⟩
 exact cre (CZ (by rfl))
 refine rR b1 fun p0 i1 => ?_
 refine wcd i1 (fun p0 b1 => ?_) fun p0 c1 => ?_
 obtain ⟨_, hkc, i1⟩ := IX (show ¬ kdA cS (BF cty i).2.2 = 0 by omega) (show ¬ kdA cS (BF cty i).2.2 = 1 by omega)
 obtain ⟨s0, t0⟩ := Ll hkc (.inl i1)
 have hkE := W7 (k := ck) (e := ce) (a := cn) (st := cst) (pr := cpr) (mo := cmo) (pl := cpl) (show i < cty.length by omega) p0
 have hkz := FL hkc
 refine wsc fun t0 s0 => lR b1 fun t0 i1 => ?_
 refine sbi (((BF cty i).2.2.length : Int) - 1) i1 fun t0 b1 => ?_
 refine ix (((BF cty i).2.2.length) - (1)) ((((BF cty i).2.2.length) - (1)) * 4) b1 (Bp (t := (BF cty i).2.2) (k := ((BF cty i).2.2.length) - (1)) (b0.row (i := 7) rfl).2 (by omega)).some_ fun t0 i1 => ?_
 refine CB (j' := (((BF cty i).2.2.length) - (1)) * 4 + 1) sv i1 rfl rfl rfl (Bp (t := (BF cty i).2.2) (k := ((BF cty i).2.2.length) - (1)) (b0.row (i := 7) rfl).2 (by omega)).some_ Ar rfl sz3 rfl rfl (by decide) fun t0 b1 => ?_
 refine lde 1 ((((BF cty i).2.2.length) - (1)) * 4) b1 (Bp (t := (BF cty i).2.2) (k := ((BF cty i).2.2.length) - (1)) (b0.row (i := 7) rfl).2 (by omega)) fun t0 i1 => ?_
 refine alc i1 b0 fun t0 b1 f1 o0 v0 => ?_
 refine sto 7 o0 v0 fun b1 t0 i1 x0 => ?_
 refine wn s0 <| wsc fun s0 t0 => C8 sv i1 rfl rfl rfl (by decide) fun s0 b1 => ?_
 refine aw b1 t0 fun s0 i1 => ?_
 refine rt1 i1 ?_
 refine ⟨_, rfl, fun i1 t0 => ?_⟩
 refine aw t0 j0 fun i1 s0 => ?_
 refine Ac fun i1 t0 => wsc fun i1 b1 => mv s0 fun i1 v0 => ?_
 refine Oy sv v0 rfl rfl rfl rfl Tryz.underlying85 (by decide) fun i1 s0 => ?_
 refine wn b1 <| CP (s0.ev rfl) ?_
 refine Am <| xn t0 <| Ac fun t0 b1 => ?_
 obtain ⟨t0, i1⟩ := x0.box_dataG (i := 4) rfl (Gv (i := 4) rfl rfl (by decide) (by decide))
 have x0 := t0.data (Ct f0 [.pointer (some ⟨cg, 0, none⟩)]) i1
 have i1 := x0.nf
 obtain ⟨x0, t0⟩ := i1.box_dataG (i := 6) rfl (Gv (i := 6) rfl rfl (by decide) (by decide))
 have i1 := x0.data (Ct f1 [.int .i64 ((nth ((BF cty i).2.2) (((BF cty i).2.2.length) - (1))).N)]) t0
 have t0 := i1.nf
 obtain ⟨i1, x0⟩ := t0.box_dataG (i := 5) rfl (Gv (i := 5) rfl rfl (by decide) (by decide))
 have t0 := i1.data (Ct q0 [.slice ((BF cty i).1) ((BF cty i).2.2.length) ((BF cty i).2.1)]) x0
 have x0 := t0.nf
 obtain ⟨t0, i1⟩ := x0.box_dataG (i := 4) rfl (Gv (i := 4) rfl rfl (by decide) (by decide))
 have x0 := t0.data (Ct h0 [.int .i64 (i : Int)]) i1
 have i1 := x0.nf
 obtain ⟨x0, t0⟩ := i1.box_dataG (i := 2) rfl (Gv (i := 2) rfl rfl (by decide) (by decide))
 have i1 := x0.data (Ct i0 [.pointer (some ⟨cg, 0, none⟩)]) t0
 have t0 := i1.nf
 obtain ⟨i1, x0⟩ := t0.box_dataG (i := 2) rfl (Gv (i := 2) rfl rfl (by decide) (by decide))
 have t0 := i1.data (Ct d0 [.int .i64 (i : Int)]) x0
 have x0 := t0.nf
 obtain ⟨t0, i1, v0⟩ := x0.agree
 refine Cj (n := 13) v0 15 (pB 0 1 pn) (A5 BC) fun t0 x0 o0 y0 c0 h1 => ?_
 refine dt 0 rfl x0 s0 (AJ rfl) (fun x hx => BR (sy s0) s0 rfl rfl rfl (Bn (D6 (i1 13 _ rfl) hx.ag) rfl) B9 rfl (by decide) gt) h1 fun y0 t0 => ?_
 refine dR [1, 2] t0 fun y0 s0 => ?_
 refine dt 3 rfl x0 s0 (AJ rfl) (fun x hx => BR (sy s0) s0 rfl rfl rfl (Bn (D6 (i1 13 _ rfl) hx.ag) rfl) B9 rfl (by decide) gt) h1 fun y0 t0 => ?_
 refine dR [4, 5, 6, 8] t0 fun y0 s0 => ?_
 refine dt 10 rfl x0 s0 (AJ rfl) (fun x hx => C8 (sy s0) s0 rfl rfl rfl (by decide) gt) h1 fun y0 t0 => ?_
 refine d1 7 ?_
 have y0 := c0.nf
 refine kra t0 y0 ok58 (Fw _ _ y0.il cpr 3) fun c0 s0 h1 x0 => ?_
 have h1 := sWI s0 15 (pB 0 1 pn)
 refine ⟨h1, ?_⟩
 refine d1 9 ?_
 have h1 := s0.nf
 refine DI (xs := []) (F8 rfl (AJ rfl)) x0 rfl rfl rfl rfl (by decide) ok131 (PS _ _ h1.il _ _ _ _ _ _ _ _ _ _ _ _ _ _ _ _ _ _ _ _ _ _ _ f0 f1 ((nth ((BF cty i).2.2) (((BF cty i).2.2.length) - (1))).N) q0 _ _ ((BF cty i).2.2) h0 i (h1.g 0) (h1.z 0) (Ca (i := 0) rfl) (h1.z 1) (Dw (i := 1) rfl) (h1.rowne (i := 0) (j := 1) rfl rfl (by decide)) (h1.g 1) (h1.g 2) (h1.g 3) (h1.g 4) (h1.g 9) (h1.g 10) (h1.g 7) (h1.g 11) (h1.g 12)) ?_
 rintro x0 f1 ⟨s0, c0, y0, rfl, t0, i1, v0, n0, k0⟩
 have c0 := h1.callMK (i := 0) (j := 1) rfl rfl (by decide) t0 i1 v0
 have v0 := h1.dM 0 c0 n0
 refine ⟨_, rfl, fun c0 n0 => ?_⟩
 obtain ⟨c0, h1⟩ : y0.length ≤ 8001 ∧ sml y0 := by rw [k0]; exact hy2_Z hmo hts
 have h1 := sWI v0 15 (pB 0 1 pn)
 refine ⟨h1, ?_⟩
 refine d1 11 ?_
 have h1 := v0.nf
 refine kcl n0 ok57 (JP _ _ h1.il _ _ _ _ _ _ _ _ _ _ _ _ _ _ _ _ _ _ _ _ _ _ _ (mkI cpr 3) _ _ _ i0 d0 i (h1.g 0) (h1.z 0) (Ca (i := 0) rfl) (h1.z 1) (Dw (i := 1) rfl) (h1.rowne (i := 0) (j := 1) rfl rfl (by decide)) (h1.g 1) (h1.g 2) (h1.g 3) (h1.g 4) (h1.g 16) (h1.g 13) (h1.g 14) (hH := (ih _ (by omega)))) ?_
 rintro n0 v0 ⟨c0, i1, t0, rfl, s0, f1, x0, u0, j1⟩
 have v0 := h1.callMK (i := 0) (j := 1) rfl rfl (by decide) s0 f1 x0
 have x0 := h1.dM 0 v0 u0
 refine ⟨_, rfl, fun v0 u0 => ?_⟩
 have v0 := sWI x0 15 (pB 0 1 pn)
 refine ⟨v0, ?_⟩
 refine dR [12] u0 fun v0 h1 => ?_
 refine AL (by kernel_rfl) (o0 _ _ ?_) _
 refine xn b1 <| rt1 h1 ?_
 refine ⟨c0, i1, t0, ?_, x0.fr, (by rw [show ((hyF cS ck cst cpr cmo (Bt cty) cpl cty.length (cty.length - i) ce cn).2 : Int) = ((piP (hyF cS ck cst cpr cmo (Bt cty) cpl cty.length (cty.length - (i + 1)) ((hy2 ce cn cst cpr cmo ((BF cty i).2.2) ((nth ((BF cty i).2.2) (((BF cty i).2.2.length) - (1))).N) cpl i).2) (cn + 1)) (mkI cpr 3) y0).2) by (first | exact (congrArg Prod.snd hkE.symm) | (rw [hkE]; done) | (rw [hkE]; simp only [k0, j1]; done) | (rw [hkE]; simp only [*]; done))]; exact x0.res (i := 0) rfl), x0.res (i := 1) rfl, x0.rx 17, (by (rw [hkE]; simp only [*]; done))⟩
 exact cre (CZ (by rfl))
 have hkE := TX (k := ck) (e := ce) (a := cn) (st := cst) (pr := cpr) (mo := cmo) (pl := cpl) (show i < cty.length by omega) (kd_no m0 p0)
 refine Am <| A7 <| xn z0 <| rR c1 fun z0 p0 => ?_
 refine rt1 p0 ?_
 refine ⟨_, rfl, fun p0 z0 => ?_⟩
 refine aw z0 j0 fun p0 c1 => ?_
 refine Ac fun j0 p0 => wsc fun p0 j0 => mv c1 fun p0 z0 => ?_
 refine QZ sv z0 rfl rfl rfl rfl Tryz.underlying85 (by decide) fun p0 c1 => ?_
 refine wn j0 <| CF (c1.ev rfl) ?_
 refine wsc fun j0 p0 => lR c1 fun j0 z0 => ?_
 refine adi ((i + 1 : Nat) : Int) z0 fun j0 c1 => ?_
 have j0 := b0.nf
 refine kcl c1 ok56 (ih (cty.length - (i + 1)) (by omega) _ (imm Z w0 [.box cg 59 [.int .i64 ce, .int .i64 cn, cK, cL, .string cS, cT, cB, cC, .int .i64 ck, .slice cstA cst.length cstc, .bool cpr, .slice cmoA cmo.length cmoc, .slice ctyA cty.length ctyc, .slice cplA cpl.length cplc], .row cplA cpl.length cplc 3 1 (BN cpl), .box i0 52 [.pointer (some ⟨cg, 0, none⟩)], .box d0 3 [.int .i64 (i : Int)], .box f0 52 [.pointer (some ⟨cg, 0, none⟩)], .box h0 3 [.int .i64 (i : Int)], .box q0 22 [.slice ((BF cty i).1) ((BF cty i).2.2.length) ((BF cty i).2.1)]] _) (fun _ h => h.1) _ _ _ _ _ _ _ _ _ _ _ _ _ _ _ _ _ _ _ _ _ _ _ (i + 1) (j0.g 0) (j0.z 0) (Ca (i := 0) rfl) (j0.z 1) (Dw (i := 1) rfl) (j0.rowne (i := 0) (j := 1) rfl rfl (by decide)) (j0.g 1) (j0.g 2) (j0.g 3) (j0.g 4) (by assumption) (by assumption) (by assumption) (by assumption) (by assumption) (by assumption) (by assumption) (by assumption) (by assumption) (by omega) rfl) ?_
 rintro c1 q0 ⟨h0, f0, d0, rfl, i0, b0, z0, m0, x0⟩
 have q0 := j0.callMK (i := 0) (j := 1) rfl rfl (by decide) i0 b0 z0
 have z0 := j0.dM 0 q0 m0
 refine ⟨_, rfl, fun q0 m0 => ?_⟩
 refine aw m0 p0 fun q0 j0 => ?_
 refine rt1 j0 ?_
 refine ⟨h0, f0, d0, ?_, z0.fr, (by rw [show ((hyF cS ck cst cpr cmo (Bt cty) cpl cty.length (cty.length - i) ce cn).2 : Int) = ((hyF cS ck cst cpr cmo (Bt cty) cpl cty.length (cty.length - (i + 1)) ce cn).2) by (first | exact (congrArg Prod.snd hkE.symm) | (rw [hkE]; done) | (rw [hkE]; simp only [x0]; done) | (rw [hkE]; simp only [*]; done))]; exact z0.res (i := 0) rfl), z0.res (i := 1) rfl, z0.rx 9, (by exact (x0).trans (congrArg Prod.fst hkE.symm))⟩
 exact cre (CZ (by rfl))
theorem PR (w0 : World) (Z : Nat → Prop) (hZ : HZ w0 Z) (cg : Nat) (ce : Int) (cn : Int) (cK : Value) (cL : Value) (cS : ByteArray) (cT : Value) (cB : Value) (cC : Value) (ck : Int) (cstA : Option Addr) (cstc : Nat) (cst : List Bool) (cpr : Bool) (cmoA : Option Addr) (cmoc : Nat) (cmo : List Nd) (ctyA : Option Addr) (ctyc : Nat) (cty : List Sl) (cplA : Option Addr) (cplc : Nat) (cpl : List Int) (i : Nat) (hShp : Cu w0 Z) (hc : (Res.box cg 59 [.int .i64 ce, .int .i64 cn, cK, cL, .string cS, cT, cB, cC, .int .i64 ck, .slice cstA cst.length cstc, .bool cpr, .slice cmoA cmo.length cmoc, .slice ctyA cty.length ctyc, .slice cplA cpl.length cplc]).holds w0) (hcz : ¬ Z cg) (hcpl : (Res.row cplA cpl.length cplc 3 1 (BN cpl)).holds w0) (hcplz : ∀ k, rM cplA k → ¬ Z k) (hcpln : ∀ k, rM cplA k → k ≠ cg) (hcst : (Bw 1 cstA cst.length cstc (D2 cst)).φ w0 Z) (hcmo : N4 cmoA cmoc cmo w0 Z) (hcty : (Bw 1 ctyA cty.length ctyc (B7 cty)).φ w0 Z) (hctys : (Cl cty).φ w0 Z) (hmo : sml cmo := by exact ax) (hml : cmo.length ≤ 100000 := by exact ax) (hpl : ∀ j, -1000 ≤ Ci cpl j ∧ Ci cpl j ≤ 1000 := by exact ax) (hlc : cst.length = cty.length := by exact ax) (hlp : cpl.length = cty.length := by exact ax) (hty : ∀ t ∈ Bt cty, sml t ∧ t.length ≤ 4000 := by exact ax) (hn6 : cty.length ≤ 6 := by exact ax) (hcS : cS.size < 1000000 := by exact ax) (hi : i ≤ cty.length := by exact ax) (hbn : -500 ≤ cn ∧ cn + ((cty.length - i : Nat) : Int) ≤ 500 := by exact ax) :
    Calls Tryz.prog 56 [.pointer (some ⟨cg, 0, none⟩), .int .i64 (i : Int)].toArray w0 (fun e w' => ∃ (rA0 : Option Addr) (rc0 : Nat) (rL0 : List Nd), e = .returned (.slice rA0 rL0.length rc0) ∧ Fr (fun k => k = cg ∨ rM cplA k) w0 w' ∧ (Res.box cg 59 [.int .i64 ((hyF cS ck cst cpr cmo (Bt cty) cpl cty.length (cty.length - i) ce cn).2), .int .i64 cn, cK, cL, .string cS, cT, cB, cC, .int .i64 ck, .slice cstA cst.length cstc, .bool cpr, .slice cmoA cmo.length cmoc, .slice ctyA cty.length ctyc, .slice cplA cpl.length cplc]).holds w' ∧ (Res.row cplA cpl.length cplc 3 1 (BN cpl)).holds w' ∧ N4 rA0 rc0 rL0 w' (nxt Z w0 w') ∧ rL0 = (hyF cS ck cst cpr cmo (Bt cty) cpl cty.length (cty.length - i) ce cn).1) := JB _ w0 Z hZ cg ce cn cK cL cS cT cB cC ck cstA cstc cst cpr cmoA cmoc cmo ctyA ctyc cty cplA cplc cpl i hShp hc hcz hcpl hcplz hcpln hcst hcmo hcty hctys hmo hml hpl hlc hlp hty hn6 hcS hi hbn rfl
def ArgC (rn : Nat) : Prop := ∀ (w0 : World) (Z : Nat → Prop) (hZ : HZ w0 Z) (cg : Nat) (ce : Int) (cn : Int) (cK : Value) (cL : Value) (cS : ByteArray) (cT : Value) (cB : Value) (cC : Value) (ck : Int) (cstA : Option Addr) (cstc : Nat) (cst : List Bool) (cpr : Bool) (cmoA : Option Addr) (cmoc : Nat) (cmo : List Nd) (ctyA : Option Addr) (ctyc : Nat) (cty : List Sl) (cplA : Option Addr) (cplc : Nat) (cpl : List Int) (i : Nat) (hShp : Cu w0 Z) (hc : (Res.box cg 59 [.int .i64 ce, .int .i64 cn, cK, cL, .string cS, cT, cB, cC, .int .i64 ck, .slice cstA cst.length cstc, .bool cpr, .slice cmoA cmo.length cmoc, .slice ctyA cty.length ctyc, .slice cplA cpl.length cplc]).holds w0) (hcz : ¬ Z cg) (hcpl : (Res.row cplA cpl.length cplc 3 1 (BN cpl)).holds w0) (hcplz : ∀ k, rM cplA k → ¬ Z k) (hcpln : ∀ k, rM cplA k → k ≠ cg) (hcst : (Bw 1 cstA cst.length cstc (D2 cst)).φ w0 Z) (hcmo : N4 cmoA cmoc cmo w0 Z) (hcty : (Bw 1 ctyA cty.length ctyc (B7 cty)).φ w0 Z) (hctys : (Cl cty).φ w0 Z) (hmo : sml cmo) (hml : cmo.length ≤ 100000) (hpl : ∀ j, -1000 ≤ Ci cpl j ∧ Ci cpl j ≤ 1000) (hlc : cst.length = cty.length) (hty : ∀ t ∈ Bt cty, sml t ∧ t.length ≤ 4000) (hn6 : cty.length ≤ 6) (hcS : cS.size < 1000000) (hlp : cpl.length = i) (hi : i ≤ cty.length) (hbn : -300 ≤ cn ∧ cn + ((cty.length - i : Nat) : Int) ≤ 300) (hrn : cty.length - i = rn),
    Calls Tryz.prog 23 [.pointer (some ⟨cg, 0, none⟩), .int .i64 (i : Int)].toArray w0 (fun e w' => ∃ cv : Value, ∃ (rA0 : Option Addr) (rc0 : Nat) (rL0 : List Nd), e = .returned (.slice rA0 rL0.length rc0) ∧ Fr (fun k => k = cg ∨ rM cplA k) w0 w' ∧ (Res.box cg 59 [.int .i64 ((agF cS ck cst cpr cmo (Bt cty) cty.length (cty.length - i) ce cn cpl).2), .int .i64 cn, cK, cL, .string cS, cT, cB, cC, .int .i64 ck, .slice cstA cst.length cstc, .bool cpr, .slice cmoA cmo.length cmoc, .slice ctyA cty.length ctyc, cv]).holds w' ∧ N4 rA0 rc0 rL0 w' (nxt Z w0 w') ∧ rL0 = (agF cS ck cst cpr cmo (Bt cty) cty.length (cty.length - i) ce cn cpl).1)
theorem Oc (w0 : World) (Z : Nat → Prop) (hZ : HZ w0 Z) (cg : Nat) (ce : Int) (cn : Int) (cK : Value) (cL : Value) (cS : ByteArray) (cT : Value) (cB : Value) (cC : Value) (ck : Int) (cstA : Option Addr) (cstc : Nat) (cst : List Bool) (cpr : Bool) (cmoA : Option Addr) (cmoc : Nat) (cmo : List Nd) (ctyA : Option Addr) (ctyc : Nat) (cty : List Sl) (cplA : Option Addr) (cplc : Nat) (cpl : List Int) (qq : Int) (uag : Nat) (ubg : Nat) (ubi : Nat) (hShp : Cu w0 Z) (hc : (Res.box cg 59 [.int .i64 ce, .int .i64 cn, cK, cL, .string cS, cT, cB, cC, .int .i64 ck, .slice cstA cst.length cstc, .bool cpr, .slice cmoA cmo.length cmoc, .slice ctyA cty.length ctyc, .slice cplA cpl.length cplc]).holds w0) (hcz : ¬ Z cg) (hcpl : (Res.row cplA cpl.length cplc 3 1 (BN cpl)).holds w0) (hcplz : ∀ k, rM cplA k → ¬ Z k) (hcpln : ∀ k, rM cplA k → k ≠ cg) (hcst : (Bw 1 cstA cst.length cstc (D2 cst)).φ w0 Z) (hcmo : N4 cmoA cmoc cmo w0 Z) (hcty : (Bw 1 ctyA cty.length ctyc (B7 cty)).φ w0 Z) (hctys : (Cl cty).φ w0 Z) (huaQ : (Ct uag [.pointer (some ⟨cg, 0, none⟩)]).φ w0 Z) (hubQ : (Ct ubg [.int .i64 (ubi : Int)]).φ w0 Z) (hmo : sml cmo := by exact ax) (hml : cmo.length ≤ 100000 := by exact ax) (hpl : ∀ j, -1000 ≤ Ci cpl j ∧ Ci cpl j ≤ 1000 := by exact ax) (hlc : cst.length = cty.length := by exact ax) (hty : ∀ t ∈ Bt cty, sml t ∧ t.length ≤ 4000 := by exact ax) (hn6 : cty.length ≤ 6 := by exact ax) (hcS : cS.size < 1000000 := by exact ax) (hlp : cpl.length = ubi := by exact ax) (hiu : ubi < cty.length := by exact ax) (hbn : -300 ≤ cn ∧ cn + ((cty.length - (ubi + 1) : Nat) : Int) ≤ 300 := by exact ax) (hqq : -1000 ≤ qq ∧ qq ≤ 1000 := by exact ax) (hH : ArgC (cty.length - (ubi + 1)) := by exact ax) :
    Calls Tryz.prog 59 [.int .i64 qq, .pointer (some ⟨uag, 0, none⟩), .pointer (some ⟨ubg, 0, none⟩)].toArray w0 (fun e w' => ∃ cv : Value, ∃ (rA0 : Option Addr) (rc0 : Nat) (rL0 : List Nd), e = .returned (.slice rA0 rL0.length rc0) ∧ Fr (fun k => k = cg ∨ rM cplA k) w0 w' ∧ (Res.box cg 59 [.int .i64 ((agF cS ck cst cpr cmo (Bt cty) cty.length (cty.length - (ubi + 1)) ce cn (cpl ++ [qq])).2), .int .i64 cn, cK, cL, .string cS, cT, cB, cC, .int .i64 ck, .slice cstA cst.length cstc, .bool cpr, .slice cmoA cmo.length cmoc, .slice ctyA cty.length ctyc, cv]).holds w' ∧ N4 rA0 rc0 rL0 w' (nxt Z w0 w') ∧ rL0 = (agF cS ck cst cpr cmo (Bt cty) cty.length (cty.length - (ubi + 1)) ce cn (cpl ++ [qq])).1) := by
 have hstart : ∀ k, Z k → imm Z w0 [.box cg 59 [.int .i64 ce, .int .i64 cn, cK, cL, .string cS, cT, cB, cC, .int .i64 ck, .slice cstA cst.length cstc, .bool cpr, .slice cmoA cmo.length cmoc, .slice ctyA cty.length ctyc, .slice cplA cpl.length cplc], .row cplA cpl.length cplc 3 1 (BN cpl)] w0 k ∧ w0.heap[k]? = w0.heap[k]? := fun k hk => Dm hZ hcz hcplz hk
 have b0 : St w0 Z (fun k => k = cg ∨ rM cplA k) w0 [.box cg 59 [.int .i64 ce, .int .i64 cn, cK, cL, .string cS, cT, cB, cC, .int .i64 ck, .slice cstA cst.length cstc, .bool cpr, .slice cmoA cmo.length cmoc, .slice ctyA cty.length ctyc, .slice cplA cpl.length cplc], .row cplA cpl.length cplc 3 1 (BN cpl)] [Br, Bw 1 cstA cst.length cstc (D2 cst), n4 cmoA cmoc cmo, Bw 1 ctyA cty.length ctyc (B7 cty), Cl cty, Ct uag [.pointer (some ⟨cg, 0, none⟩)], Ct ubg [.int .i64 (ubi : Int)]] := D3 w0 Z _ hc hcpl hcpln (by
  intro d hd
  simp only [AD, AG, or_false] at hd
  rcases hd with rfl | rfl | rfl | rfl | rfl | rfl | rfl
  exact Dat.mono _ _ _ _ _ (Af _) hShp hstart
  exact Dat.mono _ _ _ _ _ (Af _) hcst hstart
  exact Dat.mono _ _ _ _ _ (Af _) hcmo hstart
  exact Dat.mono _ _ _ _ _ (Af _) hcty hstart
  exact Dat.mono _ _ _ _ _ (Af _) hctys hstart
  exact Dat.mono _ _ _ _ _ (Af _) huaQ hstart
  exact Dat.mono _ _ _ _ _ (Af _) hubQ hstart
  )
 refine AE Tryz.func59 rfl Tryz.ntmps59 rfl fun c0 d0 => ?_
 refine rR d0 fun c0 f0 => ?_
 refine Ac fun c0 d0 => ?_
 obtain ⟨c0, h0, i0⟩ := b0.agree
 refine Cj (n := 11) i0 7 (pc 0 1 (pc 0 2 (pc 0 3 (pc 0 4 (pc 0 5 (pc 0 6 (pc 0 7 (pc 0 8 (pc 0 9 (pc 0 10 (pc 0 11 (pc 0 12 pn)))))))))))) (A5 BC) fun c0 b0 j0 k0 m0 n0 => ?_
 refine dt 0 rfl b0 f0 (AJ rfl) (fun x hx => BR (sy f0) f0 rfl rfl rfl (Bn (D6 (h0 5 _ rfl) hx.ag) rfl) B9 rfl (by decide) gt) n0 fun k0 c0 => ?_
 refine dt 1 rfl b0 c0 (AJ rfl) (fun x hx => BR (sy c0) c0 rfl rfl rfl (Bn (D6 (h0 5 _ rfl) hx.ag) rfl) B9 rfl (by decide) gt) n0 fun k0 f0 => ?_
 refine dR [2, 3, 5] f0 fun k0 c0 => ?_
 refine wpAnyH_all (rs := [4, 6]) (by kernel_rfl) (by simp) ?_
 rintro i k0
 simp only [AD, AG, or_false] at k0
 rcases k0 with rfl | rfl
 refine Hj (i := 0) (CY rfl (AJ rfl)) c0 m0 rfl rfl rfl rfl rfl AU rfl (by decide) fun k0 f0 => ?_
 have k0 := sWI m0 7 (pc 0 1 (pc 0 2 (pc 0 3 (pc 0 4 (pc 0 5 (pc 0 6 (pc 0 7 (pc 0 8 (pc 0 9 (pc 0 10 (pc 0 11 (pc 0 12 pn))))))))))))
 refine ⟨k0, ?_⟩
 refine d1 6 ?_
 refine bsl f0 m0 fun k0 n0 b0 h0 i0 => ?_
 have b0 := sWI i0 7 (pc 0 1 (pc 0 2 (pc 0 3 (pc 0 4 (pc 0 5 (pc 0 6 (pc 0 7 (pc 0 8 (pc 0 9 (pc 0 10 (pc 0 11 (pc 0 12 pn))))))))))))
 refine ⟨b0, ?_⟩
 refine d1 7 ?_
 refine BL (f := EI) (i := 1) cpl ([qq]) (CY rfl (AJ rfl)) h0 i0 rfl rfl rfl rfl rfl CC (Do _) AU zi3 rfl rfl (BU (f := EI) (i0.res (i := 2) rfl)) rfl (by (simp only [Ad, Aj]; omega)) (by decide) fun b0 n0 k0 f0 o0 p0 q0 => ?_
 have o0 : (cpl ++ ([qq]) : List Int).length = cpl.length + 1 := by (simp only [Ab, Ah, Ad, Aj]; done)
 have o0 := q0.erase 2
 have q0 := sWI o0 7 (pc 0 1 (pc 0 2 (pc 0 3 (pc 0 4 (pc 0 5 (pc 0 6 (pc 0 7 (pc 0 8 (pc 0 9 (pc 0 10 (pc 0 11 (pc 0 12 pn))))))))))))
 refine ⟨q0, ?_⟩
 refine dR [8, 9] p0 fun q0 n0 => ?_
 refine d1 10 ?_
 refine sto 0 n0 o0 fun q0 p0 b0 i0 => ?_
 have p0 := sWI i0 7 (pc 0 1 (pc 0 2 (pc 0 3 (pc 0 4 (pc 0 5 (pc 0 6 (pc 0 7 (pc 0 8 (pc 0 9 (pc 0 10 (pc 0 11 (pc 0 12 pn))))))))))))
 refine ⟨p0, ?_⟩
 refine AL (by kernel_rfl) (j0 _ _ ?_) _
 refine xn d0 <| wsc fun p0 q0 => BR sv b0 rfl rfl rfl (Bn (i0.get (i := 5) rfl) rfl) B9 rfl (by decide) fun p0 n0 => ?_
 refine BR sv n0 rfl rfl rfl (Bn (i0.get (i := 6) rfl) rfl) Bl rfl (by decide) fun p0 b0 => ?_
 refine adi ((ubi + 1 : Nat) : Int) b0 fun p0 n0 => ?_
 have p0 := i0.nf
 refine kcl n0 ok23 (hH _ (imm Z w0 [.box cg 59 [.int .i64 ce, .int .i64 cn, cK, cL, .string cS, cT, cB, cC, .int .i64 ck, .slice cstA cst.length cstc, .bool cpr, .slice cmoA cmo.length cmoc, .slice ctyA cty.length ctyc, .slice k0 ((cpl ++ ([qq]) : List Int).length) f0], .row k0 ((cpl ++ ([qq]) : List Int).length) f0 3 1 (BN (cpl ++ ([qq])))] _) (fun _ h => h.1) _ _ _ _ _ _ _ _ _ _ _ _ _ _ _ _ _ _ _ _ _ _ (cpl ++ ([qq])) (ubi + 1) (p0.g 0) (p0.z 0) (Ca (i := 0) rfl) (p0.z 1) (Dw (i := 1) rfl) (p0.rowne (i := 0) (j := 1) rfl rfl (by decide)) (p0.g 1) (p0.g 2) (p0.g 3) (p0.g 4) (by assumption) (by assumption) (fun _ => OA hpl hqq) (by assumption) (by assumption) (by assumption) (by assumption) (by omega) (by assumption) (by assumption) rfl) ?_
 rintro n0 f0 ⟨v79, k0, i0, b0, rfl, o0, h0, s0, t0⟩
 have f0 := p0.callMD (i := 0) (j := 1) rfl rfl (by decide) o0 h0
 have h0 := p0.dMD 0 1 f0 s0
 have f0 := h0.base
 refine ⟨_, rfl, fun s0 p0 => ?_⟩
 refine aw p0 q0 fun s0 o0 => ?_
 refine rt1 o0 ?_
 have o0 := h0.unbase (.inl rfl) f0
 refine ⟨_, k0, i0, b0, ?_, o0.fr, (by rw [show ((agF cS ck cst cpr cmo (Bt cty) cty.length (cty.length - (ubi + 1)) ce cn (cpl ++ [qq])).2 : Int) = ((agF cS ck cst cpr cmo (Bt cty) cty.length (cty.length - (ubi + 1)) ce cn (cpl ++ ([qq]))).2) by (first | rfl | (simp only [AQ, *]; done) | (simp only [AQ, *]; rfl))]; exact o0.res (i := 0) rfl), o0.rx 8, (by exact t0)⟩
 exact cre (CZ (by rfl))
 refine bsl c0 m0 fun o0 t0 b0 i0 k0 => ?_
 have b0 := sWI k0 7 (pc 0 1 (pc 0 2 (pc 0 3 (pc 0 4 (pc 0 5 (pc 0 6 (pc 0 7 (pc 0 8 (pc 0 9 (pc 0 10 (pc 0 11 (pc 0 12 pn))))))))))))
 refine ⟨b0, ?_⟩
 refine d1 4 ?_
 refine Hj (i := 0) (CY rfl (AJ rfl)) i0 k0 rfl rfl rfl rfl rfl AU rfl (by decide) fun b0 t0 => ?_
 have b0 := sWI k0 7 (pc 0 1 (pc 0 2 (pc 0 3 (pc 0 4 (pc 0 5 (pc 0 6 (pc 0 7 (pc 0 8 (pc 0 9 (pc 0 10 (pc 0 11 (pc 0 12 pn))))))))))))
 refine ⟨b0, ?_⟩
 refine d1 7 ?_
 refine BL (f := EI) (i := 1) cpl ([qq]) (CY rfl (AJ rfl)) t0 k0 rfl rfl rfl rfl rfl CC (Do _) AU zi3 rfl rfl (BU (f := EI) (k0.res (i := 2) rfl)) rfl (by (simp only [Ad, Aj]; omega)) (by decide) fun b0 i0 o0 c0 m0 f0 h0 => ?_
 have m0 : (cpl ++ ([qq]) : List Int).length = cpl.length + 1 := by (simp only [Ab, Ah, Ad, Aj]; done)
 have m0 := h0.erase 2
 have h0 := sWI m0 7 (pc 0 1 (pc 0 2 (pc 0 3 (pc 0 4 (pc 0 5 (pc 0 6 (pc 0 7 (pc 0 8 (pc 0 9 (pc 0 10 (pc 0 11 (pc 0 12 pn))))))))))))
 refine ⟨h0, ?_⟩
 refine dR [8, 9] f0 fun h0 i0 => ?_
 refine d1 10 ?_
 refine sto 0 i0 m0 fun h0 f0 b0 t0 => ?_
 have f0 := sWI t0 7 (pc 0 1 (pc 0 2 (pc 0 3 (pc 0 4 (pc 0 5 (pc 0 6 (pc 0 7 (pc 0 8 (pc 0 9 (pc 0 10 (pc 0 11 (pc 0 12 pn))))))))))))
 refine ⟨f0, ?_⟩
 refine AL (by kernel_rfl) (j0 _ _ ?_) _
 refine xn d0 <| wsc fun d0 j0 => BR sv b0 rfl rfl rfl (Bn (t0.get (i := 5) rfl) rfl) B9 rfl (by decide) fun d0 f0 => ?_
 refine BR sv f0 rfl rfl rfl (Bn (t0.get (i := 6) rfl) rfl) Bl rfl (by decide) fun d0 b0 => ?_
 refine adi ((ubi + 1 : Nat) : Int) b0 fun d0 f0 => ?_
 have d0 := t0.nf
 refine kcl f0 ok23 (hH _ (imm Z w0 [.box cg 59 [.int .i64 ce, .int .i64 cn, cK, cL, .string cS, cT, cB, cC, .int .i64 ck, .slice cstA cst.length cstc, .bool cpr, .slice cmoA cmo.length cmoc, .slice ctyA cty.length ctyc, .slice o0 ((cpl ++ ([qq]) : List Int).length) c0], .row o0 ((cpl ++ ([qq]) : List Int).length) c0 3 1 (BN (cpl ++ ([qq])))] _) (fun _ h => h.1) _ _ _ _ _ _ _ _ _ _ _ _ _ _ _ _ _ _ _ _ _ _ (cpl ++ ([qq])) (ubi + 1) (d0.g 0) (d0.z 0) (Ca (i := 0) rfl) (d0.z 1) (Dw (i := 1) rfl) (d0.rowne (i := 0) (j := 1) rfl rfl (by decide)) (d0.g 1) (d0.g 2) (d0.g 3) (d0.g 4) (by assumption) (by assumption) (fun _ => OA hpl hqq) (by assumption) (by assumption) (by assumption) (by assumption) (by omega) (by assumption) (by assumption) rfl) ?_
 rintro f0 c0 ⟨v136, o0, t0, b0, rfl, h0, i0, m0, k0⟩
 have c0 := d0.callMD (i := 0) (j := 1) rfl rfl (by decide) h0 i0
 have i0 := d0.dMD 0 1 c0 m0
 have c0 := i0.base
 refine ⟨_, rfl, fun m0 d0 => ?_⟩
 refine aw d0 j0 fun m0 h0 => ?_
 refine rt1 h0 ?_
 have h0 := i0.unbase (.inl rfl) c0
 refine ⟨_, o0, t0, b0, ?_, h0.fr, (by rw [show ((agF cS ck cst cpr cmo (Bt cty) cty.length (cty.length - (ubi + 1)) ce cn (cpl ++ [qq])).2 : Int) = ((agF cS ck cst cpr cmo (Bt cty) cty.length (cty.length - (ubi + 1)) ce cn (cpl ++ ([qq]))).2) by (first | rfl | (simp only [AQ, *]; done) | (simp only [AQ, *]; rfl))]; exact h0.res (i := 0) rfl), h0.rx 8, (by exact k0)⟩
 exact cre (CZ (by rfl))
theorem P9 (w0 : World) (Z : Nat → Prop) (hZ : HZ w0 Z) (cg : Nat) (ce : Int) (cn : Int) (cK : Value) (cL : Value) (cS : ByteArray) (cT : Value) (cB : Value) (cC : Value) (ck : Int) (cstA : Option Addr) (cstc : Nat) (cst : List Bool) (cpr : Bool) (cmoA : Option Addr) (cmoc : Nat) (cmo : List Nd) (ctyA : Option Addr) (ctyc : Nat) (cty : List Sl) (cplA : Option Addr) (cplc : Nat) (cpl : List Int) (mm : Int) (dA : Option Addr) (dc : Nat) (d : List Nd) (vvpg : Nat) (vvqg : Nat) (vvqi : Nat) (hShp : Cu w0 Z) (hc : (Res.box cg 59 [.int .i64 ce, .int .i64 cn, cK, cL, .string cS, cT, cB, cC, .int .i64 ck, .slice cstA cst.length cstc, .bool cpr, .slice cmoA cmo.length cmoc, .slice ctyA cty.length ctyc, .slice cplA cpl.length cplc]).holds w0) (hcz : ¬ Z cg) (hcpl : (Res.row cplA cpl.length cplc 3 1 (BN cpl)).holds w0) (hcplz : ∀ k, rM cplA k → ¬ Z k) (hcpln : ∀ k, rM cplA k → k ≠ cg) (hcst : (Bw 1 cstA cst.length cstc (D2 cst)).φ w0 Z) (hcmo : N4 cmoA cmoc cmo w0 Z) (hcty : (Bw 1 ctyA cty.length ctyc (B7 cty)).φ w0 Z) (hctys : (Cl cty).φ w0 Z) (hd : N4 dA dc d w0 Z) (hvvpQ : (Ct vvpg [.pointer (some ⟨cg, 0, none⟩)]).φ w0 Z) (hvvqQ : (Ct vvqg [.int .i64 (vvqi : Int)]).φ w0 Z) (hmo : sml cmo := by exact ax) (hml : cmo.length ≤ 100000 := by exact ax) (hpl : ∀ j, -1000 ≤ Ci cpl j ∧ Ci cpl j ≤ 1000 := by exact ax) (hlc : cst.length = cty.length := by exact ax) (hty : ∀ t ∈ Bt cty, sml t ∧ t.length ≤ 4000 := by exact ax) (hn6 : cty.length ≤ 6 := by exact ax) (hcS : cS.size < 1000000 := by exact ax) (hlp : cpl.length = vvqi := by exact ax) (hiu : vvqi < cty.length := by exact ax) (hbn : -300 ≤ cn + 1 ∧ cn + 1 + ((cty.length - (vvqi + 1) : Nat) : Int) ≤ 300 := by exact ax) (hH : ArgC (cty.length - (vvqi + 1)) := by exact ax) (hsd : sml d := by exact ax) (hld : d.length ≤ 20000 := by exact ax) :
    Calls Tryz.prog 57 [.pointer (some ⟨cg, 0, none⟩), .int .i64 mm, .slice dA d.length dc, .func (.func 59) #[] #[.pointer (some ⟨vvpg, 0, none⟩), .pointer (some ⟨vvqg, 0, none⟩)]].toArray w0 (fun e w' => ∃ cv : Value, ∃ (rA0 : Option Addr) (rc0 : Nat) (rL0 : List Nd), e = .returned (.slice rA0 rL0.length rc0) ∧ Fr (fun k => k = cg ∨ rM cplA k) w0 w' ∧ (Res.box cg 59 [.int .i64 ((piP (agF cS ck cst cpr cmo (Bt cty) cty.length (cty.length - (vvqi + 1)) ce (cn + 1) (cpl ++ [cn + 1])) mm d).2), .int .i64 cn, cK, cL, .string cS, cT, cB, cC, .int .i64 ck, .slice cstA cst.length cstc, .bool cpr, .slice cmoA cmo.length cmoc, .slice ctyA cty.length ctyc, cv]).holds w' ∧ N4 rA0 rc0 rL0 w' (nxt Z w0 w') ∧ rL0 = (piP (agF cS ck cst cpr cmo (Bt cty) cty.length (cty.length - (vvqi + 1)) ce (cn + 1) (cpl ++ [cn + 1])) mm d).1) := by
 have hstart : ∀ k, Z k → imm Z w0 [.box cg 59 [.int .i64 ce, .int .i64 cn, cK, cL, .string cS, cT, cB, cC, .int .i64 ck, .slice cstA cst.length cstc, .bool cpr, .slice cmoA cmo.length cmoc, .slice ctyA cty.length ctyc, .slice cplA cpl.length cplc], .row cplA cpl.length cplc 3 1 (BN cpl)] w0 k ∧ w0.heap[k]? = w0.heap[k]? := fun k hk => Dm hZ hcz hcplz hk
 have b0 : St w0 Z (fun k => k = cg ∨ rM cplA k) w0 [.box cg 59 [.int .i64 ce, .int .i64 cn, cK, cL, .string cS, cT, cB, cC, .int .i64 ck, .slice cstA cst.length cstc, .bool cpr, .slice cmoA cmo.length cmoc, .slice ctyA cty.length ctyc, .slice cplA cpl.length cplc], .row cplA cpl.length cplc 3 1 (BN cpl)] [Br, Bw 1 cstA cst.length cstc (D2 cst), n4 cmoA cmoc cmo, Bw 1 ctyA cty.length ctyc (B7 cty), Cl cty, n4 dA dc d, Ct vvpg [.pointer (some ⟨cg, 0, none⟩)], Ct vvqg [.int .i64 (vvqi : Int)]] := D3 w0 Z _ hc hcpl hcpln (by
  intro d hd
  simp only [AD, AG, or_false] at hd
  rcases hd with rfl | rfl | rfl | rfl | rfl | rfl | rfl | rfl
  exact Dat.mono _ _ _ _ _ (Af _) hShp hstart
  exact Dat.mono _ _ _ _ _ (Af _) hcst hstart
  exact Dat.mono _ _ _ _ _ (Af _) hcmo hstart
  exact Dat.mono _ _ _ _ _ (Af _) hcty hstart
  exact Dat.mono _ _ _ _ _ (Af _) hctys hstart
  exact Dat.mono _ _ _ _ _ (Af _) hd hstart
  exact Dat.mono _ _ _ _ _ (Af _) hvvpQ hstart
  exact Dat.mono _ _ _ _ _ (Af _) hvvqQ hstart
  )
 refine AE Tryz.func57 rfl Tryz.ntmps57 rfl fun c0 d0 => ?_
 refine rR d0 fun c0 f0 => ?_
 refine wsc fun c0 d0 => lR f0 fun c0 h0 => ?_
 refine adi (cn + 1) h0 fun c0 f0 => ?_
 refine lR f0 fun c0 h0 => ?_
 refine sto 0 h0 b0 fun c0 f0 i0 j0 => ?_
 refine wn d0 <| wsc fun d0 f0 => lR i0 fun d0 c0 => ?_
 have d0 := j0.nf
 refine DI (xs := [.tmp 21]) se c0 rfl rfl rfl rfl (by decide) ok59 (Oc _ _ d0.il _ _ _ _ _ _ _ _ _ _ _ _ _ _ _ _ _ _ _ _ _ _ _ (cn + 1) vvpg vvqg vvqi (d0.g 0) (d0.z 0) (Ca (i := 0) rfl) (d0.z 1) (Dw (i := 1) rfl) (d0.rowne (i := 0) (j := 1) rfl rfl (by decide)) (d0.g 1) (d0.g 2) (d0.g 3) (d0.g 4) (d0.g 6) (d0.g 7)) ?_
 rintro c0 j0 ⟨v52, i0, h0, b0, rfl, k0, m0, n0, o0⟩
 have j0 := d0.callMD (i := 0) (j := 1) rfl rfl (by decide) k0 m0
 have m0 := d0.dMD 0 1 j0 n0
 have j0 := m0.base
 refine ⟨_, rfl, fun n0 d0 => ?_⟩
 obtain ⟨n0, k0⟩ := (show b0.length ≤ 90000 ∧ sml b0 by rw [o0]; have zz := Xm (S := cS) (k := ck) (st := cst) (pr := cpr) hcS hmo hty (Bs _).symm (cty.length - (vvqi + 1)) (by omega) ce (cn + 1) (cpl ++ [cn + 1]); exact ⟨by omega, zz.2⟩)
 refine aw d0 f0 fun k0 n0 => ?_
 refine wsc fun f0 k0 => lR n0 fun f0 d0 => ?_
 refine sbi cn d0 fun f0 n0 => ?_
 refine lR n0 fun f0 d0 => ?_
 refine sto 0 d0 j0 fun f0 n0 o0 c0 => ?_
 refine wn k0 <| wsc fun k0 n0 => lR o0 fun k0 f0 => ?_
 refine bld f0 fun k0 o0 => ?_
 refine lR o0 fun k0 f0 => ?_
 have k0 := c0.data (Cl [((dA, dc, d) : Sl), ((i0, h0, b0) : Sl)]) (Cy (c0.get (i := 5) rfl) (Cy (c0.get (i := 8) rfl) Cp))
 refine bsl f0 k0 fun c0 o0 d0 j0 p0 => ?_
 have o0 := p0.nf
 have p0 := Db (o0.res (i := 1) rfl)
 obtain ⟨c0, k0⟩ := o0.row_dataM (i := 1) rfl (j := 0) rfl (by decide)
 have o0 := c0.data (Bw 1 (some ⟨d0, 0, none⟩) 2 2 (B7 ([((dA, dc, d) : Sl), ((i0, h0, b0) : Sl)]))) ⟨p0, k0⟩
 refine kcl j0 Wg (Ex _ _ o0.il _ _ _ _ (⟨3, mm, 0, (⟨#[]⟩ : ByteArray)⟩ : Nd) _ _ ([((dA, dc, d) : Sl), ((i0, h0, b0) : Sl)]) (o0.z 0) (Ca (i := 0) rfl) (o0.g 10) (o0.g 9) (hb := (by simp; omega))) ?_
 rintro j0 b0 ⟨h0, i0, k0, rfl, c0, p0, d0, f0⟩
 have f0 := o0.callM (i := 0) rfl c0 p0
 have p0 := o0.dM 0 f0 d0
 refine ⟨_, rfl, fun f0 d0 => ?_⟩
 refine aw d0 n0 fun f0 o0 => ?_
 refine rt1 o0 ?_
 have o0 := m0.unbase (.inl rfl) p0
 refine ⟨_, h0, i0, k0, ?_, o0.fr, (by rw [show ((piP (agF cS ck cst cpr cmo (Bt cty) cty.length (cty.length - (vvqi + 1)) ce (cn + 1) (cpl ++ [cn + 1])) mm d).2 : Int) = ((agF cS ck cst cpr cmo (Bt cty) cty.length (cty.length - (vvqi + 1)) ce (cn + 1) (cpl ++ [(cn + 1)])).2) by (first | rfl | (simp only [AQ, *]; done) | (simp only [AQ, *]; rfl))]; exact o0.res (i := 0) rfl), o0.rx 11, (by (simp only [AQ, *]; rfl))⟩
 exact cre (CZ (by rfl))
theorem Jk (rn : Nat) : ArgC rn := by
 induction rn using Nat.strongRecOn
 rename_i rn ih
 intro w0 Z hZ cg ce cn cK cL cS cT cB cC ck cstA cstc cst cpr cmoA cmoc cmo ctyA ctyc cty cplA cplc cpl i hShp hc hcz hcpl hcplz hcpln hcst hcmo hcty hctys hmo hml hpl hlc hty hn6 hcS hlp hi hbn hrn
 have hstart : ∀ k, Z k → imm Z w0 [.box cg 59 [.int .i64 ce, .int .i64 cn, cK, cL, .string cS, cT, cB, cC, .int .i64 ck, .slice cstA cst.length cstc, .bool cpr, .slice cmoA cmo.length cmoc, .slice ctyA cty.length ctyc, .slice cplA cpl.length cplc], .row cplA cpl.length cplc 3 1 (BN cpl)] w0 k ∧ w0.heap[k]? = w0.heap[k]? := fun k hk => Dm hZ hcz hcplz hk
 have b0 : St w0 Z (fun k => k = cg ∨ rM cplA k) w0 [.box cg 59 [.int .i64 ce, .int .i64 cn, cK, cL, .string cS, cT, cB, cC, .int .i64 ck, .slice cstA cst.length cstc, .bool cpr, .slice cmoA cmo.length cmoc, .slice ctyA cty.length ctyc, .slice cplA cpl.length cplc], .row cplA cpl.length cplc 3 1 (BN cpl)] [Br, Bw 1 cstA cst.length cstc (D2 cst), n4 cmoA cmoc cmo, Bw 1 ctyA cty.length ctyc (B7 cty), Cl cty] := D3 w0 Z _ hc hcpl hcpln (by
  intro d hd
  simp only [AD, AG, or_false] at hd
  rcases hd with rfl | rfl | rfl | rfl | rfl
  exact Dat.mono _ _ _ _ _ (Af _) hShp hstart
  exact Dat.mono _ _ _ _ _ (Af _) hcst hstart
  exact Dat.mono _ _ _ _ _ (Af _) hcmo hstart
  exact Dat.mono _ _ _ _ _ (Af _) hcty hstart
  exact Dat.mono _ _ _ _ _ (Af _) hctys hstart
  )
 refine AE Tryz.func23 rfl Tryz.ntmps23 rfl fun c0 d0 => ?_
 refine wsc fun c0 f0 => bxx d0 b0 fun c0 h0 i0 j0 k0 => ?_
 refine bxx j0 k0 fun h0 c0 d0 b0 m0 => ?_
 refine aw b0 f0 fun c0 h0 => ?_
 refine Ac fun f0 c0 => Ac fun f0 b0 => ?_
 obtain ⟨f0, k0, j0⟩ := m0.agree
 refine Cj (n := 7) j0 5 (pc 0 1 (pc 0 2 (pc 0 3 (pc 0 4 (pc 0 5 (pc 0 6 (pc 0 7 (pc 0 8 (pc 0 9 (pc 0 10 (pc 0 11 (pc 0 12 (pc 2 0 (pc 3 0 pn)))))))))))))) (A5 (A5 BC)) fun k0 f0 m0 n0 o0 p0 => ?_
 refine dR [0, 1, 2, 3, 4, 5, 6] h0 fun p0 n0 => ?_
 refine AL (by kernel_rfl) (m0 _ _ ?_) _
 refine xn b0 <| wcd n0 (fun b0 m0 => ?_) fun b0 p0 => ?_
 have hkE := Xj (ty := cty) (S := cS) (k := ck) (e := ce) (a := cn) (st := cst) (pr := cpr) (mo := cmo) (pl := cpl) (i := i) (Eq.refl cty.length) (show cty.length ≤ i by omega)
 refine wsc fun b0 n0 => lR m0 fun b0 h0 => ?_
 have b0 := o0.nf
 refine kcl h0 ok56 (PR _ _ b0.il _ _ _ _ _ _ _ _ _ _ _ _ _ _ _ _ _ _ _ _ _ _ _ 0 (b0.g 0) (b0.z 0) (Ca (i := 0) rfl) (b0.z 1) (Dw (i := 1) rfl) (b0.rowne (i := 0) (j := 1) rfl rfl (by decide)) (b0.g 1) (b0.g 2) (b0.g 3) (b0.g 4)) ?_
 rintro h0 m0 ⟨f0, k0, j0, rfl, q0, s0, t0, u0, v0⟩
 have m0 := b0.callMK (i := 0) (j := 1) rfl rfl (by decide) q0 s0 t0
 have t0 := b0.dM 0 m0 u0
 refine ⟨_, rfl, fun m0 u0 => ?_⟩
 refine aw u0 n0 fun m0 b0 => ?_
 refine rt1 b0 ?_
 refine ⟨_, f0, k0, j0, ?_, t0.fr, (by rw [show ((agF cS ck cst cpr cmo (Bt cty) cty.length (cty.length - i) ce cn cpl).2 : Int) = ((hyF cS ck cst cpr cmo (Bt cty) cpl cty.length (cty.length - 0) ce cn).2) by (first | exact (congrArg Prod.snd hkE.symm) | (rw [hkE]; done) | (rw [hkE]; simp only [v0]; done) | (rw [hkE]; simp only [*]; done))]; exact t0.res (i := 0) rfl), t0.rx 6, (by exact (v0).trans (congrArg Prod.fst hkE.symm))⟩
 exact cre (CZ (by rfl))
 have hiu : i < cty.length := by omega
 obtain ⟨hts, htl⟩ := ty_at hty hiu
 have hkE := Uy (ty := cty) (S := cS) (k := ck) (e := ce) (a := cn) (st := cst) (pr := cpr) (mo := cmo) (pl := cpl) hiu
 refine Am <| xn c0 <| Ac fun c0 t0 => ?_
 obtain ⟨c0, v0⟩ := o0.box_dataG (i := 2) rfl (Gv (i := 2) rfl rfl (by decide) (by decide))
 have o0 := c0.data (Ct i0 [.pointer (some ⟨cg, 0, none⟩)]) v0
 have v0 := o0.nf
 obtain ⟨o0, c0⟩ := v0.box_dataG (i := 2) rfl (Gv (i := 2) rfl rfl (by decide) (by decide))
 have v0 := o0.data (Ct d0 [.int .i64 (i : Int)]) c0
 have c0 := v0.nf
 obtain ⟨v0, o0, j0⟩ := c0.agree
 refine Cj (n := 27) j0 8 (pc 0 1 (pc 0 2 (pc 0 3 (pc 0 4 (pc 0 5 (pc 0 6 (pc 0 7 (pc 0 8 (pc 0 9 (pc 0 10 (pc 0 11 (pc 0 12 pn)))))))))))) (A5 BC) fun v0 c0 k0 f0 b0 n0 => ?_
 refine dt 0 rfl c0 p0 (AJ rfl) (fun x hx => BR (sy p0) p0 rfl rfl rfl (Bn (D6 (o0 6 _ rfl) hx.ag) rfl) B9 rfl (by decide) gt) n0 fun f0 v0 => ?_
 refine dR [1, 2] v0 fun f0 p0 => ?_
 refine dt 3 rfl c0 p0 (AJ rfl) (fun x hx => BR (sy p0) p0 rfl rfl rfl (Bn (D6 (o0 6 _ rfl) hx.ag) rfl) B9 rfl (by decide) gt) n0 fun f0 v0 => ?_
 refine dR [4, 5, 6] v0 fun f0 p0 => ?_
 refine dt 7 rfl c0 p0 (AJ rfl) (fun x hx => BR (sy p0) p0 rfl rfl rfl (Bn (D6 (o0 7 _ rfl) hx.ag) rfl) Bl rfl (by decide) gt) n0 fun f0 v0 => ?_
 refine dix 8 i (i * 1) v0 (fun x hx => (DX (t := cst) (k := i) (D6 (o0 1 _ rfl) hx.ag).2 (by omega)).some_) fun f0 p0 => ?_
 refine dle 9 0 (i * 1) p0 (fun x hx => DX (t := cst) (k := i) (D6 (o0 1 _ rfl) hx.ag).2 (by omega)) fun f0 v0 => ?_
 refine dt 11 rfl c0 v0 (AJ rfl) (fun x hx => BR (sy v0) v0 rfl rfl rfl (Bn (D6 (o0 6 _ rfl) hx.ag) rfl) B9 rfl (by decide) gt) n0 fun f0 p0 => ?_
 refine dR [12, 13, 14] p0 fun f0 v0 => ?_
 refine dt 17 rfl c0 v0 (AJ rfl) (fun x hx => BR (sy v0) v0 rfl rfl rfl (Bn (D6 (o0 6 _ rfl) hx.ag) rfl) B9 rfl (by decide) gt) n0 fun f0 p0 => ?_
 refine dR [18, 19, 20] p0 fun f0 v0 => ?_
 refine dt 21 rfl c0 v0 (AJ rfl) (fun x hx => BR (sy v0) v0 rfl rfl rfl (Bn (D6 (o0 7 _ rfl) hx.ag) rfl) Bl rfl (by decide) gt) n0 fun f0 p0 => ?_
 refine dix 22 i (i * 1) p0 (fun x hx => (BD (t := cty) (k := i) (D6 (o0 3 _ rfl) hx.ag).2 (by omega)).some_) fun f0 v0 => ?_
 refine dle 23 0 (i * 1) v0 (fun x hx => BD (t := cty) (k := i) (D6 (o0 3 _ rfl) hx.ag).2 (by omega)) fun f0 p0 => ?_
 have f0 := b0.el 4 i
 refine dt 24 rfl c0 p0 (AJ rfl) (fun x hx => C8 (sy p0) p0 rfl rfl rfl (by decide) gt) n0 fun b0 v0 => ?_
 refine d1 10 ?_
 have b0 := f0.nf
 refine kra v0 b0 ok58 (Fw _ _ b0.il (H1 cst i) 2) fun f0 p0 n0 o0 => ?_
 have n0 := sWI p0 8 (pc 0 1 (pc 0 2 (pc 0 3 (pc 0 4 (pc 0 5 (pc 0 6 (pc 0 7 (pc 0 8 (pc 0 9 (pc 0 10 (pc 0 11 (pc 0 12 pn))))))))))))
 refine ⟨n0, ?_⟩
 refine d1 15 ?_
 have n0 := p0.nf
 refine kra o0 n0 ok58 (Fw _ _ n0.il cpr 1) fun p0 f0 b0 v0 => ?_
 have b0 := sWI f0 8 (pc 0 1 (pc 0 2 (pc 0 3 (pc 0 4 (pc 0 5 (pc 0 6 (pc 0 7 (pc 0 8 (pc 0 9 (pc 0 10 (pc 0 11 (pc 0 12 pn))))))))))))
 refine ⟨b0, ?_⟩
 refine dt 16 rfl c0 v0 (AJ rfl) (fun x hx => LZ (v := .int .i64 (orI (mkI (H1 cst i) 2) (mkI cpr 1))) (sy v0) v0 rfl rfl rfl rfl (by decide) (QK (by exact Wo (by decide)) (by exact Wn (by decide)) (by exact Wo (by decide)) (by exact Wn (by decide))) gt) b0 fun p0 n0 => ?_
 refine d1 25 ?_
 have p0 := f0.nf
 refine kcl n0 ok57 (P9 _ _ p0.il _ _ _ _ _ _ _ _ _ _ _ _ _ _ _ _ _ _ _ _ _ _ _ (orI (mkI (H1 cst i) 2) (mkI cpr 1)) _ _ ((BF cty i).2.2) i0 d0 i (p0.g 0) (p0.z 0) (Ca (i := 0) rfl) (p0.z 1) (Dw (i := 1) rfl) (p0.rowne (i := 0) (j := 1) rfl rfl (by decide)) (p0.g 1) (p0.g 2) (p0.g 3) (p0.g 4) (p0.g 9) (p0.g 6) (p0.g 7) (hH := (ih _ (by omega)))) ?_
 rintro n0 d0 ⟨v168, i0, f0, b0, rfl, v0, c0, o0, j0⟩
 have d0 := p0.callMD (i := 0) (j := 1) rfl rfl (by decide) v0 c0
 have c0 := p0.dMD 0 1 d0 o0
 have d0 := c0.base
 refine ⟨_, rfl, fun o0 p0 => ?_⟩
 have o0 := sWI d0 8 (pc 0 1 (pc 0 2 (pc 0 3 (pc 0 4 (pc 0 5 (pc 0 6 (pc 0 7 (pc 0 8 (pc 0 9 (pc 0 10 (pc 0 11 (pc 0 12 pn))))))))))))
 refine ⟨o0, ?_⟩
 refine dR [26] p0 fun o0 v0 => ?_
 refine AL (by kernel_rfl) (k0 _ _ ?_) _
 refine xn t0 <| rt1 v0 ?_
 have v0 := c0.unbase (.inl rfl) d0
 refine ⟨_, i0, f0, b0, ?_, v0.fr, (by rw [show ((agF cS ck cst cpr cmo (Bt cty) cty.length (cty.length - i) ce cn cpl).2 : Int) = ((piP (agF cS ck cst cpr cmo (Bt cty) cty.length (cty.length - (i + 1)) ce (cn + 1) (cpl ++ [cn + 1])) (orI (mkI (H1 cst i) 2) (mkI cpr 1)) ((BF cty i).2.2)).2) by (first | exact (congrArg Prod.snd hkE.symm) | (rw [hkE]; done) | (rw [hkE]; simp only [j0]; done) | (rw [hkE]; simp only [*]; done))]; exact v0.res (i := 0) rfl), v0.rx 10, (by exact (j0).trans (congrArg Prod.fst hkE.symm))⟩
 exact cre (CZ (by rfl))
theorem NW (w0 : World) (Z : Nat → Prop) (hZ : HZ w0 Z) (cg : Nat) (ce : Int) (cn : Int) (cK : Value) (cL : Value) (cS : ByteArray) (cT : Value) (cB : Value) (cC : Value) (ck : Int) (cstA : Option Addr) (cstc : Nat) (cst : List Bool) (cpr : Bool) (cmoA : Option Addr) (cmoc : Nat) (cmo : List Nd) (ctyA : Option Addr) (ctyc : Nat) (cty : List Sl) (cplA : Option Addr) (cplc : Nat) (cpl : List Int) (i : Nat) (hShp : Cu w0 Z) (hc : (Res.box cg 59 [.int .i64 ce, .int .i64 cn, cK, cL, .string cS, cT, cB, cC, .int .i64 ck, .slice cstA cst.length cstc, .bool cpr, .slice cmoA cmo.length cmoc, .slice ctyA cty.length ctyc, .slice cplA cpl.length cplc]).holds w0) (hcz : ¬ Z cg) (hcpl : (Res.row cplA cpl.length cplc 3 1 (BN cpl)).holds w0) (hcplz : ∀ k, rM cplA k → ¬ Z k) (hcpln : ∀ k, rM cplA k → k ≠ cg) (hcst : (Bw 1 cstA cst.length cstc (D2 cst)).φ w0 Z) (hcmo : N4 cmoA cmoc cmo w0 Z) (hcty : (Bw 1 ctyA cty.length ctyc (B7 cty)).φ w0 Z) (hctys : (Cl cty).φ w0 Z) (hmo : sml cmo := by exact ax) (hml : cmo.length ≤ 100000 := by exact ax) (hpl : ∀ j, -1000 ≤ Ci cpl j ∧ Ci cpl j ≤ 1000 := by exact ax) (hlc : cst.length = cty.length := by exact ax) (hty : ∀ t ∈ Bt cty, sml t ∧ t.length ≤ 4000 := by exact ax) (hn6 : cty.length ≤ 6 := by exact ax) (hcS : cS.size < 1000000 := by exact ax) (hlp : cpl.length = i := by exact ax) (hi : i ≤ cty.length := by exact ax) (hbn : -300 ≤ cn ∧ cn + ((cty.length - i : Nat) : Int) ≤ 300 := by exact ax) :
    Calls Tryz.prog 23 [.pointer (some ⟨cg, 0, none⟩), .int .i64 (i : Int)].toArray w0 (fun e w' => ∃ cv : Value, ∃ (rA0 : Option Addr) (rc0 : Nat) (rL0 : List Nd), e = .returned (.slice rA0 rL0.length rc0) ∧ Fr (fun k => k = cg ∨ rM cplA k) w0 w' ∧ (Res.box cg 59 [.int .i64 ((agF cS ck cst cpr cmo (Bt cty) cty.length (cty.length - i) ce cn cpl).2), .int .i64 cn, cK, cL, .string cS, cT, cB, cC, .int .i64 ck, .slice cstA cst.length cstc, .bool cpr, .slice cmoA cmo.length cmoc, .slice ctyA cty.length ctyc, cv]).holds w' ∧ N4 rA0 rc0 rL0 w' (nxt Z w0 w') ∧ rL0 = (agF cS ck cst cpr cmo (Bt cty) cty.length (cty.length - i) ce cn cpl).1) := Jk _ w0 Z hZ cg ce cn cK cL cS cT cB cC ck cstA cstc cst cpr cmoA cmoc cmo ctyA ctyc cty cplA cplc cpl i hShp hc hcz hcpl hcplz hcpln hcst hcmo hcty hctys hmo hml hpl hlc hty hn6 hcS hlp hi hbn rfl
theorem KI (w0 : World) (Z : Nat → Prop) (hZ : HZ w0 Z) (tA : Option Addr) (tc : Nat) (t : List Nd) (i : Nat) (j : Nat) (vA : Option Addr) (vc : Nat) (v : List Nd) (ht : (Res.row tA (t).length tc 30 4 (Cd t)).holds w0) (htz : ∀ k, rM tA k → ¬ Z k) (hv : N4 vA vc v w0 Z) (hl : t.length ≤ 1000000 := by exact ax) (hij : i < j := by exact ax) (hj : j ≤ t.length := by exact ax) (hvl : v.length = 1 := by exact ax) :
    Calls Tryz.prog 55 [.slice tA t.length tc, .int .i64 (i : Int), .int .i64 (j : Int), .slice vA v.length vc].toArray w0 (fun e w' => e = .returned (.slice tA (t.take i ++ v ++ t.drop j).length tc) ∧ Fr (rM tA) w0 w' ∧ (Res.row tA (t.take i ++ v ++ t.drop j).length tc 30 4 (Cd (t.take i ++ v ++ t.drop j))).holds w') := by
 have hstart : ∀ k, Z k → imm Z w0 [.row tA ((t).length) tc 30 4 (Cd t)] w0 k ∧ w0.heap[k]? = w0.heap[k]? := fun k hk => Km hZ htz hk
 have b0 : St w0 Z (rM tA) w0 [.row tA ((t).length) tc 30 4 (Cd t)] [n4 vA vc v] := MN w0 Z _ _ _ _ _ _ _ ht (by
  intro d hd
  simp only [AD, AG, or_false] at hd
  rcases hd with rfl
  exact Dat.mono _ _ _ _ _ (Af _) hv hstart
  )
 refine AE Tryz.func55 rfl Tryz.ntmps55 rfl fun c0 d0 => ?_
 refine rR d0 fun c0 f0 => ?_
 refine wsc fun c0 d0 => lR f0 fun c0 h0 => ?_
 have c0 := Db (b0.res (i := 0) rfl)
 refine Hi (lo := some (.tmp 16)) (hi := some (.tmp 17)) (vlo := (some (.int .i64 (i : Int)))) (vhi := (some (.int .i64 (j : Int)))) (kd := .i64) (kd' := .i64) sv h0 rfl rfl rfl rfl rfl i (j - i) (.inl (by rfl)) (.inl (by congr 2; omega)) Au DK (by omega) (by decide) fun c0 f0 i0 j0 k0 m0 => ?_
 refine wn d0 <| Ac fun d0 k0 => rR m0 fun d0 j0 => ?_
 rcases Cb ((i : Int) = (j : Int)) with d0 | d0
 exfalso; omega
 refine wcf j0 (Ai d0) fun m0 => ?_
 refine Am <| xn k0 <| Ac fun k0 d0 => rR m0 fun k0 j0 => ?_
 refine wcd j0 (fun k0 m0 => ?_) fun k0 i0 => ?_
 refine wsc fun k0 j0 => lR m0 fun k0 f0 => ?_
 have k0 := Db (b0.res (i := 0) rfl)
 refine Ez (q := i) sv f0 rfl rfl rfl rfl (by omega) Au DK (by omega) (by decide) fun k0 m0 => ?_
 refine mv m0 fun k0 f0 => ?_
 refine N8 (f := Eb) (i := 0) (L := t) (K := v) sv f0 b0 rfl rfl rfl rfl rfl (by omega) (by omega) Au DK Cq (Va (f := Eb) Dz) (by rfl) (b0.row (i := 0) rfl).2.news _ rfl (by decide) fun k0 m0 c0 h0 => ?_
 have m0 : (t.take i ++ v ++ t.drop (i + v.length)).length = (t).length := by simp only [Ab, Ah, BK]; omega
 refine aw c0 j0 fun m0 k0 => ?_
 refine Ac fun j0 m0 => rR k0 fun j0 c0 => ?_
 refine wcd c0 (fun j0 k0 => ?_) fun j0 f0 => ?_
 refine A0 ?_
 refine lR k0 fun j0 c0 => ?_
 have j0 := Db (h0.res (i := 0) rfl)
 refine Hi (lo := some (.tmp 42)) (hi := none) (vlo := (some (.int .i64 ((i + v.length : Nat) : Int)))) (vhi := none) (kd := .i64) (kd' := .i64) sv c0 rfl rfl rfl rfl rfl (i + v.length) ((t.length) - (i + v.length)) (.inl (by rfl)) (.inr ⟨rfl, by omega⟩) Au DK (by omega) (by decide) fun j0 k0 n0 o0 p0 q0 => ?_
 refine RO (f := Eb) (i := 0) (L := (t.take i ++ v ++ t.drop (i + v.length))) (k := (i + v.length)) (z0 := (⟨0, 0, 0, (⟨#[]⟩ : ByteArray)⟩ : Nd)) sv q0 h0 rfl rfl rfl rfl p0 (by omega) Au Qj Cq (Va (f := Eb) Dz) rfl _ rfl fun o0 n0 k0 j0 => ?_
 have n0 : ((t.take i ++ v ++ t.drop (i + v.length)).take (i + v.length) ++ List.replicate ((t.length) - (i + v.length)) (⟨0, 0, 0, (⟨#[]⟩ : ByteArray)⟩ : Nd) ++ (t.take i ++ v ++ t.drop (i + v.length)).drop ((i + v.length) + ((t.length) - (i + v.length))) : List Nd).length = (t.take i ++ v ++ t.drop (i + v.length)).length := by simp only [Ab, Ah, BK, BP]; omega
 refine wn m0 <| rR k0 fun n0 o0 => ?_
 refine rt1 o0 ?_
 have o0 := j0.trim Cq (i := 0) (L := ((t.take i ++ v ++ t.drop (i + v.length)).take (i + v.length) ++ List.replicate ((t.length) - (i + v.length)) (⟨0, 0, 0, (⟨#[]⟩ : ByteArray)⟩ : Nd) ++ (t.take i ++ v ++ t.drop (i + v.length)).drop ((i + v.length) + ((t.length) - (i + v.length))))) rfl (i + v.length) (by omega)
 have j0 : ((t.take i ++ v ++ t.drop (i + v.length)).take (i + v.length) ++ List.replicate ((t.length) - (i + v.length)) (⟨0, 0, 0, (⟨#[]⟩ : ByteArray)⟩ : Nd) ++ (t.take i ++ v ++ t.drop (i + v.length)).drop ((i + v.length) + ((t.length) - (i + v.length)))).take (i + v.length) = t.take i ++ v ++ t.drop j := by exact Tz (by omega) (by omega) rfl (BG _ _ _)
 have n0 := o0
 rw [j0] at n0
 refine ⟨?_, n0.fr, n0.res (i := 0) rfl⟩
 exact cre (CZ (by (rw [← j0]; simp; omega)))
 refine Am <| xn m0 <| rR f0 fun m0 j0 => ?_
 refine rt1 j0 ?_
 have j0 := h0.trim Cq (i := 0) (L := (t.take i ++ v ++ t.drop (i + v.length))) rfl (i + v.length) (by omega)
 have h0 : (t.take i ++ v ++ t.drop (i + v.length)).take (i + v.length) = t.take i ++ v ++ t.drop j := by exact QU (by omega) (by omega) rfl
 have m0 := j0
 rw [h0] at m0
 refine ⟨?_, m0.fr, m0.res (i := 0) rfl⟩
 exact cre (CZ (by (rw [← h0]; simp; omega)))
 refine Am <| xn d0 <| Ac fun d0 h0 => ?_
 obtain ⟨d0, m0, j0⟩ := b0.agree
 refine Cj (n := 13) j0 1 pn (A5 BC) fun m0 d0 b0 f0 n0 o0 => ?_
 refine dR [0, 1] i0 fun f0 m0 => ?_
 refine dt 2 rfl d0 m0 (AJ rfl) (fun x hx => Ez (q := i) (sy m0) m0 rfl rfl rfl rfl (by omega) Au DK (by omega) (by decide) gt) o0 fun f0 i0 => ?_
 refine dR [3, 4, 5] i0 fun f0 m0 => ?_
 refine dt 6 rfl d0 m0 (AJ rfl) (fun x hx => IB (z := ((i + v.length : Nat) : Int)) (sy m0) m0 rfl rfl rfl rfl (by decide) (by omega) (by omega) (by omega) gt) o0 fun f0 i0 => ?_
 refine dR [7, 8] i0 fun f0 m0 => ?_
 refine dt 9 rfl d0 m0 (AJ rfl) (fun x hx => Gp (lo := some (.tmp 53)) (hi := none) (vlo := (some (.int .i64 (j : Int)))) (vhi := none) (kd := .i64) (kd' := .i64) (sy m0) m0 rfl rfl rfl rfl rfl j ((t.length) - j) (.inl (by rfl)) (.inr ⟨rfl, by omega⟩) Au DK (by omega) (by decide) gt) o0 fun f0 i0 => ?_
 refine dR [10] i0 fun f0 m0 => ?_
 refine dt 11 rfl d0 m0 (AJ rfl) (fun x hx => IB (z := ((i : Int) + (v.length : Int) + (t.length : Int) - (j : Int))) (sy m0) m0 rfl rfl rfl rfl (by decide) (by omega) (by omega) (by omega) gt) o0 fun f0 i0 => ?_
 refine dR [12] i0 fun f0 m0 => ?_
 refine AL (by kernel_rfl) (b0 _ _ ?_) _
 refine xn h0 <| Ac fun h0 b0 => wsc fun h0 f0 => lR m0 fun h0 i0 => ?_
 refine VM sv i0 rfl rfl rfl rfl Au (by decide) fun h0 m0 => ?_
 refine lR m0 fun h0 i0 => ?_
 refine wn f0 ?_
 rcases Cb ((tc : Int) < ((i : Int) + (v.length : Int) + (t.length : Int) - (j : Int))) with f0 | f0
 exfalso; omega
 refine wcf i0 (Ai f0) fun h0 => ?_
 refine Am <| xn b0 <| wsc fun b0 f0 => lR h0 fun b0 i0 => ?_
 have b0 := Db (n0.res (i := 0) rfl)
 refine Ez (q := (i + v.length + t.length) - j) sv i0 rfl rfl rfl rfl (by omega) Au DK (by omega) (by decide) fun b0 h0 => ?_
 refine aw h0 f0 fun b0 i0 => ?_
 refine Ac fun f0 b0 => wsc fun b0 f0 => lR i0 fun b0 h0 => ?_
 refine adi ((i + v.length : Nat) : Int) h0 fun b0 i0 => ?_
 refine lR i0 fun b0 h0 => ?_
 refine wn f0 ?_
 rcases Cb (((i + v.length : Nat) : Int) ≤ (j : Int)) with f0 | f0
 refine wct h0 (Aw f0) fun b0 => ?_
 refine wsc fun f0 h0 => lR b0 fun f0 i0 => ?_
 have f0 := Db (n0.res (i := 0) rfl)
 refine Hi (lo := some (.tmp 94)) (hi := none) (vlo := (some (.int .i64 (i : Int)))) (vhi := none) (kd := .i64) (kd' := .i64) sv i0 rfl rfl rfl rfl rfl i ((v.length + t.length) - j) (.inl (by rfl)) (.inr ⟨rfl, by omega⟩) Au DK (by omega) (by decide) fun f0 b0 m0 o0 d0 j0 => ?_
 refine mv j0 fun o0 m0 => ?_
 have o0 : (v).length = Nat.min (v.length) ((v.length + t.length) - j) := by show _ = min _ _; first | omega | (simp only [Ab, Ah, BK, Ad, Aj]; omega)
 have := Nat.min_le_right (v.length) ((v.length + t.length) - j)
 refine Vg (f := Eb) (i := 0) (L := t) (K := v) (k := i) sv m0 n0 rfl rfl rfl rfl rfl d0 (by omega) Au DK Cq (Va (f := Eb) Dz) o0 (n0.row (i := 0) rfl).2.news _ rfl (by decide) fun j0 b0 f0 i0 => ?_
 have b0 : (t.take i ++ v ++ t.drop (i + v.length)).length = (t).length := by simp only [Ab, Ah, BK]; omega
 refine wn h0 <| Ac fun h0 b0 => ?_
 obtain ⟨h0, j0, o0⟩ := i0.agree
 refine Cj (n := 10) o0 2 pn (A5 (A5 BC)) fun j0 h0 i0 m0 d0 n0 => ?_
 refine dR [0, 1, 2, 3] f0 fun m0 j0 => ?_
 refine dt 4 rfl h0 j0 (AJ rfl) (fun x hx => IB (z := ((i + v.length : Nat) : Int)) (sy j0) j0 rfl rfl rfl rfl (by decide) (by omega) (by omega) (by omega) gt) n0 fun m0 f0 => ?_
 refine dt 5 rfl h0 f0 (AJ rfl) (fun x hx => Gp (lo := some (.tmp 102)) (hi := none) (vlo := (some (.int .i64 ((i + v.length : Nat) : Int)))) (vhi := none) (kd := .i64) (kd' := .i64) (sy f0) f0 rfl rfl rfl rfl rfl (i + v.length) ((t.length) - j) (.inl (by rfl)) (.inr ⟨rfl, by omega⟩) Au DK (by omega) (by decide) gt) n0 fun m0 j0 => ?_
 refine dR [6, 7] j0 fun m0 f0 => ?_
 refine dt 8 rfl h0 f0 (AJ rfl) (fun x hx => Gp (lo := some (.tmp 105)) (hi := none) (vlo := (some (.int .i64 (j : Int)))) (vhi := none) (kd := .i64) (kd' := .i64) (sy f0) f0 rfl rfl rfl rfl rfl j ((t.length) - j) (.inl (by rfl)) (.inr ⟨rfl, by omega⟩) Au DK (by omega) (by decide) gt) n0 fun m0 j0 => ?_
 refine d1 9 ?_
 have m0 : (((t.take i ++ v ++ t.drop (i + v.length)).drop j).take ((t.length) - j)).length = Nat.min ((t.length) - j) ((t.length) - j) := by show _ = min _ _; first | omega | (simp only [Ab, Ah, BK, Ad, Aj]; omega)
 have := Nat.min_le_right ((t.length) - j) ((t.length) - j)
 refine Vg (f := Eb) (i := 0) (L := (t.take i ++ v ++ t.drop (i + v.length))) (K := (((t.take i ++ v ++ t.drop (i + v.length)).drop j).take ((t.length) - j))) (k := (i + v.length)) (CY rfl (AJ rfl)) j0 d0 rfl rfl rfl rfl rfl (cut_A (by omega)) (by omega) Au DK Cq (Va (f := Eb) Dz) m0 (KT (f := Eb) (i := 0) (L := (t.take i ++ v ++ t.drop (i + v.length))) (k := j) (q := (t.length) - j) d0 rfl (cut_A (by omega)) Cq (by omega)) _ rfl (by decide) fun f0 n0 h0 o0 => ?_
 have n0 : ((t.take i ++ v ++ t.drop (i + v.length)).take (i + v.length) ++ (((t.take i ++ v ++ t.drop (i + v.length)).drop j).take ((t.length) - j)) ++ (t.take i ++ v ++ t.drop (i + v.length)).drop ((i + v.length) + (((t.take i ++ v ++ t.drop (i + v.length)).drop j).take ((t.length) - j)).length)).length = (t.take i ++ v ++ t.drop (i + v.length)).length := by simp only [Ab, Ah, BK]; omega
 have n0 := sWI o0 2 pn
 refine ⟨n0, ?_⟩
 refine AL (by kernel_rfl) (i0 _ _ ?_) _
 refine xn b0 <| wsc fun b0 i0 => lR h0 fun b0 n0 => ?_
 have b0 := Db (o0.res (i := 0) rfl)
 refine Hi (lo := some (.tmp 109)) (hi := none) (vlo := (some (.int .i64 ((i : Int) + (v.length : Int) + (t.length : Int) - (j : Int))))) (vhi := none) (kd := .i64) (kd' := .i64) sv n0 rfl rfl rfl rfl rfl ((i + v.length + t.length) - j) (j - (i + v.length)) (.inl (by (congr 2; omega))) (.inr ⟨rfl, by omega⟩) Au DK (by omega) (by decide) fun b0 h0 f0 m0 j0 d0 => ?_
 refine RO (f := Eb) (i := 0) (L := ((t.take i ++ v ++ t.drop (i + v.length)).take (i + v.length) ++ (((t.take i ++ v ++ t.drop (i + v.length)).drop j).take ((t.length) - j)) ++ (t.take i ++ v ++ t.drop (i + v.length)).drop ((i + v.length) + (((t.take i ++ v ++ t.drop (i + v.length)).drop j).take ((t.length) - j)).length))) (k := ((i + v.length + t.length) - j)) (z0 := (⟨0, 0, 0, (⟨#[]⟩ : ByteArray)⟩ : Nd)) sv d0 o0 rfl rfl rfl rfl j0 (by omega) Au Qj Cq (Va (f := Eb) Dz) rfl _ rfl fun m0 f0 h0 b0 => ?_
 have f0 : (((t.take i ++ v ++ t.drop (i + v.length)).take (i + v.length) ++ (((t.take i ++ v ++ t.drop (i + v.length)).drop j).take ((t.length) - j)) ++ (t.take i ++ v ++ t.drop (i + v.length)).drop ((i + v.length) + (((t.take i ++ v ++ t.drop (i + v.length)).drop j).take ((t.length) - j)).length)).take ((i + v.length + t.length) - j) ++ List.replicate (j - (i + v.length)) (⟨0, 0, 0, (⟨#[]⟩ : ByteArray)⟩ : Nd) ++ ((t.take i ++ v ++ t.drop (i + v.length)).take (i + v.length) ++ (((t.take i ++ v ++ t.drop (i + v.length)).drop j).take ((t.length) - j)) ++ (t.take i ++ v ++ t.drop (i + v.length)).drop ((i + v.length) + (((t.take i ++ v ++ t.drop (i + v.length)).drop j).take ((t.length) - j)).length)).drop (((i + v.length + t.length) - j) + (j - (i + v.length))) : List Nd).length = ((t.take i ++ v ++ t.drop (i + v.length)).take (i + v.length) ++ (((t.take i ++ v ++ t.drop (i + v.length)).drop j).take ((t.length) - j)) ++ (t.take i ++ v ++ t.drop (i + v.length)).drop ((i + v.length) + (((t.take i ++ v ++ t.drop (i + v.length)).drop j).take ((t.length) - j)).length)).length := by simp only [Ab, Ah, BK, BP]; omega
 refine wn i0 <| rR h0 fun i0 f0 => ?_
 refine rt1 f0 ?_
 have f0 := b0.trim Cq (i := 0) (L := (((t.take i ++ v ++ t.drop (i + v.length)).take (i + v.length) ++ (((t.take i ++ v ++ t.drop (i + v.length)).drop j).take ((t.length) - j)) ++ (t.take i ++ v ++ t.drop (i + v.length)).drop ((i + v.length) + (((t.take i ++ v ++ t.drop (i + v.length)).drop j).take ((t.length) - j)).length)).take ((i + v.length + t.length) - j) ++ List.replicate (j - (i + v.length)) (⟨0, 0, 0, (⟨#[]⟩ : ByteArray)⟩ : Nd) ++ ((t.take i ++ v ++ t.drop (i + v.length)).take (i + v.length) ++ (((t.take i ++ v ++ t.drop (i + v.length)).drop j).take ((t.length) - j)) ++ (t.take i ++ v ++ t.drop (i + v.length)).drop ((i + v.length) + (((t.take i ++ v ++ t.drop (i + v.length)).drop j).take ((t.length) - j)).length)).drop (((i + v.length + t.length) - j) + (j - (i + v.length))))) rfl ((i + v.length + t.length) - j) (by omega)
 have b0 : (((t.take i ++ v ++ t.drop (i + v.length)).take (i + v.length) ++ (((t.take i ++ v ++ t.drop (i + v.length)).drop j).take ((t.length) - j)) ++ (t.take i ++ v ++ t.drop (i + v.length)).drop ((i + v.length) + (((t.take i ++ v ++ t.drop (i + v.length)).drop j).take ((t.length) - j)).length)).take ((i + v.length + t.length) - j) ++ List.replicate (j - (i + v.length)) (⟨0, 0, 0, (⟨#[]⟩ : ByteArray)⟩ : Nd) ++ ((t.take i ++ v ++ t.drop (i + v.length)).take (i + v.length) ++ (((t.take i ++ v ++ t.drop (i + v.length)).drop j).take ((t.length) - j)) ++ (t.take i ++ v ++ t.drop (i + v.length)).drop ((i + v.length) + (((t.take i ++ v ++ t.drop (i + v.length)).drop j).take ((t.length) - j)).length)).drop (((i + v.length + t.length) - j) + (j - (i + v.length)))).take ((i + v.length + t.length) - j) = t.take i ++ v ++ t.drop j := Ty (by omega) (by omega) (by omega) rfl rfl rfl rfl
 have i0 := f0
 rw [b0] at i0
 refine ⟨?_, i0.fr, i0.res (i := 0) rfl⟩
 exact cre (CZ (by (rw [← b0]; simp; omega)))
 exfalso; omega
theorem NP (w0 : World) (Z : Nat → Prop) (hZ : HZ w0 Z) (tA : Option Addr) (tc : Nat) (t : List Nd) (hShp : Cu w0 Z) (ht : N4 tA tc t w0 Z) (hsm : sml t := by exact ax) (hl : t.length ≤ 1000000 := by exact ax) :
    Calls Tryz.prog 21 [.slice tA t.length tc].toArray w0 (fun e w' => ∃ (rA0 : Option Addr) (rc0 : Nat), e = .returned (.tuple #[.slice rA0 (erA t).length rc0, .int .i64 (chk t)]) ∧ Fr A6 w0 w' ∧ N4 rA0 rc0 (erA t) w' (nxt Z w0 w')) := by
 have b0 := s0 (M := A6) hZ (zc (d := Br) hShp (zc ht zn))
 refine FM Tryz.func21 rfl Tryz.ntmps21 rfl fun c0 d0 => ?_
 refine rR d0 fun c0 f0 => ?_
 refine Ac fun c0 d0 => wsc fun c0 h0 => mv f0 fun c0 i0 => ?_
 have c0 := b0.nf
 refine kra i0 c0 Vb (DP _ _ c0.il _ _ _ (c0.g 0) (c0.g 1)) fun b0 f0 j0 k0 => ?_
 refine aw k0 h0 fun j0 b0 => ?_
 refine rR b0 fun h0 j0 => ?_
 refine wce j0 (fun h0 b0 => ?_) fun h0 k0 => ?_
 refine Am <| xn d0 <| wsc fun d0 h0 => mv b0 fun d0 j0 => ?_
 have d0 := f0.nf
 refine kcl j0 ok53 (HS _ _ d0.il _ _ _ (d0.g 1)) ?_
 rintro j0 b0 ⟨c0, i0, rfl, m0, n0, o0⟩
 have b0 := d0.callO m0 n0 o0
 refine ⟨_, rfl, fun o0 n0 => ?_⟩
 refine alc n0 b0 fun o0 m0 d0 j0 p0 => ?_
 refine sto 1 j0 p0 fun m0 o0 n0 b0 => ?_
 refine wn h0 <| Ac fun h0 o0 => wsc fun h0 m0 => mv n0 fun h0 p0 => ?_
 have h0 := b0.nf
 refine kcl p0 ok54 (J6 _ _ h0.il _ _ _ (h0.g 1)) ?_
 rintro p0 b0 ⟨n0, rfl, j0, q0⟩
 have b0 := h0.below j0.below
 have j0 := h0.dN b0 q0
 refine ⟨_, rfl, fun b0 q0 => ?_⟩
 refine wn m0 <| A4 ?_
 have m0 := j0.nf
 have j0 : Reg b0 27 [(1000000, .bool false), (2, .slice none 0 0), (3, .int .i64 0), (5, .pointer (some ⟨d0, 0, none⟩)), (16, .func (.func 88) #[] #[.pointer (some ⟨n0, 0, none⟩)])] := (q0.sub (rc4 (rc rfl rnl)))
 refine Hu (xs := O4 t) (encs := (fun x : Int × Int => #[.int .i64 x.1, .int .i64 x.2])) (j0.ev rfl) ok88 (KM _ (imm Z w0 [.row c0 t.length i0 30 4 (Cd t), .box d0 22 [.slice c0 t.length i0]] _) n0 tA tc t (m0.get (i := 0) rfl) (m0.get (i := 1) rfl) (m0.get (i := 2) rfl) (by assumption) (by assumption)) (fun _ => rfl) m0 (fun _ h => h) (fun (pre : List (Int × Int)) (mm : List Res) => ∃ Ao : Option Addr, ∃ co : Nat, mm = [.row Ao ((I9 t pre).length) co 30 4 (Cd (I9 t pre)), .box d0 22 [.slice Ao ((I9 t pre).length) co]]) (fun _ _ _ => False) ⟨c0, i0, rfl⟩ ?_ ?_ ?_
 rintro m0 pre x i0 m1 hp ⟨Ao, co, rfl⟩ c0
 obtain ⟨xi, xj, rfl, hxi, hxj, hxy⟩ := O3 hp
 refine (?_ : ∀ q0, Reg q0 27 [(18, .int .i64 (xj : Int)), (17, .int .i64 (xi : Int)), (1000000, .bool false), (2, .slice none 0 0), (3, .int .i64 0), (5, .pointer (some ⟨d0, 0, none⟩)), (16, .func (.func 88) #[] #[.pointer (some ⟨n0, 0, none⟩)])] → Code.wpIn (rI m0) 0 _ _ _ q0 i0) _ (Ee j0 (by decide) (by decide) rfl)
 intro q0 i0
 have hpl := VK (List.IsPrefix.trans (List.prefix_append _ _) hp)
 have hpj := Ow hxj hxy
 refine BM fun q0 m0 => ?_
 refine BH (by kernel_rfl) (B6 (B6 (fun _ _ h => h))) ?_
 refine aw i0 m0 fun q0 n0 => ?_
 refine BH (by kernel_rfl) (B6 (fun _ _ h => h)) ?_
 refine asg n0 fun m0 q0 => ?_
 refine Ae ?_
 have m0 := c0.nf
 refine AC ⟨_, _, 3, m0, rfl, (fun _ h => False.elim h), (fun _ h => False.elim h), fun c0 n0 => ?_⟩
 refine wpIn_block ?_
 refine BH (by kernel_rfl) (BE Cf) ?_
 refine lR q0 fun c0 m0 => ?_
 refine adi ((xj + 1 : Nat) : Int) m0 fun c0 q0 => ?_
 refine bld q0 fun c0 m0 => ?_
 refine bsl m0 n0 fun c0 q0 i0 d0 b0 => ?_
 have q0 := b0.nf
 have b0 := q0.pub 2 (Bw 4 (some ⟨i0, 0, none⟩) 1 1 (Cd ([(⟨29, 0, 0, (⟨#[]⟩ : ByteArray)⟩ : Nd)])))
 refine kcl d0 ok55 (KI _ _ b0.il Ao co (I9 t pre) xi (xj + 1) _ _ ([(⟨29, 0, 0, (⟨#[]⟩ : ByteArray)⟩ : Nd)]) (b0.z 0) (Dw (i := 0) rfl) (b0.g 4)) ?_
 rintro d0 q0 ⟨rfl, i0, c0⟩
 have q0 := b0.callR (i := 0) rfl i0 c0
 refine ⟨_, rfl, fun c0 i0 => ?_⟩
 refine sto 1 i0 q0 fun c0 b0 d0 m0 => ?_
 refine Ae ?_
 refine A7 ?_
 have d0 := m0.nf
 have m0 : (I9 t pre).take xi ++ ([(⟨29, 0, 0, (⟨#[]⟩ : ByteArray)⟩ : Nd)]) ++ (I9 t pre).drop (xj + 1) = I9 t (pre ++ [((xi : Int), (xj : Int))]) := QW
 have b0 := d0
 rw [m0] at b0
 exact ⟨_, _, 3, b0, rfl, _, _, rfl⟩
 rintro b0 m1 m0 ⟨Ao, co, rfl⟩ d0
 have m0 := DG j0 b0
 refine A7 <| xn o0 <| rR m0 fun o0 b0 => ?_
 refine BV ?_
 have o0 := d0.pub 0 (n4 Ao co (I9 t (O4 t)))
 have d0 := o0.nf
 obtain ⟨o0, m0⟩ := d0.shut (i := 3) rfl [n4 Ao co (I9 t (O4 t))] (by intro d hd; simp only [AD, AG, or_false] at hd; rcases hd with rfl; exact ⟨Ax (i := 4) rfl, Lj (by decide) _ _ _ _⟩)
 refine Fx (.inl rfl) b0 rfl o0 (VI b0 rfl rfl rfl _) ?_
 have o0 : erA t = I9 t (O4 t) := by rw [Kq (by assumption), ← era_eq (BO (by assumption))]
 rw [o0]
 refine ⟨Ao, co, ?_, m0.fr, m0.rx 0⟩
 exact Bj rfl (Bz (by omega))
 rintro _ _ _ _ _ _ h _
 exact h.elim
 refine rR k0 fun m0 o0 => ?_
 refine BV <| AX <| Kc (.inl rfl) o0 rfl (VI o0 rfl rfl rfl _) ?_
 have o0 : erA t = [] := Sq (by assumption)
 rw [o0]
 refine ⟨none, 0, ?_, f0.fr, ⟨Af _, RowI.nil _ _ _ _⟩⟩
 exact Bj rfl (Bz (by rfl))
theorem Kw (w0 : World) (Z : Nat → Prop) (hZ : HZ w0 Z) (dK : Int) (dL : Int) (dS : ByteArray) (dTA : Option Addr) (dTc : Nat) (dT : List Nd) (dBA : Option Addr) (dBc : Nat) (dB : List Nd) (dCA : Option Addr) (dCc : Nat) (dC : List Tl) (k : Int) (stA : Option Addr) (stc : Nat) (st : List Bool) (pr : Bool) (moA : Option Addr) (moc : Nat) (mo : List Nd) (hShp : Cu w0 Z) (hdT : N4 dTA dTc dT w0 Z) (hdB : N4 dBA dBc dB w0 Z) (hdC : (Bw 1 dCA dC.length dCc (CW dC)).φ w0 Z) (hdCs : (CG dC).φ w0 Z) (hst : (Bw 1 stA st.length stc (D2 st)).φ w0 Z) (hmo : N4 moA moc mo w0 Z) (hl : dC.length ≤ 100 := by exact ax) (hb : ∀ s ∈ dC, s.2.2.length ≤ 100 := by exact ax) (hall : ∀ x ∈ tmD dK dT dB (B1 dC), sml x ∧ x.length ≤ 1000000 := by exact ax) (hsS : dS.size < 1000000 := by exact ax) (hsm : sml mo := by exact ax) (hlm : mo.length ≤ 100000 := by exact ax) :
    Calls Tryz.prog 7 [.agg #[.int .i64 dK, .int .i64 dL, .string dS, .slice dTA dT.length dTc, .slice dBA dB.length dBc, .slice dCA dC.length dCc], .int .i64 k, .slice stA st.length stc, .bool pr, .slice moA mo.length moc].toArray w0 (fun e w' => ∃ (rA0 : Option Addr) (rc0 : Nat), e = .returned (.tuple #[.slice rA0 (csL dK dL dS dT dB dC k st pr mo).length rc0, .int .i64 (csE dK dL dS dT dB dC k st pr mo)]) ∧ Fr A6 w0 w' ∧ N4 rA0 rc0 (csL dK dL dS dT dB dC k st pr mo) w' (nxt Z w0 w')) := by
 have b0 := s0 (M := A6) hZ (zc (d := Br) hShp (zc hdT (zc hdB (zc hdC (zc hdCs (zc hst (zc hmo zn)))))))
 refine AE Tryz.func7 rfl Tryz.ntmps7 rfl fun c0 d0 => ?_
 refine wsc fun c0 f0 => bxx d0 b0 fun c0 h0 i0 j0 k0 => ?_
 refine lR j0 fun h0 c0 => ?_
 refine wn f0 <| Ac fun f0 h0 => wsc fun f0 j0 => lR c0 fun f0 d0 => ?_
 have f0 := k0.nf
 refine kra d0 f0 ok19 (LM _ _ f0.il dK dL dS _ _ _ _ _ _ _ _ _ (f0.g 0) (f0.g 1) (f0.g 2) (f0.g 3) (f0.g 4) (hl := hl) (hb := hb) (hall := hall) (hsS := hsS)) fun k0 c0 b0 m0 => ?_
 refine aw m0 j0 fun b0 k0 => ?_
 refine rR k0 fun j0 b0 => ?_
 refine wce b0 (fun j0 k0 => ?_) fun j0 m0 => ?_
 have hsc := j0
 obtain ⟨j0, hC6, hA6, hcl⟩ := Tt hsc
 refine Am <| xn h0 <| Ac fun h0 b0 => wsc fun h0 f0 => mv k0 fun h0 d0 => ?_
 have h0 := c0.nf
 refine kra d0 h0 Vb (DP _ _ h0.il _ _ _ (h0.g 0) (h0.g 6)) fun k0 n0 o0 p0 => ?_
 refine aw p0 f0 fun o0 k0 => ?_
 refine rR k0 fun f0 o0 => ?_
 refine wce o0 (fun f0 k0 => ?_) fun f0 p0 => ?_
 have hmk := f0
 refine Am <| xn b0 <| Ac fun b0 f0 => wsc fun b0 o0 => lR k0 fun b0 h0 => ?_
 refine lOr 5 (decide ((dC.length : Int) ≤ k)) h0 fun b0 k0 => ?_
 refine mv k0 fun b0 h0 => ?_
 refine l_or 9 (!(decide ((st.length : Int) = ((Bm dC k.toNat).2.2.length : Int)))) h0 (fun b0 k0 d0 => ?_) fun q0 t0 => ?_
 have q0 := CU b0
 have h0 := Ak q0
 have h0 := CT b0
 have b0 := Ak h0
 refine CI (Bb (wt k0)) k0 rfl rfl rfl (by decide) fun b0 h0 => ?_
 refine P4 (Bb (wt h0)) h0 rfl rfl rfl rfl Ek (by decide) fun b0 k0 => ?_
 refine H5 (j' := 5) (Bb (wt k0)) k0 rfl rfl rfl CD rfl sz23 rfl rfl (by decide) fun b0 h0 => ?_
 refine Hj (i := 0) (Bb (wt h0)) h0 n0 rfl rfl rfl rfl rfl G0 rfl (by decide) fun b0 k0 => ?_
 refine CI (Bb (wt k0)) k0 rfl rfl rfl (by decide) fun b0 h0 => ?_
 have b0 := Reg.cons h0 h0 (ri (i := 43) (b := (k.toNat : Int)) rfl (by omega))
 refine ix k.toNat (k.toNat * 1) b0 (Cn (t := dC) (k := k.toNat) (n0.row (i := 3) rfl).2 (by omega)).some_ fun h0 k0 => ?_
 refine lde 0 (k.toNat * 1) k0 (Cn (t := dC) (k := k.toNat) (n0.row (i := 3) rfl).2 (by omega)) fun h0 b0 => ?_
 have h0 := n0.elT 4 k.toNat
 have k0 := h0.elA 4 k.toNat
 refine P4 (Bb (wt b0)) b0 rfl rfl rfl rfl Be (by decide) fun k0 h0 => ?_
 refine r_neq (Bb (wt h0)) h0 rfl rfl rfl rfl (by decide) fun k0 b0 => ?_
 refine FG sv b0 rfl rfl rfl rfl (by decide) fun k0 h0 => ?_
 exact d0.fin h0
 refine wn o0 <| wcg t0 (fun o0 h0 => ?_) fun o0 d0 => ?_
 have t0 := o0
 try simp only [bz] at t0
 refine rR h0 fun t0 k0 => ?_
 refine rt2 k0 ?_
 have k0 : csL dK dL dS dT dB dC k st pr mo = [] := (by exact (S5 hsc hmk (by omega)).1)
 rw [k0]
 refine ⟨none, 0, ?_, n0.fr, ⟨Af _, RowI.nil _ _ _ _⟩⟩
 exact Bj rfl (Bz (by (first | exact (S7 (by assumption)).2.symm | exact (S6 hsc (by assumption)).2.symm | exact (S5 hsc hmk (by omega)).2.symm | (rw [(S8 (pr := pr) hsc hmk (by omega) (Ku hL (by omega))).2]; unfold csF; simp []; done))))
 have k0 := CU o0
 have t0 := CU k0
 have h0 := Ak t0
 have h0 := CT k0
 have k0 := Ak h0
 have k0 := CT o0
 have o0 := He k0
 have k0 := A9 o0
 refine Am <| xn f0 <| wsc fun f0 k0 => lR d0 fun f0 o0 => ?_
 refine bld o0 fun f0 d0 => ?_
 refine bxx d0 n0 fun f0 o0 h0 t0 b0 => ?_
 refine aw t0 k0 fun o0 f0 => ?_
 refine Ac fun k0 o0 => wsc fun k0 t0 => lR f0 fun k0 d0 => ?_
 have k0 := Reg.cons d0 d0 (ri (i := 58) (b := (k.toNat : Int)) rfl (by omega))
 refine ix k.toNat (k.toNat * 1) k0 (Cn (t := dC) (k := k.toNat) (b0.row (i := 3) rfl).2 (by omega)).some_ fun d0 f0 => ?_
 refine lde 0 (k.toNat * 1) f0 (Cn (t := dC) (k := k.toNat) (b0.row (i := 3) rfl).2 (by omega)) fun d0 k0 => ?_
 have d0 := b0.elT 4 k.toNat
 have b0 := d0.elA 4 k.toNat
 refine lR k0 fun d0 f0 => ?_
 refine wn t0 <| A4 ?_
 have t0 := b0.nilrow 22 1
 have b0 := t0.data (Cl []) Cp
 refine AH (fun gn ga gw => ∃ j : Nat, ∃ Ls : List Sl, ∃ Ao : Option Addr, ∃ co : Nat, (Reg ga 91 [(1000000, .bool false), (10, .slice none 0 0), (11, .int .i64 0), (14, .pointer (some ⟨h0, 0, none⟩)), (60, .slice ((Bm dC k.toNat).1) ((Bm dC k.toNat).2.2.length) ((Bm dC k.toNat).2.1)), (61, .int .i64 ((Bm dC k.toNat).2.2.length : Int)), (62, .int .i64 (j : Int))]) ∧ (St w0 Z A6 gw [.box i0 25 [.int .i64 dK, .int .i64 dL, .string dS, .slice dTA dT.length dTc, .slice dBA dB.length dBc, .slice dCA dC.length dCc], .box h0 59 [.int .i64 0, .int .i64 0, .int .i64 dK, .int .i64 dL, .string dS, .slice dTA dT.length dTc, .slice dBA dB.length dBc, .slice dCA dC.length dCc, .int .i64 k, .slice stA st.length stc, .bool pr, .slice moA mo.length moc, .slice Ao ((Ls).length) co, .slice none 0 0], .row Ao ((Ls).length) co 22 1 (B7 Ls)] [Br, n4 dTA dTc dT, n4 dBA dBc dB, Bw 1 dCA dC.length dCc (CW dC), CG dC, Bw 1 stA st.length stc (D2 st), n4 moA moc mo, Bw 1 ((Bm dC k.toNat).1) ((Bm dC k.toNat).2.2.length) ((Bm dC k.toNat).2.1) (B7 ((Bm dC k.toNat).2.2)), Cl ((Bm dC k.toNat).2.2), Cl Ls]) ∧ (j ≤ (Bm dC k.toNat).2.2.length) ∧ (Bt Ls = ((Bt (Bm dC k.toNat).2.2).take j).map erA) ∧ ((Bm dC k.toNat).2.2.length - j) = gn) _ ⟨0, [], none, 0, (f0.sub (rc4 (rc2 (rc rfl rnl)))), b0, by omega, rfl, rfl⟩ ?_
 rintro b0 f0 h0 ⟨j, Ls, Ao, co, i0, t0, hj, hL, d0⟩
 have hT := WM hcl hall j0 (show k.toNat < dC.length by omega)
 have hLn := Vt hL hj
 have hT6 := hA6 _ (DT (show k.toNat < dC.length by omega))
 refine rR i0 fun j0 d0 => ?_
 refine Ac fun j0 i0 => wcd d0 (fun j0 h0 => ?_) fun j0 f0 => ?_
 refine Am <| xn i0 <| Ac fun i0 j0 => A4 ?_
 refine wsc fun i0 d0 => ix j (j * 1) h0 (BD (t := (Bm dC k.toNat).2.2) (k := j) (t0.row (i := 7) rfl).2 (by omega)).some_ fun i0 b0 => ?_
 refine lde 0 (j * 1) b0 (BD (t := (Bm dC k.toNat).2.2) (k := j) (t0.row (i := 7) rfl).2 (by omega)) fun i0 h0 => ?_
 have i0 := t0.el 8 j
 refine aw h0 d0 fun b0 k0 => ?_
 refine wsc fun d0 b0 => mv k0 fun d0 h0 => ?_
 have d0 := i0.nf
 refine krb h0 d0 ok21 (NP _ _ d0.il _ _ ((BF ((Bm dC k.toNat).2.2) j).2.2) (d0.g 0) (d0.g 10) (hsm := (S4 hT (by omega)).1) (hl := (S4 hT (by omega)).2)) fun i0 k0 q0 u0 v0 x0 => ?_
 refine lR x0 fun v0 i0 => ?_
 refine Ae (AC (b0 _ _ (A0 ?_)))
 refine lR i0 fun b0 v0 => ?_
 have b0 := u0.data (Cl [((k0, q0, erA ((BF ((Bm dC k.toNat).2.2) j).2.2)) : Sl)]) (Cy (u0.get (i := 11) rfl) Cp)
 refine bsl v0 b0 fun u0 i0 x0 d0 h0 => ?_
 refine BL (f := FK) (i := 2) Ls ([((k0, q0, erA ((BF ((Bm dC k.toNat).2.2) j).2.2)) : Sl)]) sv d0 h0 rfl rfl rfl rfl rfl Dc (D7 _) Be L3 rfl rfl (BU (f := FK) (h0.res (i := 3) rfl)) rfl (by (simp only [Ad, Aj]; omega)) (by decide) fun x0 i0 u0 b0 v0 y0 z0 => ?_
 have v0 : (Ls ++ ([((k0, q0, erA ((BF ((Bm dC k.toNat).2.2) j).2.2)) : Sl)]) : List Sl).length = (Ls).length + 1 := by (simp only [Ab, Ah, Ad, Aj]; done)
 have v0 := z0.erase 3
 have z0 := v0.data (Cl (Ls ++ ([((k0, q0, erA ((BF ((Bm dC k.toNat).2.2) j).2.2)) : Sl)]))) (CH (v0.get (i := 9) rfl) (v0.get (i := 12) rfl))
 refine lR y0 fun v0 i0 => ?_
 refine sto 1 i0 z0 fun v0 y0 x0 h0 => ?_
 refine Ae ?_
 refine A7 <| xn j0 <| A0 ?_
 refine adi ((j + 1 : Nat) : Int) x0 fun j0 y0 => ?_
 refine mv y0 fun j0 x0 => ?_
 refine Ae ?_
 have j0 := h0.forget 12
 have h0 := j0.forget 11
 have j0 := h0.forget 10
 have h0 := j0.forget 9
 exact ⟨_, by omega, j + 1, Ls ++ ([((k0, q0, erA ((BF ((Bm dC k.toNat).2.2) j).2.2)) : Sl)]), u0, b0, (x0.sub (rc4 (rc2 (rc rfl rnl)))), h0, by omega, S2 hL (by omega), rfl⟩
 refine xe ?_
 refine xn o0 <| Ac fun o0 h0 => ?_
 obtain ⟨o0, x0, b0⟩ := t0.agree
 refine Cj (n := 11) b0 10 (pc 1 1 (pc 1 2 (pc 1 3 (pc 1 4 (pc 1 5 (pc 1 6 (pc 1 7 (pc 1 8 (pc 1 9 (pc 1 10 (pc 1 11 (pc 1 12 pn)))))))))))) (A5 BC) fun x0 o0 t0 u0 q0 k0 => ?_
 refine dR [0, 1, 2, 3, 4] f0 fun k0 u0 => ?_
 refine d1 5 ?_
 have k0 := q0.nf
 have q0 := k0.pub 2 (Bw 1 Ao ((Ls).length) co (B7 Ls))
 have k0 := q0.nilrow 3 1
 have q0 := k0.nf
 refine kcl u0 ok23 (NW _ _ q0.il _ _ _ _ _ _ _ _ _ _ _ _ _ _ _ _ _ _ _ _ _ _ ([]) 0 (q0.g 0) (q0.z 1) (Ca (i := 1) rfl) (q0.z 2) (Dw (i := 2) rfl) (q0.rowne (i := 1) (j := 2) rfl rfl (by decide)) (q0.g 5) (q0.g 6) (q0.g 11) (q0.g 9) (hmo := hsm) (hml := hlm) (hpl := pl_nil) (hty := (cs_ty hT hL)) (hcS := hsS) (hlp := rfl) (hi := (Nat.zero_le _))) ?_
 rintro u0 k0 ⟨v327, f0, o0, x0, rfl, b0, j0, y0, v0⟩
 have o0 := q0.callMD (i := 1) (j := 2) rfl rfl (by decide) b0 j0
 have j0 := q0.dMD 1 2 o0 y0
 refine ⟨_, rfl, fun o0 y0 => ?_⟩
 obtain ⟨o0, q0⟩ := (show x0.length ≤ 90000 ∧ sml x0 by rw [v0]; have zz := Xm (S := dS) (k := k) (st := st) (pr := pr) hsS hsm (cs_ty hT hL) (Bs _).symm (Ls.length - 0) (by omega) 0 0 []; exact ⟨by omega, zz.2⟩)
 have q0 := sWI j0 10 (pc 1 1 (pc 1 2 (pc 1 3 (pc 1 4 (pc 1 5 (pc 1 6 (pc 1 7 (pc 1 8 (pc 1 9 (pc 1 10 (pc 1 11 (pc 1 12 pn))))))))))))
 refine ⟨q0, ?_⟩
 refine d1 6 ?_
 have q0 := j0.nf
 refine kcl y0 ok22 (PY _ _ q0.il _ _ _ _ _ _ _ (q0.g 0) (q0.z 1) (Ca (i := 1) rfl) (q0.g 12)) ?_
 rintro y0 j0 ⟨o0, b0, rfl, f0, k0, u0⟩
 have j0 := q0.callM (i := 1) rfl f0 k0
 have k0 := q0.dM 1 j0 u0
 refine ⟨_, rfl, fun j0 u0 => ?_⟩
 have j0 := sWI k0 10 (pc 1 1 (pc 1 2 (pc 1 3 (pc 1 4 (pc 1 5 (pc 1 6 (pc 1 7 (pc 1 8 (pc 1 9 (pc 1 10 (pc 1 11 (pc 1 12 pn))))))))))))
 refine ⟨j0, ?_⟩
 refine dR [7, 8, 9, 10] u0 fun j0 q0 => ?_
 refine AL (by kernel_rfl) (t0 _ _ ?_) _
 refine xn h0 <| rt2 q0 ?_
 have q0 : csL dK dL dS dT dB dC k st pr mo = (if (if ((agF dS k st pr mo (Bt Ls) Ls.length (Ls.length - 0) 0 0 ([])).2) = 0 then chk x0 else ((agF dS k st pr mo (Bt Ls) Ls.length (Ls.length - 0) 0 0 ([])).2)) = 0 then x0 else []) := (by (rw [(S8 (pr := pr) hsc hmk (by omega) (Ku hL (by omega))).1]; unfold csF; simp [v0]; done))
 rw [q0]
 refine ⟨o0, b0, ?_, k0.fr, k0.rx 13⟩
 exact Bj rfl (Bz (by (first | exact (S7 (by assumption)).2.symm | exact (S6 hsc (by assumption)).2.symm | exact (S5 hsc hmk (by omega)).2.symm | (rw [(S8 (pr := pr) hsc hmk (by omega) (Ku hL (by omega))).2]; unfold csF; simp [v0]; done))))
 refine rR p0 fun v0 k0 => ?_
 refine rt2 k0 ?_
 have k0 : csL dK dL dS dT dB dC k st pr mo = [] := (by exact (S6 hsc (by assumption)).1)
 rw [k0]
 refine ⟨none, 0, ?_, n0.fr, ⟨Af _, RowI.nil _ _ _ _⟩⟩
 exact Bj rfl (Bz (by (first | exact (S7 (by assumption)).2.symm | exact (S6 hsc (by assumption)).2.symm | exact (S5 hsc hmk (by omega)).2.symm | (rw [(S8 (pr := pr) hsc hmk (by omega) (Ku hL (by omega))).2]; unfold csF; simp []; done))))
 refine rR m0 fun n0 k0 => ?_
 refine rt2 k0 ?_
 have k0 : csL dK dL dS dT dB dC k st pr mo = [] := (by exact (S7 (by assumption)).1)
 rw [k0]
 refine ⟨none, 0, ?_, c0.fr, ⟨Af _, RowI.nil _ _ _ _⟩⟩
 exact Bj rfl (Bz (by (first | exact (S7 (by assumption)).2.symm | exact (S6 hsc (by assumption)).2.symm | exact (S5 hsc hmk (by omega)).2.symm | (rw [(S8 (pr := pr) hsc hmk (by omega) (Ku hL (by omega))).2]; unfold csF; simp []; done))))
theorem GO (w0 : World) (Z : Nat → Prop) (hZ : HZ w0 Z)  (hShp : Cu w0 Z) :
    Calls Tryz.prog 6 [].toArray w0 (fun e w' => e = .returned (.bool true) ∧ Fr A6 w0 w') := by
 have b0 := s0 (M := A6) hZ (zc (d := Br) hShp zn)
 refine AE Tryz.func6 rfl Tryz.ntmps6 rfl fun c0 d0 => ?_
 refine rR d0 fun c0 f0 => ?_
 refine wsc fun c0 d0 => bld f0 fun c0 h0 => ?_
 refine bsl h0 b0 fun c0 f0 i0 j0 k0 => ?_
 refine aw j0 d0 fun f0 c0 => ?_
 refine wsc fun d0 f0 => ?_
 have d0 := k0.data (Cl []) Cp
 refine bsl c0 d0 fun k0 j0 h0 b0 m0 => ?_
 refine mv b0 fun j0 k0 => ?_
 have j0 := m0.pub 0 (Bw 4 (some ⟨i0, 0, none⟩) 1 1 (Cd ([(⟨25, 0, 0, (⟨#[78]⟩ : ByteArray)⟩ : Nd)])))
 have m0 := j0.data (Cl [(((some ⟨i0, 0, none⟩), 1, [(⟨25, 0, 0, (⟨#[78]⟩ : ByteArray)⟩ : Nd)]) : Sl)]) (Cy (j0.get (i := 2) rfl) Cp)
 refine bsl k0 m0 fun j0 b0 d0 c0 n0 => ?_
 have b0 := n0.pub 0 (Bw 1 (some ⟨h0, 0, none⟩) 0 0 (B7 ([])))
 have n0 := b0.pub 0 (Bw 1 (some ⟨d0, 0, none⟩) 1 1 (B7 ([(((some ⟨i0, 0, none⟩), 1, [(⟨25, 0, 0, (⟨#[78]⟩ : ByteArray)⟩ : Nd)]) : Sl)])))
 have b0 := n0.data (CG [(((some ⟨h0, 0, none⟩), 0, []) : Tl), (((some ⟨d0, 0, none⟩), 1, [(((some ⟨i0, 0, none⟩), 1, [(⟨25, 0, 0, (⟨#[78]⟩ : ByteArray)⟩ : Nd)]) : Sl)]) : Tl)]) (MK (n0.get (i := 4) rfl) (n0.get (i := 1) rfl) (MK (n0.get (i := 5) rfl) (n0.get (i := 3) rfl) Ps))
 refine bsl c0 b0 fun n0 j0 m0 k0 o0 => ?_
 refine bld k0 fun j0 n0 => ?_
 refine alc n0 o0 fun j0 k0 b0 c0 p0 => ?_
 refine sto 1 c0 p0 fun b0 k0 j0 n0 => ?_
 refine wn f0 <| wsc fun f0 k0 => bld j0 fun f0 b0 => ?_
 refine bsl b0 n0 fun f0 j0 p0 c0 o0 => ?_
 refine aw c0 k0 fun j0 f0 => ?_
 refine wsc fun k0 j0 => RM (i := 1) (vs := [.int .i64 3, .int .i64 1, .string (⟨#[78]⟩ : ByteArray), .slice none 0 0, .slice none 0 0, .slice (some ⟨m0, 0, none⟩) 2 2]) sv f0 o0 rfl rfl rfl rfl rfl CD rfl Xn (by decide) fun k0 c0 => ?_
 refine bsl c0 o0 fun k0 f0 b0 n0 q0 => ?_
 refine mv n0 fun f0 k0 => ?_
 have f0 := q0.nf
 have q0 := f0.pub 0 (Bw 1 (some ⟨m0, 0, none⟩) 2 2 (CW ([(((some ⟨h0, 0, none⟩), 0, []) : Tl), (((some ⟨d0, 0, none⟩), 1, [(((some ⟨i0, 0, none⟩), 1, [(⟨25, 0, 0, (⟨#[78]⟩ : ByteArray)⟩ : Nd)]) : Sl)]) : Tl)])))
 have f0 := q0.pub 2 (Bw 1 (some ⟨b0, 0, none⟩) 1 1 (D2 ([false])))
 have q0 := f0.pub 1 (Bw 4 (some ⟨p0, 0, none⟩) 1 1 (Cd ([(⟨10, 0, 0, (⟨#[]⟩ : ByteArray)⟩ : Nd)])))
 refine krb k0 q0 ok7 (Kw _ _ q0.il 3 1 (⟨#[78]⟩ : ByteArray) none 0 [] none 0 [] _ _ ([(((some ⟨h0, 0, none⟩), 0, []) : Tl), (((some ⟨d0, 0, none⟩), 1, [(((some ⟨i0, 0, none⟩), 1, [(⟨25, 0, 0, (⟨#[78]⟩ : ByteArray)⟩ : Nd)]) : Sl)]) : Tl)]) 1 _ _ ([false]) false _ _ ([(⟨10, 0, 0, (⟨#[]⟩ : ByteArray)⟩ : Nd)]) (q0.g 0) ⟨Af _, RowI.nil _ _ _ _⟩ ⟨Af _, RowI.nil _ _ _ _⟩ (q0.g 7) (q0.g 6) (q0.g 8) (q0.g 9) (hl := (by simp)) (hb := sh18_b) (hall := sh18_p) (hsS := (by decide)) (hsm := sh18_m) (hlm := (by simp))) fun f0 p0 b0 m0 n0 c0 => ?_
 rw [sh18.1, sh18.2] at c0
 rw [sh18.2] at m0
 have n0 : ([(⟨25, 0, 0, ⟨#[78]⟩⟩ : Nd), ⟨10, 0, 0, ⟨#[]⟩⟩, ⟨10, 0, 0, ⟨#[]⟩⟩, ⟨3, 0, 0, ⟨#[]⟩⟩, ⟨3, 0, 0, ⟨#[]⟩⟩]).length = 5 := rfl
 refine mv c0 fun n0 b0 => ?_
 refine Ma sv b0 rfl rfl rfl rfl (by decide) fun n0 c0 => ?_
 refine Ma sv c0 rfl rfl rfl rfl (by decide) fun n0 b0 => ?_
 refine asg b0 fun n0 c0 => ?_
 refine aw c0 j0 fun n0 b0 => ?_
 refine Ac fun j0 n0 => ?_
 obtain ⟨j0, c0, p0⟩ := m0.agree
 refine Cj (n := 24) p0 11 pn (A5 BC) fun j0 m0 f0 q0 k0 d0 => ?_
 refine dtM 0 m0 b0 d0 fun q0 j0 => ?_
 have q0 : (0 : Int) = 0 := by decide
 refine dt 1 rfl m0 j0 (AJ rfl) (fun x hx => Nn (sy j0) j0 rfl rfl rfl rfl (by decide) gt) d0 fun b0 p0 => ?_
 refine dtM 2 m0 p0 d0 fun b0 j0 => ?_
 have b0 := j0.setb (d := 24) (b := true) rfl (Aw q0)
 refine dtM 3 m0 b0 d0 (fun j0 q0 => ?_) (hw := wt b0)
 refine dt 4 rfl m0 q0 (wt q0) (fun x hx => P4 (sy q0) q0 rfl rfl rfl rfl Au (by decide) gt) d0 fun j0 b0 => ?_
 refine dt 5 rfl m0 b0 (wt b0) (fun x hx => Nn (sy b0) b0 rfl rfl rfl rfl (by decide) gt) d0 fun j0 q0 => ?_
 refine dt 6 rfl m0 q0 (AJ rfl) (fun x hx => EX (sy q0) q0 rfl rfl rfl rfl (by decide) gt) d0 fun j0 b0 => ?_
 refine dtM 7 m0 b0 d0 fun j0 q0 => ?_
 refine WL 8 [9, 10, 11, 12, 13, 14] 15 (decide ((nth ([(⟨25, 0, 0, ⟨#[78]⟩⟩ : Nd), ⟨10, 0, 0, ⟨#[]⟩⟩, ⟨10, 0, 0, ⟨#[]⟩⟩, ⟨3, 0, 0, ⟨#[]⟩⟩, ⟨3, 0, 0, ⟨#[]⟩⟩]) 0) = (nth ([(⟨25, 0, 0, (⟨#[78]⟩ : ByteArray)⟩ : Nd)]) 0))) m0 q0 d0 (fun j0 b0 p0 => ?_) fun h0 i0 => ?_
 have h0 := A9 j0
 refine dtM 8 m0 b0 d0 (fun h0 j0 => ?_) (hw := wt b0)
 refine dt 9 rfl m0 j0 (wt j0) (fun x hx => CV (i := 0) (j := 0 * 4) (sy j0) j0 rfl rfl rfl rfl Au DK (by omega) (by simp) (Bp (t := [(⟨25, 0, 0, ⟨#[78]⟩⟩ : Nd), ⟨10, 0, 0, ⟨#[]⟩⟩, ⟨10, 0, 0, ⟨#[]⟩⟩, ⟨3, 0, 0, ⟨#[]⟩⟩, ⟨3, 0, 0, ⟨#[]⟩⟩]) (k := 0) (D6 (c0 10 _ rfl) hx.ag).2 (by simp)).some_ rfl (by decide) gt) d0 fun h0 b0 => ?_
 refine dt 10 rfl m0 b0 (wt b0) (fun x hx => Cw (sy b0) b0 rfl rfl rfl (Bp (t := [(⟨25, 0, 0, ⟨#[78]⟩⟩ : Nd), ⟨10, 0, 0, ⟨#[]⟩⟩, ⟨10, 0, 0, ⟨#[]⟩⟩, ⟨3, 0, 0, ⟨#[]⟩⟩, ⟨3, 0, 0, ⟨#[]⟩⟩]) (k := 0) (D6 (c0 10 _ rfl) hx.ag).2 (by simp)) Ar rfl DK (by decide) gt) d0 fun h0 j0 => ?_
 refine dtM 11 m0 j0 d0 (fun h0 b0 => ?_) (hw := wt j0)
 refine dt 12 rfl m0 b0 (wt b0) (fun x hx => CV (i := 0) (j := 0 * 4) (sy b0) b0 rfl rfl rfl rfl Au DK (by omega) (by simp) (Bp (t := [(⟨25, 0, 0, (⟨#[78]⟩ : ByteArray)⟩ : Nd)]) (k := 0) (D6 (c0 2 _ rfl) hx.ag).2 (by simp)).some_ rfl (by decide) gt) d0 fun h0 j0 => ?_
 refine dt 13 rfl m0 j0 (wt j0) (fun x hx => Cw (sy j0) j0 rfl rfl rfl (Bp (t := [(⟨25, 0, 0, (⟨#[78]⟩ : ByteArray)⟩ : Nd)]) (k := 0) (D6 (c0 2 _ rfl) hx.ag).2 (by simp)) Ar rfl DK (by decide) gt) d0 fun h0 b0 => ?_
 refine dt 14 rfl m0 b0 (wt b0) (fun x hx => UO (m := (nth ([(⟨25, 0, 0, ⟨#[78]⟩⟩ : Nd), ⟨10, 0, 0, ⟨#[]⟩⟩, ⟨10, 0, 0, ⟨#[]⟩⟩, ⟨3, 0, 0, ⟨#[]⟩⟩, ⟨3, 0, 0, ⟨#[]⟩⟩]) 0)) (n := (nth ([(⟨25, 0, 0, (⟨#[78]⟩ : ByteArray)⟩ : Nd)]) 0)) (sy b0) b0 rfl rfl rfl rfl (by decide) gt) d0 fun h0 j0 => ?_
 refine dt 15 rfl m0 j0 (AJ rfl) (fun x hx => EX (sy j0) j0 rfl rfl rfl rfl (by decide) gt) d0 fun h0 b0 => ?_
 exact p0.fin b0
 refine dtM 16 m0 i0 d0 fun b0 p0 => ?_
 refine WL 17 [18, 19, 20, 21] 22 (decide (((nth ([(⟨25, 0, 0, ⟨#[78]⟩⟩ : Nd), ⟨10, 0, 0, ⟨#[]⟩⟩, ⟨10, 0, 0, ⟨#[]⟩⟩, ⟨3, 0, 0, ⟨#[]⟩⟩, ⟨3, 0, 0, ⟨#[]⟩⟩]) 4).K) = 3)) m0 p0 d0 (fun b0 i0 h0 => ?_) fun j0 q0 => ?_
 have j0 := Eu b0
 have p0 := A9 j0
 have p0 := Et b0
 have b0 := A9 p0
 refine dtM 17 m0 i0 d0 (fun b0 p0 => ?_) (hw := wt i0)
 refine dt 18 rfl m0 p0 (wt p0) (fun x hx => CV (i := 4) (j := 4 * 4) (sy p0) p0 rfl rfl rfl rfl Au DK (by omega) (by simp) (Bp (t := [(⟨25, 0, 0, ⟨#[78]⟩⟩ : Nd), ⟨10, 0, 0, ⟨#[]⟩⟩, ⟨10, 0, 0, ⟨#[]⟩⟩, ⟨3, 0, 0, ⟨#[]⟩⟩, ⟨3, 0, 0, ⟨#[]⟩⟩]) (k := 4) (D6 (c0 10 _ rfl) hx.ag).2 (by simp)).some_ rfl (by decide) gt) d0 fun b0 i0 => ?_
 refine dt 19 rfl m0 i0 (wt i0) (fun x hx => CB (j' := 4 * 4) (sy i0) i0 rfl rfl rfl (Bp (t := [(⟨25, 0, 0, ⟨#[78]⟩⟩ : Nd), ⟨10, 0, 0, ⟨#[]⟩⟩, ⟨10, 0, 0, ⟨#[]⟩⟩, ⟨3, 0, 0, ⟨#[]⟩⟩, ⟨3, 0, 0, ⟨#[]⟩⟩]) (k := 4) (D6 (c0 10 _ rfl) hx.ag).2 (by simp)).some_ Ar rfl sz3 rfl rfl (by decide) gt) d0 fun b0 p0 => ?_
 refine dle 20 0 (4 * 4) p0 (fun x hx => Bp (t := [(⟨25, 0, 0, ⟨#[78]⟩⟩ : Nd), ⟨10, 0, 0, ⟨#[]⟩⟩, ⟨10, 0, 0, ⟨#[]⟩⟩, ⟨3, 0, 0, ⟨#[]⟩⟩, ⟨3, 0, 0, ⟨#[]⟩⟩]) (k := 4) (D6 (c0 10 _ rfl) hx.ag).2 (by simp)) fun b0 i0 => ?_
 refine dt 21 rfl m0 i0 (wt i0) (fun x hx => Nn (sy i0) i0 rfl rfl rfl rfl (by decide) gt) d0 fun b0 p0 => ?_
 refine dt 22 rfl m0 p0 (AJ rfl) (fun x hx => EX (sy p0) p0 rfl rfl rfl rfl (by decide) gt) d0 fun b0 i0 => ?_
 exact h0.fin i0
 refine dtA 23 m0 q0 d0 fun i0 h0 => ?_
 refine AL (by kernel_rfl) (f0 _ _ ?_) _
 refine xn n0 <| rt1 h0 ?_
 have h0 : (((decide ((([(⟨25, 0, 0, ⟨#[78]⟩⟩ : Nd), ⟨10, 0, 0, ⟨#[]⟩⟩, ⟨10, 0, 0, ⟨#[]⟩⟩, ⟨3, 0, 0, ⟨#[]⟩⟩, ⟨3, 0, 0, ⟨#[]⟩⟩]).length : Int) = 5)) && (decide ((nth ([(⟨25, 0, 0, ⟨#[78]⟩⟩ : Nd), ⟨10, 0, 0, ⟨#[]⟩⟩, ⟨10, 0, 0, ⟨#[]⟩⟩, ⟨3, 0, 0, ⟨#[]⟩⟩, ⟨3, 0, 0, ⟨#[]⟩⟩]) 0) = (nth ([(⟨25, 0, 0, (⟨#[78]⟩ : ByteArray)⟩ : Nd)]) 0)))) && (decide (((nth ([(⟨25, 0, 0, ⟨#[78]⟩⟩ : Nd), ⟨10, 0, 0, ⟨#[]⟩⟩, ⟨10, 0, 0, ⟨#[]⟩⟩, ⟨3, 0, 0, ⟨#[]⟩⟩, ⟨3, 0, 0, ⟨#[]⟩⟩]) 4).K) = 3))) = true := (by decide)
 refine ⟨?_, k0.fr⟩
 exact cre (BQ (by rfl))
theorem LT (w0 : World) (Z : Nat → Prop) (hZ : HZ w0 Z) (n : Int)  :
    Calls Tryz.prog 108 [.int .i64 n].toArray w0 (fun e w' => e = .returned (.bool (decide (0 ≤ n) && decide (n ≤ 9))) ∧ Fr A6 w0 w') := by
 have b0 := s0 (M := A6) hZ zn
 refine AE Tryz.func108 rfl Tryz.ntmps108 rfl fun c0 d0 => ?_
 refine rR d0 fun c0 f0 => ?_
 refine wsc fun c0 d0 => lR f0 fun c0 h0 => ?_
 refine lAn 2 (decide (n ≤ 9)) h0 fun c0 f0 => ?_
 refine aw f0 d0 fun c0 h0 => ?_
 refine rt h0 b0.fr ?_
 exact BQ (by rfl)
theorem J1 (w0 : World) (Z : Nat → Prop) (hZ : HZ w0 Z) (n : Int)  :
    Calls Tryz.prog 71 [.int .i64 n].toArray w0 (fun e w' => e = .returned (.int .i64 (Ie n)) ∧ Fr A6 w0 w') := by
 have b0 := s0 (M := A6) hZ zn
 refine AE Tryz.func71 rfl Tryz.ntmps71 rfl fun c0 d0 => ?_
 refine rR d0 fun c0 f0 => ?_
 refine Ac fun c0 d0 => wsc fun c0 h0 => mv f0 fun c0 i0 => ?_
 have c0 := b0.nf
 refine kra i0 c0 ok108 (LT _ _ c0.il n) fun b0 f0 j0 k0 => ?_
 refine lR k0 fun j0 b0 => ?_
 refine wn h0 <| wch b0 (fun h0 j0 => ?_) fun h0 k0 => ?_
 have b0 := Eu h0
 have c0 := A9 b0
 have b0 := Et h0
 have i0 := A9 b0
 refine Am <| xn d0 <| rR j0 fun d0 b0 => ?_
 refine rt b0 f0.fr ?_
 exact Bz (by have b0 := h0; (try simp at b0); have d0 := c0; (try simp at d0); have j0 := i0; (try simp at j0);  unfold Ie; (try split) <;> first | rfl | omega)
 have j0 := h0
 try simp only [bz] at j0
 refine rR k0 fun j0 d0 => ?_
 refine rt d0 f0.fr ?_
 exact Bz (by have b0 := h0; (try simp at b0);  unfold Ie; (try split) <;> first | rfl | omega)
theorem GW (w0 : World) (Z : Nat → Prop) (hZ : HZ w0 Z) (c : Nat)  :
    Calls Tryz.prog 107 [.int .u8 (c : Int)].toArray w0 (fun e w' => e = .returned (.bool (TS c)) ∧ Fr A6 w0 w') := by
 have b0 := s0 (M := A6) hZ zn
 refine AE Tryz.func107 rfl Tryz.ntmps107 rfl fun c0 d0 => ?_
 refine rR d0 fun c0 f0 => ?_
 refine wsc fun c0 d0 => lR f0 fun c0 h0 => ?_
 refine lAn 2 (decide ((c : Int) ≤ 122)) h0 fun c0 f0 => ?_
 refine mv f0 fun c0 h0 => ?_
 refine EA (fun ga gw => Reg ga 21 [(0, .int .u8 (c : Int)), (2, .bool false), (16, .bool (((decide (97 ≤ (c : Int))) && (decide ((c : Int) ≤ 122))) || ((decide (65 ≤ (c : Int))) && (decide ((c : Int) ≤ 90))))), (1000000, .bool false)] ∧ St w0 Z A6 gw [] []) 7 ?_ ?_
 refine spg 9 h0 (fun c0 f0 => ?_) fun c0 i0 => ?_
 have h0 := Eu c0
 have j0 := A9 h0
 have j0 := Et c0
 have h0 := A9 j0
 refine lR f0 fun h0 j0 => ?_
 refine Ae ?_
 exact AC ⟨(j0.sub (rc2 (rc (rb rfl (by (simp only [c0, bl]; done))) (rc rfl rnl)))), b0⟩
 have j0 := c0
 try simp only [bz] at j0
 refine lR i0 fun j0 h0 => ?_
 refine spd 12 h0 (fun j0 i0 => ?_) fun j0 f0 => ?_
 refine lR i0 fun h0 k0 => ?_
 refine Ae ?_
 exact AC ⟨(k0.sub (rc2 (rc (rb rfl (by (simp only [c0, Aw j0, At j0, bl]; done))) (rc rfl rnl)))), b0⟩
 refine lR f0 fun k0 h0 => ?_
 refine Ae ?_
 exact AC ⟨(h0.sub (rc2 (rc (rb rfl (by (simp only [c0, Ai j0, Aq j0, bl]; done))) (rc rfl rnl)))), b0⟩
 rintro h0 j0 ⟨c0, b0⟩
 refine mv c0 fun j0 h0 => ?_
 refine lOr 2 (decide ((c : Int) = 95)) h0 fun j0 c0 => ?_
 refine aw c0 d0 fun j0 h0 => ?_
 refine rt h0 b0.fr ?_
 exact BQ (by rfl)
theorem FD (w0 : World) (Z : Nat → Prop) (hZ : HZ w0 Z) (s : ByteArray) (hs : s.size ≤ 9223372036854775807 := by exact ax) :
    Calls Tryz.prog 70 [.string s].toArray w0 (fun e w' => e = .returned (.bool (CJ s)) ∧ Fr A6 w0 w') := by
 have b0 := s0 (M := A6) hZ zn
 refine AE Tryz.func70 rfl Tryz.ntmps70 rfl fun c0 d0 => ?_
 refine rR d0 fun c0 f0 => ?_
 refine Ac fun c0 d0 => wsc fun c0 h0 => lR f0 fun c0 i0 => ?_
 refine lOr 3 (decide (16 < (s.size : Int))) i0 fun c0 f0 => ?_
 refine mv f0 fun c0 i0 => ?_
 refine EA (fun ga gw => Reg ga 41 [(0, .string s), (2, .bool false), (17, .bool (((decide ((s.size : Int) < 1)) || (decide (16 < (s.size : Int)))) || (!(TS (CK s 0))))), (1000000, .bool false)] ∧ St w0 Z A6 gw [] []) 5 ?_ ?_
 refine spg 12 i0 (fun c0 f0 => ?_) fun c0 j0 => ?_
 have i0 := c0
 try simp only [bz] at i0
 refine lR f0 fun i0 k0 => ?_
 refine Ae ?_
 exact AC ⟨(k0.sub (rc2 (rc (rb rfl (by (simp only [c0, bl]; done))) (rc rfl rnl)))), b0⟩
 have k0 := CU c0
 have i0 := Ak k0
 have i0 := CT c0
 have k0 := Ak i0
 refine lR j0 fun k0 i0 => ?_
 refine Mb (i := 0) (Bb (wt i0)) i0 rfl rfl rfl rfl A8 (by omega) (by omega) (by decide) fun k0 j0 => ?_
 have k0 := b0.nf
 refine kra j0 k0 ok107 (GW _ _ k0.il (CK s 0)) fun b0 i0 f0 m0 => ?_
 refine lR m0 fun f0 b0 => ?_
 refine Ae ?_
 exact AC ⟨(b0.sub (rc2 (rc (rb rfl (by (simp only [c0, bl]; done))) (rc rfl rnl)))), i0⟩
 rintro b0 i0 ⟨c0, f0⟩
 refine wn h0 <| wcg c0 (fun h0 i0 => ?_) fun h0 b0 => ?_
 have c0 := h0
 try simp only [bz] at c0
 refine rR i0 fun m0 k0 => ?_
 refine rt k0 f0.fr ?_
 exact BQ (by exact (P0 (by rcases c0 with h | h; exact .inl (by omega); exact .inr h)).symm)
 have c0 := CU h0
 have k0 := CU c0
 have m0 := Ak k0
 have m0 := CT c0
 have c0 := Ak m0
 have c0 := CT h0
 have h0 := He c0
 refine Am <| xn d0 <| Ac fun d0 h0 => rR b0 fun d0 c0 => ?_
 refine A4 ?_
 refine AH (fun gn ga gw => ∃ k : Nat, (Reg ga 41 [(0, .string s), (1000000, .bool false), (3, .int .i64 (k : Int))]) ∧ (St w0 Z A6 gw [] []) ∧ (k ≤ s.size) ∧ (HL s k) ∧ (s.size - k) = gn) _ ⟨0, (c0.sub (rc2 (rc rfl rnl))), f0, by omega, IM s, rfl⟩ ?_
 rintro c0 f0 d0 ⟨k, b0, m0, hk, hi, k0⟩
 refine Ac fun k0 d0 => rR b0 fun k0 f0 => ?_
 refine wcd f0 (fun k0 b0 => ?_) fun k0 c0 => ?_
 refine Am <| xn d0 <| Ac fun d0 k0 => A4 ?_
 refine wsc fun d0 f0 => lR b0 fun d0 i0 => ?_
 refine Mb (i := k) sv i0 rfl rfl rfl rfl A8 (by omega) (by omega) (by decide) fun d0 b0 => ?_
 have d0 := m0.nf
 refine kra b0 d0 ok107 (GW _ _ d0.il (CK s k)) fun i0 j0 n0 o0 => ?_
 refine lR o0 fun n0 i0 => ?_
 refine EA (fun ga gw => Reg ga 41 [(0, .string s), (3, .int .i64 (k : Int)), (40, .bool ((!(TS (CK s k))) && ((decide (((CK s k : Nat) : Int) < 48)) || (decide (57 < ((CK s k : Nat) : Int)))))), (1000000, .bool false)] ∧ St w0 Z A6 gw [] []) 11 ?_ ?_
 refine sph 29 i0 (fun n0 o0 => ?_) fun n0 d0 => ?_
 refine lR o0 fun i0 b0 => ?_
 refine Ae ?_
 exact AC ⟨(b0.sub (rc2 (rc (rb rfl (by (simp only [n0, bl]; done))) (rc rfl rnl)))), j0⟩
 refine lR d0 fun b0 i0 => ?_
 refine Mb (i := k) (Bb (wt i0)) i0 rfl rfl rfl rfl A8 (by omega) (by omega) (by decide) fun b0 d0 => ?_
 refine lR d0 fun b0 i0 => ?_
 refine spd 34 i0 (fun b0 d0 => ?_) fun b0 o0 => ?_
 refine lR d0 fun i0 p0 => ?_
 refine Ae ?_
 exact AC ⟨(p0.sub (rc2 (rc (rb rfl (by (simp only [n0, Aw b0, At b0, bl]; done))) (rc rfl rnl)))), j0⟩
 refine lR o0 fun p0 i0 => ?_
 refine Mb (i := k) (Bb (wt i0)) i0 rfl rfl rfl rfl A8 (by omega) (by omega) (by decide) fun p0 o0 => ?_
 refine lR o0 fun p0 i0 => ?_
 refine Ae ?_
 exact AC ⟨(i0.sub (rc2 (rc (rb rfl (by (simp only [n0, Ai b0, Aq b0, bl]; done))) (rc rfl rnl)))), j0⟩
 rintro i0 b0 ⟨n0, j0⟩
 refine wn f0 <| wcg n0 (fun f0 b0 => ?_) fun f0 i0 => ?_
 have n0 := Eu f0
 have p0 := IJ n0
 have p0 := Et f0
 have n0 := p0
 try simp only [bz] at n0
 refine rR b0 fun n0 p0 => ?_
 refine rt p0 j0.fr ?_
 exact BQ (by exact (QQ (k := k) (by omega) (by assumption) (by omega)).symm)
 have p0 := f0
 try simp only [bz] at p0
 refine Am <| A7 <| xn k0 <| A0 ?_
 refine mv i0 fun k0 f0 => ?_
 refine adi ((k + 1 : Nat) : Int) f0 fun k0 i0 => ?_
 refine asg i0 fun k0 f0 => ?_
 refine Ae ?_
 exact ⟨_, by omega, k + 1, (f0.sub (rc2 (rc rfl rnl))), j0, by omega, Qaq hi (Pz (by assumption) (by rcases p0 with h | h; exact .inl h; exact .inr (by omega))), rfl⟩
 refine xe ?_
 refine xn h0 <| rR c0 fun h0 f0 => ?_
 refine rt f0 m0.fr ?_
 exact BQ (by exact (QP hi (by omega) (by omega) (by omega)).symm)
theorem Dd (w0 : World) (Z : Nat → Prop) (hZ : HZ w0 Z) (n : Nd)  :
    Calls Tryz.prog 72 [.agg #[.int .i64 (n.K), .int .i64 (n.N), .int .i64 (n.M), .string n.S]].toArray w0 (fun e w' => e = .returned (.bool (Rs n)) ∧ Fr A6 w0 w') := by
 have b0 := s0 (M := A6) hZ zn
 refine AE Tryz.func72 rfl Tryz.ntmps72 rfl fun c0 d0 => ?_
 refine wsc fun c0 f0 => bxx d0 b0 fun c0 h0 i0 j0 k0 => ?_
 refine aw j0 f0 fun i0 h0 => ?_
 refine wsc fun f0 i0 => lR h0 fun f0 j0 => ?_
 refine lAn 3 (decide ((n.M) = 0)) j0 fun f0 h0 => ?_
 refine mv h0 fun f0 j0 => ?_
 refine lAn 3 (decide (n.S = (⟨#[]⟩ : ByteArray))) j0 fun f0 h0 => ?_
 refine aw h0 i0 fun f0 j0 => ?_
 refine rt j0 k0.fr ?_
 exact BQ (by rfl)
end Go.Proofs.YtpfmnpaifchleaaGreatDoor
