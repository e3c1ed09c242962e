import Derived.Test.YtpfmnpaifchleaaGreatDoorYqd
namespace Go.Proofs.YtpfmnpaifchleaaGreatDoor
open Go Go.RowKit
set_option linter.unusedSimpArgs false
set_option linter.unusedVariables false
set_option maxRecDepth 100000
set_option maxHeartbeats 4000000
theorem HB (w0 : World) (Z : Nat → Prop) (hZ : HZ w0 Z) (tA : Option Addr) (tc : Nat) (t : List Nd) (hShp : Cu w0 Z) (ht : N4 tA tc t w0 Z) (hsm : sml t := by exact ax) (hl : t.length ≤ 1000000 := by exact ax) :
    Calls Tryz.prog 84 [.slice tA t.length tc].toArray w0 (fun e w' => ∃ (rA0 : Option Addr) (rc0 : Nat) (rL0 : List Sl), e = .returned (.tuple #[.slice rA0 rL0.length rc0, .int .i64 (chk t)]) ∧ Fr A6 w0 w' ∧ (Bw 1 rA0 rL0.length rc0 (B7 rL0)).φ w' (nxt Z w0 w') ∧ (Cl rL0).φ w' (nxt Z w0 w') ∧ Bt rL0 = agA t) := by
 have b0 := s0 (M := A6) hZ (zc (d := Br) hShp (zc ht zn))
 refine FM Tryz.func84 rfl Tryz.ntmps84 rfl fun c0 d0 => ?_
 refine rR d0 fun c0 f0 => ?_
 refine wsc fun c0 d0 => mv f0 fun c0 h0 => ?_
 have c0 := b0.nf
 refine krb h0 c0 ok52 (Ki _ _ c0.il _ _ _ (c0.g 0) (c0.g 1)) fun b0 f0 i0 j0 k0 m0 => ?_
 refine lR m0 fun k0 b0 => ?_
 refine wn d0 <| Ac fun d0 k0 => rR b0 fun d0 m0 => ?_
 refine wce m0 (fun d0 b0 => ?_) fun d0 c0 => ?_
 have hc := d0
 have hb := BO hc
 have hp0 := Dy hb
 have hrt := Dn hb (show t.length - 1 < t.length by omega)
 have hm8 := FY hrt
 refine Am <| xn k0 <| wsc fun k0 d0 => lR b0 fun k0 m0 => ?_
 refine sbi ((t.length : Int) - 1) m0 fun k0 b0 => ?_
 refine ix ((t.length) - (1)) (((t.length) - (1)) * 4) b0 (Bp (t := t) (k := (t.length) - (1)) (j0.row (i := 1) rfl).2 (by omega)).some_ fun k0 m0 => ?_
 refine Cw sv m0 rfl rfl rfl (Bp (t := t) (k := (t.length) - (1)) (j0.row (i := 1) rfl).2 (by omega)) Ar rfl DK (by decide) fun k0 b0 => ?_
 have k0 := j0.nf
 refine kra b0 k0 TE (Gn _ _ k0.il (nth t ((t.length) - (1))) (k0.g 0) (hr := hrt)) fun m0 h0 n0 o0 => ?_
 have n0 : ((many (nth t ((t.length) - (1))) : Nat) : Int) = ((many (nth t ((t.length) - (1))) : Nat) : Int) := by omega
 refine TQ (n := many (nth t ((t.length) - (1)))) sv o0 h0 rfl rfl rfl rfl n0 n0 Be L3 (by decide) (by omega) (by decide) fun m0 k0 b0 p0 q0 => ?_
 have k0 : (List.replicate (many (nth t ((t.length) - (1)))) slz).length = many (nth t ((t.length) - (1))) := by simp
 refine alc p0 q0 fun k0 m0 n0 o0 h0 => ?_
 refine sto 1 o0 h0 fun m0 k0 q0 p0 => ?_
 refine wn d0 <| Ac fun d0 k0 => wsc fun d0 m0 => lR q0 fun d0 h0 => ?_
 have d0 := p0.nf
 refine kcl h0 ok121 (K7 _ _ d0.il _ _ _ _ _ (EU t) (d0.g 1) (d0.g 2)) ?_
 rintro h0 p0 ⟨q0, o0, rfl, t0, u0, v0⟩
 have p0 := d0.below t0.below
 have t0 := d0.dN p0 u0
 have p0 := d0.dN t0 v0
 refine ⟨_, rfl, fun t0 v0 => ?_⟩
 refine wn m0 <| A4 ?_
 have m0 := p0.nf
 have p0 : Reg t0 36 [(1000000, .bool false), (2, .slice none 0 0), (3, .int .i64 0), (6, .pointer (some ⟨n0, 0, none⟩)), (27, .func (.func 145) #[] #[.pointer (some ⟨q0, 0, none⟩), .pointer (some ⟨o0, 0, none⟩)])] := (v0.sub (rc4 (rc rfl rnl)))
 refine Hu (xs := bkS tA tc t) (encs := (fun x : Int × Sl => #[.int .i64 x.1, .slice x.2.1 x.2.2.2.length x.2.2.1])) (p0.ev rfl) ok145 (LE _ (imm Z w0 [.row (some ⟨b0, 0, none⟩) ((List.replicate (many (nth t ((t.length) - (1)))) slz).length) ((List.replicate (many (nth t ((t.length) - (1)))) slz).length) 22 1 (B7 (List.replicate (many (nth t ((t.length) - (1)))) slz)), .box n0 37 [.slice (some ⟨b0, 0, none⟩) ((List.replicate (many (nth t ((t.length) - (1)))) slz).length) ((List.replicate (many (nth t ((t.length) - (1)))) slz).length)]] _) q0 tA tc t o0 f0 i0 (EU t) (m0.get (i := 0) rfl) (m0.get (i := 1) rfl) (m0.get (i := 3) rfl) (m0.get (i := 2) rfl) (m0.get (i := 4) rfl) hl hsm hc (Kj hc)) (fun _ => rfl) m0 (fun _ h => h) (fun (pre : List (Int × Sl)) (mm : List Res) => ∃ k : Nat, ∃ Ao : Option Addr, ∃ co : Nat, ∃ Ls : List Sl, mm = ([.row Ao ((List.replicate (many (nth t (t.length - 1)) - k) slz ++ Ls.reverse).length) co 22 1 (B7 (List.replicate (many (nth t (t.length - 1)) - k) slz ++ Ls.reverse)), .box n0 37 [.slice Ao ((List.replicate (many (nth t (t.length - 1)) - k) slz ++ Ls.reverse).length) co]] ++ (Ls).map (GU 30)) ∧ (k ≤ many (nth t (t.length - 1))) ∧ (pre.length = k) ∧ (Ls.length = k) ∧ (Bt Ls.reverse = ptD t k)) (fun _ _ _ => False) ⟨0, (some ⟨b0, 0, none⟩), (List.replicate (many (nth t ((t.length) - (1)))) slz).length, [], (by rw [List.reverse_nil, CL, Nat.sub_zero]; rfl), by omega, rfl, rfl, (O2 t).symm⟩ ?_ ?_ ?_
 rintro m0 pre x b0 m1 hp ⟨k, Ao, co, Ls, rfl, hk, hpk, hLn, hL⟩ v0
 obtain ⟨hkm, rfl⟩ := Uv hpk hp
 have hal : (Gz tA tc t k).2.2.2.length ≤ t.length := by show ((t.drop _).take _).length ≤ t.length; rw [Ah, BK]; omega
 have hrl : (List.replicate (many (nth t (t.length - 1)) - k) slz ++ Ls.reverse).length = many (nth t (t.length - 1)) := by simp; omega
 refine (?_ : ∀ t0, Reg t0 36 [(29, .slice ((Gz tA tc t k).2.1) ((Gz tA tc t k).2.2.2.length) ((Gz tA tc t k).2.2.1)), (28, .int .i64 ((many (nth t (t.length - 1)) - 1 - k : Nat) : Int)), (1000000, .bool false), (2, .slice none 0 0), (3, .int .i64 0), (6, .pointer (some ⟨n0, 0, none⟩)), (27, .func (.func 145) #[] #[.pointer (some ⟨q0, 0, none⟩), .pointer (some ⟨o0, 0, none⟩)])] → Code.wpIn (rI m0) 0 _ _ _ t0 b0) _ (Ee p0 (by decide) (by decide) rfl)
 intro t0 m0
 refine BM fun t0 d0 => ?_
 refine BH (by kernel_rfl) (B6 (B6 (fun _ _ h => h))) ?_
 refine aw m0 d0 fun t0 u0 => ?_
 refine BH (by kernel_rfl) (B6 (fun _ _ h => h)) ?_
 refine asg u0 fun d0 t0 => ?_
 refine Ae ?_
 have d0 : St w0 Z A6 b0 ([.row Ao ((List.replicate (many (nth t (t.length - 1)) - k) slz ++ Ls.reverse).length) co 22 1 (B7 (List.replicate (many (nth t (t.length - 1)) - k) slz ++ Ls.reverse)), .box n0 37 [.slice Ao ((List.replicate (many (nth t (t.length - 1)) - k) slz ++ Ls.reverse).length) co]] ++ (Ls).map (GU 30)) [Br, n4 tA tc t, Bw 2 f0 ((EU t).length) i0 (EF (EU t)), Ct q0 [.slice tA t.length tc], Ct o0 [.slice f0 ((EU t).length) i0], dAg b0 (imm Z w0 ([.row Ao ((List.replicate (many (nth t (t.length - 1)) - k) slz ++ Ls.reverse).length) co 22 1 (B7 (List.replicate (many (nth t (t.length - 1)) - k) slz ++ Ls.reverse)), .box n0 37 [.slice Ao ((List.replicate (many (nth t (t.length - 1)) - k) slz ++ Ls.reverse).length) co]] ++ (Ls).map (GU 30)) b0)] := v0
 refine AC ⟨_, _, 5, d0, rfl, (fun _ h => False.elim h), (fun _ h => False.elim h), fun v0 b0 => ?_⟩
 have d0 := b0.data (n4 ((Gz tA tc t k).2.1) ((Gz tA tc t k).2.2.1) ((Gz tA tc t k).2.2.2)) (bk_row hb (b0.get (i := 1) rfl) hkm)
 refine wpIn_block ?_
 obtain ⟨b0, u0, m0⟩ := d0.agree
 refine Jd (S := (sW v0 b0 [cel n0 0 (.slice Ao ((List.replicate (many (nth t (t.length - 1)) - k) slz ++ Ls.reverse).length) co), (Res.row Ao ((List.replicate (many (nth t (t.length - 1)) - k) slz ++ Ls.reverse).length) co 22 1 (B7 (List.replicate (many (nth t (t.length - 1)) - k) slz ++ Ls.reverse))).holds])) (k := 6) [5] J9 rfl (by kernel_rfl) m0 (B3 Ha) (BE Cf) fun u0 d0 h0 x0 y0 => ?_
 have u0 := sWI y0 7 (pc 1 0 (pr 0 pn))
 refine dlt 0 rfl d0 t0 (AJ rfl) (fun x hx => BR (sy t0) t0 rfl rfl rfl (hx.c 0) Be rfl (by decide) gt) u0 fun m0 z0 => ?_
 refine dtv 1 d0 z0 fun m0 u0 => ?_
 refine dtv 2 d0 u0 fun m0 z0 => ?_
 refine Eg (i := 3) (by kernel_rfl) ?_
 have m0 : St w0 Z A6 x0 ([.row Ao ((List.replicate (many (nth t (t.length - 1)) - k) slz ++ Ls.reverse).length) co 22 1 (B7 (List.replicate (many (nth t (t.length - 1)) - k) slz ++ Ls.reverse)), .box n0 37 [.slice Ao ((List.replicate (many (nth t (t.length - 1)) - k) slz ++ Ls.reverse).length) co]] ++ (Ls).map (GU 30)) [Br, n4 tA tc t, Bw 2 f0 ((EU t).length) i0 (EF (EU t)), Ct q0 [.slice tA t.length tc], Ct o0 [.slice f0 ((EU t).length) i0], dAg v0 (imm Z w0 ([.row Ao ((List.replicate (many (nth t (t.length - 1)) - k) slz ++ Ls.reverse).length) co 22 1 (B7 (List.replicate (many (nth t (t.length - 1)) - k) slz ++ Ls.reverse)), .box n0 37 [.slice Ao ((List.replicate (many (nth t (t.length - 1)) - k) slz ++ Ls.reverse).length) co]] ++ (Ls).map (GU 30)) v0), n4 ((Gz tA tc t k).2.1) ((Gz tA tc t k).2.2.1) ((Gz tA tc t k).2.2.2), dAg v0 b0] := y0
 refine kcl z0 ok53 (HS _ _ m0.il _ _ ((Gz tA tc t k).2.2.2) (m0.g 6)) ?_
 rintro z0 y0 ⟨x0, u0, rfl, t0, b1, c1⟩
 have y0 := m0.callO t0 b1 c1
 have c1 := St.rot (A := [.row Ao ((List.replicate (many (nth t (t.length - 1)) - k) slz ++ Ls.reverse).length) co 22 1 (B7 (List.replicate (many (nth t (t.length - 1)) - k) slz ++ Ls.reverse)), .box n0 37 [.slice Ao ((List.replicate (many (nth t (t.length - 1)) - k) slz ++ Ls.reverse).length) co]]) (T := (Ls).map (GU 30)) y0
 refine ⟨_, rfl, fun y0 b1 => ?_⟩
 have y0 := sWI c1 7 (pc 1 0 (pr 0 pn))
 refine ⟨fun _ _ => y0, ?_⟩
 refine dta 4 rfl d0 b1 (AJ rfl) (fun x => CV (i := many (nth t (t.length - 1)) - 1 - k) (j := (many (nth t (t.length - 1)) - 1 - k) * 1) (sy b1) b1 rfl rfl rfl rfl Be LG (by omega) (by omega) (Rv (t := List.replicate (many (nth t (t.length - 1)) - k) slz ++ Ls.reverse) (k := many (nth t (t.length - 1)) - 1 - k) (c1.res (i := 0) rfl) (by omega)).some_ rfl (by decide) gt) fun y0 t0 => ?_
 refine Eg (i := 5) (by kernel_rfl) ?_
 have y0 := SZ (e := 30) (A := [.row Ao ((List.replicate (many (nth t (t.length - 1)) - k) slz ++ Ls.reverse).length) co 22 1 (B7 (List.replicate (many (nth t (t.length - 1)) - k) slz ++ Ls.reverse)), .box n0 37 [.slice Ao ((List.replicate (many (nth t (t.length - 1)) - k) slz ++ Ls.reverse).length) co]]) (Ls := Ls) (B := x0) (c := u0) (L := ((Gz tA tc t k).2.2.2)) c1
 refine La (f := FK) (i := 0) (k := many (nth t (t.length - 1)) - 1 - k) (L := (List.replicate (many (nth t (t.length - 1)) - k) slz ++ Ls.reverse)) (z := ((x0, u0, ((Gz tA tc t k).2.2.2)) : Sl)) (F8 rfl (AJ rfl)) t0 y0 rfl rfl rfl rfl rfl rfl (by omega) Dc (Va (f := FK) D7) rfl LG fun c1 b1 d0 m0 => ?_
 have d0 : ((List.replicate (many (nth t (t.length - 1)) - k) slz ++ Ls.reverse).set (many (nth t (t.length - 1)) - 1 - k) ((x0, u0, ((Gz tA tc t k).2.2.2)) : Sl) : List Sl).length = (List.replicate (many (nth t (t.length - 1)) - k) slz ++ Ls.reverse).length := by simp
 refine ⟨fun h => absurd h (by decide), ?_⟩
 refine GC (by kernel_rfl) (h0 _ _ ?_) _
 refine A7 ?_
 have h0 : St w0 Z A6 b1 ([.row Ao (((List.replicate (many (nth t (t.length - 1)) - k) slz ++ Ls.reverse).set (many (nth t (t.length - 1)) - 1 - k) ((x0, u0, ((Gz tA tc t k).2.2.2)) : Sl) : List Sl).length) co 22 1 (B7 ((List.replicate (many (nth t (t.length - 1)) - k) slz ++ Ls.reverse).set (many (nth t (t.length - 1)) - 1 - k) ((x0, u0, ((Gz tA tc t k).2.2.2)) : Sl))), .box n0 37 [.slice Ao ((List.replicate (many (nth t (t.length - 1)) - k) slz ++ Ls.reverse).length) co]] ++ (Ls ++ [((x0, u0, ((Gz tA tc t k).2.2.2)) : Sl)]).map (GU 30)) [Br, n4 tA tc t, Bw 2 f0 ((EU t).length) i0 (EF (EU t)), Ct q0 [.slice tA t.length tc], Ct o0 [.slice f0 ((EU t).length) i0], dAg v0 (imm Z w0 ([.row Ao ((List.replicate (many (nth t (t.length - 1)) - k) slz ++ Ls.reverse).length) co 22 1 (B7 (List.replicate (many (nth t (t.length - 1)) - k) slz ++ Ls.reverse)), .box n0 37 [.slice Ao ((List.replicate (many (nth t (t.length - 1)) - k) slz ++ Ls.reverse).length) co]] ++ (Ls).map (GU 30)) v0), n4 ((Gz tA tc t k).2.1) ((Gz tA tc t k).2.2.1) ((Gz tA tc t k).2.2.2), dAg v0 b0] := m0
 exact ⟨_, _, 5, h0, rfl, k + 1, _, _, Ls ++ [((x0, u0, ((Gz tA tc t k).2.2.2)) : Sl)], (by rw [← VJ (Ls := Ls) hkm rfl, List.length_set]), by omega, by simp [hpk], by simp [hLn], Ux hb hL hkm⟩
 rintro h0 m1 u0 ⟨k, Ao, co, Ls, rfl, hk, hpk, hLn, hL⟩ x0
 have u0 := DG p0 h0
 have h0 := MM (e := 30) (A := [.row Ao ((List.replicate (many (nth t (t.length - 1)) - k) slz ++ Ls.reverse).length) co 22 1 (B7 (List.replicate (many (nth t (t.length - 1)) - k) slz ++ Ls.reverse)), .box n0 37 [.slice Ao ((List.replicate (many (nth t (t.length - 1)) - k) slz ++ Ls.reverse).length) co]]) (Ls := Ls) x0 (fun _ h => h)
 have hkm : k = many (nth t (t.length - 1)) := by rw [← hpk]; exact NZ tA tc t
 have x0 := h0.data (Cl (List.replicate (many (nth t (t.length - 1)) - k) slz ++ Ls.reverse)) (CH (Xg _) (Xf (h0.get (i := 6) rfl)))
 refine A7 <| xn k0 <| rR u0 fun k0 h0 => ?_
 refine BV ?_
 have k0 := x0.pub 0 (Bw 1 Ao ((List.replicate (many (nth t (t.length - 1)) - k) slz ++ Ls.reverse).length) co (B7 (List.replicate (many (nth t (t.length - 1)) - k) slz ++ Ls.reverse)))
 have x0 := k0.nf
 obtain ⟨k0, u0⟩ := x0.shut (i := 5) rfl [Bw 1 Ao ((List.replicate (many (nth t (t.length - 1)) - k) slz ++ Ls.reverse).length) co (B7 (List.replicate (many (nth t (t.length - 1)) - k) slz ++ Ls.reverse)), Cl (List.replicate (many (nth t (t.length - 1)) - k) slz ++ Ls.reverse)] (by intro d hd; simp only [AD, AG, or_false] at hd; rcases hd with rfl | rfl; exact ⟨Ax (i := 8) rfl, Lj (by decide) _ _ _ _⟩; exact ⟨Ax (i := 7) rfl, Ul _⟩)
 refine Fx (.inl rfl) h0 rfl k0 (VI h0 rfl rfl rfl _) ?_
 refine ⟨Ao, co, (List.replicate (many (nth t (t.length - 1)) - k) slz ++ Ls.reverse), ?_, u0.fr, u0.rx 0, u0.rx 1, (by rw [Fh hc, Er, hkm, Nat.sub_self, hL, ← Rh hb, hkm]; rfl)⟩
 exact Bj (CZ (by rfl)) (Bz (by omega))
 rintro _ _ _ _ _ _ h _
 exact h.elim
 refine rR c0 fun u0 k0 => ?_
 refine BV <| AX <| Kc (.inl rfl) k0 rfl (VI k0 rfl rfl rfl _) ?_
 refine ⟨none, 0, [], ?_, j0.fr, ⟨Af _, RowI.nil _ _ _ _⟩, Cp, (SV (by assumption)).symm⟩
 exact Bj (CZ (by rfl)) (Bz (by rfl))
theorem MR (w0 : World) (Z : Nat → Prop) (hZ : HZ w0 Z) (tA : Option Addr) (tc : Nat) (t : List Nd) (ht : N4 tA tc t w0 Z) (hl : t.length ≤ 1000000 := by exact ax) (h0 : 0 < t.length := by exact ax) :
    Calls Tryz.prog 123 [.slice tA t.length tc].toArray w0 (fun e w' => e = .returned (.agg #[.int .i64 ((nth t (t.length - 1)).K), .int .i64 ((nth t (t.length - 1)).N), .int .i64 ((nth t (t.length - 1)).M), .string ((nth t (t.length - 1)).S)]) ∧ Fr A6 w0 w') := by
 have b0 := s0 (M := A6) hZ (zc ht zn)
 refine AE Tryz.func123 rfl Tryz.ntmps123 rfl fun c0 d0 => ?_
 refine wsc fun c0 f0 => alc d0 b0 fun c0 i0 j0 k0 m0 => ?_
 refine wn f0 <| wsc fun f0 j0 => lR k0 fun f0 i0 => ?_
 refine sbi ((t.length : Int) - 1) i0 fun f0 k0 => ?_
 refine ix ((t.length) - (1)) (((t.length) - (1)) * 4) k0 (Bp (t := t) (k := (t.length) - (1)) (m0.row (i := 0) rfl).2 (by omega)).some_ fun f0 i0 => ?_
 refine Cw sv i0 rfl rfl rfl (Bp (t := t) (k := (t.length) - (1)) (m0.row (i := 0) rfl).2 (by omega)) Ar rfl DK (by decide) fun f0 k0 => ?_
 refine sto 0 k0 m0 fun f0 i0 c0 d0 => ?_
 refine wn j0 <| BV <| Ev (i := 0) (vs := [.int .i64 ((nth t ((t.length) - (1))).K), .int .i64 ((nth t ((t.length) - (1))).N), .int .i64 ((nth t ((t.length) - (1))).M), .string ((nth t ((t.length) - (1))).S)]) (.inl rfl) c0 d0 rfl rfl rfl rfl Ar rfl DK ?_
 refine ⟨?_, d0.fr⟩
 exact cre rfl
theorem HP (w0 : World) (Z : Nat → Prop) (hZ : HZ w0 Z) (tA : Option Addr) (tc : Nat) (t : List Nd) (uA : Option Addr) (uc : Nat) (u : List Nd) (ht : N4 tA tc t w0 Z) (hu : N4 uA uc u w0 Z) (hl : t.length ≤ 1000000 := by exact ax) (hl2 : u.length ≤ 1000000 := by exact ax) :
    Calls Tryz.prog 122 [.slice tA t.length tc, .slice uA u.length uc].toArray w0 (fun e w' => e = .returned (.bool (decide (t = u))) ∧ Fr A6 w0 w') := by
 have b0 := s0 (M := A6) hZ (zc ht (zc hu zn))
 refine AE Tryz.func122 rfl Tryz.ntmps122 rfl fun c0 d0 => ?_
 refine rR d0 fun c0 f0 => ?_
 refine Ac fun c0 d0 => rR f0 fun c0 h0 => ?_
 refine wce h0 (fun c0 f0 => ?_) fun c0 i0 => ?_
 refine Am <| xn d0 <| Ac fun d0 c0 => rR f0 fun d0 h0 => ?_
 refine A4 ?_
 refine AH (fun gn ga gw => ∃ k : Nat, (Reg ga 26 [(1000000, .bool false), (0, .slice tA t.length tc), (1, .slice uA u.length uc), (12, .int .i64 (t.length : Int)), (13, .int .i64 (k : Int))]) ∧ (St w0 Z A6 gw [] [n4 tA tc t, n4 uA uc u]) ∧ (k ≤ t.length) ∧ (t.take k = u.take k) ∧ (t.length - k) = gn) _ ⟨0, (h0.sub (rc4 (rc rfl rnl))), b0, by omega, rfl, rfl⟩ ?_
 rintro h0 d0 f0 ⟨k, j0, k0, hk, hi, m0⟩
 refine rR j0 fun m0 f0 => ?_
 refine Ac fun m0 j0 => wcd f0 (fun m0 d0 => ?_) fun m0 h0 => ?_
 refine Am <| xn j0 <| Ac fun j0 m0 => A4 ?_
 refine rR d0 fun j0 f0 => ?_
 refine Ac fun j0 d0 => ?_
 obtain ⟨j0, n0, o0⟩ := k0.agree
 refine Cj (n := 9) o0 2 pn (A5 (B3 (A5 (A5 (B3 (A5 BC)))))) fun j0 p0 q0 t0 u0 v0 => ?_
 refine dR [0, 1] f0 fun t0 j0 => ?_
 refine dix 2 k (k * 4) j0 (fun x hx => (Bp (t := t) (k := k) (D6 (n0 0 _ rfl) hx.ag).2 (by omega)).some_) fun t0 f0 => ?_
 refine dt 3 rfl p0 f0 (AJ rfl) (fun x hx => Cw (sy f0) f0 rfl rfl rfl (Bp (t := t) (k := k) (D6 (n0 0 _ rfl) hx.ag).2 (by omega)) Ar rfl DK (by decide) gt) v0 fun t0 j0 => ?_
 refine dR [4, 5] j0 fun t0 f0 => ?_
 refine dix 6 k (k * 4) f0 (fun x hx => (Bp (t := u) (k := k) (D6 (n0 1 _ rfl) hx.ag).2 (by omega)).some_) fun t0 j0 => ?_
 refine dt 7 rfl p0 j0 (AJ rfl) (fun x hx => Cw (sy j0) j0 rfl rfl rfl (Bp (t := u) (k := k) (D6 (n0 1 _ rfl) hx.ag).2 (by omega)) Ar rfl DK (by decide) gt) v0 fun t0 f0 => ?_
 refine dt 8 rfl p0 f0 (AJ rfl) (fun x hx => Oz (m := (nth t k)) (n := (nth u k)) (sy f0) f0 rfl rfl rfl rfl (by decide) gt) v0 fun t0 j0 => ?_
 refine AL (by kernel_rfl) (q0 _ _ ?_) _
 refine xn d0 <| wce j0 (fun d0 q0 => ?_) fun d0 t0 => ?_
 refine Am <| A7 <| xn m0 <| A0 ?_
 refine adi ((k + 1 : Nat) : Int) q0 fun m0 d0 => ?_
 refine mv d0 fun m0 q0 => ?_
 refine Ae ?_
 have m0 := u0.forget 2
 exact ⟨_, by omega, k + 1, (q0.sub (rc4 (rc rfl rnl))), m0, by omega, LO hi (by omega) (by omega) (by assumption), rfl⟩
 refine rR t0 fun m0 q0 => ?_
 refine rt q0 u0.fr ?_
 exact BQ (by exact (QJ (k := k) (by omega) (by omega) (by assumption)).symm)
 refine xe ?_
 refine xn c0 <| rR h0 fun c0 q0 => ?_
 refine rt q0 k0.fr ?_
 exact BQ (by exact (Or hi (by omega) (by omega)).symm)
 refine rR i0 fun q0 k0 => ?_
 refine rt k0 b0.fr ?_
 exact BQ (by exact (Oq (by omega)).symm)
theorem Iu (w0 : World) (Z : Nat → Prop) (hZ : HZ w0 Z) (s : ByteArray) (tA : Option Addr) (tc : Nat) (t : List Nd) (hShp : Cu w0 Z) (ht : N4 tA tc t w0 Z) (hsm : sml t := by exact ax) (hl : t.length ≤ 1000000 := by exact ax) :
    Calls Tryz.prog 85 [.string s, .slice tA t.length tc].toArray w0 (fun e w' => e = .returned (.int .i64 (kdA s t)) ∧ Fr A6 w0 w') := by
 have b0 := s0 (M := A6) hZ (zc (d := Br) hShp (zc ht zn))
 refine AE Tryz.func85 rfl Tryz.ntmps85 rfl fun c0 d0 => ?_
 refine rR d0 fun c0 f0 => ?_
 refine Ac fun c0 d0 => wsc fun c0 h0 => mv f0 fun c0 i0 => ?_
 have c0 := b0.nf
 refine kra i0 c0 Vb (DP _ _ c0.il _ _ _ (c0.g 0) (c0.g 1)) fun b0 f0 j0 k0 => ?_
 refine lR k0 fun j0 b0 => ?_
 refine wn h0 <| wce b0 (fun h0 j0 => ?_) fun h0 k0 => ?_
 have hct := h0
 have hpt := FL hct
 have hrt := Dn (BO hct) (show t.length - 1 < t.length by omega)
 refine Am <| xn d0 <| wsc fun d0 b0 => mv j0 fun d0 c0 => ?_
 refine bld c0 fun d0 j0 => ?_
 refine bsl j0 f0 fun d0 c0 i0 m0 n0 => ?_
 refine aw m0 b0 fun c0 d0 => ?_
 refine Ac fun b0 c0 => wsc fun b0 m0 => lR d0 fun b0 j0 => ?_
 have b0 := n0.nf
 have n0 := b0.pub 0 (Bw 4 (some ⟨i0, 0, none⟩) 1 1 (Cd ([(⟨25, 0, 0, s⟩ : Nd)])))
 refine kra j0 n0 ok122 (HP _ _ n0.il _ _ _ _ _ ([(⟨25, 0, 0, s⟩ : Nd)]) (n0.g 1) (n0.g 2)) fun b0 i0 d0 o0 => ?_
 refine wn m0 <| wcg o0 (fun m0 d0 => ?_) fun m0 b0 => ?_
 have o0 := A9 m0
 refine rR d0 fun n0 j0 => ?_
 refine rt j0 i0.fr ?_
 exact Bz (by (unfold kdA Tf; first | (rw [Aq (by assumption)]; done) | (simp only [h0, m0, o0, if_true, if_false, not_true_eq_false, not_false_eq_true, AQ]; done) | (simp [h0, m0, o0, AQ]; done) | (simp_all [AQ]; done)))
 have o0 := Ak m0
 refine Am <| xn c0 <| Ac fun c0 j0 => wsc fun c0 n0 => mv b0 fun c0 d0 => ?_
 have c0 := i0.nf
 refine kra d0 c0 ok123 (MR _ _ c0.il _ _ _ (c0.g 1)) fun i0 b0 p0 q0 => ?_
 refine Io (v := .int .i64 ((nth t (t.length - 1)).K)) sv q0 rfl rfl rfl (fun _ => by kernel_rfl) (by decide) fun p0 i0 => ?_
 refine lR i0 fun p0 q0 => ?_
 refine wn n0 <| wcd q0 (fun n0 p0 => ?_) fun n0 i0 => ?_
 have hm2 := IR n0
 refine wsc fun q0 c0 => mv p0 fun q0 d0 => ?_
 have q0 := b0.nf
 refine krd d0 q0 ok84 (HB _ _ q0.il _ _ _ (q0.g 0) (q0.g 1)) fun p0 t0 u0 v0 x0 y0 z0 b1 => ?_
 have hgl : v0.length = many (nth t (t.length - 1)) := by rw [← Bs, x0, Fh hct, Cz (BO hct)]
 obtain ⟨hg1, hg2⟩ := ML hct x0 hsm (show 1 < many (nth t (t.length - 1)) by omega)
 refine lR b1 fun z0 u0 => ?_
 refine wn c0 <| wsc fun c0 z0 => mv u0 fun c0 b1 => ?_
 refine ix 1 (1 * 1) b1 (BD (t := v0) (k := 1) (y0.row (i := 3) rfl).2 (by omega)).some_ fun c0 u0 => ?_
 refine lde 0 (1 * 1) u0 (BD (t := v0) (k := 1) (y0.row (i := 3) rfl).2 (by omega)) fun c0 b1 => ?_
 have c0 := y0.el 4 1
 refine mv b1 fun y0 u0 => ?_
 have y0 := c0.nf
 refine kra u0 y0 ok122 (HP _ _ y0.il _ _ ((BF v0 1).2.2) _ _ ([(⟨25, 0, 0, s⟩ : Nd)]) (y0.g 5) (y0.g 2)) fun c0 b1 t0 p0 => ?_
 refine wn z0 <| wcg p0 (fun z0 t0 => ?_) fun z0 c0 => ?_
 have p0 := A9 z0
 refine rR t0 fun y0 u0 => ?_
 refine rt u0 b1.fr ?_
 exact Bz (by (unfold kdA Tf; first | (rw [Aq (by assumption)]; done) | (simp only [h0, m0, o0, n0, z0, p0, x0, if_true, if_false, not_true_eq_false, not_false_eq_true, AQ]; done) | (simp [h0, m0, o0, n0, z0, p0, x0, AQ]; done) | (simp_all [AQ]; done)))
 have p0 := Ak z0
 refine Am <| xn j0 <| rR c0 fun u0 y0 => ?_
 refine rt y0 b1.fr ?_
 exact Bz (by (unfold kdA Tf; first | (rw [Aq (by assumption)]; done) | (simp only [h0, m0, o0, n0, z0, p0, x0, if_true, if_false, not_true_eq_false, not_false_eq_true, AQ]; done) | (simp [h0, m0, o0, n0, z0, p0, x0, AQ]; done) | (simp_all [AQ]; done)))
 refine Am <| xn j0 <| rR i0 fun j0 p0 => ?_
 refine rt p0 b0.fr ?_
 exact Bz (by (unfold kdA Tf; first | (rw [Aq (by assumption)]; done) | (simp only [h0, m0, o0, n0, if_true, if_false, not_true_eq_false, not_false_eq_true, AQ]; done) | (simp [h0, m0, o0, n0, AQ]; done) | (simp_all [AQ]; done)))
 refine rR k0 fun n0 o0 => ?_
 refine rt o0 f0.fr ?_
 exact Bz (by (unfold kdA Tf; first | (rw [Aq (by assumption)]; done) | (simp only [h0, if_true, if_false, not_true_eq_false, not_false_eq_true, AQ]; done) | (simp [h0, AQ]; done) | (simp_all [AQ]; done)))
theorem J7 (w0 : World) (Z : Nat → Prop) (hZ : HZ w0 Z) (q : ByteArray) (tA : Option Addr) (tc : Nat) (t : List Nd) (hShp : Cu w0 Z) (ht : N4 tA tc t w0 Z) (hsm : sml t := by exact ax) (hl : t.length ≤ 1000000 := by exact ax) :
    Calls Tryz.prog 51 [.string q, .slice tA t.length tc].toArray w0 (fun e w' => e = .returned (.int .i64 (poP q t)) ∧ Fr A6 w0 w') := by
 have b0 := s0 (M := A6) hZ (zc (d := Br) hShp (zc ht zn))
 refine AE Tryz.func51 rfl Tryz.ntmps51 rfl fun c0 d0 => ?_
 refine rR d0 fun c0 f0 => ?_
 refine wsc fun c0 d0 => mv f0 fun c0 h0 => ?_
 have c0 := b0.nf
 refine krd h0 c0 ok84 (HB _ _ c0.il _ _ _ (c0.g 0) (c0.g 1)) fun b0 f0 i0 j0 k0 m0 n0 o0 => ?_
 have hag := k0
 have hgx : (BF j0 0).2.2 = Ce (agA t) 0 := by rw [AQ, hag]
 refine lR o0 fun k0 n0 => ?_
 refine wn d0 <| Ac fun d0 k0 => rR n0 fun d0 o0 => ?_
 refine wce o0 (fun d0 n0 => ?_) fun d0 b0 => ?_
 have hct := d0
 have hpt := FL hct
 refine Am <| xn k0 <| Ac fun k0 d0 => wsc fun k0 o0 => lR n0 fun k0 c0 => ?_
 have k0 := m0.nf
 refine kra c0 k0 ok85 (Iu _ _ k0.il q _ _ _ (k0.g 0) (k0.g 1)) fun n0 h0 p0 q0 => ?_
 refine aw q0 o0 fun p0 n0 => ?_
 refine A4 ?_
 refine Ac fun o0 p0 => rR n0 fun o0 q0 => ?_
 refine wcd q0 (fun o0 n0 => ?_) fun o0 k0 => ?_
 refine Am <| xn p0 <| CF (n0.ev rfl) ?_
 refine rR n0 fun o0 q0 => ?_
 refine rt q0 h0.fr ?_
 exact Bz (by exact (Rq hct (by assumption)).symm)
 refine wsc fun q0 o0 => lR k0 fun q0 n0 => ?_
 refine EA (fun ga gw => Reg ga 36 [(0, .string q), (1, .slice tA t.length tc), (4, .int .i64 0), (19, .bool false), (31, .bool ((decide ((kdA q t) = 2)) && (!(((BF j0 0).2.2).any (meN q))))), (1000000, .bool false)] ∧ St w0 Z A6 gw [] [Br, n4 tA tc t, Bw 1 f0 j0.length i0 (B7 j0), Cl j0]) 7 ?_ ?_
 refine spd 24 n0 (fun i0 f0 => ?_) fun i0 q0 => ?_
 obtain ⟨_, _, n0⟩ := IX (s := q) (t := t) (by omega) (by omega)
 have hm2 := IR n0
 have hgl : j0.length = many (nth t (t.length - 1)) := by rw [← Bs, hag, Fh hct, Cz (BO hct)]
 obtain ⟨hg1, hg2, _⟩ := ML hct hag hsm (show 0 < many (nth t (t.length - 1)) by omega)
 refine lR f0 fun n0 k0 => ?_
 refine ix 0 (0 * 1) k0 (BD (t := j0) (k := 0) (h0.row (i := 2) rfl).2 (by omega)).some_ fun n0 f0 => ?_
 refine lde 0 (0 * 1) f0 (BD (t := j0) (k := 0) (h0.row (i := 2) rfl).2 (by omega)) fun n0 k0 => ?_
 have n0 := h0.el 3 0
 refine lR k0 fun f0 c0 => ?_
 have f0 := n0.nf
 refine kra c0 f0 ok86 (JZ _ _ f0.il _ _ ((BF j0 0).2.2) q (f0.g 4)) fun n0 k0 t0 u0 => ?_
 refine lR u0 fun t0 n0 => ?_
 refine Ae ?_
 exact AC ⟨(n0.sub (rc4 (rc (rb rfl (by (simp only [Aw i0, At i0, bl]; done))) (rc rfl rnl)))), (k0.forget 4)⟩
 refine lR q0 fun n0 k0 => ?_
 refine Ae ?_
 exact AC ⟨(k0.sub (rc4 (rc (rb rfl (by (simp only [Ai i0, Aq i0, bl]; done))) (rc rfl rnl)))), h0⟩
 rintro k0 i0 ⟨h0, n0⟩
 refine aw h0 o0 fun i0 k0 => ?_
 refine wcg k0 (fun o0 i0 => ?_) fun o0 h0 => ?_
 have k0 := Eu o0
 have q0 := A9 k0
 have q0 := Et o0
 have k0 := IJ q0
 refine Am <| xn p0 <| CF (i0.ev rfl) ?_
 refine rR i0 fun k0 q0 => ?_
 refine rt q0 n0.fr ?_
 exact Bz (by exact (Rp hct (by assumption) (by assumption) (by rw [← hgx]; assumption)).symm)
 have q0 := o0
 try simp only [bz] at q0
 refine A0 ?_
 refine lR h0 fun q0 o0 => ?_
 have q0 := n0.nf
 refine kra o0 q0 ok86 (JZ _ _ q0.il _ _ _ q (q0.g 1)) fun n0 h0 k0 i0 => ?_
 refine lR i0 fun k0 n0 => ?_
 refine wn p0 <| wch n0 (fun p0 k0 => ?_) fun p0 i0 => ?_
 refine Am <| A7 <| xn d0 <| rR k0 fun d0 p0 => ?_
 refine rt p0 h0.fr ?_
 exact Bz (by first | exact (Hz hct (by assumption) (by assumption)).symm | exact (H0 hct (by assumption) (by rw [← hgx]; assumption) (by assumption)).symm)
 refine rR i0 fun p0 d0 => ?_
 refine rt d0 h0.fr ?_
 exact Bz (by first | exact (Hz hct (by assumption) (by assumption)).symm | exact (H0 hct (by assumption) (by rw [← hgx]; assumption) (by assumption)).symm)
 refine rR b0 fun d0 h0 => ?_
 refine rt h0 m0.fr ?_
 exact Bz (by exact (Rr (by assumption)).symm)
theorem Lm (w0 : World) (Z : Nat → Prop) (hZ : HZ w0 Z) (tA : Option Addr) (tc : Nat) (t : List Tl) (ht : (Bw 1 tA t.length tc (CW t)).φ w0 Z) (hts : (CG t).φ w0 Z) (hl : t.length ≤ 100 := by exact ax) (hb : ∀ s ∈ t, s.2.2.length ≤ 100 := by exact ax) :
    Calls Tryz.prog 142 [.slice tA t.length tc].toArray w0 (fun e w' => ∃ (rA0 : Option Addr) (rc0 : Nat) (rL0 : List Sl), e = .returned (.slice rA0 rL0.length rc0) ∧ Fr A6 w0 w' ∧ (Bw 1 rA0 rL0.length rc0 (B7 rL0)).φ w' (nxt Z w0 w') ∧ (Cl rL0).φ w' (nxt Z w0 w') ∧ Bt rL0 = (B1 t).flatten) := by
 have b0 := s0 (M := A6) hZ (zc ht (zc hts zn))
 refine AE Tryz.func142 rfl Tryz.ntmps142 rfl fun c0 d0 => ?_
 refine rR d0 fun c0 f0 => ?_
 refine rR f0 fun c0 d0 => ?_
 refine Ac fun c0 f0 => rR d0 fun c0 h0 => ?_
 refine A4 ?_
 refine AH (fun gn ga gw => ∃ k : Nat, (Reg ga 36 [(1000000, .bool false), (0, .slice tA t.length tc), (2, .slice none 0 0), (9, .slice tA t.length tc), (10, .int .i64 (t.length : Int)), (11, .int .i64 (k : Int)), (3, .int .i64 ((smT t k : Nat) : Int))]) ∧ (St w0 Z A6 gw [] [Bw 1 tA t.length tc (CW t), CG t]) ∧ (k ≤ t.length) ∧ (t.length - k) = gn) _ ⟨0, (h0.sub (rc4 (rc2 (rc rfl rnl)))), b0, by omega, rfl⟩ ?_
 rintro h0 b0 c0 ⟨k, d0, i0, hk, j0⟩
 have hsm0 := JJ hb k
 have j0 : k < t.length → (Bm t k).2.2.length ≤ 100 := fun h => hb _ (DT h)
 refine rR d0 fun c0 b0 => ?_
 refine Ac fun c0 d0 => wcd b0 (fun c0 h0 => ?_) fun c0 k0 => ?_
 refine Am <| xn d0 <| Ac fun d0 c0 => A4 ?_
 refine wsc fun d0 b0 => ix k (k * 1) h0 (Cn (t := t) (k := k) (i0.row (i := 0) rfl).2 (by omega)).some_ fun d0 m0 => ?_
 refine lde 0 (k * 1) m0 (Cn (t := t) (k := k) (i0.row (i := 0) rfl).2 (by omega)) fun d0 h0 => ?_
 have d0 := i0.elT 1 k
 have m0 := d0.elA 1 k
 refine aw h0 b0 fun d0 n0 => ?_
 refine wsc fun b0 d0 => lR n0 fun b0 h0 => ?_
 refine adi ((smT t k + (Bm t k).2.2.length : Nat) : Int) h0 fun b0 n0 => ?_
 refine aw n0 d0 fun b0 h0 => ?_
 refine rR h0 fun d0 b0 => ?_
 rcases Cb (((smT t k + (Bm t k).2.2.length : Nat) : Int) < 0) with d0 | d0
 exfalso; omega
 refine wcf b0 (Ai d0) fun h0 => ?_
 refine Am <| A7 <| xn c0 <| A0 ?_
 refine adi ((k + 1 : Nat) : Int) h0 fun c0 d0 => ?_
 refine mv d0 fun c0 h0 => ?_
 refine Ae ?_
 have c0 := m0.forget 3
 have m0 := c0.forget 2
 exact ⟨_, by omega, k + 1, (h0.sub (rc4 (rc2 (rc (ri rfl (by (rw [Oo (by omega)]; done))) rnl)))), m0, by omega, rfl⟩
 refine xe ?_
 refine xn f0 <| wsc fun f0 m0 => mv k0 fun f0 h0 => ?_
 have f0 := i0.nf
 refine kcl h0 ok158 (NK _ _ f0.il (smT t k)) ?_
 rintro h0 i0 ⟨k0, c0, rfl, d0, b0, n0⟩
 have i0 := f0.callO d0 b0 n0
 refine ⟨_, rfl, fun n0 b0 => ?_⟩
 refine aw b0 m0 fun n0 d0 => ?_
 refine Ac fun m0 n0 => rR d0 fun m0 b0 => ?_
 refine A4 ?_
 have m0 := i0.data (Cl []) Cp
 refine AH (fun gn ga gw => ∃ j : Nat, ∃ Ao : Option Addr, ∃ co : Nat, (Reg ga 36 [(1000000, .bool false), (2, .slice none 0 0), (25, .slice tA t.length tc), (26, .int .i64 (t.length : Int)), (27, .int .i64 (j : Int)), (6, .slice Ao ((Gb (t.take j)).length) co)]) ∧ (St w0 Z A6 gw [.row Ao ((Gb (t.take j)).length) co 22 1 (B7 (Gb (t.take j)))] [Bw 1 tA t.length tc (CW t), CG t, Cl (Gb (t.take j))]) ∧ (j ≤ t.length) ∧ (t.length - j) = gn) _ ⟨0, k0, c0, (b0.sub (rc4 (rc rfl (rc rfl rnl)))), m0, by omega, rfl⟩ ?_
 rintro m0 b0 c0 ⟨j, Ao, co, k0, i0, hj, d0⟩
 have hsm0 := JJ hb j
 have hcl := Lw t j
 have j0 : j < t.length → (Bm t j).2.2.length ≤ 100 := fun h => hb _ (DT h)
 refine rR k0 fun j0 d0 => ?_
 refine Ac fun j0 k0 => wcd d0 (fun j0 c0 => ?_) fun j0 b0 => ?_
 refine Am <| xn k0 <| Ac fun k0 j0 => A4 ?_
 refine wsc fun k0 d0 => ix j (j * 1) c0 (Cn (t := t) (k := j) (i0.row (i := 0) rfl).2 (by omega)).some_ fun k0 m0 => ?_
 refine lde 0 (j * 1) m0 (Cn (t := t) (k := j) (i0.row (i := 0) rfl).2 (by omega)) fun k0 c0 => ?_
 have k0 := i0.elT 1 j
 have m0 := k0.elA 1 j
 refine asg c0 fun k0 f0 => ?_
 refine Ae (AC (d0 _ _ (A0 ?_)))
 refine lR f0 fun d0 k0 => ?_
 refine BL (f := FK) (i := 0) (Gb (t.take j)) ((Bm t j).2.2) sv k0 m0 rfl rfl rfl rfl rfl Dc (D7 _) Be L3 rfl rfl (m0.row (i := 3) rfl).2.news rfl (by omega) (by decide) fun d0 f0 c0 h0 o0 p0 q0 => ?_
 have o0 : ((Gb (t.take j)) ++ ((Bm t j).2.2)).length = (Gb (t.take j)).length + (Bm t j).2.2.length := by (simp only [Ab, Ah, Ad, Aj]; done)
 have o0 := q0.data (Cl ((Gb (t.take j)) ++ ((Bm t j).2.2))) (CH (q0.get (i := 2) rfl) (q0.get (i := 4) rfl))
 refine asg p0 fun q0 f0 => ?_
 refine Ae ?_
 refine A7 <| xn j0 <| A0 ?_
 refine adi ((j + 1 : Nat) : Int) f0 fun j0 q0 => ?_
 refine mv q0 fun j0 f0 => ?_
 refine Ae ?_
 have j0 : (Gb (t.take j)) ++ ((Bm t j).2.2) = Gb (t.take (j + 1)) := MC (by omega)
 have q0 := f0
 have f0 := o0
 rw [j0] at q0 f0
 have j0 := f0.forget 4
 have f0 := j0.forget 3
 have j0 := f0.forget 2
 exact ⟨_, by omega, j + 1, c0, h0, (q0.sub (rc4 (rc rfl (rc rfl rnl)))), j0, by omega, rfl⟩
 refine xe ?_
 refine xn n0 <| rR b0 fun n0 j0 => ?_
 refine rt1 j0 ?_
 have j0 := i0.pub 0 (Bw 1 Ao ((Gb (t.take j)).length) co (B7 (Gb (t.take j))))
 refine ⟨Ao, co, (Gb (t.take j)), ?_, j0.fr, j0.rx 3, j0.rx 2, (by rw [AM (by omega)]; exact EP t)⟩
 exact cre (CZ (by rfl))
theorem MT (w0 : World) (Z : Nat → Prop) (hZ : HZ w0 Z) (dK : Int) (dL : Int) (dS : ByteArray) (dTA : Option Addr) (dTc : Nat) (dT : List Nd) (dBA : Option Addr) (dBc : Nat) (dB : List Nd) (dCA : Option Addr) (dCc : Nat) (dC : List Tl) (hdT : N4 dTA dTc dT w0 Z) (hdB : N4 dBA dBc dB w0 Z) (hdC : (Bw 1 dCA dC.length dCc (CW dC)).φ w0 Z) (hdCs : (CG dC).φ w0 Z) (hl : dC.length ≤ 100 := by exact ax) (hb : ∀ s ∈ dC, s.2.2.length ≤ 100 := by exact ax) :
    Calls Tryz.prog 118 [.agg #[.int .i64 dK, .int .i64 dL, .string dS, .slice dTA dT.length dTc, .slice dBA dB.length dBc, .slice dCA dC.length dCc]].toArray w0 (fun e w' => ∃ (rA0 : Option Addr) (rc0 : Nat) (rL0 : List Sl), e = .returned (.slice rA0 rL0.length rc0) ∧ Fr A6 w0 w' ∧ (Bw 1 rA0 rL0.length rc0 (B7 rL0)).φ w' (nxt Z w0 w') ∧ (Cl rL0).φ w' (nxt Z w0 w') ∧ Bt rL0 = tmD dK dT dB (B1 dC)) := by
 have b0 := s0 (M := A6) hZ (zc hdT (zc hdB (zc hdC (zc hdCs zn))))
 refine AE Tryz.func118 rfl Tryz.ntmps118 rfl fun c0 d0 => ?_
 refine wsc fun c0 f0 => bxx d0 b0 fun c0 h0 i0 j0 k0 => ?_
 refine aw j0 f0 fun i0 h0 => ?_
 refine Ac fun f0 i0 => rR h0 fun f0 j0 => ?_
 refine A4 ?_
 refine rR j0 fun f0 h0 => ?_
 refine wcd h0 (fun f0 j0 => ?_) fun f0 c0 => ?_
 refine wsc fun h0 d0 => lR j0 fun h0 b0 => ?_
 have h0 := k0.data (Cl [((dTA, dTc, dT) : Sl), ((dBA, dBc, dB) : Sl)]) (Cy (k0.get (i := 0) rfl) (Cy (k0.get (i := 1) rfl) Cp))
 refine bsl b0 h0 fun j0 m0 n0 o0 p0 => ?_
 refine aw o0 d0 fun m0 j0 => ?_
 refine rt1 j0 ?_
 have j0 := p0.pub 1 (Bw 1 (some ⟨n0, 0, none⟩) 2 2 (B7 ([((dTA, dTc, dT) : Sl), ((dBA, dBc, dB) : Sl)])))
 refine ⟨(some ⟨n0, 0, none⟩), 2, ([((dTA, dTc, dT) : Sl), ((dBA, dBc, dB) : Sl)]), ?_, j0.fr, j0.rx 5, j0.rx 4, (by unfold tmD; simp [f0, Bt])⟩
 exact cre (CZ (by rfl))
 refine rR c0 fun j0 n0 => ?_
 refine wcd n0 (fun j0 c0 => ?_) fun j0 p0 => ?_
 refine wsc fun n0 d0 => lR c0 fun n0 m0 => ?_
 have n0 := k0.data (Cl [((dTA, dTc, dT) : Sl)]) (Cy (k0.get (i := 0) rfl) Cp)
 refine bsl m0 n0 fun c0 o0 h0 b0 q0 => ?_
 refine aw b0 d0 fun o0 c0 => ?_
 refine rt1 c0 ?_
 have c0 := q0.pub 1 (Bw 1 (some ⟨h0, 0, none⟩) 1 1 (B7 ([((dTA, dTc, dT) : Sl)])))
 refine ⟨(some ⟨h0, 0, none⟩), 1, ([((dTA, dTc, dT) : Sl)]), ?_, c0.fr, c0.rx 5, c0.rx 4, (by unfold tmD; simp [f0, j0, Bt])⟩
 exact cre (CZ (by rfl))
 refine rR p0 fun c0 h0 => ?_
 refine wcd h0 (fun c0 p0 => ?_) fun c0 q0 => ?_
 refine wsc fun h0 d0 => lR p0 fun h0 o0 => ?_
 have h0 := k0.nf
 refine krd o0 h0 ok142 (Lm _ _ h0.il _ _ _ (h0.g 2) (h0.g 3)) fun p0 b0 n0 m0 t0 u0 v0 x0 => ?_
 refine aw x0 d0 fun v0 p0 => ?_
 refine rt1 p0 ?_
 refine ⟨b0, n0, m0, ?_, u0.fr, u0.rx 4, u0.rx 5, (by rw [t0]; unfold tmD; simp [f0, j0, c0])⟩
 exact cre (CZ (by rfl))
 refine Am <| A7 <| xn i0 <| rR q0 fun i0 u0 => ?_
 refine rt1 u0 ?_
 refine ⟨none, 0, [], ?_, k0.fr, ⟨Af _, RowI.nil _ _ _ _⟩, Cp, (by unfold tmD; simp [f0, j0, c0, Bt])⟩
 exact cre (CZ (by rfl))
theorem Od (w0 : World) (Z : Nat → Prop) (hZ : HZ w0 Z)   :
    Calls Tryz.prog 157 [].toArray w0 (fun e w' => ∃ q0 : Nat, e = .returned (.map (some q0)) ∧ Fr A6 w0 w' ∧ (dMap q0 alM 7).φ w' (nxt Z w0 w')) := by
 have b0 := s0 (M := A6) hZ zn
 refine AE Tryz.func157 rfl Tryz.ntmps157 rfl fun c0 d0 => ?_
 refine rR d0 fun c0 f0 => ?_
 refine wsc fun c0 d0 => Kd sv f0 b0 rfl rfl (by decide) fun c0 h0 i0 j0 k0 => ?_
 have h0 := k0.mp_as (E' := alM.take 0) 0 rfl rfl
 refine bld j0 fun k0 c0 => ?_
 refine Cg alM (i := 0) (ks := (⟨#[80, 114, 111, 112]⟩ : ByteArray)) se c0 h0 rfl rfl rfl rfl rfl rfl Dj A8 (by kernel_rfl) rfl fun k0 j0 f0 b0 => ?_
 have j0 := b0.nf
 refine bld f0 fun b0 k0 => ?_
 refine Cg alM (i := 0) (ks := (⟨#[78, 97, 116]⟩ : ByteArray)) se k0 j0 rfl rfl rfl rfl rfl rfl Dj A8 (by kernel_rfl) rfl fun b0 f0 c0 h0 => ?_
 have f0 := h0.nf
 refine bld c0 fun h0 b0 => ?_
 refine Cg alM (i := 0) (ks := (⟨#[122, 101, 114, 111]⟩ : ByteArray)) se b0 f0 rfl rfl rfl rfl rfl rfl Dj A8 (by kernel_rfl) rfl fun h0 c0 k0 j0 => ?_
 have c0 := j0.nf
 refine bld k0 fun j0 h0 => ?_
 refine Cg alM (i := 0) (ks := (⟨#[69, 109, 112, 116, 121]⟩ : ByteArray)) se h0 c0 rfl rfl rfl rfl rfl rfl Dj A8 (by kernel_rfl) rfl fun j0 k0 b0 f0 => ?_
 have k0 := f0.nf
 refine bld b0 fun f0 j0 => ?_
 refine Cg alM (i := 0) (ks := (⟨#[85, 110, 105, 116]⟩ : ByteArray)) se j0 k0 rfl rfl rfl rfl rfl rfl Dj A8 (by kernel_rfl) rfl fun f0 b0 h0 c0 => ?_
 have b0 := c0.nf
 refine bld h0 fun c0 f0 => ?_
 refine Cg alM (i := 0) (ks := (⟨#[115, 116, 97, 114]⟩ : ByteArray)) se f0 b0 rfl rfl rfl rfl rfl rfl Dj A8 (by kernel_rfl) rfl fun c0 h0 j0 k0 => ?_
 have h0 := k0.nf
 refine bld j0 fun k0 c0 => ?_
 refine Cg alM (i := 0) (ks := (⟨#[116, 105, 99, 107]⟩ : ByteArray)) se c0 h0 rfl rfl rfl rfl rfl rfl Dj A8 (by kernel_rfl) rfl fun k0 j0 f0 b0 => ?_
 have j0 := b0.nf
 refine lR f0 fun b0 k0 => ?_
 refine wn d0 <| rt1 k0 ?_
 refine ⟨i0, ?_, j0.fr, (j0.mp_data (i := 0) rfl)⟩
 exact cre rfl
theorem NO (w0 : World) (Z : Nat → Prop) (hZ : HZ w0 Z)   :
    Calls Tryz.prog 156 [].toArray w0 (fun e w' => ∃ q0 : Nat, e = .returned (.map (some q0)) ∧ Fr A6 w0 w' ∧ (dMap q0 fmM 28).φ w' (nxt Z w0 w')) := by
 have b0 := s0 (M := A6) hZ zn
 refine AE Tryz.func156 rfl Tryz.ntmps156 rfl fun c0 d0 => ?_
 refine rR d0 fun c0 f0 => ?_
 refine wsc fun c0 d0 => Kd sv f0 b0 rfl rfl (by decide) fun c0 h0 i0 j0 k0 => ?_
 have h0 := k0.mp_as (E' := fmM.take 0) 0 rfl rfl
 refine bld j0 fun k0 c0 => ?_
 refine bld c0 fun k0 j0 => ?_
 refine Cg fmM (i := 0) (ks := (⟨#[84, 121, 112, 101]⟩ : ByteArray)) se j0 h0 rfl rfl rfl rfl rfl rfl AW A8 (by kernel_rfl) rfl fun k0 c0 f0 b0 => ?_
 have c0 := b0.nf
 refine bld f0 fun b0 k0 => ?_
 refine bld k0 fun b0 f0 => ?_
 refine Cg fmM (i := 0) (ks := (⟨#[108, 97, 109]⟩ : ByteArray)) se f0 c0 rfl rfl rfl rfl rfl rfl AW A8 (by kernel_rfl) rfl fun b0 k0 j0 h0 => ?_
 have k0 := h0.nf
 refine bld j0 fun h0 b0 => ?_
 refine bld b0 fun h0 j0 => ?_
 refine Cg fmM (i := 0) (ks := (⟨#[97, 112, 112]⟩ : ByteArray)) se j0 k0 rfl rfl rfl rfl rfl rfl AW A8 (by kernel_rfl) rfl fun h0 b0 f0 c0 => ?_
 have b0 := c0.nf
 refine bld f0 fun c0 h0 => ?_
 refine bld h0 fun c0 f0 => ?_
 refine Cg fmM (i := 0) (ks := (⟨#[112, 97, 105, 114]⟩ : ByteArray)) se f0 b0 rfl rfl rfl rfl rfl rfl AW A8 (by kernel_rfl) rfl fun c0 h0 j0 k0 => ?_
 have h0 := k0.nf
 refine bld j0 fun k0 c0 => ?_
 refine bld c0 fun k0 j0 => ?_
 refine Cg fmM (i := 0) (ks := (⟨#[102, 115, 116]⟩ : ByteArray)) se j0 h0 rfl rfl rfl rfl rfl rfl AW A8 (by kernel_rfl) rfl fun k0 c0 f0 b0 => ?_
 have c0 := b0.nf
 refine bld f0 fun b0 k0 => ?_
 refine bld k0 fun b0 f0 => ?_
 refine Cg fmM (i := 0) (ks := (⟨#[115, 110, 100]⟩ : ByteArray)) se f0 c0 rfl rfl rfl rfl rfl rfl AW A8 (by kernel_rfl) rfl fun b0 k0 j0 h0 => ?_
 have k0 := h0.nf
 refine bld j0 fun h0 b0 => ?_
 refine bld b0 fun h0 j0 => ?_
 refine Cg fmM (i := 0) (ks := (⟨#[115, 117, 99]⟩ : ByteArray)) se j0 k0 rfl rfl rfl rfl rfl rfl AW A8 (by kernel_rfl) rfl fun h0 b0 f0 c0 => ?_
 have b0 := c0.nf
 refine bld f0 fun c0 h0 => ?_
 refine bld h0 fun c0 f0 => ?_
 refine Cg fmM (i := 0) (ks := (⟨#[112, 114, 102]⟩ : ByteArray)) se f0 b0 rfl rfl rfl rfl rfl rfl AW A8 (by kernel_rfl) rfl fun c0 h0 j0 k0 => ?_
 have h0 := k0.nf
 refine bld j0 fun k0 c0 => ?_
 refine bld c0 fun k0 j0 => ?_
 refine Cg fmM (i := 0) (ks := (⟨#[114, 101, 99]⟩ : ByteArray)) se j0 h0 rfl rfl rfl rfl rfl rfl AW A8 (by kernel_rfl) rfl fun k0 c0 f0 b0 => ?_
 have c0 := b0.nf
 refine bld f0 fun b0 k0 => ?_
 refine bld k0 fun b0 f0 => ?_
 refine Cg fmM (i := 0) (ks := (⟨#[97, 98, 111, 114, 116]⟩ : ByteArray)) se f0 c0 rfl rfl rfl rfl rfl rfl AW A8 (by kernel_rfl) rfl fun b0 k0 j0 h0 => ?_
 have k0 := h0.nf
 refine bld j0 fun h0 b0 => ?_
 refine bld b0 fun h0 j0 => ?_
 refine Cg fmM (i := 0) (ks := (⟨#[101, 113]⟩ : ByteArray)) se j0 k0 rfl rfl rfl rfl rfl rfl AW A8 (by kernel_rfl) rfl fun h0 b0 f0 c0 => ?_
 have b0 := c0.nf
 refine bld f0 fun c0 h0 => ?_
 refine bld h0 fun c0 f0 => ?_
 refine Cg fmM (i := 0) (ks := (⟨#[114, 101, 102, 108]⟩ : ByteArray)) se f0 b0 rfl rfl rfl rfl rfl rfl AW A8 (by kernel_rfl) rfl fun c0 h0 j0 k0 => ?_
 have h0 := k0.nf
 refine bld j0 fun k0 c0 => ?_
 refine bld c0 fun k0 j0 => ?_
 refine Cg fmM (i := 0) (ks := (⟨#[99, 97, 115, 116]⟩ : ByteArray)) se j0 h0 rfl rfl rfl rfl rfl rfl AW A8 (by kernel_rfl) rfl fun k0 c0 f0 b0 => ?_
 have c0 := b0.nf
 refine bld f0 fun b0 k0 => ?_
 refine bld k0 fun b0 f0 => ?_
 refine Cg fmM (i := 0) (ks := (⟨#[116, 114, 97, 110, 115, 112]⟩ : ByteArray)) se f0 c0 rfl rfl rfl rfl rfl rfl AW A8 (by kernel_rfl) rfl fun b0 k0 j0 h0 => ?_
 have k0 := h0.nf
 refine bld j0 fun h0 b0 => ?_
 refine bld b0 fun h0 j0 => ?_
 refine Cg fmM (i := 0) (ks := (⟨#[113, 117, 111, 116]⟩ : ByteArray)) se j0 k0 rfl rfl rfl rfl rfl rfl AW A8 (by kernel_rfl) rfl fun h0 b0 f0 c0 => ?_
 have b0 := c0.nf
 refine bld f0 fun c0 h0 => ?_
 refine bld h0 fun c0 f0 => ?_
 refine Cg fmM (i := 0) (ks := (⟨#[99, 108, 97, 115, 115]⟩ : ByteArray)) se f0 b0 rfl rfl rfl rfl rfl rfl AW A8 (by kernel_rfl) rfl fun c0 h0 j0 k0 => ?_
 have h0 := k0.nf
 refine bld j0 fun k0 c0 => ?_
 refine bld c0 fun k0 j0 => ?_
 refine Cg fmM (i := 0) (ks := (⟨#[113, 101, 108, 105, 109]⟩ : ByteArray)) se j0 h0 rfl rfl rfl rfl rfl rfl AW A8 (by kernel_rfl) rfl fun k0 c0 f0 b0 => ?_
 have c0 := b0.nf
 refine bld f0 fun b0 k0 => ?_
 refine bld k0 fun b0 f0 => ?_
 refine Cg fmM (i := 0) (ks := (⟨#[100, 97, 116, 97]⟩ : ByteArray)) se f0 c0 rfl rfl rfl rfl rfl rfl AW A8 (by kernel_rfl) rfl fun b0 k0 j0 h0 => ?_
 have k0 := h0.nf
 refine bld j0 fun h0 b0 => ?_
 refine bld b0 fun h0 j0 => ?_
 refine Cg fmM (i := 0) (ks := (⟨#[99, 111, 110]⟩ : ByteArray)) se j0 k0 rfl rfl rfl rfl rfl rfl AW A8 (by kernel_rfl) rfl fun h0 b0 f0 c0 => ?_
 have b0 := c0.nf
 refine bld f0 fun c0 h0 => ?_
 refine bld h0 fun c0 f0 => ?_
 refine Cg fmM (i := 0) (ks := (⟨#[101, 108, 105, 109]⟩ : ByteArray)) se f0 b0 rfl rfl rfl rfl rfl rfl AW A8 (by kernel_rfl) rfl fun c0 h0 j0 k0 => ?_
 have h0 := k0.nf
 refine lR j0 fun k0 c0 => ?_
 refine wn d0 <| Ac fun d0 k0 => wsc fun d0 j0 => HO (ps := [(0, .const (.string (⟨#[]⟩ : ByteArray))), (1, .const (.string (⟨#[49]⟩ : ByteArray))), (2, .const (.string (⟨#[50]⟩ : ByteArray))), (3, .const (.string (⟨#[51]⟩ : ByteArray)))]) (cs := [.string (⟨#[]⟩ : ByteArray), .string (⟨#[49]⟩ : ByteArray), .string (⟨#[50]⟩ : ByteArray), .string (⟨#[51]⟩ : ByteArray)]) sv c0 h0 rfl rfl rfl E7 zi9 rfl rfl (by kernel_rfl) rfl (by decide) fun d0 f0 b0 m0 n0 => ?_
 refine lR m0 fun b0 f0 => ?_
 refine wn j0 <| A4 ?_
 refine wp_loop_rounds 5 (Ep ?_)
 refine rR f0 fun j0 b0 => ?_
 refine Ac fun j0 f0 => wck b0 fun j0 => ?_
 refine Am <| xn f0 <| Ac fun f0 b0 => A4 ?_
 refine wsc fun f0 m0 => mv j0 fun f0 d0 => ?_
 refine CV (i := 0) (j := 0 * 1) sv d0 rfl rfl rfl rfl E7 sz9 (by omega) (by simp) (HJ (t := [.string (⟨#[]⟩ : ByteArray), .string (⟨#[49]⟩ : ByteArray), .string (⟨#[50]⟩ : ByteArray), .string (⟨#[51]⟩ : ByteArray)]) (k := 0) (n0.res (i := 1) rfl) (by simp)).some_ rfl (by decide) fun f0 j0 => ?_
 refine lde 0 (0 * 1) j0 (HJ (t := [.string (⟨#[]⟩ : ByteArray), .string (⟨#[49]⟩ : ByteArray), .string (⟨#[50]⟩ : ByteArray), .string (⟨#[51]⟩ : ByteArray)]) (k := 0) (n0.res (i := 1) rfl) (by simp)) fun f0 d0 => ?_
 refine lR d0 fun f0 j0 => ?_
 refine wn m0 <| wsc fun m0 f0 => lR j0 fun m0 d0 => ?_
 refine HG (r := (⟨#[112, 105]⟩ : ByteArray)) sv d0 rfl rfl rfl rfl (by kernel_rfl) (by decide) (by decide) fun m0 j0 => ?_
 refine mv j0 fun m0 d0 => ?_
 refine bld d0 fun m0 j0 => ?_
 refine bld j0 fun m0 d0 => ?_
 refine E2 fmM (i := 0) (ks := (⟨#[112, 105]⟩ : ByteArray)) se d0 n0 rfl rfl rfl rfl rfl rfl AW A8 (by kernel_rfl) rfl fun m0 j0 c0 h0 => ?_
 have j0 := h0.nf
 refine Ae (AC (f0 _ _ (A0 ?_)))
 refine lR c0 fun f0 h0 => ?_
 refine HG (r := (⟨#[115, 105, 103]⟩ : ByteArray)) sv h0 rfl rfl rfl rfl (by kernel_rfl) (by decide) (by decide) fun f0 c0 => ?_
 refine mv c0 fun f0 h0 => ?_
 refine bld h0 fun f0 c0 => ?_
 refine bld c0 fun f0 h0 => ?_
 refine E2 fmM (i := 0) (ks := (⟨#[115, 105, 103]⟩ : ByteArray)) se h0 j0 rfl rfl rfl rfl rfl rfl AW A8 (by kernel_rfl) rfl fun f0 c0 m0 d0 => ?_
 have c0 := d0.nf
 refine Ae ?_
 refine A7 <| xn b0 <| A0 ?_
 refine adi 1 m0 fun b0 d0 => ?_
 refine mv d0 fun b0 m0 => ?_
 refine Ae ?_
 refine AC (Ep ?_)
 refine rR m0 fun b0 d0 => ?_
 refine Ac fun b0 m0 => wck d0 fun b0 => ?_
 refine Am <| xn m0 <| Ac fun m0 d0 => A4 ?_
 refine wsc fun m0 f0 => mv b0 fun m0 h0 => ?_
 refine CV (i := 1) (j := 1 * 1) sv h0 rfl rfl rfl rfl E7 sz9 (by omega) (by simp) (HJ (t := [.string (⟨#[]⟩ : ByteArray), .string (⟨#[49]⟩ : ByteArray), .string (⟨#[50]⟩ : ByteArray), .string (⟨#[51]⟩ : ByteArray)]) (k := 1) (c0.res (i := 1) rfl) (by simp)).some_ rfl (by decide) fun m0 b0 => ?_
 refine lde 0 (1 * 1) b0 (HJ (t := [.string (⟨#[]⟩ : ByteArray), .string (⟨#[49]⟩ : ByteArray), .string (⟨#[50]⟩ : ByteArray), .string (⟨#[51]⟩ : ByteArray)]) (k := 1) (c0.res (i := 1) rfl) (by simp)) fun m0 h0 => ?_
 refine lR h0 fun m0 b0 => ?_
 refine wn f0 <| wsc fun f0 m0 => lR b0 fun f0 h0 => ?_
 refine HG (r := (⟨#[112, 105, 49]⟩ : ByteArray)) sv h0 rfl rfl rfl rfl (by kernel_rfl) (by decide) (by decide) fun f0 b0 => ?_
 refine mv b0 fun f0 h0 => ?_
 refine bld h0 fun f0 b0 => ?_
 refine bld b0 fun f0 h0 => ?_
 refine E2 fmM (i := 0) (ks := (⟨#[112, 105, 49]⟩ : ByteArray)) se h0 c0 rfl rfl rfl rfl rfl rfl AW A8 (by kernel_rfl) rfl fun f0 b0 j0 n0 => ?_
 have b0 := n0.nf
 refine Ae (AC (m0 _ _ (A0 ?_)))
 refine lR j0 fun m0 n0 => ?_
 refine HG (r := (⟨#[115, 105, 103, 49]⟩ : ByteArray)) sv n0 rfl rfl rfl rfl (by kernel_rfl) (by decide) (by decide) fun m0 j0 => ?_
 refine mv j0 fun m0 n0 => ?_
 refine bld n0 fun m0 j0 => ?_
 refine bld j0 fun m0 n0 => ?_
 refine E2 fmM (i := 0) (ks := (⟨#[115, 105, 103, 49]⟩ : ByteArray)) se n0 b0 rfl rfl rfl rfl rfl rfl AW A8 (by kernel_rfl) rfl fun m0 j0 f0 h0 => ?_
 have j0 := h0.nf
 refine Ae ?_
 refine A7 <| xn d0 <| A0 ?_
 refine adi 2 f0 fun d0 h0 => ?_
 refine mv h0 fun d0 f0 => ?_
 refine Ae ?_
 refine AC (Ep ?_)
 refine rR f0 fun d0 h0 => ?_
 refine Ac fun d0 f0 => wck h0 fun d0 => ?_
 refine Am <| xn f0 <| Ac fun f0 h0 => A4 ?_
 refine wsc fun f0 m0 => mv d0 fun f0 n0 => ?_
 refine CV (i := 2) (j := 2 * 1) sv n0 rfl rfl rfl rfl E7 sz9 (by omega) (by simp) (HJ (t := [.string (⟨#[]⟩ : ByteArray), .string (⟨#[49]⟩ : ByteArray), .string (⟨#[50]⟩ : ByteArray), .string (⟨#[51]⟩ : ByteArray)]) (k := 2) (j0.res (i := 1) rfl) (by simp)).some_ rfl (by decide) fun f0 d0 => ?_
 refine lde 0 (2 * 1) d0 (HJ (t := [.string (⟨#[]⟩ : ByteArray), .string (⟨#[49]⟩ : ByteArray), .string (⟨#[50]⟩ : ByteArray), .string (⟨#[51]⟩ : ByteArray)]) (k := 2) (j0.res (i := 1) rfl) (by simp)) fun f0 n0 => ?_
 refine lR n0 fun f0 d0 => ?_
 refine wn m0 <| wsc fun m0 f0 => lR d0 fun m0 n0 => ?_
 refine HG (r := (⟨#[112, 105, 50]⟩ : ByteArray)) sv n0 rfl rfl rfl rfl (by kernel_rfl) (by decide) (by decide) fun m0 d0 => ?_
 refine mv d0 fun m0 n0 => ?_
 refine bld n0 fun m0 d0 => ?_
 refine bld d0 fun m0 n0 => ?_
 refine E2 fmM (i := 0) (ks := (⟨#[112, 105, 50]⟩ : ByteArray)) se n0 j0 rfl rfl rfl rfl rfl rfl AW A8 (by kernel_rfl) rfl fun m0 d0 b0 c0 => ?_
 have d0 := c0.nf
 refine Ae (AC (f0 _ _ (A0 ?_)))
 refine lR b0 fun f0 c0 => ?_
 refine HG (r := (⟨#[115, 105, 103, 50]⟩ : ByteArray)) sv c0 rfl rfl rfl rfl (by kernel_rfl) (by decide) (by decide) fun f0 b0 => ?_
 refine mv b0 fun f0 c0 => ?_
 refine bld c0 fun f0 b0 => ?_
 refine bld b0 fun f0 c0 => ?_
 refine E2 fmM (i := 0) (ks := (⟨#[115, 105, 103, 50]⟩ : ByteArray)) se c0 d0 rfl rfl rfl rfl rfl rfl AW A8 (by kernel_rfl) rfl fun f0 b0 m0 n0 => ?_
 have b0 := n0.nf
 refine Ae ?_
 refine A7 <| xn h0 <| A0 ?_
 refine adi 3 m0 fun h0 n0 => ?_
 refine mv n0 fun h0 m0 => ?_
 refine Ae ?_
 refine AC (Ep ?_)
 refine rR m0 fun h0 n0 => ?_
 refine Ac fun h0 m0 => wck n0 fun h0 => ?_
 refine Am <| xn m0 <| Ac fun m0 n0 => A4 ?_
 refine wsc fun m0 f0 => mv h0 fun m0 c0 => ?_
 refine CV (i := 3) (j := 3 * 1) sv c0 rfl rfl rfl rfl E7 sz9 (by omega) (by simp) (HJ (t := [.string (⟨#[]⟩ : ByteArray), .string (⟨#[49]⟩ : ByteArray), .string (⟨#[50]⟩ : ByteArray), .string (⟨#[51]⟩ : ByteArray)]) (k := 3) (b0.res (i := 1) rfl) (by simp)).some_ rfl (by decide) fun m0 h0 => ?_
 refine lde 0 (3 * 1) h0 (HJ (t := [.string (⟨#[]⟩ : ByteArray), .string (⟨#[49]⟩ : ByteArray), .string (⟨#[50]⟩ : ByteArray), .string (⟨#[51]⟩ : ByteArray)]) (k := 3) (b0.res (i := 1) rfl) (by simp)) fun m0 c0 => ?_
 refine lR c0 fun m0 h0 => ?_
 refine wn f0 <| wsc fun f0 m0 => lR h0 fun f0 c0 => ?_
 refine HG (r := (⟨#[112, 105, 51]⟩ : ByteArray)) sv c0 rfl rfl rfl rfl (by kernel_rfl) (by decide) (by decide) fun f0 h0 => ?_
 refine mv h0 fun f0 c0 => ?_
 refine bld c0 fun f0 h0 => ?_
 refine bld h0 fun f0 c0 => ?_
 refine E2 fmM (i := 0) (ks := (⟨#[112, 105, 51]⟩ : ByteArray)) se c0 b0 rfl rfl rfl rfl rfl rfl AW A8 (by kernel_rfl) rfl fun f0 h0 d0 j0 => ?_
 have h0 := j0.nf
 refine Ae (AC (m0 _ _ (A0 ?_)))
 refine lR d0 fun m0 j0 => ?_
 refine HG (r := (⟨#[115, 105, 103, 51]⟩ : ByteArray)) sv j0 rfl rfl rfl rfl (by kernel_rfl) (by decide) (by decide) fun m0 d0 => ?_
 refine mv d0 fun m0 j0 => ?_
 refine bld j0 fun m0 d0 => ?_
 refine bld d0 fun m0 j0 => ?_
 refine E2 fmM (i := 0) (ks := (⟨#[115, 105, 103, 51]⟩ : ByteArray)) se j0 h0 rfl rfl rfl rfl rfl rfl AW A8 (by kernel_rfl) rfl fun m0 d0 f0 c0 => ?_
 have d0 := c0.nf
 refine Ae ?_
 refine A7 <| xn n0 <| A0 ?_
 refine adi 4 f0 fun n0 c0 => ?_
 refine mv c0 fun n0 f0 => ?_
 refine Ae ?_
 refine AC (Ep ?_)
 refine rR f0 fun n0 c0 => ?_
 refine Ac fun n0 f0 => wcl c0 fun f0 => ?_
 refine xe ?_
 refine xn k0 <| rR f0 fun k0 c0 => ?_
 refine rt1 c0 ?_
 refine ⟨i0, ?_, d0.fr, (d0.mp_data (i := 0) rfl)⟩
 exact cre rfl
theorem Lg (w0 : World) (Z : Nat → Prop) (hZ : HZ w0 Z) (s : ByteArray)  :
    Calls Tryz.prog 116 [.string s].toArray w0 (fun e w' => e = .returned (.bool (kwB s)) ∧ Fr A6 w0 w') := by
 have b0 := s0 (M := A6) hZ zn
 refine AE Tryz.func116 rfl Tryz.ntmps116 rfl fun c0 d0 => ?_
 refine rR d0 fun c0 f0 => ?_
 refine wsc fun c0 d0 => bld f0 fun c0 h0 => ?_
 refine Wx (xs := [.tmp 3]) se h0 rfl rfl rfl (by decide) ok140 ?_
 refine AE (vs := [.agg #[.slice none 0 0, .slice none 0 0]]) Tryz.func140 rfl Tryz.ntmps140 rfl fun h0 c0 => ?_
 refine wsc fun h0 f0 => bxx c0 b0 fun h0 i0 j0 k0 m0 => ?_
 refine aw k0 f0 fun j0 i0 => ?_
 refine Ac fun f0 j0 => ?_
 obtain ⟨f0, k0, h0⟩ := m0.agree
 refine Cj (n := 6) h0 0 (pB 0 0 pn) (A5 BC) fun k0 f0 m0 c0 b0 n0 => ?_
 refine dt 0 rfl f0 i0 (AJ rfl) (fun x hx => C9 (sy i0) i0 rfl rfl rfl (Ay (hx.c 0) (Ay (hx.c 1) (CellsAt.nil _ _))) Tryz.underlying164 rfl sz164 (by decide) gt) n0 fun c0 k0 => ?_
 refine d1 1 ?_
 have c0 := b0.nf
 refine kcl k0 ok156 (NO _ _ c0.il ) ?_
 rintro k0 b0 ⟨n0, rfl, i0, h0⟩
 have n0 := c0.below i0.below
 have i0 := c0.dN n0 h0
 refine ⟨_, rfl, fun n0 h0 => ?_⟩
 have n0 := sWI i0 0 (pB 0 0 pn)
 refine ⟨n0, ?_⟩
 refine d1 2 ?_
 have n0 := i0.nf
 refine kcl h0 ok157 (Od _ _ n0.il ) ?_
 rintro h0 i0 ⟨c0, rfl, b0, k0⟩
 have c0 := n0.below b0.below
 have b0 := n0.dN c0 k0
 refine ⟨_, rfl, fun c0 k0 => ?_⟩
 have c0 := sWI b0 0 (pB 0 0 pn)
 refine ⟨c0, ?_⟩
 refine dt 3 rfl f0 k0 (AJ rfl) (fun x hx => WV k0) c0 fun n0 i0 => ?_
 refine d1 4 ?_
 refine bxx i0 b0 fun n0 c0 k0 f0 h0 => ?_
 have c0 := sWI h0 0 (pB 0 0 pn)
 refine ⟨c0, ?_⟩
 refine dR [5] f0 fun c0 n0 => ?_
 refine AL (by kernel_rfl) (m0 _ _ ?_) _
 refine xn j0 <| rt1 n0 ?_
 refine ⟨_, rfl, fun n0 j0 => ?_⟩
 refine mv j0 fun n0 m0 => ?_
 refine Wx (xs := [.tmp 4, .tmp 5]) se m0 rfl rfl rfl (by decide) ok141 ?_
 refine AE (vs := [.pointer (some ⟨k0, 0, none⟩), .string s]) Tryz.func141 rfl Tryz.ntmps141 rfl fun m0 n0 => ?_
 refine rR n0 fun m0 k0 => ?_
 refine wsc fun m0 n0 => lR k0 fun m0 j0 => ?_
 refine Kf (n := 5) (es := fmM) sv j0 rfl rfl rfl rfl (h0.get (i := 1) rfl).2 AW A8 ze189 rfl (by kernel_rfl) (by kernel_rfl) (by decide) fun m0 k0 c0 ho98 f0 => ?_
 refine lR f0 fun m0 j0 => ?_
 refine alc j0 h0 fun m0 f0 i0 b0 o0 => ?_
 refine Kb (i := 2) (n := 5) (cs := k0) se b0 o0 rfl rfl rfl rfl rfl sz189 c0 ho98 rfl fun i0 f0 m0 j0 => ?_
 refine aw m0 n0 fun f0 i0 => ?_
 refine wsc fun n0 f0 => lR i0 fun n0 m0 => ?_
 refine Kf (n := 4) (es := alM) sv m0 rfl rfl rfl rfl (j0.get (i := 2) rfl).2 Dj A8 ze30 rfl (by kernel_rfl) (by kernel_rfl) (by decide) fun n0 i0 o0 ho132 b0 => ?_
 refine lR b0 fun n0 m0 => ?_
 refine alc m0 j0 fun n0 b0 c0 k0 h0 => ?_
 refine Kb (i := 2) (n := 4) (cs := i0) se k0 h0 rfl rfl rfl rfl rfl DK o0 ho132 rfl fun c0 b0 n0 m0 => ?_
 refine aw n0 f0 fun b0 c0 => ?_
 refine wsc fun f0 b0 => lR c0 fun f0 n0 => ?_
 refine lOr 1 (alM.any (Fk s)) n0 fun f0 c0 => ?_
 refine aw c0 b0 fun f0 n0 => ?_
 refine rt1 n0 ?_
 refine ⟨_, rfl, fun n0 b0 => ?_⟩
 refine aw b0 d0 fun n0 f0 => ?_
 refine rt f0 m0.fr ?_
 exact BQ (by rfl)
theorem Lp (w0 : World) (Z : Nat → Prop) (hZ : HZ w0 Z) (dg : Nat) (dK : Int) (dL : Int) (dS : ByteArray) (dTA : Option Addr) (dTc : Nat) (dT : List Nd) (dBA : Option Addr) (dBc : Nat) (dB : List Nd) (dCA : Option Addr) (dCc : Nat) (dC : List Tl) (hShp : Cu w0 Z) (hdT : N4 dTA dTc dT w0 Z) (hdB : N4 dBA dBc dB w0 Z) (hdC : (Bw 1 dCA dC.length dCc (CW dC)).φ w0 Z) (hdCs : (CG dC).φ w0 Z) (hdQ : (Ct dg [.int .i64 dK, .int .i64 dL, .string dS, .slice dTA dT.length dTc, .slice dBA dB.length dBc, .slice dCA dC.length dCc]).φ w0 Z) (hl : dC.length ≤ 100 := by exact ax) (hb : ∀ s ∈ dC, s.2.2.length ≤ 100 := by exact ax) (hall : ∀ x ∈ tmD dK dT dB (B1 dC), sml x ∧ x.length ≤ 1000000 := by exact ax) :
    Calls Tryz.prog 117 [.pointer (some ⟨dg, 0, none⟩)].toArray w0 (fun e w' => e = .returned (.int .i64 (clD dK dT dB (B1 dC))) ∧ Fr A6 w0 w') := by
 have b0 := s0 (M := A6) hZ (zc (d := Br) hShp (zc hdT (zc hdB (zc hdC (zc hdCs (zc hdQ zn))))))
 refine AE Tryz.func117 rfl Tryz.ntmps117 rfl fun c0 d0 => ?_
 refine rR d0 fun c0 f0 => ?_
 refine Ac fun c0 d0 => wsc fun c0 h0 => C9 sv f0 rfl rfl rfl (Ay (Bn (b0.get (i := 5) rfl) (j := 0) rfl) (Ay (Bn (b0.get (i := 5) rfl) (j := 1) rfl) (Ay (Bn (b0.get (i := 5) rfl) (j := 2) rfl) (Ay (Bn (b0.get (i := 5) rfl) (j := 3) rfl) (Ay (Bn (b0.get (i := 5) rfl) (j := 4) rfl) (Ay (Bn (b0.get (i := 5) rfl) (j := 5) rfl) (CellsAt.nil _ _))))))) CD rfl Xn (by decide) fun c0 i0 => ?_
 have c0 := b0.nf
 refine krd i0 c0 ok118 (MT _ _ c0.il dK dL dS _ _ _ _ _ _ _ _ _ (c0.g 1) (c0.g 2) (c0.g 3) (c0.g 4)) fun b0 f0 j0 k0 m0 n0 o0 p0 => ?_
 refine lR p0 fun o0 b0 => ?_
 refine wn h0 <| A4 ?_
 refine AH (fun gn ga gw => ∃ k : Nat, (Reg ga 28 [(1000000, .bool false), (7, .slice f0 k0.length j0), (8, .int .i64 (k0.length : Int)), (9, .int .i64 (k : Int))]) ∧ (St w0 Z A6 gw [] [Br, n4 dTA dTc dT, n4 dBA dBc dB, Bw 1 dCA dC.length dCc (CW dC), CG dC, Ct dg [.int .i64 dK, .int .i64 dL, .string dS, .slice dTA dT.length dTc, .slice dBA dB.length dBc, .slice dCA dC.length dCc], Bw 1 f0 k0.length j0 (B7 k0), Cl k0]) ∧ (k ≤ k0.length) ∧ (∀ i, i < k → clT (Ce (tmD dK dT dB (B1 dC)) i) = 0) ∧ (k0.length - k) = gn) _ ⟨0, (b0.sub (rc2 (rc rfl (rc rfl rnl)))), n0, by omega, (fun _ h => by omega), rfl⟩ ?_
 rintro b0 n0 j0 ⟨k, f0, h0, hk, hi, o0⟩
 have hLk : (BF k0 k).2.2 = Ce (tmD dK dT dB (B1 dC)) k := by rw [AQ, m0]
 have hLl : k0.length = (tmD dK dT dB (B1 dC)).length := by rw [← Bs, m0]
 have hTl := Q2 (K := dK) (t := dT) (b := dB) hl hb
 refine rR f0 fun m0 o0 => ?_
 refine Ac fun m0 f0 => wcd o0 (fun m0 j0 => ?_) fun m0 n0 => ?_
 refine Am <| xn f0 <| Ac fun f0 m0 => A4 ?_
 refine wsc fun f0 o0 => ix k (k * 1) j0 (BD (t := k0) (k := k) (h0.row (i := 6) rfl).2 (by omega)).some_ fun f0 b0 => ?_
 refine lde 0 (k * 1) b0 (BD (t := k0) (k := k) (h0.row (i := 6) rfl).2 (by omega)) fun f0 j0 => ?_
 have f0 := h0.el 7 k
 refine aw j0 o0 fun b0 p0 => ?_
 refine wsc fun o0 b0 => mv p0 fun o0 j0 => ?_
 have o0 := f0.nf
 refine kra j0 o0 ok119 (Nx _ _ o0.il _ _ ((BF k0 k).2.2) (o0.g 0) (o0.g 8) (hsm := (by rw [hLk]; exact (hall _ (CR (by omega))).1)) (hl := (by rw [hLk]; exact (hall _ (CR (by omega))).2))) fun f0 p0 c0 i0 => ?_
 refine lR i0 fun c0 f0 => ?_
 refine wn b0 <| Ac fun b0 c0 => wsc fun b0 i0 => lR f0 fun b0 o0 => ?_
 refine lAn 2 (decide (0 < (frF ((BF k0 k).2.2)))) o0 fun b0 f0 => ?_
 refine wn i0 <| wcg f0 (fun i0 b0 => ?_) fun i0 o0 => ?_
 have f0 := Eu i0
 have k0 := A9 f0
 have k0 := Et i0
 have f0 := A9 k0
 refine A0 ?_
 refine aw b0 c0 fun f0 k0 => ?_
 refine rR k0 fun f0 b0 => ?_
 refine wck b0 fun f0 => ?_
 refine rR f0 fun b0 k0 => ?_
 refine rt k0 p0.fr ?_
 exact Bz (by exact ((WO hi (by omega) (by rw [← hLk, Lq (by assumption) (by omega)]; decide)).trans (by rw [← hLk]; exact Lq (by assumption) (by omega))).symm)
 have k0 := i0
 try simp only [bz] at k0
 refine Am <| xn c0 <| rR o0 fun c0 k0 => ?_
 refine wce k0 (fun c0 o0 => ?_) fun c0 i0 => ?_
 refine Am <| A7 <| xn m0 <| A0 ?_
 refine adi ((k + 1 : Nat) : Int) o0 fun m0 c0 => ?_
 refine mv c0 fun m0 o0 => ?_
 refine Ae ?_
 have m0 := p0.forget 8
 exact ⟨_, by omega, k + 1, (o0.sub (rc2 (rc rfl (rc rfl rnl)))), m0, by omega, SA hi (by rw [← hLk]; exact clT_ok (by assumption) (by omega)), rfl⟩
 refine rR i0 fun m0 o0 => ?_
 refine rt o0 p0.fr ?_
 exact Bz (by exact ((WO hi (by omega) (by rw [← hLk, Lr (by assumption)]; assumption)).trans (by rw [← hLk]; exact Lr (by assumption))).symm)
 refine xe ?_
 refine xn d0 <| rR n0 fun d0 o0 => ?_
 refine rt o0 h0.fr ?_
 exact Bz (by exact (CE (fun i h => hi i (by omega))).symm)
theorem GA (w0 : World) (Z : Nat → Prop) (hZ : HZ w0 Z) (fA : Option Addr) (fc : Nat) (fapg : Nat) (fapb : Bool) (faqg : Nat) (faqe : Int) (fbpg : Nat) (fbpb : Bool) (fbqg : Nat) (fbqe : Int) (fcpg : Nat) (fcpK : Int) (fcpL : Int) (fcpS : ByteArray) (fcpTA : Option Addr) (fcpTc : Nat) (fcpT : List Nd) (fcpBA : Option Addr) (fcpBc : Nat) (fcpB : List Nd) (fcpCA : Option Addr) (fcpCc : Nat) (fcpC : List Tl) (fdpg : Nat) (fdpb : Bool) (fdqg : Nat) (fdqe : Int) (fepg : Nat) (fepb : Bool) (feqg : Nat) (feqe : Int) (ffpg : Nat) (ffpb : Bool) (ffqg : Nat) (ffqe : Int) (fgpg : Nat) (fgpb : Bool) (fgqg : Nat) (fgqe : Int) (fhpg : Nat) (fhpb : Bool) (fhqg : Nat) (fhqe : Int) (hShp : Cu w0 Z) (hfapQ : (Ct fapg [.bool fapb]).φ w0 Z) (hfaqQ : (Ct faqg [.int .i64 faqe]).φ w0 Z) (hfbpQ : (Ct fbpg [.bool fbpb]).φ w0 Z) (hfbqQ : (Ct fbqg [.int .i64 fbqe]).φ w0 Z) (hfcpT : N4 fcpTA fcpTc fcpT w0 Z) (hfcpB : N4 fcpBA fcpBc fcpB w0 Z) (hfcpC : (Bw 1 fcpCA fcpC.length fcpCc (CW fcpC)).φ w0 Z) (hfcpCs : (CG fcpC).φ w0 Z) (hfcpQ : (Ct fcpg [.int .i64 fcpK, .int .i64 fcpL, .string fcpS, .slice fcpTA fcpT.length fcpTc, .slice fcpBA fcpB.length fcpBc, .slice fcpCA fcpC.length fcpCc]).φ w0 Z) (hfdpQ : (Ct fdpg [.bool fdpb]).φ w0 Z) (hfdqQ : (Ct fdqg [.int .i64 fdqe]).φ w0 Z) (hfepQ : (Ct fepg [.bool fepb]).φ w0 Z) (hfeqQ : (Ct feqg [.int .i64 feqe]).φ w0 Z) (hffpQ : (Ct ffpg [.bool ffpb]).φ w0 Z) (hffqQ : (Ct ffqg [.int .i64 ffqe]).φ w0 Z) (hfgpQ : (Ct fgpg [.bool fgpb]).φ w0 Z) (hfgqQ : (Ct fgqg [.int .i64 fgqe]).φ w0 Z) (hfhpQ : (Ct fhpg [.bool fhpb]).φ w0 Z) (hfhqQ : (Ct fhqg [.int .i64 fhqe]).φ w0 Z) (hf : (Bw 1 fA 8 fc (My ([.func (.func 114) #[] #[.pointer (some ⟨fapg, 0, none⟩), .pointer (some ⟨faqg, 0, none⟩)], .func (.func 114) #[] #[.pointer (some ⟨fbpg, 0, none⟩), .pointer (some ⟨fbqg, 0, none⟩)], .func (.func 117) #[] #[.pointer (some ⟨fcpg, 0, none⟩)], .func (.func 114) #[] #[.pointer (some ⟨fdpg, 0, none⟩), .pointer (some ⟨fdqg, 0, none⟩)], .func (.func 114) #[] #[.pointer (some ⟨fepg, 0, none⟩), .pointer (some ⟨feqg, 0, none⟩)], .func (.func 114) #[] #[.pointer (some ⟨ffpg, 0, none⟩), .pointer (some ⟨ffqg, 0, none⟩)], .func (.func 114) #[] #[.pointer (some ⟨fgpg, 0, none⟩), .pointer (some ⟨fgqg, 0, none⟩)], .func (.func 114) #[] #[.pointer (some ⟨fhpg, 0, none⟩), .pointer (some ⟨fhqg, 0, none⟩)]]))).φ w0 Z) (hl : fcpC.length ≤ 100 := by exact ax) (hb : ∀ s ∈ fcpC, s.2.2.length ≤ 100 := by exact ax) (hall : ∀ x ∈ tmD fcpK fcpT fcpB (B1 fcpC), sml x ∧ x.length ≤ 1000000 := by exact ax) :
    Calls Tryz.prog 79 [.slice fA 8 fc].toArray w0 (fun e w' => e = .returned (.int .i64 (frE [mkI (!fapb) faqe, mkI (!fbpb) fbqe, clD fcpK fcpT fcpB (B1 fcpC), mkI (!fdpb) fdqe, mkI (!fepb) feqe, mkI (!ffpb) ffqe, mkI (!fgpb) fgqe, mkI (!fhpb) fhqe])) ∧ Fr A6 w0 w') := by
 have b0 := s0 (M := A6) hZ (zc (d := Br) hShp (zc hfapQ (zc hfaqQ (zc hfbpQ (zc hfbqQ (zc hfcpT (zc hfcpB (zc hfcpC (zc hfcpCs (zc hfcpQ (zc hfdpQ (zc hfdqQ (zc hfepQ (zc hfeqQ (zc hffpQ (zc hffqQ (zc hfgpQ (zc hfgqQ (zc hfhpQ (zc hfhqQ (zc hf zn)))))))))))))))))))))
 refine AE Tryz.func79 rfl Tryz.ntmps79 rfl fun c0 d0 => ?_
 refine rR d0 fun c0 f0 => ?_
 refine Ac fun c0 d0 => rR f0 fun c0 h0 => ?_
 refine A4 ?_
 refine wp_loop_rounds 9 (Ep ?_)
 refine wsc fun c0 f0 => ?_
 have c0 : (0 : Int) < 8 := by decide
 refine lR h0 fun i0 j0 => ?_
 refine wn f0 <| Ac fun f0 i0 => wck j0 fun f0 => ?_
 refine Am <| xn i0 <| Ac fun i0 j0 => A4 ?_
 refine wsc fun i0 h0 => CV (i := 0) (j := 0 * 1) sv f0 rfl rfl rfl rfl Dk LH (by omega) (by simp) (DW (t := [.func (.func 114) #[] #[.pointer (some ⟨fapg, 0, none⟩), .pointer (some ⟨faqg, 0, none⟩)], .func (.func 114) #[] #[.pointer (some ⟨fbpg, 0, none⟩), .pointer (some ⟨fbqg, 0, none⟩)], .func (.func 117) #[] #[.pointer (some ⟨fcpg, 0, none⟩)], .func (.func 114) #[] #[.pointer (some ⟨fdpg, 0, none⟩), .pointer (some ⟨fdqg, 0, none⟩)], .func (.func 114) #[] #[.pointer (some ⟨fepg, 0, none⟩), .pointer (some ⟨feqg, 0, none⟩)], .func (.func 114) #[] #[.pointer (some ⟨ffpg, 0, none⟩), .pointer (some ⟨ffqg, 0, none⟩)], .func (.func 114) #[] #[.pointer (some ⟨fgpg, 0, none⟩), .pointer (some ⟨fgqg, 0, none⟩)], .func (.func 114) #[] #[.pointer (some ⟨fhpg, 0, none⟩), .pointer (some ⟨fhqg, 0, none⟩)]]) (k := 0) (b0.row (i := 20) rfl).2 (by simp)).some_ rfl (by decide) fun i0 k0 => ?_
 refine lde 0 (0 * 1) k0 (DW (t := [.func (.func 114) #[] #[.pointer (some ⟨fapg, 0, none⟩), .pointer (some ⟨faqg, 0, none⟩)], .func (.func 114) #[] #[.pointer (some ⟨fbpg, 0, none⟩), .pointer (some ⟨fbqg, 0, none⟩)], .func (.func 117) #[] #[.pointer (some ⟨fcpg, 0, none⟩)], .func (.func 114) #[] #[.pointer (some ⟨fdpg, 0, none⟩), .pointer (some ⟨fdqg, 0, none⟩)], .func (.func 114) #[] #[.pointer (some ⟨fepg, 0, none⟩), .pointer (some ⟨feqg, 0, none⟩)], .func (.func 114) #[] #[.pointer (some ⟨ffpg, 0, none⟩), .pointer (some ⟨ffqg, 0, none⟩)], .func (.func 114) #[] #[.pointer (some ⟨fgpg, 0, none⟩), .pointer (some ⟨fgqg, 0, none⟩)], .func (.func 114) #[] #[.pointer (some ⟨fhpg, 0, none⟩), .pointer (some ⟨fhqg, 0, none⟩)]]) (k := 0) (b0.row (i := 20) rfl).2 (by simp)) fun i0 f0 => ?_
 refine aw f0 h0 fun i0 k0 => ?_
 refine wsc fun h0 i0 => mv k0 fun h0 f0 => ?_
 have h0 := b0.nf
 refine DI (xs := []) se f0 rfl rfl rfl rfl (by decide) N1 (D4 _ _ h0.il fapg fapb faqg faqe (h0.g 1) (h0.g 2)) ?_
 rintro f0 b0 ⟨rfl, k0⟩
 have b0 := h0.below k0.below
 refine ⟨_, rfl, fun k0 h0 => ?_⟩
 refine aw h0 i0 fun k0 f0 => ?_
 refine rR f0 fun i0 k0 => ?_
 refine wce k0 (fun i0 f0 => ?_) fun i0 h0 => ?_
 refine Am <| A7 <| xn j0 <| A0 ?_
 refine adi 1 f0 fun j0 k0 => ?_
 refine mv k0 fun j0 f0 => ?_
 refine Ae ?_
 refine AC (Ep ?_)
 refine wsc fun j0 k0 => ?_
 have j0 : (1 : Int) < 8 := by decide
 refine lR f0 fun m0 n0 => ?_
 refine wn k0 <| Ac fun k0 m0 => wck n0 fun k0 => ?_
 refine Am <| xn m0 <| Ac fun m0 n0 => A4 ?_
 refine wsc fun m0 f0 => CV (i := 1) (j := 1 * 1) sv k0 rfl rfl rfl rfl Dk LH (by omega) (by simp) (DW (t := [.func (.func 114) #[] #[.pointer (some ⟨fapg, 0, none⟩), .pointer (some ⟨faqg, 0, none⟩)], .func (.func 114) #[] #[.pointer (some ⟨fbpg, 0, none⟩), .pointer (some ⟨fbqg, 0, none⟩)], .func (.func 117) #[] #[.pointer (some ⟨fcpg, 0, none⟩)], .func (.func 114) #[] #[.pointer (some ⟨fdpg, 0, none⟩), .pointer (some ⟨fdqg, 0, none⟩)], .func (.func 114) #[] #[.pointer (some ⟨fepg, 0, none⟩), .pointer (some ⟨feqg, 0, none⟩)], .func (.func 114) #[] #[.pointer (some ⟨ffpg, 0, none⟩), .pointer (some ⟨ffqg, 0, none⟩)], .func (.func 114) #[] #[.pointer (some ⟨fgpg, 0, none⟩), .pointer (some ⟨fgqg, 0, none⟩)], .func (.func 114) #[] #[.pointer (some ⟨fhpg, 0, none⟩), .pointer (some ⟨fhqg, 0, none⟩)]]) (k := 1) (b0.row (i := 20) rfl).2 (by simp)).some_ rfl (by decide) fun m0 o0 => ?_
 refine lde 0 (1 * 1) o0 (DW (t := [.func (.func 114) #[] #[.pointer (some ⟨fapg, 0, none⟩), .pointer (some ⟨faqg, 0, none⟩)], .func (.func 114) #[] #[.pointer (some ⟨fbpg, 0, none⟩), .pointer (some ⟨fbqg, 0, none⟩)], .func (.func 117) #[] #[.pointer (some ⟨fcpg, 0, none⟩)], .func (.func 114) #[] #[.pointer (some ⟨fdpg, 0, none⟩), .pointer (some ⟨fdqg, 0, none⟩)], .func (.func 114) #[] #[.pointer (some ⟨fepg, 0, none⟩), .pointer (some ⟨feqg, 0, none⟩)], .func (.func 114) #[] #[.pointer (some ⟨ffpg, 0, none⟩), .pointer (some ⟨ffqg, 0, none⟩)], .func (.func 114) #[] #[.pointer (some ⟨fgpg, 0, none⟩), .pointer (some ⟨fgqg, 0, none⟩)], .func (.func 114) #[] #[.pointer (some ⟨fhpg, 0, none⟩), .pointer (some ⟨fhqg, 0, none⟩)]]) (k := 1) (b0.row (i := 20) rfl).2 (by simp)) fun m0 k0 => ?_
 refine aw k0 f0 fun m0 o0 => ?_
 refine wsc fun f0 m0 => mv o0 fun f0 k0 => ?_
 have f0 := b0.nf
 refine DI (xs := []) se k0 rfl rfl rfl rfl (by decide) N1 (D4 _ _ f0.il fbpg fbpb fbqg fbqe (f0.g 3) (f0.g 4)) ?_
 rintro k0 o0 ⟨rfl, p0⟩
 have o0 := f0.below p0.below
 refine ⟨_, rfl, fun p0 f0 => ?_⟩
 refine aw f0 m0 fun p0 k0 => ?_
 refine rR k0 fun m0 p0 => ?_
 refine wce p0 (fun m0 k0 => ?_) fun m0 f0 => ?_
 refine Am <| A7 <| xn n0 <| A0 ?_
 refine adi 2 k0 fun n0 p0 => ?_
 refine mv p0 fun n0 k0 => ?_
 refine Ae ?_
 refine AC (Ep ?_)
 refine wsc fun n0 p0 => ?_
 have n0 : (2 : Int) < 8 := by decide
 refine lR k0 fun q0 t0 => ?_
 refine wn p0 <| Ac fun p0 q0 => wck t0 fun p0 => ?_
 refine Am <| xn q0 <| Ac fun q0 t0 => A4 ?_
 refine wsc fun q0 k0 => CV (i := 2) (j := 2 * 1) sv p0 rfl rfl rfl rfl Dk LH (by omega) (by simp) (DW (t := [.func (.func 114) #[] #[.pointer (some ⟨fapg, 0, none⟩), .pointer (some ⟨faqg, 0, none⟩)], .func (.func 114) #[] #[.pointer (some ⟨fbpg, 0, none⟩), .pointer (some ⟨fbqg, 0, none⟩)], .func (.func 117) #[] #[.pointer (some ⟨fcpg, 0, none⟩)], .func (.func 114) #[] #[.pointer (some ⟨fdpg, 0, none⟩), .pointer (some ⟨fdqg, 0, none⟩)], .func (.func 114) #[] #[.pointer (some ⟨fepg, 0, none⟩), .pointer (some ⟨feqg, 0, none⟩)], .func (.func 114) #[] #[.pointer (some ⟨ffpg, 0, none⟩), .pointer (some ⟨ffqg, 0, none⟩)], .func (.func 114) #[] #[.pointer (some ⟨fgpg, 0, none⟩), .pointer (some ⟨fgqg, 0, none⟩)], .func (.func 114) #[] #[.pointer (some ⟨fhpg, 0, none⟩), .pointer (some ⟨fhqg, 0, none⟩)]]) (k := 2) (o0.row (i := 20) rfl).2 (by simp)).some_ rfl (by decide) fun q0 u0 => ?_
 refine lde 0 (2 * 1) u0 (DW (t := [.func (.func 114) #[] #[.pointer (some ⟨fapg, 0, none⟩), .pointer (some ⟨faqg, 0, none⟩)], .func (.func 114) #[] #[.pointer (some ⟨fbpg, 0, none⟩), .pointer (some ⟨fbqg, 0, none⟩)], .func (.func 117) #[] #[.pointer (some ⟨fcpg, 0, none⟩)], .func (.func 114) #[] #[.pointer (some ⟨fdpg, 0, none⟩), .pointer (some ⟨fdqg, 0, none⟩)], .func (.func 114) #[] #[.pointer (some ⟨fepg, 0, none⟩), .pointer (some ⟨feqg, 0, none⟩)], .func (.func 114) #[] #[.pointer (some ⟨ffpg, 0, none⟩), .pointer (some ⟨ffqg, 0, none⟩)], .func (.func 114) #[] #[.pointer (some ⟨fgpg, 0, none⟩), .pointer (some ⟨fgqg, 0, none⟩)], .func (.func 114) #[] #[.pointer (some ⟨fhpg, 0, none⟩), .pointer (some ⟨fhqg, 0, none⟩)]]) (k := 2) (o0.row (i := 20) rfl).2 (by simp)) fun q0 p0 => ?_
 refine aw p0 k0 fun q0 u0 => ?_
 refine wsc fun k0 q0 => mv u0 fun k0 p0 => ?_
 have k0 := o0.nf
 refine DI (xs := []) se p0 rfl rfl rfl rfl (by decide) ok117 (Lp _ _ k0.il fcpg fcpK fcpL fcpS _ _ _ _ _ _ _ _ _ (k0.g 0) (k0.g 5) (k0.g 6) (k0.g 7) (k0.g 8) (k0.g 9)) ?_
 rintro p0 u0 ⟨rfl, v0⟩
 have u0 := k0.below v0.below
 refine ⟨_, rfl, fun v0 k0 => ?_⟩
 refine aw k0 q0 fun v0 p0 => ?_
 refine rR p0 fun q0 v0 => ?_
 refine wce v0 (fun q0 p0 => ?_) fun q0 k0 => ?_
 refine Am <| A7 <| xn t0 <| A0 ?_
 refine adi 3 p0 fun t0 v0 => ?_
 refine mv v0 fun t0 p0 => ?_
 refine Ae ?_
 refine AC (Ep ?_)
 refine wsc fun t0 v0 => ?_
 have t0 : (3 : Int) < 8 := by decide
 refine lR p0 fun x0 y0 => ?_
 refine wn v0 <| Ac fun v0 x0 => wck y0 fun v0 => ?_
 refine Am <| xn x0 <| Ac fun x0 y0 => A4 ?_
 refine wsc fun x0 p0 => CV (i := 3) (j := 3 * 1) sv v0 rfl rfl rfl rfl Dk LH (by omega) (by simp) (DW (t := [.func (.func 114) #[] #[.pointer (some ⟨fapg, 0, none⟩), .pointer (some ⟨faqg, 0, none⟩)], .func (.func 114) #[] #[.pointer (some ⟨fbpg, 0, none⟩), .pointer (some ⟨fbqg, 0, none⟩)], .func (.func 117) #[] #[.pointer (some ⟨fcpg, 0, none⟩)], .func (.func 114) #[] #[.pointer (some ⟨fdpg, 0, none⟩), .pointer (some ⟨fdqg, 0, none⟩)], .func (.func 114) #[] #[.pointer (some ⟨fepg, 0, none⟩), .pointer (some ⟨feqg, 0, none⟩)], .func (.func 114) #[] #[.pointer (some ⟨ffpg, 0, none⟩), .pointer (some ⟨ffqg, 0, none⟩)], .func (.func 114) #[] #[.pointer (some ⟨fgpg, 0, none⟩), .pointer (some ⟨fgqg, 0, none⟩)], .func (.func 114) #[] #[.pointer (some ⟨fhpg, 0, none⟩), .pointer (some ⟨fhqg, 0, none⟩)]]) (k := 3) (u0.row (i := 20) rfl).2 (by simp)).some_ rfl (by decide) fun x0 z0 => ?_
 refine lde 0 (3 * 1) z0 (DW (t := [.func (.func 114) #[] #[.pointer (some ⟨fapg, 0, none⟩), .pointer (some ⟨faqg, 0, none⟩)], .func (.func 114) #[] #[.pointer (some ⟨fbpg, 0, none⟩), .pointer (some ⟨fbqg, 0, none⟩)], .func (.func 117) #[] #[.pointer (some ⟨fcpg, 0, none⟩)], .func (.func 114) #[] #[.pointer (some ⟨fdpg, 0, none⟩), .pointer (some ⟨fdqg, 0, none⟩)], .func (.func 114) #[] #[.pointer (some ⟨fepg, 0, none⟩), .pointer (some ⟨feqg, 0, none⟩)], .func (.func 114) #[] #[.pointer (some ⟨ffpg, 0, none⟩), .pointer (some ⟨ffqg, 0, none⟩)], .func (.func 114) #[] #[.pointer (some ⟨fgpg, 0, none⟩), .pointer (some ⟨fgqg, 0, none⟩)], .func (.func 114) #[] #[.pointer (some ⟨fhpg, 0, none⟩), .pointer (some ⟨fhqg, 0, none⟩)]]) (k := 3) (u0.row (i := 20) rfl).2 (by simp)) fun x0 v0 => ?_
 refine aw v0 p0 fun x0 z0 => ?_
 refine wsc fun p0 x0 => mv z0 fun p0 v0 => ?_
 have p0 := u0.nf
 refine DI (xs := []) se v0 rfl rfl rfl rfl (by decide) N1 (D4 _ _ p0.il fdpg fdpb fdqg fdqe (p0.g 10) (p0.g 11)) ?_
 rintro v0 z0 ⟨rfl, b1⟩
 have z0 := p0.below b1.below
 refine ⟨_, rfl, fun b1 p0 => ?_⟩
 refine aw p0 x0 fun b1 v0 => ?_
 refine rR v0 fun x0 b1 => ?_
 refine wce b1 (fun x0 v0 => ?_) fun x0 p0 => ?_
 refine Am <| A7 <| xn y0 <| A0 ?_
 refine adi 4 v0 fun y0 b1 => ?_
 refine mv b1 fun y0 v0 => ?_
 refine Ae ?_
 refine AC (Ep ?_)
 refine wsc fun y0 b1 => ?_
 have y0 : (4 : Int) < 8 := by decide
 refine lR v0 fun c1 d1 => ?_
 refine wn b1 <| Ac fun b1 c1 => wck d1 fun b1 => ?_
 refine Am <| xn c1 <| Ac fun c1 d1 => A4 ?_
 refine wsc fun c1 v0 => CV (i := 4) (j := 4 * 1) sv b1 rfl rfl rfl rfl Dk LH (by omega) (by simp) (DW (t := [.func (.func 114) #[] #[.pointer (some ⟨fapg, 0, none⟩), .pointer (some ⟨faqg, 0, none⟩)], .func (.func 114) #[] #[.pointer (some ⟨fbpg, 0, none⟩), .pointer (some ⟨fbqg, 0, none⟩)], .func (.func 117) #[] #[.pointer (some ⟨fcpg, 0, none⟩)], .func (.func 114) #[] #[.pointer (some ⟨fdpg, 0, none⟩), .pointer (some ⟨fdqg, 0, none⟩)], .func (.func 114) #[] #[.pointer (some ⟨fepg, 0, none⟩), .pointer (some ⟨feqg, 0, none⟩)], .func (.func 114) #[] #[.pointer (some ⟨ffpg, 0, none⟩), .pointer (some ⟨ffqg, 0, none⟩)], .func (.func 114) #[] #[.pointer (some ⟨fgpg, 0, none⟩), .pointer (some ⟨fgqg, 0, none⟩)], .func (.func 114) #[] #[.pointer (some ⟨fhpg, 0, none⟩), .pointer (some ⟨fhqg, 0, none⟩)]]) (k := 4) (z0.row (i := 20) rfl).2 (by simp)).some_ rfl (by decide) fun c1 f1 => ?_
 refine lde 0 (4 * 1) f1 (DW (t := [.func (.func 114) #[] #[.pointer (some ⟨fapg, 0, none⟩), .pointer (some ⟨faqg, 0, none⟩)], .func (.func 114) #[] #[.pointer (some ⟨fbpg, 0, none⟩), .pointer (some ⟨fbqg, 0, none⟩)], .func (.func 117) #[] #[.pointer (some ⟨fcpg, 0, none⟩)], .func (.func 114) #[] #[.pointer (some ⟨fdpg, 0, none⟩), .pointer (some ⟨fdqg, 0, none⟩)], .func (.func 114) #[] #[.pointer (some ⟨fepg, 0, none⟩), .pointer (some ⟨feqg, 0, none⟩)], .func (.func 114) #[] #[.pointer (some ⟨ffpg, 0, none⟩), .pointer (some ⟨ffqg, 0, none⟩)], .func (.func 114) #[] #[.pointer (some ⟨fgpg, 0, none⟩), .pointer (some ⟨fgqg, 0, none⟩)], .func (.func 114) #[] #[.pointer (some ⟨fhpg, 0, none⟩), .pointer (some ⟨fhqg, 0, none⟩)]]) (k := 4) (z0.row (i := 20) rfl).2 (by simp)) fun c1 b1 => ?_
 refine aw b1 v0 fun c1 f1 => ?_
 refine wsc fun v0 c1 => mv f1 fun v0 b1 => ?_
 have v0 := z0.nf
 refine DI (xs := []) se b1 rfl rfl rfl rfl (by decide) N1 (D4 _ _ v0.il fepg fepb feqg feqe (v0.g 12) (v0.g 13)) ?_
 rintro b1 f1 ⟨rfl, h1⟩
 have f1 := v0.below h1.below
 refine ⟨_, rfl, fun h1 v0 => ?_⟩
 refine aw v0 c1 fun h1 b1 => ?_
 refine rR b1 fun c1 h1 => ?_
 refine wce h1 (fun c1 b1 => ?_) fun c1 v0 => ?_
 refine Am <| A7 <| xn d1 <| A0 ?_
 refine adi 5 b1 fun d1 h1 => ?_
 refine mv h1 fun d1 b1 => ?_
 refine Ae ?_
 refine AC (Ep ?_)
 refine wsc fun d1 h1 => ?_
 have d1 : (5 : Int) < 8 := by decide
 refine lR b1 fun i1 j1 => ?_
 refine wn h1 <| Ac fun h1 i1 => wck j1 fun h1 => ?_
 refine Am <| xn i1 <| Ac fun i1 j1 => A4 ?_
 refine wsc fun i1 b1 => CV (i := 5) (j := 5 * 1) sv h1 rfl rfl rfl rfl Dk LH (by omega) (by simp) (DW (t := [.func (.func 114) #[] #[.pointer (some ⟨fapg, 0, none⟩), .pointer (some ⟨faqg, 0, none⟩)], .func (.func 114) #[] #[.pointer (some ⟨fbpg, 0, none⟩), .pointer (some ⟨fbqg, 0, none⟩)], .func (.func 117) #[] #[.pointer (some ⟨fcpg, 0, none⟩)], .func (.func 114) #[] #[.pointer (some ⟨fdpg, 0, none⟩), .pointer (some ⟨fdqg, 0, none⟩)], .func (.func 114) #[] #[.pointer (some ⟨fepg, 0, none⟩), .pointer (some ⟨feqg, 0, none⟩)], .func (.func 114) #[] #[.pointer (some ⟨ffpg, 0, none⟩), .pointer (some ⟨ffqg, 0, none⟩)], .func (.func 114) #[] #[.pointer (some ⟨fgpg, 0, none⟩), .pointer (some ⟨fgqg, 0, none⟩)], .func (.func 114) #[] #[.pointer (some ⟨fhpg, 0, none⟩), .pointer (some ⟨fhqg, 0, none⟩)]]) (k := 5) (f1.row (i := 20) rfl).2 (by simp)).some_ rfl (by decide) fun i1 k1 => ?_
 refine lde 0 (5 * 1) k1 (DW (t := [.func (.func 114) #[] #[.pointer (some ⟨fapg, 0, none⟩), .pointer (some ⟨faqg, 0, none⟩)], .func (.func 114) #[] #[.pointer (some ⟨fbpg, 0, none⟩), .pointer (some ⟨fbqg, 0, none⟩)], .func (.func 117) #[] #[.pointer (some ⟨fcpg, 0, none⟩)], .func (.func 114) #[] #[.pointer (some ⟨fdpg, 0, none⟩), .pointer (some ⟨fdqg, 0, none⟩)], .func (.func 114) #[] #[.pointer (some ⟨fepg, 0, none⟩), .pointer (some ⟨feqg, 0, none⟩)], .func (.func 114) #[] #[.pointer (some ⟨ffpg, 0, none⟩), .pointer (some ⟨ffqg, 0, none⟩)], .func (.func 114) #[] #[.pointer (some ⟨fgpg, 0, none⟩), .pointer (some ⟨fgqg, 0, none⟩)], .func (.func 114) #[] #[.pointer (some ⟨fhpg, 0, none⟩), .pointer (some ⟨fhqg, 0, none⟩)]]) (k := 5) (f1.row (i := 20) rfl).2 (by simp)) fun i1 h1 => ?_
 refine aw h1 b1 fun i1 k1 => ?_
 refine wsc fun b1 i1 => mv k1 fun b1 h1 => ?_
 have b1 := f1.nf
 refine DI (xs := []) se h1 rfl rfl rfl rfl (by decide) N1 (D4 _ _ b1.il ffpg ffpb ffqg ffqe (b1.g 14) (b1.g 15)) ?_
 rintro h1 k1 ⟨rfl, m1⟩
 have k1 := b1.below m1.below
 refine ⟨_, rfl, fun m1 b1 => ?_⟩
 refine aw b1 i1 fun m1 h1 => ?_
 refine rR h1 fun i1 m1 => ?_
 refine wce m1 (fun i1 h1 => ?_) fun i1 b1 => ?_
 refine Am <| A7 <| xn j1 <| A0 ?_
 refine adi 6 h1 fun j1 m1 => ?_
 refine mv m1 fun j1 h1 => ?_
 refine Ae ?_
 refine AC (Ep ?_)
 refine wsc fun j1 m1 => ?_
 have j1 : (6 : Int) < 8 := by decide
 refine lR h1 fun n1 o1 => ?_
 refine wn m1 <| Ac fun m1 n1 => wck o1 fun m1 => ?_
 refine Am <| xn n1 <| Ac fun n1 o1 => A4 ?_
 refine wsc fun n1 h1 => CV (i := 6) (j := 6 * 1) sv m1 rfl rfl rfl rfl Dk LH (by omega) (by simp) (DW (t := [.func (.func 114) #[] #[.pointer (some ⟨fapg, 0, none⟩), .pointer (some ⟨faqg, 0, none⟩)], .func (.func 114) #[] #[.pointer (some ⟨fbpg, 0, none⟩), .pointer (some ⟨fbqg, 0, none⟩)], .func (.func 117) #[] #[.pointer (some ⟨fcpg, 0, none⟩)], .func (.func 114) #[] #[.pointer (some ⟨fdpg, 0, none⟩), .pointer (some ⟨fdqg, 0, none⟩)], .func (.func 114) #[] #[.pointer (some ⟨fepg, 0, none⟩), .pointer (some ⟨feqg, 0, none⟩)], .func (.func 114) #[] #[.pointer (some ⟨ffpg, 0, none⟩), .pointer (some ⟨ffqg, 0, none⟩)], .func (.func 114) #[] #[.pointer (some ⟨fgpg, 0, none⟩), .pointer (some ⟨fgqg, 0, none⟩)], .func (.func 114) #[] #[.pointer (some ⟨fhpg, 0, none⟩), .pointer (some ⟨fhqg, 0, none⟩)]]) (k := 6) (k1.row (i := 20) rfl).2 (by simp)).some_ rfl (by decide) fun n1 p1 => ?_
 refine lde 0 (6 * 1) p1 (DW (t := [.func (.func 114) #[] #[.pointer (some ⟨fapg, 0, none⟩), .pointer (some ⟨faqg, 0, none⟩)], .func (.func 114) #[] #[.pointer (some ⟨fbpg, 0, none⟩), .pointer (some ⟨fbqg, 0, none⟩)], .func (.func 117) #[] #[.pointer (some ⟨fcpg, 0, none⟩)], .func (.func 114) #[] #[.pointer (some ⟨fdpg, 0, none⟩), .pointer (some ⟨fdqg, 0, none⟩)], .func (.func 114) #[] #[.pointer (some ⟨fepg, 0, none⟩), .pointer (some ⟨feqg, 0, none⟩)], .func (.func 114) #[] #[.pointer (some ⟨ffpg, 0, none⟩), .pointer (some ⟨ffqg, 0, none⟩)], .func (.func 114) #[] #[.pointer (some ⟨fgpg, 0, none⟩), .pointer (some ⟨fgqg, 0, none⟩)], .func (.func 114) #[] #[.pointer (some ⟨fhpg, 0, none⟩), .pointer (some ⟨fhqg, 0, none⟩)]]) (k := 6) (k1.row (i := 20) rfl).2 (by simp)) fun n1 m1 => ?_
 refine aw m1 h1 fun n1 p1 => ?_
 refine wsc fun h1 n1 => mv p1 fun h1 m1 => ?_
 have h1 := k1.nf
 refine DI (xs := []) se m1 rfl rfl rfl rfl (by decide) N1 (D4 _ _ h1.il fgpg fgpb fgqg fgqe (h1.g 16) (h1.g 17)) ?_
 rintro m1 p1 ⟨rfl, q1⟩
 have p1 := h1.below q1.below
 refine ⟨_, rfl, fun q1 h1 => ?_⟩
 refine aw h1 n1 fun q1 m1 => ?_
 refine rR m1 fun n1 q1 => ?_
 refine wce q1 (fun n1 m1 => ?_) fun n1 h1 => ?_
 refine Am <| A7 <| xn o1 <| A0 ?_
 refine adi 7 m1 fun o1 q1 => ?_
 refine mv q1 fun o1 m1 => ?_
 refine Ae ?_
 refine AC (Ep ?_)
 refine wsc fun o1 q1 => ?_
 have o1 : (7 : Int) < 8 := by decide
 refine lR m1 fun s1 t1 => ?_
 refine wn q1 <| Ac fun q1 s1 => wck t1 fun q1 => ?_
 refine Am <| xn s1 <| Ac fun s1 t1 => A4 ?_
 refine wsc fun s1 m1 => CV (i := 7) (j := 7 * 1) sv q1 rfl rfl rfl rfl Dk LH (by omega) (by simp) (DW (t := [.func (.func 114) #[] #[.pointer (some ⟨fapg, 0, none⟩), .pointer (some ⟨faqg, 0, none⟩)], .func (.func 114) #[] #[.pointer (some ⟨fbpg, 0, none⟩), .pointer (some ⟨fbqg, 0, none⟩)], .func (.func 117) #[] #[.pointer (some ⟨fcpg, 0, none⟩)], .func (.func 114) #[] #[.pointer (some ⟨fdpg, 0, none⟩), .pointer (some ⟨fdqg, 0, none⟩)], .func (.func 114) #[] #[.pointer (some ⟨fepg, 0, none⟩), .pointer (some ⟨feqg, 0, none⟩)], .func (.func 114) #[] #[.pointer (some ⟨ffpg, 0, none⟩), .pointer (some ⟨ffqg, 0, none⟩)], .func (.func 114) #[] #[.pointer (some ⟨fgpg, 0, none⟩), .pointer (some ⟨fgqg, 0, none⟩)], .func (.func 114) #[] #[.pointer (some ⟨fhpg, 0, none⟩), .pointer (some ⟨fhqg, 0, none⟩)]]) (k := 7) (p1.row (i := 20) rfl).2 (by simp)).some_ rfl (by decide) fun s1 u1 => ?_
 refine lde 0 (7 * 1) u1 (DW (t := [.func (.func 114) #[] #[.pointer (some ⟨fapg, 0, none⟩), .pointer (some ⟨faqg, 0, none⟩)], .func (.func 114) #[] #[.pointer (some ⟨fbpg, 0, none⟩), .pointer (some ⟨fbqg, 0, none⟩)], .func (.func 117) #[] #[.pointer (some ⟨fcpg, 0, none⟩)], .func (.func 114) #[] #[.pointer (some ⟨fdpg, 0, none⟩), .pointer (some ⟨fdqg, 0, none⟩)], .func (.func 114) #[] #[.pointer (some ⟨fepg, 0, none⟩), .pointer (some ⟨feqg, 0, none⟩)], .func (.func 114) #[] #[.pointer (some ⟨ffpg, 0, none⟩), .pointer (some ⟨ffqg, 0, none⟩)], .func (.func 114) #[] #[.pointer (some ⟨fgpg, 0, none⟩), .pointer (some ⟨fgqg, 0, none⟩)], .func (.func 114) #[] #[.pointer (some ⟨fhpg, 0, none⟩), .pointer (some ⟨fhqg, 0, none⟩)]]) (k := 7) (p1.row (i := 20) rfl).2 (by simp)) fun s1 q1 => ?_
 refine aw q1 m1 fun s1 u1 => ?_
 refine wsc fun m1 s1 => mv u1 fun m1 q1 => ?_
 have m1 := p1.nf
 refine DI (xs := []) se q1 rfl rfl rfl rfl (by decide) N1 (D4 _ _ m1.il fhpg fhpb fhqg fhqe (m1.g 18) (m1.g 19)) ?_
 rintro q1 u1 ⟨rfl, v1⟩
 have u1 := m1.below v1.below
 refine ⟨_, rfl, fun v1 m1 => ?_⟩
 refine aw m1 s1 fun v1 q1 => ?_
 refine rR q1 fun s1 v1 => ?_
 refine wce v1 (fun s1 q1 => ?_) fun s1 m1 => ?_
 refine Am <| A7 <| xn t1 <| A0 ?_
 refine adi 8 q1 fun t1 v1 => ?_
 refine mv v1 fun t1 q1 => ?_
 refine Ae ?_
 refine AC (Ep ?_)
 refine wsc fun t1 v1 => ?_
 have t1 : ¬ (8 : Int) < 8 := by decide
 refine lR q1 fun x1 y1 => ?_
 refine wn v1 <| Ac fun v1 x1 => wcl y1 fun x1 => ?_
 refine xe ?_
 refine xn d0 <| rR x1 fun d0 y1 => ?_
 refine rt y1 u1.fr ?_
 exact Bz (by simp [frE, c0, i0, j0, m0, n0, q0, t0, x0, y0, c1, d1, i1, j1, n1, o1, s1, t1])
 refine rR m1 fun t1 y1 => ?_
 refine rt y1 u1.fr ?_
 exact Bz (by simp [frE, c0, i0, j0, m0, n0, q0, t0, x0, y0, c1, d1, i1, j1, n1, o1, s1])
 refine rR h1 fun s1 o1 => ?_
 refine rt o1 p1.fr ?_
 exact Bz (by simp [frE, c0, i0, j0, m0, n0, q0, t0, x0, y0, c1, d1, i1, j1, n1])
 refine rR b1 fun n1 j1 => ?_
 refine rt j1 k1.fr ?_
 exact Bz (by simp [frE, c0, i0, j0, m0, n0, q0, t0, x0, y0, c1, d1, i1])
 refine rR v0 fun i1 d1 => ?_
 refine rt d1 f1.fr ?_
 exact Bz (by simp [frE, c0, i0, j0, m0, n0, q0, t0, x0, y0, c1])
 refine rR p0 fun c1 y0 => ?_
 refine rt y0 z0.fr ?_
 exact Bz (by simp [frE, c0, i0, j0, m0, n0, q0, t0, x0])
 refine rR k0 fun x0 t0 => ?_
 refine rt t0 u0.fr ?_
 exact Bz (by simp [frE, c0, i0, j0, m0, n0, q0])
 refine rR f0 fun q0 n0 => ?_
 refine rt n0 o0.fr ?_
 exact Bz (by simp [frE, c0, i0, j0, m0])
 refine rR h0 fun m0 j0 => ?_
 refine rt j0 b0.fr ?_
 exact Bz (by simp [frE, c0, i0])
theorem NR (w0 : World) (Z : Nat → Prop) (hZ : HZ w0 Z) (s : ByteArray) (hs : s.size < 1000000 := by exact ax) :
    Calls Tryz.prog 81 [.string s].toArray w0 (fun e w' => e = .returned (.bool (nmB s)) ∧ Fr A6 w0 w') := by
 have b0 := s0 (M := A6) hZ zn
 refine AE Tryz.func81 rfl Tryz.ntmps81 rfl fun c0 d0 => ?_
 refine rR d0 fun c0 f0 => ?_
 refine wsc fun c0 d0 => mv f0 fun c0 h0 => ?_
 have c0 := b0.nf
 refine kra h0 c0 ok115 (JW _ _ c0.il s) fun b0 f0 i0 j0 => ?_
 refine mv j0 fun i0 b0 => ?_
 refine EA (fun ga gw => Reg ga 10 [(2, .bool false), (9, .bool ((CJ s) && (!(kwB s)))), (1000000, .bool false)] ∧ St w0 Z A6 gw [] []) 4 ?_ ?_
 refine spg 5 b0 (fun i0 j0 => ?_) fun i0 c0 => ?_
 refine lR j0 fun b0 h0 => ?_
 have b0 := f0.nf
 refine kra h0 b0 ok116 (Lg _ _ b0.il s) fun j0 k0 m0 n0 => ?_
 refine lR n0 fun m0 j0 => ?_
 refine Ae ?_
 exact AC ⟨(j0.sub (rc rfl (rc (rb rfl (by (simp only [i0, bl]; done))) (rc rfl rnl)))), k0⟩
 refine lR c0 fun j0 k0 => ?_
 refine Ae ?_
 exact AC ⟨(k0.sub (rc rfl (rc (rb rfl (by (simp only [i0, bl]; done))) (rc rfl rnl)))), f0⟩
 rintro k0 i0 ⟨f0, j0⟩
 refine aw f0 d0 fun i0 k0 => ?_
 refine rt k0 j0.fr ?_
 exact BQ (by rfl)
theorem M3 (w0 : World) (Z : Nat → Prop) (hZ : HZ w0 Z) (dK : Int) (dL : Int) (dS : ByteArray) (dTA : Option Addr) (dTc : Nat) (dT : List Nd) (dBA : Option Addr) (dBc : Nat) (dB : List Nd) (dCA : Option Addr) (dCc : Nat) (dC : List Tl) (hShp : Cu w0 Z) (hdT : N4 dTA dTc dT w0 Z) (hdB : N4 dBA dBc dB w0 Z) (hdC : (Bw 1 dCA dC.length dCc (CW dC)).φ w0 Z) (hdCs : (CG dC).φ w0 Z) (hl : dC.length ≤ 100 := by exact ax) (hb : ∀ s ∈ dC, s.2.2.length ≤ 100 := by exact ax) (hall : ∀ x ∈ tmD dK dT dB (B1 dC), sml x ∧ x.length ≤ 1000000 := by exact ax) (hsS : dS.size < 1000000 := by exact ax) :
    Calls Tryz.prog 49 [.agg #[.int .i64 dK, .int .i64 dL, .string dS, .slice dTA dT.length dTc, .slice dBA dB.length dBc, .slice dCA dC.length dCc]].toArray w0 (fun e w' => e = .returned (.int .i64 (dkE dK dL dS dT dB dC)) ∧ Fr A6 w0 w') := by
 have b0 := s0 (M := A6) hZ (zc (d := Br) hShp (zc hdT (zc hdB (zc hdC (zc hdCs zn)))))
 refine AE Tryz.func49 rfl Tryz.ntmps49 rfl fun c0 d0 => ?_
 refine wsc fun c0 f0 => bxx d0 b0 fun c0 h0 i0 j0 k0 => ?_
 refine aw j0 f0 fun h0 c0 => ?_
 refine rR c0 fun f0 h0 => ?_
 refine wsc fun f0 c0 => lR h0 fun f0 j0 => ?_
 refine lAn 3 (decide (dL ≤ 9)) j0 fun f0 h0 => ?_
 refine aw h0 c0 fun f0 j0 => ?_
 refine wsc fun c0 f0 => lR j0 fun c0 h0 => ?_
 refine EA (fun ga gw => Reg ga 87 [(1, .pointer (some ⟨i0, 0, none⟩)), (2, .int .i64 0), (3, .bool (decide (dK = 3))), (4, .bool ((decide (1 ≤ dL)) && (decide (dL ≤ 9)))), (25, .bool ((decide (6 < (dC.length : Int))) || (dC.any (fun s : Tl => decide (6 < s.2.2.length))))), (1000000, .bool false)] ∧ St w0 Z A6 gw [.box i0 25 [.int .i64 dK, .int .i64 dL, .string dS, .slice dTA dT.length dTc, .slice dBA dB.length dBc, .slice dCA dC.length dCc]] [Br, n4 dTA dTc dT, n4 dBA dBc dB, Bw 1 dCA dC.length dCc (CW dC), CG dC]) 4 ?_ ?_
 refine spd 21 h0 (fun i0 c0 => ?_) fun i0 j0 => ?_
 refine lR c0 fun h0 d0 => ?_
 refine Ae ?_
 exact AC ⟨(d0.sub (rc4 (rc (rb rfl (by (simp only [Aw i0, At i0, bl]; done))) (rc rfl rnl)))), k0⟩
 refine lR j0 fun d0 h0 => ?_
 have d0 := k0.nf
 refine kra h0 d0 ok77 (Jg _ _ d0.il _ _ _ (d0.g 3) (d0.g 4)) fun k0 j0 c0 b0 => ?_
 refine lR b0 fun c0 k0 => ?_
 refine Ae ?_
 exact AC ⟨(k0.sub (rc4 (rc (rb rfl (by (simp only [Ai i0, Aq i0, bl]; done))) (rc rfl rnl)))), j0⟩
 rintro k0 j0 ⟨i0, c0⟩
 refine aw i0 f0 fun j0 k0 => ?_
 refine Ac fun f0 j0 => ?_
 obtain ⟨f0, i0, b0⟩ := c0.agree
 refine Cj (n := 62) b0 5 (pB 0 0 pn) (A5 BC) fun i0 f0 c0 d0 h0 m0 => ?_
 refine dR [0, 1, 2, 3] k0 fun d0 i0 => ?_
 refine dAn 4 [5, 6] 7 (decide (dK ≤ 3)) i0 fun d0 k0 => ?_
 refine dR [9, 10] k0 fun d0 i0 => ?_
 refine dt 13 rfl f0 i0 (AJ rfl) (fun x hx => C9 (sy i0) i0 rfl rfl rfl (Ay (hx.c 0) (Ay (hx.c 1) (Ay (hx.c 2) (Ay (hx.c 3) (Ay (hx.c 4) (Ay (hx.c 5) (CellsAt.nil _ _))))))) CD rfl Xn (by decide) gt) m0 fun d0 k0 => ?_
 refine dR [15, 29, 37, 38, 46, 47, 48, 56, 57] k0 fun d0 i0 => ?_
 refine d1 8 ?_
 have d0 := h0.nf
 refine kcl i0 Mg (Ck _ _ d0.il ((decide (1 ≤ dK)) && (decide (dK ≤ 3))) 1) ?_
 rintro i0 h0 ⟨k0, m0, rfl, f0, b0, n0⟩
 have h0 := d0.below f0.below
 have f0 := d0.dN h0 b0
 have h0 := d0.dN f0 n0
 refine ⟨_, rfl, fun f0 n0 => ?_⟩
 have f0 := sWI h0 5 (pB 0 0 pn)
 refine ⟨f0, ?_⟩
 refine d1 11 ?_
 have f0 := h0.nf
 refine kra n0 f0 ok81 (NR _ _ f0.il dS) fun h0 d0 b0 i0 => ?_
 have b0 := sWI d0 5 (pB 0 0 pn)
 refine ⟨b0, ?_⟩
 refine d1 12 ?_
 have b0 := d0.nf
 refine kcl i0 Mg (Ck _ _ b0.il (nmB dS) 20) ?_
 rintro i0 d0 ⟨h0, f0, rfl, n0, o0, p0⟩
 have d0 := b0.below n0.below
 have n0 := b0.dN d0 o0
 have d0 := b0.dN n0 p0
 refine ⟨_, rfl, fun n0 p0 => ?_⟩
 have n0 := sWI d0 5 (pB 0 0 pn)
 refine ⟨n0, ?_⟩
 refine d1 14 ?_
 have n0 := d0.nf
 refine kcl p0 ok82 (M8 _ _ n0.il dK dL dS _ _ _ _ _ _ _ _ _ (n0.g 1) (n0.g 2) (n0.g 3) (n0.g 4)) ?_
 rintro p0 d0 ⟨b0, rfl, o0, i0⟩
 have d0 := n0.below o0.below
 have o0 := n0.dN d0 i0
 refine ⟨_, rfl, fun d0 i0 => ?_⟩
 have d0 := sWI o0 5 (pB 0 0 pn)
 refine ⟨d0, ?_⟩
 refine dR [16] i0 fun d0 n0 => ?_
 refine dAn 17 [] 18 ((decide (1 ≤ dL)) && (decide (dL ≤ 9))) n0 fun d0 i0 => ?_
 refine dR [19] i0 fun d0 n0 => ?_
 refine spg 45 n0 (fun d0 i0 => ?_) fun d0 p0 => ?_
 have n0 := Eu d0
 have q0 := A9 n0
 have n0 := Et d0
 have t0 := Eu n0
 have u0 := A9 t0
 have t0 := Et n0
 have n0 := A9 t0
 refine dR [20, 21, 22, 23, 24, 25, 26, 27] i0 fun t0 v0 => ?_
 refine d1 28 ?_
 have t0 := o0.nf
 refine kcl v0 Mg (Ck _ _ t0.il true 1) ?_
 rintro v0 i0 ⟨x0, y0, rfl, z0, b1, c1⟩
 have i0 := t0.below z0.below
 have z0 := t0.dN i0 b1
 have i0 := t0.dN z0 c1
 refine ⟨_, rfl, fun z0 c1 => ?_⟩
 have z0 := sWI i0 5 (pB 0 0 pn)
 refine ⟨z0, ?_⟩
 refine dR [30] c1 fun z0 t0 => ?_
 have z0 := t0.setb (d := 56) (b := true) rfl (Aw q0)
 refine dR [31, 32, 33, 34, 35] z0 fun t0 c1 => ?_
 refine d1 36 ?_
 have t0 := i0.nf
 refine kcl c1 Mg (Ck _ _ t0.il true 1) ?_
 rintro c1 i0 ⟨z0, b1, rfl, v0, f1, h1⟩
 have i0 := t0.below v0.below
 have v0 := t0.dN i0 f1
 have i0 := t0.dN v0 h1
 refine ⟨_, rfl, fun v0 h1 => ?_⟩
 have v0 := sWI i0 5 (pB 0 0 pn)
 refine ⟨v0, ?_⟩
 refine dR [39] h1 fun v0 t0 => ?_
 have v0 := t0.setb (d := 65) (b := false) rfl (by rw [(Aw q0)]; rfl)
 refine dR [40, 41, 42, 43, 44] v0 fun t0 h1 => ?_
 refine d1 45 ?_
 have t0 := i0.nf
 refine kcl h1 Mg (Ck _ _ t0.il (decide ((dT.length : Int) = 0)) 1) ?_
 rintro h1 i0 ⟨v0, f1, rfl, c1, i1, j1⟩
 have i0 := t0.below c1.below
 have c1 := t0.dN i0 i1
 have i0 := t0.dN c1 j1
 refine ⟨_, rfl, fun c1 j1 => ?_⟩
 have c1 := sWI i0 5 (pB 0 0 pn)
 refine ⟨c1, ?_⟩
 refine dR [49] j1 fun c1 t0 => ?_
 refine dOr 50 [51, 52, 53] 54 (decide ((dB.length : Int) = 0)) t0 fun c1 j1 => ?_
 refine d1 55 ?_
 have c1 := i0.nf
 refine kcl j1 Mg (Ck _ _ c1.il ((decide (dK = 1)) || (decide ((dB.length : Int) = 0))) 1) ?_
 rintro j1 i0 ⟨t0, i1, rfl, h1, k1, m1⟩
 have i0 := c1.below h1.below
 have h1 := c1.dN i0 k1
 have i0 := c1.dN h1 m1
 refine ⟨_, rfl, fun h1 m1 => ?_⟩
 have h1 := sWI i0 5 (pB 0 0 pn)
 refine ⟨h1, ?_⟩
 refine d1 58 ?_
 have h1 := i0.nf
 refine kcl m1 Mg (Ck _ _ h1.il (!((decide (6 < (dC.length : Int))) || (dC.any (fun s : Tl => decide (6 < s.2.2.length))))) 21) ?_
 rintro m1 i0 ⟨c1, k1, rfl, j1, n1, o1⟩
 have i0 := h1.below j1.below
 have j1 := h1.dN i0 n1
 have i0 := h1.dN j1 o1
 refine ⟨_, rfl, fun j1 o1 => ?_⟩
 have j1 := sWI i0 5 (pB 0 0 pn)
 refine ⟨j1, ?_⟩
 refine d1 59 ?_
 refine bsl o1 i0 fun j1 h1 n1 m1 p1 => ?_
 have h1 := sWI p1 5 (pB 0 0 pn)
 refine ⟨h1, ?_⟩
 refine d1 60 ?_
 have h1 := p1.nf
 have p1 := h1.pub 1 (Bw 1 (some ⟨n1, 0, none⟩) 8 8 (My ([.func (.func 114) #[] #[.pointer (some ⟨k0, 0, none⟩), .pointer (some ⟨m0, 0, none⟩)], .func (.func 114) #[] #[.pointer (some ⟨h0, 0, none⟩), .pointer (some ⟨f0, 0, none⟩)], .func (.func 117) #[] #[.pointer (some ⟨b0, 0, none⟩)], .func (.func 114) #[] #[.pointer (some ⟨x0, 0, none⟩), .pointer (some ⟨y0, 0, none⟩)], .func (.func 114) #[] #[.pointer (some ⟨z0, 0, none⟩), .pointer (some ⟨b1, 0, none⟩)], .func (.func 114) #[] #[.pointer (some ⟨v0, 0, none⟩), .pointer (some ⟨f1, 0, none⟩)], .func (.func 114) #[] #[.pointer (some ⟨t0, 0, none⟩), .pointer (some ⟨i1, 0, none⟩)], .func (.func 114) #[] #[.pointer (some ⟨c1, 0, none⟩), .pointer (some ⟨k1, 0, none⟩)]])))
 refine kra m1 p1 ok79 (GA _ _ p1.il _ _ k0 ((decide (1 ≤ dK)) && (decide (dK ≤ 3))) m0 1 h0 (nmB dS) f0 20 b0 dK dL dS _ _ _ _ _ _ _ _ _ x0 true y0 1 z0 true b1 1 v0 (decide ((dT.length : Int) = 0)) f1 1 t0 ((decide (dK = 1)) || (decide ((dB.length : Int) = 0))) i1 1 c1 (!((decide (6 < (dC.length : Int))) || (dC.any (fun s : Tl => decide (6 < s.2.2.length))))) k1 21 (p1.g 0) (p1.g 6) (p1.g 7) (p1.g 8) (p1.g 9) (p1.g 1) (p1.g 2) (p1.g 3) (p1.g 4) (p1.g 10) (p1.g 11) (p1.g 12) (p1.g 13) (p1.g 14) (p1.g 15) (p1.g 16) (p1.g 17) (p1.g 18) (p1.g 19) (p1.g 20) (p1.g 21) (hl := hl) (hb := hb) (hall := hall)) fun h1 n1 j1 o1 => ?_
 have j1 := sWI n1 5 (pB 0 0 pn)
 refine ⟨j1, ?_⟩
 refine dR [61] o1 fun j1 h1 => ?_
 refine AL (by kernel_rfl) (c0 _ _ ?_) _
 refine xn j0 <| rt h1 n1.fr ?_
 exact Bz (by exact Sv (by rfl) (by rfl) (by (simp [d0, q0, u0, n0]; done)) (by (simp [d0, q0, u0, n0]; done)) (by (simp [d0, q0, u0, n0]; done)) (by rfl) (by rfl))
 have n0 := d0
 try simp only [bz] at n0
 refine dR [20, 21, 22] p0 fun n0 u0 => ?_
 refine spe 48 u0 (fun n0 p0 => ?_) fun n0 q0 => ?_
 refine dR [23, 24, 25, 26, 27] p0 fun u0 h1 => ?_
 refine d1 28 ?_
 have u0 := o0.nf
 refine kcl h1 Mg (Ck _ _ u0.il false 1) ?_
 rintro h1 p0 ⟨n1, j1, rfl, o1, p1, m1⟩
 have p0 := u0.below o1.below
 have o1 := u0.dN p0 p1
 have p0 := u0.dN o1 m1
 refine ⟨_, rfl, fun o1 m1 => ?_⟩
 have o1 := sWI p0 5 (pB 0 0 pn)
 refine ⟨o1, ?_⟩
 refine dR [30] m1 fun o1 u0 => ?_
 have o1 := u0.setb (d := 56) (b := true) rfl (Aw n0)
 refine dR [31, 32, 33, 34, 35] o1 fun u0 m1 => ?_
 refine d1 36 ?_
 have u0 := p0.nf
 refine kcl m1 Mg (Ck _ _ u0.il true 1) ?_
 rintro m1 p0 ⟨o1, p1, rfl, h1, k1, c1⟩
 have p0 := u0.below h1.below
 have h1 := u0.dN p0 k1
 have p0 := u0.dN h1 c1
 refine ⟨_, rfl, fun h1 c1 => ?_⟩
 have h1 := sWI p0 5 (pB 0 0 pn)
 refine ⟨h1, ?_⟩
 refine dR [39] c1 fun h1 u0 => ?_
 have h1 := u0.setb (d := 65) (b := false) rfl (by rw [(Aw n0)]; rfl)
 refine dR [40, 41, 42, 43, 44] h1 fun u0 c1 => ?_
 refine d1 45 ?_
 have u0 := p0.nf
 refine kcl c1 Mg (Ck _ _ u0.il (decide ((dT.length : Int) = 0)) 1) ?_
 rintro c1 p0 ⟨h1, k1, rfl, m1, i1, t0⟩
 have p0 := u0.below m1.below
 have m1 := u0.dN p0 i1
 have p0 := u0.dN m1 t0
 refine ⟨_, rfl, fun m1 t0 => ?_⟩
 have m1 := sWI p0 5 (pB 0 0 pn)
 refine ⟨m1, ?_⟩
 refine dR [49] t0 fun m1 u0 => ?_
 refine dOr 50 [51, 52, 53] 54 (decide ((dB.length : Int) = 0)) u0 fun m1 t0 => ?_
 refine d1 55 ?_
 have m1 := p0.nf
 refine kcl t0 Mg (Ck _ _ m1.il ((decide (dK = 1)) || (decide ((dB.length : Int) = 0))) 1) ?_
 rintro t0 p0 ⟨u0, i1, rfl, c1, f1, v0⟩
 have p0 := m1.below c1.below
 have c1 := m1.dN p0 f1
 have p0 := m1.dN c1 v0
 refine ⟨_, rfl, fun c1 v0 => ?_⟩
 have c1 := sWI p0 5 (pB 0 0 pn)
 refine ⟨c1, ?_⟩
 refine d1 58 ?_
 have c1 := p0.nf
 refine kcl v0 Mg (Ck _ _ c1.il (!((decide (6 < (dC.length : Int))) || (dC.any (fun s : Tl => decide (6 < s.2.2.length))))) 21) ?_
 rintro v0 p0 ⟨m1, f1, rfl, t0, b1, z0⟩
 have p0 := c1.below t0.below
 have t0 := c1.dN p0 b1
 have p0 := c1.dN t0 z0
 refine ⟨_, rfl, fun t0 z0 => ?_⟩
 have t0 := sWI p0 5 (pB 0 0 pn)
 refine ⟨t0, ?_⟩
 refine d1 59 ?_
 refine bsl z0 p0 fun t0 c1 b1 v0 y0 => ?_
 have c1 := sWI y0 5 (pB 0 0 pn)
 refine ⟨c1, ?_⟩
 refine d1 60 ?_
 have c1 := y0.nf
 have y0 := c1.pub 1 (Bw 1 (some ⟨b1, 0, none⟩) 8 8 (My ([.func (.func 114) #[] #[.pointer (some ⟨k0, 0, none⟩), .pointer (some ⟨m0, 0, none⟩)], .func (.func 114) #[] #[.pointer (some ⟨h0, 0, none⟩), .pointer (some ⟨f0, 0, none⟩)], .func (.func 117) #[] #[.pointer (some ⟨b0, 0, none⟩)], .func (.func 114) #[] #[.pointer (some ⟨n1, 0, none⟩), .pointer (some ⟨j1, 0, none⟩)], .func (.func 114) #[] #[.pointer (some ⟨o1, 0, none⟩), .pointer (some ⟨p1, 0, none⟩)], .func (.func 114) #[] #[.pointer (some ⟨h1, 0, none⟩), .pointer (some ⟨k1, 0, none⟩)], .func (.func 114) #[] #[.pointer (some ⟨u0, 0, none⟩), .pointer (some ⟨i1, 0, none⟩)], .func (.func 114) #[] #[.pointer (some ⟨m1, 0, none⟩), .pointer (some ⟨f1, 0, none⟩)]])))
 refine kra v0 y0 ok79 (GA _ _ y0.il _ _ k0 ((decide (1 ≤ dK)) && (decide (dK ≤ 3))) m0 1 h0 (nmB dS) f0 20 b0 dK dL dS _ _ _ _ _ _ _ _ _ n1 false j1 1 o1 true p1 1 h1 (decide ((dT.length : Int) = 0)) k1 1 u0 ((decide (dK = 1)) || (decide ((dB.length : Int) = 0))) i1 1 m1 (!((decide (6 < (dC.length : Int))) || (dC.any (fun s : Tl => decide (6 < s.2.2.length))))) f1 21 (y0.g 0) (y0.g 6) (y0.g 7) (y0.g 8) (y0.g 9) (y0.g 1) (y0.g 2) (y0.g 3) (y0.g 4) (y0.g 10) (y0.g 11) (y0.g 12) (y0.g 13) (y0.g 14) (y0.g 15) (y0.g 16) (y0.g 17) (y0.g 18) (y0.g 19) (y0.g 20) (y0.g 21) (hl := hl) (hb := hb) (hall := hall)) fun c1 b1 t0 z0 => ?_
 have t0 := sWI b1 5 (pB 0 0 pn)
 refine ⟨t0, ?_⟩
 refine dR [61] z0 fun t0 c1 => ?_
 refine AL (by kernel_rfl) (c0 _ _ ?_) _
 refine xn j0 <| rt c1 b1.fr ?_
 exact Bz (by exact Sv (by rfl) (by rfl) (by first | (simp [d0, n0]; done) | (rw [Bool.eq_iff_iff]; simp [d0, n0] <;> omega)) (by (simp [d0, n0]; done)) (by (simp [d0, n0]; done)) (by rfl) (by rfl))
 refine dR [23, 24, 25, 26, 27] q0 fun c1 b1 => ?_
 refine d1 28 ?_
 have c1 := o0.nf
 refine kcl b1 Mg (Ck _ _ c1.il (decide (dL = 0)) 1) ?_
 rintro b1 o0 ⟨q0, t0, rfl, z0, y0, v0⟩
 have o0 := c1.below z0.below
 have z0 := c1.dN o0 y0
 have o0 := c1.dN z0 v0
 refine ⟨_, rfl, fun z0 v0 => ?_⟩
 have z0 := sWI o0 5 (pB 0 0 pn)
 refine ⟨z0, ?_⟩
 refine dR [30] v0 fun z0 c1 => ?_
 have z0 := c1.setb (d := 56) (b := false) rfl (Ai n0)
 refine dR [31, 32, 33, 34, 35] z0 fun c1 v0 => ?_
 refine d1 36 ?_
 have c1 := o0.nf
 refine kcl v0 Mg (Ck _ _ c1.il (decide ((dC.length : Int) = 0)) 1) ?_
 rintro v0 o0 ⟨z0, y0, rfl, b1, f1, m1⟩
 have o0 := c1.below b1.below
 have b1 := c1.dN o0 f1
 have o0 := c1.dN b1 m1
 refine ⟨_, rfl, fun b1 m1 => ?_⟩
 have b1 := sWI o0 5 (pB 0 0 pn)
 refine ⟨b1, ?_⟩
 refine dR [39] m1 fun b1 c1 => ?_
 have b1 := c1.setb (d := 65) (b := true) rfl (by rw [(Ai n0)]; rfl)
 refine dR [40, 41, 42, 43, 44] b1 fun c1 m1 => ?_
 refine d1 45 ?_
 have c1 := o0.nf
 refine kcl m1 Mg (Ck _ _ c1.il true 1) ?_
 rintro m1 o0 ⟨b1, f1, rfl, v0, i1, u0⟩
 have o0 := c1.below v0.below
 have v0 := c1.dN o0 i1
 have o0 := c1.dN v0 u0
 refine ⟨_, rfl, fun v0 u0 => ?_⟩
 have v0 := sWI o0 5 (pB 0 0 pn)
 refine ⟨v0, ?_⟩
 refine dR [49] u0 fun v0 c1 => ?_
 refine dOr 50 [51, 52, 53] 54 (decide ((dB.length : Int) = 0)) c1 fun v0 u0 => ?_
 refine d1 55 ?_
 have v0 := o0.nf
 refine kcl u0 Mg (Ck _ _ v0.il ((decide (dK = 1)) || (decide ((dB.length : Int) = 0))) 1) ?_
 rintro u0 o0 ⟨c1, i1, rfl, m1, k1, h1⟩
 have o0 := v0.below m1.below
 have m1 := v0.dN o0 k1
 have o0 := v0.dN m1 h1
 refine ⟨_, rfl, fun m1 h1 => ?_⟩
 have m1 := sWI o0 5 (pB 0 0 pn)
 refine ⟨m1, ?_⟩
 refine d1 58 ?_
 have m1 := o0.nf
 refine kcl h1 Mg (Ck _ _ m1.il (!((decide (6 < (dC.length : Int))) || (dC.any (fun s : Tl => decide (6 < s.2.2.length))))) 21) ?_
 rintro h1 o0 ⟨v0, k1, rfl, u0, p1, o1⟩
 have o0 := m1.below u0.below
 have u0 := m1.dN o0 p1
 have o0 := m1.dN u0 o1
 refine ⟨_, rfl, fun u0 o1 => ?_⟩
 have u0 := sWI o0 5 (pB 0 0 pn)
 refine ⟨u0, ?_⟩
 refine d1 59 ?_
 refine bsl o1 o0 fun u0 m1 p1 h1 j1 => ?_
 have m1 := sWI j1 5 (pB 0 0 pn)
 refine ⟨m1, ?_⟩
 refine d1 60 ?_
 have m1 := j1.nf
 have j1 := m1.pub 1 (Bw 1 (some ⟨p1, 0, none⟩) 8 8 (My ([.func (.func 114) #[] #[.pointer (some ⟨k0, 0, none⟩), .pointer (some ⟨m0, 0, none⟩)], .func (.func 114) #[] #[.pointer (some ⟨h0, 0, none⟩), .pointer (some ⟨f0, 0, none⟩)], .func (.func 117) #[] #[.pointer (some ⟨b0, 0, none⟩)], .func (.func 114) #[] #[.pointer (some ⟨q0, 0, none⟩), .pointer (some ⟨t0, 0, none⟩)], .func (.func 114) #[] #[.pointer (some ⟨z0, 0, none⟩), .pointer (some ⟨y0, 0, none⟩)], .func (.func 114) #[] #[.pointer (some ⟨b1, 0, none⟩), .pointer (some ⟨f1, 0, none⟩)], .func (.func 114) #[] #[.pointer (some ⟨c1, 0, none⟩), .pointer (some ⟨i1, 0, none⟩)], .func (.func 114) #[] #[.pointer (some ⟨v0, 0, none⟩), .pointer (some ⟨k1, 0, none⟩)]])))
 refine kra h1 j1 ok79 (GA _ _ j1.il _ _ k0 ((decide (1 ≤ dK)) && (decide (dK ≤ 3))) m0 1 h0 (nmB dS) f0 20 b0 dK dL dS _ _ _ _ _ _ _ _ _ q0 (decide (dL = 0)) t0 1 z0 (decide ((dC.length : Int) = 0)) y0 1 b1 true f1 1 c1 ((decide (dK = 1)) || (decide ((dB.length : Int) = 0))) i1 1 v0 (!((decide (6 < (dC.length : Int))) || (dC.any (fun s : Tl => decide (6 < s.2.2.length))))) k1 21 (j1.g 0) (j1.g 6) (j1.g 7) (j1.g 8) (j1.g 9) (j1.g 1) (j1.g 2) (j1.g 3) (j1.g 4) (j1.g 10) (j1.g 11) (j1.g 12) (j1.g 13) (j1.g 14) (j1.g 15) (j1.g 16) (j1.g 17) (j1.g 18) (j1.g 19) (j1.g 20) (j1.g 21) (hl := hl) (hb := hb) (hall := hall)) fun m1 p1 u0 o1 => ?_
 have u0 := sWI p1 5 (pB 0 0 pn)
 refine ⟨u0, ?_⟩
 refine dR [61] o1 fun u0 m1 => ?_
 refine AL (by kernel_rfl) (c0 _ _ ?_) _
 refine xn j0 <| rt m1 p1.fr ?_
 exact Bz (by exact Sv (by rfl) (by rfl) (by first | (simp [d0, n0]; done) | (rw [Bool.eq_iff_iff]; simp [d0, n0] <;> omega)) (by (simp [d0, n0]; done)) (by (simp [d0, n0]; done)) (by rfl) (by rfl))
theorem MY (w0 : World) (Z : Nat → Prop) (hZ : HZ w0 Z) (dK : Int) (dL : Int) (dS : ByteArray) (dTA : Option Addr) (dTc : Nat) (dT : List Nd) (dBA : Option Addr) (dBc : Nat) (dB : List Nd) (dCA : Option Addr) (dCc : Nat) (dC : List Tl) (hdT : N4 dTA dTc dT w0 Z) (hdB : N4 dBA dBc dB w0 Z) (hdC : (Bw 1 dCA dC.length dCc (CW dC)).φ w0 Z) (hdCs : (CG dC).φ w0 Z) :
    Calls Tryz.prog 50 [.agg #[.int .i64 dK, .int .i64 dL, .string dS, .slice dTA dT.length dTc, .slice dBA dB.length dBc, .slice dCA dC.length dCc]].toArray w0 (fun e w' => ∃ q0_0 : Nat, e = .returned (.func (.func 83) #[] #[.pointer (some ⟨q0_0, 0, none⟩)]) ∧ Fr A6 w0 w' ∧ (Ct q0_0 [.int .i64 dK, .int .i64 dL, .string dS, .slice dTA dT.length dTc, .slice dBA dB.length dBc, .slice dCA dC.length dCc]).φ w' (nxt Z w0 w')) := by
 have b0 := s0 (M := A6) hZ (zc hdT (zc hdB (zc hdC (zc hdCs zn))))
 refine AE Tryz.func50 rfl Tryz.ntmps50 rfl fun c0 d0 => ?_
 refine wsc fun c0 f0 => bxx d0 b0 fun c0 h0 i0 j0 k0 => ?_
 refine aw j0 f0 fun h0 c0 => ?_
 refine wsc fun f0 h0 => C8 sv c0 rfl rfl rfl (by decide) fun f0 j0 => ?_
 refine aw j0 h0 fun f0 c0 => ?_
 refine rt1 c0 ?_
 obtain ⟨c0, h0⟩ := k0.box_data (i := 0) rfl (fun _ h => h)
 have k0 := c0.data (Ct i0 [.int .i64 dK, .int .i64 dL, .string dS, .slice dTA dT.length dTc, .slice dBA dB.length dBc, .slice dCA dC.length dCc]) h0
 refine ⟨i0, ?_, k0.fr, ((k0.get (i := 4) rfl).imp Fl id)⟩
 exact cre rfl
theorem LN (w0 : World) (Z : Nat → Prop) (dg : Nat) (dK : Int) (dL : Int) (dS : ByteArray) (dTA : Option Addr) (dTc : Nat) (dT : List Nd) (dBA : Option Addr) (dBc : Nat) (dB : List Nd) (dCA : Option Addr) (dCc : Nat) (dC : List Tl) (hdT : N4 dTA dTc dT w0 Z) (hdB : N4 dBA dBc dB w0 Z) (hdC : (Bw 1 dCA dC.length dCc (CW dC)).φ w0 Z) (hdCs : (CG dC).φ w0 Z) (hdQ : (Ct dg [.int .i64 dK, .int .i64 dL, .string dS, .slice dTA dT.length dTc, .slice dBA dB.length dBc, .slice dCA dC.length dCc]).φ w0 Z) (hl : dC.length ≤ 100) (hb : ∀ s ∈ dC, s.2.2.length ≤ 100) :
    HV Tryz.prog 83 [.pointer (some ⟨dg, 0, none⟩)].toArray (fun x : Ag => #[.agg #[.int .i64 x.1.1, .int .i64 x.1.2], .slice x.2.1 x.2.2.2.length x.2.2.1]) (agL dC) Z w0 := by
 refine GJ Tryz.func83 rfl Tryz.ntmps83 rfl [n4 dTA dTc dT, n4 dBA dBc dB, Bw 1 dCA dC.length dCc (CW dC), CG dC, Ct dg [.int .i64 dK, .int .i64 dL, .string dS, .slice dTA dT.length dTc, .slice dBA dB.length dBc, .slice dCA dC.length dCc]] (by
  intro d hd
  simp only [AD, AG, or_false] at hd
  rcases hd with rfl | rfl | rfl | rfl | rfl
  exact hdT
  exact hdB
  exact hdC
  exact hdCs
  exact hdQ
  ) (fun lp jf jx w0 C0 M0 hY hds b0 c0 d0 => ?_)
 refine wsc fun b0 f0 => lR c0 fun b0 h0 => ?_
 refine BR sv h0 rfl rfl rfl (Bn (d0.get (i := 5) rfl) rfl) G0 rfl (by decide) fun b0 c0 => ?_
 refine lR c0 fun b0 h0 => ?_
 refine wn f0 <| A4 ?_
 refine AH (fun gn ga gw => ∃ i : Nat, (Reg ga 31 [(1000000, .bool false), (0, .func (.yield lp) #[] #[]), (8, .slice dCA dC.length dCc), (9, .int .i64 (dC.length : Int)), (10, .int .i64 (i : Int))]) ∧ (St w0 (ED w0) M0 gw [] [dJ jf (agP dC i) C0 M0 w0.heap.size, n4 dTA dTc dT, n4 dBA dBc dB, Bw 1 dCA dC.length dCc (CW dC), CG dC, Ct dg [.int .i64 dK, .int .i64 dL, .string dS, .slice dTA dT.length dTc, .slice dBA dB.length dBc, .slice dCA dC.length dCc]]) ∧ (i ≤ dC.length) ∧ (dC.length - i) = gn) _ ⟨0, (h0.sub (rc4 (rc rfl rnl))), d0, by omega, rfl⟩ ?_
 rintro h0 d0 f0 ⟨i, b0, c0, hi, i0⟩
 have i0 : i < dC.length → (Bm dC i).2.2.length ≤ 100 := fun h => hb _ (DT h)
 refine rR b0 fun i0 f0 => ?_
 refine Ac fun i0 b0 => wcd f0 (fun i0 d0 => ?_) fun i0 h0 => ?_
 refine Am <| xn b0 <| Ac fun b0 i0 => A4 ?_
 refine wsc fun b0 f0 => mv d0 fun b0 j0 => ?_
 refine ix i (i * 1) j0 (Cn (t := dC) (k := i) (c0.row (i := 3) rfl).2 (by omega)).some_ fun b0 d0 => ?_
 refine lde 0 (i * 1) d0 (Cn (t := dC) (k := i) (c0.row (i := 3) rfl).2 (by omega)) fun b0 j0 => ?_
 have b0 := c0.elT 4 i
 have d0 := b0.elA 4 i
 refine lR j0 fun b0 k0 => ?_
 refine wn f0 <| rR k0 fun f0 b0 => ?_
 refine A4 ?_
 have f0 := d0.forget 7
 have d0 := f0.forget 6
 refine AH (fun gn ga gw => ∃ j : Nat, (Reg ga 31 [(1000000, .bool false), (0, .func (.yield lp) #[] #[]), (8, .slice dCA dC.length dCc), (9, .int .i64 (dC.length : Int)), (10, .int .i64 (i : Int)), (3, .int .i64 (i : Int)), (16, .int .i64 ((Bm dC i).2.2.length : Int)), (17, .int .i64 (j : Int)), (15, .slice ((Bm dC i).1) ((Bm dC i).2.2.length) ((Bm dC i).2.1))]) ∧ (St w0 (ED w0) M0 gw [] [dJ jf (agQ (agP dC i) dC i j) C0 M0 w0.heap.size, n4 dTA dTc dT, n4 dBA dBc dB, Bw 1 dCA dC.length dCc (CW dC), CG dC, Ct dg [.int .i64 dK, .int .i64 dL, .string dS, .slice dTA dT.length dTc, .slice dBA dB.length dBc, .slice dCA dC.length dCc]]) ∧ (j ≤ (Bm dC i).2.2.length) ∧ ((Bm dC i).2.2.length - j) = gn) _ ⟨0, (b0.sub (rc4 (rc4 (rc rfl rnl)))), d0, by omega, rfl⟩ ?_
 rintro d0 b0 f0 ⟨j, k0, j0, hj, m0⟩
 have m0 := j0.data (Bw 1 ((Bm dC i).1) ((Bm dC i).2.2.length) ((Bm dC i).2.1) (B7 ((Bm dC i).2.2))) (GG (j0.get (i := 4) rfl) (show i < dC.length by omega)).1
 have j0 := m0.data (Cl ((Bm dC i).2.2)) (GG (m0.get (i := 4) rfl) (show i < dC.length by omega)).2
 refine rR k0 fun m0 f0 => ?_
 refine Ac fun m0 k0 => wcd f0 (fun m0 b0 => ?_) fun m0 d0 => ?_
 refine Am <| xn k0 <| Ac fun k0 m0 => A4 ?_
 refine wsc fun k0 f0 => mv b0 fun k0 n0 => ?_
 refine ix j (j * 1) n0 (BD (t := (Bm dC i).2.2) (k := j) (j0.row (i := 6) rfl).2 (by omega)).some_ fun k0 b0 => ?_
 refine lde 0 (j * 1) b0 (BD (t := (Bm dC i).2.2) (k := j) (j0.row (i := 6) rfl).2 (by omega)) fun k0 n0 => ?_
 have k0 := j0.el 7 j
 refine lR n0 fun b0 o0 => ?_
 refine wn f0 <| Ac fun f0 b0 => F0 ?_
 refine CI (B2 rfl rfl) o0 rfl rfl rfl (by decide) fun f0 n0 => ?_
 refine CI (B2 rfl rfl) n0 rfl rfl rfl (by decide) fun f0 o0 => ?_
 refine CI (B2 rfl rfl) o0 rfl rfl rfl (by decide) fun f0 n0 => ?_
 refine RP (ps := [(0, .tmp 23), (1, .tmp 24)]) (v := .agg #[.int .i64 (i : Int), .int .i64 (j : Int)]) (B2 rfl rfl) n0 rfl rfl rfl (fun _ => by kernel_rfl) (by decide) fun f0 o0 => ?_
 refine CI (B2 rfl rfl) o0 rfl rfl rfl (by decide) fun f0 n0 => ?_
 have f0 := k0.nf
 refine L4 (t := .tmp 22) (xs := [.tmp 25, .tmp 26]) (pre := agQ (agP dC i) dC i j) (i := 0) (ds0 := [n4 dTA dTc dT, n4 dBA dBc dB, Bw 1 dCA dC.length dCc (CW dC), CG dC, Ct dg [.int .i64 dK, .int .i64 dL, .string dS, .slice dTA dT.length dTc, .slice dBA dB.length dBc, .slice dCA dC.length dCc]]) hY rfl n0 f0 rfl rfl rfl rfl (by decide) (agX dC i j) rfl rfl (Ky (i := i) (j := j) (by omega) (by omega)) hds (fun k0 o0 p0 q0 => ?_) fun k0 o0 p0 q0 => ?_
 refine GX (B2 rfl rfl) p0 rfl rfl rfl (by decide) fun o0 k0 => ?_
 refine Fa ?_
 refine xn b0 <| CP (k0.ev rfl) ?_
 refine Am <| A7 <| xn m0 <| A0 ?_
 refine adi ((j + 1 : Nat) : Int) k0 fun m0 o0 => ?_
 refine mv o0 fun m0 k0 => ?_
 refine Ae ?_
 have m0 : agQ (agP dC i) dC i j ++ [(agX dC i j)] = agQ (agP dC i) dC i (j + 1) := rfl
 have o0 := q0
 rw [m0] at o0
 exact ⟨_, by omega, j + 1, (k0.sub (rc4 (rc4 (rc rfl rnl)))), o0, by omega, rfl⟩
 refine GX (B2 rfl rfl) p0 rfl rfl rfl (by decide) fun o0 k0 => ?_
 refine Fa ?_
 refine xn b0 <| CF (k0.ev rfl) ?_
 refine BV <| Bf <| AX <| AX <| Bf <| Bf <| AX <| AX <| Bf <| Kr k0 rfl rfl ?_
 exact IY q0 (i := 0) rfl (Ky (i := i) (j := j) (by omega) (by omega))
 refine xe ?_
 refine A7 <| xn i0 <| A0 ?_
 refine adi ((i + 1 : Nat) : Int) d0 fun i0 q0 => ?_
 refine mv q0 fun i0 d0 => ?_
 refine Ae ?_
 have i0 : agQ (agP dC i) dC i j = agP dC (i + 1) := by rw [show j = (Bm dC i).2.2.length by omega]; rfl
 have q0 := j0
 rw [i0] at q0
 have i0 := q0.forget 7
 have q0 := i0.forget 6
 exact ⟨_, by omega, i + 1, (d0.sub (rc4 (rc rfl rnl))), q0, by omega, rfl⟩
 refine xe ?_
 refine Jc h0 rfl rfl ?_
 exact ON c0 (i := 0) rfl (by rw [show i = dC.length by omega]; rfl)
theorem LM (w0 : World) (Z : Nat → Prop) (hZ : HZ w0 Z) (dK : Int) (dL : Int) (dS : ByteArray) (dTA : Option Addr) (dTc : Nat) (dT : List Nd) (dBA : Option Addr) (dBc : Nat) (dB : List Nd) (dCA : Option Addr) (dCc : Nat) (dC : List Tl) (hShp : Cu w0 Z) (hdT : N4 dTA dTc dT w0 Z) (hdB : N4 dBA dBc dB w0 Z) (hdC : (Bw 1 dCA dC.length dCc (CW dC)).φ w0 Z) (hdCs : (CG dC).φ w0 Z) (hl : dC.length ≤ 100 := by exact ax) (hb : ∀ s ∈ dC, s.2.2.length ≤ 100 := by exact ax) (hall : ∀ x ∈ tmD dK dT dB (B1 dC), sml x ∧ x.length ≤ 1000000 := by exact ax) (hsS : dS.size < 1000000 := by exact ax) :
    Calls Tryz.prog 19 [.agg #[.int .i64 dK, .int .i64 dL, .string dS, .slice dTA dT.length dTc, .slice dBA dB.length dBc, .slice dCA dC.length dCc]].toArray w0 (fun e w' => e = .returned (.int .i64 (scE dK dL dS dT dB dC)) ∧ Fr A6 w0 w') := by
 have b0 := s0 (M := A6) hZ (zc (d := Br) hShp (zc hdT (zc hdB (zc hdC (zc hdCs zn)))))
 refine FM Tryz.func19 rfl Tryz.ntmps19 rfl fun c0 d0 => ?_
 refine wsc fun c0 f0 => bxx d0 b0 fun c0 h0 i0 j0 k0 => ?_
 refine alc j0 k0 fun h0 c0 d0 b0 m0 => ?_
 refine wn f0 <| Ac fun f0 c0 => wsc fun f0 h0 => lR b0 fun f0 k0 => ?_
 have f0 := m0.nf
 refine kra k0 f0 ok49 (M3 _ _ f0.il dK dL dS _ _ _ _ _ _ _ _ _ (f0.g 0) (f0.g 1) (f0.g 2) (f0.g 3) (f0.g 4)) fun m0 b0 j0 n0 => ?_
 refine aw n0 h0 fun j0 m0 => ?_
 refine rR m0 fun h0 j0 => ?_
 refine wce j0 (fun h0 m0 => ?_) fun h0 n0 => ?_
 refine Am <| xn c0 <| Ac fun c0 h0 => rR m0 fun c0 j0 => ?_
 refine wce j0 (fun c0 m0 => ?_) fun c0 f0 => ?_
 refine Am <| xn h0 <| Ac fun h0 c0 => wsc fun h0 j0 => lR m0 fun h0 k0 => ?_
 have h0 := b0.nf
 refine kcl k0 ok50 (MY _ _ h0.il dK dL dS _ _ _ _ _ _ _ _ _ (h0.g 1) (h0.g 2) (h0.g 3) (h0.g 4)) ?_
 rintro k0 m0 ⟨o0, rfl, p0, q0⟩
 have m0 := h0.below p0.below
 have p0 := h0.dN m0 q0
 refine ⟨_, rfl, fun m0 q0 => ?_⟩
 refine wn j0 <| A4 ?_
 have j0 := p0.nf
 have p0 : Reg m0 26 [(1000000, .bool false), (1, .pointer (some ⟨i0, 0, none⟩)), (2, .pointer (some ⟨d0, 0, none⟩)), (16, .func (.func 83) #[] #[.pointer (some ⟨o0, 0, none⟩)])] := (q0.sub (rc2 (rc rfl (rc rfl rnl))))
 refine Hu (xs := agL dC) (encs := (fun x : Ag => #[.agg #[.int .i64 x.1.1, .int .i64 x.1.2], .slice x.2.1 x.2.2.2.length x.2.2.1])) (p0.ev rfl) ok83 (LN _ (imm Z w0 [.box i0 25 [.int .i64 dK, .int .i64 dL, .string dS, .slice dTA dT.length dTc, .slice dBA dB.length dBc, .slice dCA dC.length dCc], .box d0 31 [.int .i64 0]] _) o0 dK dL dS _ _ _ _ _ _ _ _ _ (j0.get (i := 1) rfl) (j0.get (i := 2) rfl) (j0.get (i := 3) rfl) (j0.get (i := 4) rfl) (j0.get (i := 5) rfl) (by assumption) (by assumption)) (fun _ => rfl) j0 (fun _ h => h) (fun (pre : List Ag) (mm : List Res) => ∃ ev : Int, mm = [.box i0 25 [.int .i64 dK, .int .i64 dL, .string dS, .slice dTA dT.length dTc, .slice dBA dB.length dBc, .slice dCA dC.length dCc], .box d0 31 [.int .i64 ev]] ∧ (ev = 0) ∧ (∀ y ∈ pre, poP dS y.2.2.2 = 0)) (fun cc (pre : List Ag) (mm : List Res) => cc = Code.ret ∧ ∃ ev : Int, mm = [.box i0 25 [.int .i64 dK, .int .i64 dL, .string dS, .slice dTA dT.length dTc, .slice dBA dB.length dBc, .slice dCA dC.length dCc], .box d0 31 [.int .i64 ev]] ∧ (frE ((agL dC).map fun y => poP dS y.2.2.2) = ev)) ⟨0, rfl, rfl, (fun _ h => by cases h)⟩ ?_ ?_ ?_
 rintro j0 pre x q0 m1 hp ⟨ev, rfl, hev, hz⟩ m0
 obtain ⟨ia, ib, hia, hib, rfl⟩ := ag_at hp
 have hxa : (agX dC ia ib).2.2.2 ∈ tmD dK dT dB (B1 dC) := by unfold tmD; rw [Aq (by omega), Aq (by omega), At (by omega)]; exact ag_in hia hib
 obtain ⟨hxs, hxl⟩ := hall _ hxa
 refine (?_ : ∀ h0, Reg h0 26 [(18, .slice ((agX dC ia ib).2.1) ((agX dC ia ib).2.2.2.length) ((agX dC ia ib).2.2.1)), (17, .agg #[.int .i64 ((agX dC ia ib).1.1), .int .i64 ((agX dC ia ib).1.2)]), (1000000, .bool false), (1, .pointer (some ⟨i0, 0, none⟩)), (2, .pointer (some ⟨d0, 0, none⟩)), (16, .func (.func 83) #[] #[.pointer (some ⟨o0, 0, none⟩)])] → Code.wpIn (rI j0) 0 _ _ _ h0 q0) _ (Ee p0 (by decide) (by decide) rfl)
 intro h0 q0
 refine BH (by kernel_rfl) (B6 (fun _ _ h => h)) ?_
 refine asg q0 fun h0 j0 => ?_
 refine Ae ?_
 have h0 := m0.nf
 refine AC ⟨_, _, 6, h0, rfl, (fun _ h => False.elim h), (fun _ h => False.elim h), fun m0 q0 => ?_⟩
 have m0 := q0.data (n4 ((agX dC ia ib).2.1) ((agX dC ia ib).2.2.1) ((agX dC ia ib).2.2.2)) (SP (GG (q0.get (i := 4) rfl) hia).2 hib)
 refine wpIn_block ?_
 refine BM fun q0 h0 => ?_
 refine BH (by kernel_rfl) (B6 (BE Cf)) ?_
 refine lR j0 fun q0 o0 => ?_
 have q0 := m0.nf
 refine kra o0 q0 ok51 (J7 _ _ q0.il dS _ _ ((agX dC ia ib).2.2.2) (q0.g 0) (q0.g 7)) fun m0 j0 d0 i0 => ?_
 refine aw i0 h0 fun d0 m0 => ?_
 refine BM fun h0 d0 => ?_
 refine BH (by kernel_rfl) (B6 (BE Cf)) ?_
 refine lR m0 fun h0 i0 => ?_
 refine wn d0 <| spe 24 i0 (fun d0 h0 => ?_) fun d0 m0 => ?_
 refine Dh (h0.ev rfl) ?_
 refine GH ?_
 refine A7 ?_
 have h0 := j0.nf
 exact ⟨_, _, 6, h0, rfl, _, rfl, hev, On hz (by assumption)⟩
 refine Dx (m0.ev rfl) ?_
 refine BM fun h0 d0 => ?_
 refine BH (by kernel_rfl) (B6 (BE Cf)) ?_
 refine mv m0 fun h0 i0 => ?_
 refine sto 1 i0 j0 fun h0 m0 q0 o0 => ?_
 refine wn d0 <| wpIn_ret ?_
 refine Bf ?_
 have d0 := o0.nf
 exact ⟨_, _, 6, d0, rfl, rfl, _, rfl, Ja (f := fun y : Ag => poP dS y.2.2.2) hp hz (by assumption)⟩
 rintro d0 m1 o0 ⟨ev, rfl, hev, hz⟩ q0
 have o0 := DG p0 d0
 refine A7 <| xn c0 <| wsc fun c0 d0 => sto 1 o0 q0 fun c0 m0 h0 i0 => ?_
 refine wn d0 <| BV ?_
 have d0 := i0.nf
 obtain ⟨i0, m0⟩ := d0.shut (i := 6) rfl [] (fun _ h => by cases h)
 refine Fx (.inl rfl) h0 rfl i0 (Tx h0 rfl rfl (D8 (m0.res (i := 1) rfl) rfl) CX rfl) ?_
 refine ⟨?_, m0.fr⟩
 exact cre (Bz (by (unfold scE; first | (rw [At (by assumption)]; done) | (rw [Aq (AR (by omega)), At (by assumption)]; done) | (rw [Aq (AR (by omega)), Aq (AR (by omega))]; first | exact hr.symm | exact (Fb hz).symm | (rw [hr]; done)))))
 rintro m0 cc pre m1 i0 hpre ⟨rfl, ev, rfl, hr⟩ h0
 have i0 := DG p0 m0
 refine BV <| Bf <| AX ?_
 have m0 := h0.nf
 obtain ⟨h0, p0⟩ := m0.shut (i := 6) rfl [] (fun _ h => by cases h)
 refine Fx (.inl rfl) i0 rfl h0 (Tx i0 rfl rfl (D8 (p0.res (i := 1) rfl) rfl) CX rfl) ?_
 refine ⟨?_, p0.fr⟩
 exact cre (Bz (by (unfold scE; first | (rw [At (by assumption)]; done) | (rw [Aq (AR (by omega)), At (by assumption)]; done) | (rw [Aq (AR (by omega)), Aq (AR (by omega))]; first | exact hr.symm | exact (Fb hz).symm | (rw [hr]; done)))))
 refine wsc fun p0 h0 => sto 1 f0 b0 fun p0 i0 m0 d0 => ?_
 refine wn h0 <| BV <| AX <| Kc (.inl rfl) m0 rfl (Tx m0 rfl rfl (D8 (d0.res (i := 1) rfl) rfl) CX rfl) ?_
 refine ⟨?_, d0.fr⟩
 exact cre (Bz (by (unfold scE; first | (rw [At (by assumption)]; done) | (rw [Aq (AR (by omega)), At (by assumption)]; done) | (rw [Aq (AR (by omega)), Aq (AR (by omega))]; first | exact hr.symm | exact (Fb hz).symm | (rw [hr]; done)))))
 refine wsc fun d0 m0 => mv n0 fun d0 h0 => ?_
 refine sto 1 h0 b0 fun d0 n0 i0 p0 => ?_
 refine wn m0 <| BV <| AX <| Kc (.inl rfl) i0 rfl (Tx i0 rfl rfl (D8 (p0.res (i := 1) rfl) rfl) CX rfl) ?_
 refine ⟨?_, p0.fr⟩
 exact cre (Bz (by (unfold scE; first | (rw [At (by assumption)]; done) | (rw [Aq (AR (by omega)), At (by assumption)]; done) | (rw [Aq (AR (by omega)), Aq (AR (by omega))]; first | exact hr.symm | exact (Fb hz).symm | (rw [hr]; done)))))
theorem Ji (w0 : World) (Z : Nat → Prop) (hZ : HZ w0 Z) (n : Int)  :
    Calls Tryz.prog 153 [.int .i64 n].toArray w0 (fun e w' => e = .returned (.int .i64 (As n)) ∧ Fr A6 w0 w') := by
 have b0 := s0 (M := A6) hZ zn
 refine AE Tryz.func153 rfl Tryz.ntmps153 rfl fun c0 d0 => ?_
 refine rR d0 fun c0 f0 => ?_
 refine wsc fun c0 d0 => mv f0 fun c0 h0 => ?_
 refine r_min sv h0 rfl rfl rfl rfl rfl (by decide) fun c0 f0 => ?_
 refine LY sv f0 rfl rfl rfl rfl rfl (by decide) fun c0 h0 => ?_
 refine aw h0 d0 fun c0 f0 => ?_
 refine rt f0 b0.fr ?_
 exact Bz (by unfold As; omega)
theorem Iz (w0 : World) (Z : Nat → Prop) (hZ : HZ w0 Z) (tA : Option Addr) (tc : Nat) (t : List Nd) (b : Int) (fr : Int) (hShp : Cu w0 Z) (ht : N4 tA tc t w0 Z) (hsm : sml t := by exact ax) (hl : t.length ≤ 1000000 := by exact ax) :
    Calls Tryz.prog 137 [.slice tA t.length tc, .int .i64 b, .int .i64 fr].toArray w0 (fun e w' => ∃ (rA0 : Option Addr) (rc0 : Nat), e = .returned (.tuple #[.slice rA0 (sfA t b fr).length rc0, .int .i64 (sfE t b fr)]) ∧ Fr A6 w0 w' ∧ (Res.row rA0 (sfA t b fr).length rc0 30 4 (Cd (sfA t b fr))).holds w' ∧ (∀ k, (Res.row rA0 (sfA t b fr).length rc0 30 4 (Cd (sfA t b fr))).blk = some k → w0.heap.size ≤ k)) := by
 have b0 := s0 (M := A6) hZ (zc (d := Br) hShp (zc ht zn))
 refine FM Tryz.func137 rfl Tryz.ntmps137 rfl fun c0 d0 => ?_
 refine wsc fun c0 f0 => bxx d0 b0 fun c0 h0 i0 j0 k0 => ?_
 refine bxx j0 k0 fun h0 c0 d0 b0 m0 => ?_
 refine lR b0 fun h0 k0 => ?_
 refine wn f0 <| wsc fun f0 h0 => mv k0 fun f0 b0 => ?_
 have f0 : St w0 Z A6 c0 [.box i0 3 [.int .i64 b], .box d0 3 [.int .i64 fr]] [Br, n4 tA tc t] := m0
 refine kra b0 f0 Vb (DP _ _ f0.il _ _ _ (f0.g 0) (f0.g 1)) fun m0 c0 k0 j0 => ?_
 refine alc j0 c0 fun k0 m0 f0 b0 n0 => ?_
 refine sto 2 b0 n0 fun m0 k0 j0 c0 => ?_
 refine wn h0 <| Ac fun h0 m0 => rR j0 fun h0 n0 => ?_
 refine wce n0 (fun h0 j0 => ?_) fun h0 b0 => ?_
 have hc := h0
 refine Am <| xn m0 <| Ac fun m0 h0 => ?_
 obtain ⟨m0, n0, o0⟩ := c0.agree
 refine Fz (S := (sW k0 m0 [cel d0 0 (.int .i64 fr)])) (n := 7) [6] J9 rfl o0 (A5 IG) fun n0 p0 q0 t0 u0 => ?_
 have n0 := sWI u0 2 (pc 1 0 pn)
 refine dlt 2 rfl p0 j0 (AJ rfl) (fun x hx => BR (sy j0) j0 rfl rfl rfl (hx.c 0) Bl rfl (by decide) gt) n0 fun o0 v0 => ?_
 refine Eg (i := 0) (by kernel_rfl) ?_
 refine Hj (i := 0) (CY rfl (AJ rfl)) v0 u0 rfl rfl rfl rfl rfl Bl rfl (by decide) fun o0 n0 => ?_
 have o0 := sWI u0 2 (pc 1 0 pn)
 refine ⟨fun _ _ => o0, ?_⟩
 refine Eg (i := 1) (by kernel_rfl) ?_
 have o0 : St w0 Z A6 t0 [.box i0 3 [.int .i64 b], .box d0 3 [.int .i64 fr], .box f0 31 [.int .i64 (chk t)]] [Br, n4 tA tc t, dAg k0 m0] := u0
 refine kra n0 o0 ok153 (Ji _ _ o0.il b) fun u0 t0 v0 j0 => ?_
 have v0 := sWI t0 2 (pc 1 0 pn)
 refine ⟨fun _ _ => v0, ?_⟩
 refine Eg (i := 3) (by kernel_rfl) ?_
 have v0 : St w0 Z A6 u0 [.box i0 3 [.int .i64 b], .box d0 3 [.int .i64 fr], .box f0 31 [.int .i64 (chk t)]] [Br, n4 tA tc t, dAg k0 m0] := t0
 refine kra j0 v0 ok153 (Ji _ _ v0.il fr) fun t0 u0 o0 n0 => ?_
 have o0 := sWI u0 2 (pc 1 0 pn)
 refine ⟨fun _ _ => o0, ?_⟩
 refine dta 4 rfl p0 n0 (AJ rfl) (fun x => LY (sy n0) n0 rfl rfl rfl rfl rfl (by decide) gt) fun o0 t0 => ?_
 refine Eg (i := 5) (by kernel_rfl) ?_
 refine sto 0 t0 u0 fun o0 n0 p0 v0 => ?_
 have n0 := sWI v0 2 (pc 1 0 pn)
 refine ⟨fun _ _ => n0, ?_⟩
 refine Eg (i := 6) (by kernel_rfl) ?_
 refine sto 1 p0 v0 fun n0 o0 t0 u0 => ?_
 refine ⟨fun h => absurd h (by decide), ?_⟩
 refine GC (by kernel_rfl) (q0 _ _ ?_) _
 refine xn h0 <| wsc fun h0 q0 => mv t0 fun h0 o0 => ?_
 have h0 := u0.nilrow 30 4
 refine BL (f := Eb) (i := 3) ([]) t sv o0 h0 rfl rfl rfl rfl rfl Cq (Dz _) Au Qj rfl rfl (h0.row (i := 1) rfl).2.news rfl (by (simp only [Ad, Aj]; omega)) (by decide) fun u0 t0 n0 v0 p0 j0 x0 => ?_
 have p0 : (([]) ++ t : List Nd).length = t.length := by (simp only [Ab, Ah, Ad, Aj]; omega)
 refine alc j0 x0 fun p0 t0 u0 h0 o0 => ?_
 refine sto 4 h0 o0 fun t0 p0 x0 j0 => ?_
 refine wn q0 <| Ac fun q0 t0 => wsc fun q0 o0 => mv x0 fun q0 h0 => ?_
 have q0 : St w0 Z A6 p0 [.box i0 3 [.int .i64 (As b)], .box d0 3 [.int .i64 (max 0 (As fr))], .box f0 31 [.int .i64 (chk t)], .row n0 ((([]) ++ t : List Nd).length) v0 30 4 (Cd (([]) ++ t)), .box u0 22 [.slice n0 ((([]) ++ t : List Nd).length) v0]] [Br, n4 tA tc t, dAg k0 m0] := j0
 refine kcl h0 ok154 (Hf _ _ q0.il _ _ _ (q0.g 1)) ?_
 rintro h0 j0 ⟨p0, rfl, x0, y0⟩
 have h0 := q0.below x0.below
 have x0 := q0.dN h0 y0
 refine ⟨_, rfl, fun h0 y0 => ?_⟩
 refine wn o0 <| A4 ?_
 have o0 : St w0 Z A6 j0 [.box i0 3 [.int .i64 (As b)], .box d0 3 [.int .i64 (max 0 (As fr))], .box f0 31 [.int .i64 (chk t)], .row n0 ((([]) ++ t : List Nd).length) v0 30 4 (Cd (([]) ++ t)), .box u0 22 [.slice n0 ((([]) ++ t : List Nd).length) v0]] [Br, n4 tA tc t, dAg k0 m0, Ct p0 [.slice tA t.length tc]] := x0
 have x0 : Reg h0 74 [(1000000, .bool false), (4, .pointer (some ⟨i0, 0, none⟩)), (5, .pointer (some ⟨d0, 0, none⟩)), (6, .slice none 0 0), (7, .int .i64 0), (8, .pointer (some ⟨f0, 0, none⟩)), (9, .pointer (some ⟨u0, 0, none⟩)), (26, .func (.func 161) #[] #[.pointer (some ⟨p0, 0, none⟩)])] := (y0.sub (rc4 (rc2 (rc rfl (rc rfl rnl)))))
 refine Hu (xs := Cx t) (encs := (fun x : Int × Int => #[.int .i64 x.1, .int .i64 x.2])) (x0.ev rfl) ok161 (HK _ (imm Z w0 [.box i0 3 [.int .i64 (As b)], .box d0 3 [.int .i64 (max 0 (As fr))], .box f0 31 [.int .i64 (chk t)], .row n0 ((([]) ++ t : List Nd).length) v0 30 4 (Cd (([]) ++ t)), .box u0 22 [.slice n0 ((([]) ++ t : List Nd).length) v0]] _) p0 tA tc t (o0.get (i := 0) rfl) (o0.get (i := 1) rfl) (o0.get (i := 3) rfl) (by assumption) (by assumption) (by assumption)) (fun _ => rfl) o0 (fun _ h => h) (fun (pre : List (Int × Int)) (mm : List Res) => ∃ Ao : Option Addr, ∃ co : Nat, mm = [.box i0 3 [.int .i64 (As b)], .box d0 3 [.int .i64 (max 0 (As fr))], .box f0 31 [.int .i64 ((Ba (As b) (max 0 (As fr)) (t, chk t) pre).2)], .row Ao (((Ba (As b) (max 0 (As fr)) (t, chk t) pre).1).length) co 30 4 (Cd ((Ba (As b) (max 0 (As fr)) (t, chk t) pre).1)), .box u0 22 [.slice Ao (((Ba (As b) (max 0 (As fr)) (t, chk t) pre).1).length) co]]) (fun _ _ _ => False) ⟨n0, v0, rfl⟩ ?_ ?_ ?_
 rintro o0 pre x v0 m1 hp ⟨Ao, co, rfl⟩ n0
 obtain ⟨xi, xj, rfl, hxi, hxj⟩ := JU hc hp
 refine (?_ : ∀ y0, Reg y0 74 [(28, .int .i64 (xj : Int)), (27, .int .i64 (xi : Int)), (1000000, .bool false), (4, .pointer (some ⟨i0, 0, none⟩)), (5, .pointer (some ⟨d0, 0, none⟩)), (6, .slice none 0 0), (7, .int .i64 0), (8, .pointer (some ⟨f0, 0, none⟩)), (9, .pointer (some ⟨u0, 0, none⟩)), (26, .func (.func 161) #[] #[.pointer (some ⟨p0, 0, none⟩)])] → Code.wpIn (rI o0) 0 _ _ _ y0 v0) _ (Ee x0 (by decide) (by decide) rfl)
 intro y0 o0
 have hfl : (Ba (As b) (max 0 (As fr)) (t, chk t) pre).1.length = t.length := Sf (As b) (max 0 (As fr)) (t, chk t) pre
 have hcb : -1000 ≤ As b ∧ As b ≤ 1000 := by unfold As; omega
 have hcf : -1000 ≤ As fr ∧ As fr ≤ 1000 := by unfold As; omega
 have hfN := fold_N (f := max 0 (As fr)) (e := chk t) hc hcb (List.IsPrefix.trans (List.prefix_append _ _) hp) xi
 refine BM fun y0 h0 => ?_
 refine BH (by kernel_rfl) (B6 (B6 (fun _ _ h => h))) ?_
 refine aw o0 h0 fun y0 j0 => ?_
 refine BH (by kernel_rfl) (B6 (fun _ _ h => h)) ?_
 refine asg j0 fun h0 y0 => ?_
 refine Ae ?_
 have h0 : St w0 Z A6 v0 [.box i0 3 [.int .i64 (As b)], .box d0 3 [.int .i64 (max 0 (As fr))], .box f0 31 [.int .i64 ((Ba (As b) (max 0 (As fr)) (t, chk t) pre).2)], .row Ao (((Ba (As b) (max 0 (As fr)) (t, chk t) pre).1).length) co 30 4 (Cd ((Ba (As b) (max 0 (As fr)) (t, chk t) pre).1)), .box u0 22 [.slice Ao (((Ba (As b) (max 0 (As fr)) (t, chk t) pre).1).length) co]] [Br, n4 tA tc t, dAg k0 m0, Ct p0 [.slice tA t.length tc], dAg v0 (imm Z w0 [.box i0 3 [.int .i64 (As b)], .box d0 3 [.int .i64 (max 0 (As fr))], .box f0 31 [.int .i64 ((Ba (As b) (max 0 (As fr)) (t, chk t) pre).2)], .row Ao (((Ba (As b) (max 0 (As fr)) (t, chk t) pre).1).length) co 30 4 (Cd ((Ba (As b) (max 0 (As fr)) (t, chk t) pre).1)), .box u0 22 [.slice Ao (((Ba (As b) (max 0 (As fr)) (t, chk t) pre).1).length) co]] v0)] := n0
 refine AC ⟨_, _, 4, h0, rfl, (fun _ h => False.elim h), (fun _ h => False.elim h), fun n0 v0 => ?_⟩
 refine wpIn_block ?_
 refine BM fun h0 j0 => ?_
 refine BH (by kernel_rfl) (B6 (BE Cf)) ?_
 refine lR y0 fun h0 o0 => ?_
 refine ix xi (xi * 4) o0 (Da (t := (Ba (As b) (max 0 (As fr)) (t, chk t) pre).1) (k := xi) (v0.res (i := 3) rfl) (by omega)).some_ fun h0 y0 => ?_
 refine aw y0 j0 fun h0 o0 => ?_
 refine BM fun j0 h0 => ?_
 refine BM fun j0 y0 => ?_
 obtain ⟨j0, q0, z0⟩ := v0.agree
 refine Ks (S := (sW n0 j0 [cel d0 0 (.int .i64 (max 0 (As fr))), (Res.row Ao (((Ba (As b) (max 0 (As fr)) (t, chk t) pre).1).length) co 30 4 (Cd ((Ba (As b) (max 0 (As fr)) (t, chk t) pre).1))).holds])) (k := 15) J9 rfl (by kernel_rfl) z0 (A5 (A5 (B3 Ha))) (B6 (B6 (BE Cf))) fun q0 v0 b1 c1 d1 => ?_
 have q0 := sWI d1 5 (pc 1 0 (pr 3 pn))
 refine dR [0] o0 fun z0 f1 => ?_
 refine dt 1 rfl v0 f1 (AJ rfl) (fun x hx => Ew (sy f1) f1 rfl rfl rfl (Da (t := (Ba (As b) (max 0 (As fr)) (t, chk t) pre).1) (k := xi) (d1.res (i := 3) rfl) (by omega)).some_ (by decide) gt) q0 fun z0 o0 => ?_
 refine dt 2 rfl v0 o0 (AJ rfl) (fun x hx => CB (j' := xi * 4) (sy o0) o0 rfl rfl rfl (Da (t := (Ba (As b) (max 0 (As fr)) (t, chk t) pre).1) (k := xi) (d1.res (i := 3) rfl) (by omega)).some_ Ar rfl sz3 rfl rfl (by decide) gt) q0 fun z0 f1 => ?_
 refine dle 3 0 (xi * 4) f1 (fun x hx => Da (t := (Ba (As b) (max 0 (As fr)) (t, chk t) pre).1) (k := xi) (hx.r 1) (by omega)) fun z0 o0 => ?_
 refine dR [4, 5] o0 fun z0 f1 => ?_
 refine d_or 6 [7, 8, 9, 10, 11, 12, 13] 14 (decide ((((nth ((Ba (As b) (max 0 (As fr)) (t, chk t) pre).1) xi).N) - (xj : Int)) < (max 0 (As fr)))) v0 f1 q0 (fun z0 o0 h1 => ?_) fun i1 j1 => ?_
 have i1 := He z0
 have z0 := A9 i1
 refine dR [6] o0 fun z0 i1 => ?_
 refine dt 7 rfl v0 i1 (wt i1) (fun x hx => Ew (sy i1) i1 rfl rfl rfl (Da (t := (Ba (As b) (max 0 (As fr)) (t, chk t) pre).1) (k := xi) (d1.res (i := 3) rfl) (by omega)).some_ (by decide) gt) q0 fun z0 o0 => ?_
 refine dt 8 rfl v0 o0 (wt o0) (fun x hx => CB (j' := xi * 4 + 1) (sy o0) o0 rfl rfl rfl (Da (t := (Ba (As b) (max 0 (As fr)) (t, chk t) pre).1) (k := xi) (d1.res (i := 3) rfl) (by omega)).some_ Ar rfl sz3 rfl rfl (by decide) gt) q0 fun z0 i1 => ?_
 refine dle 9 1 (xi * 4) i1 (fun x hx => Da (t := (Ba (As b) (max 0 (As fr)) (t, chk t) pre).1) (k := xi) (hx.r 1) (by omega)) fun z0 o0 => ?_
 refine dR [10] o0 fun z0 i1 => ?_
 refine dt 11 rfl v0 i1 (wt i1) (fun x hx => P3 (z := (((nth ((Ba (As b) (max 0 (As fr)) (t, chk t) pre).1) xi).N) - (xj : Int))) (sy i1) i1 rfl rfl rfl rfl (by decide) (by omega) (by omega) (by omega) gt) q0 fun z0 o0 => ?_
 refine dR [12, 13, 14] o0 fun z0 i1 => ?_
 exact h1.fin i1
 refine AL (by kernel_rfl) (b1 _ _ ?_) _
 refine xn y0 <| spg 46 j1 (fun y0 b1 => ?_) fun y0 i1 => ?_
 have j1 := y0
 try simp only [bz] at j1
 refine Dx (b1.ev rfl) ?_
 refine wpIn_exit ?_
 refine EW ?_
 refine EH ?_
 have b1 : St w0 Z A6 c1 [.box i0 3 [.int .i64 (As b)], .box d0 3 [.int .i64 (max 0 (As fr))], .box f0 31 [.int .i64 ((Ba (As b) (max 0 (As fr)) (t, chk t) pre).2)], .row Ao (((Ba (As b) (max 0 (As fr)) (t, chk t) pre).1).length) co 30 4 (Cd ((Ba (As b) (max 0 (As fr)) (t, chk t) pre).1)), .box u0 22 [.slice Ao (((Ba (As b) (max 0 (As fr)) (t, chk t) pre).1).length) co]] [Br, n4 tA tc t, dAg k0 m0, Ct p0 [.slice tA t.length tc], dAg n0 (imm Z w0 [.box i0 3 [.int .i64 (As b)], .box d0 3 [.int .i64 (max 0 (As fr))], .box f0 31 [.int .i64 ((Ba (As b) (max 0 (As fr)) (t, chk t) pre).2)], .row Ao (((Ba (As b) (max 0 (As fr)) (t, chk t) pre).1).length) co 30 4 (Cd ((Ba (As b) (max 0 (As fr)) (t, chk t) pre).1)), .box u0 22 [.slice Ao (((Ba (As b) (max 0 (As fr)) (t, chk t) pre).1).length) co]] n0), dAg n0 j0] := d1
 exact ⟨_, _, 4, b1, rfl, _, _, (by rw [Gs, V8 (by omega)])⟩
 have b1 := CU y0
 have j1 := He b1
 have b1 := A9 j1
 have b1 := CT y0
 have y0 := Ak b1
 refine Dh (i1.ev rfl) ?_
 refine GH ?_
 refine xn h0 <| BM fun h0 y0 => ?_
 obtain ⟨h0, b1, j1⟩ := d1.agree
 refine Jd (S := (sW c1 h0 [cel i0 0 (.int .i64 (As b)), (Res.row Ao (((Ba (As b) (max 0 (As fr)) (t, chk t) pre).1).length) co 30 4 (Cd ((Ba (As b) (max 0 (As fr)) (t, chk t) pre).1))).holds])) (k := 9) [8] J9 rfl (by kernel_rfl) j1 (A5 (B3 Ha)) (B6 (BE Cf)) fun b1 d1 h1 z0 o0 => ?_
 have z0 := sWI o0 6 (pc 0 0 (pr 3 pn))
 refine dtv 0 d1 i1 fun b1 j1 => ?_
 refine dta 1 rfl d1 j1 (AJ rfl) (fun x => Ew (sy j1) j1 rfl rfl rfl (Da (t := (Ba (As b) (max 0 (As fr)) (t, chk t) pre).1) (k := xi) (o0.res (i := 3) rfl) (by omega)).some_ (by decide) gt) fun b1 i1 => ?_
 refine dta 2 rfl d1 i1 (AJ rfl) (fun x => CB (j' := xi * 4 + 1) (sy i1) i1 rfl rfl rfl (Da (t := (Ba (As b) (max 0 (As fr)) (t, chk t) pre).1) (k := xi) (o0.res (i := 3) rfl) (by omega)).some_ Ar rfl sz3 rfl rfl (by decide) gt) fun b1 j1 => ?_
 refine dlt 3 rfl d1 j1 (AJ rfl) (fun x hx => G8 (sy j1) j1 rfl rfl rfl 1 (xi * 4) (Da (t := (Ba (As b) (max 0 (As fr)) (t, chk t) pre).1) (k := xi) (hx.r 1) (by omega)) rfl rfl Bl rfl (by decide) gt) z0 fun b1 i1 => ?_
 refine dlt 4 rfl d1 i1 (AJ rfl) (fun x hx => BR (sy i1) i1 rfl rfl rfl (hx.c 0) Bl rfl (by decide) gt) z0 fun b1 j1 => ?_
 refine dta 5 rfl d1 j1 (AJ rfl) (fun x => IB (z := (((nth ((Ba (As b) (max 0 (As fr)) (t, chk t) pre).1) xi).N) + (As b))) (sy j1) j1 rfl rfl rfl rfl (by decide) (by omega) (by omega) (by omega) gt) fun b1 i1 => ?_
 refine dta 6 rfl d1 i1 (AJ rfl) (fun x => Ew (sy i1) i1 rfl rfl rfl (Da (t := (Ba (As b) (max 0 (As fr)) (t, chk t) pre).1) (k := xi) (o0.res (i := 3) rfl) (by omega)).some_ (by decide) gt) fun b1 j1 => ?_
 refine dta 7 rfl d1 j1 (AJ rfl) (fun x => CB (j' := xi * 4 + 1) (sy j1) j1 rfl rfl rfl (Da (t := (Ba (As b) (max 0 (As fr)) (t, chk t) pre).1) (k := xi) (o0.res (i := 3) rfl) (by omega)).some_ Ar rfl sz3 rfl rfl (by decide) gt) fun b1 i1 => ?_
 refine Eg (i := 8) (by kernel_rfl) ?_
 refine TO (i := 3) (k := xi) (off := 1) (L := ((Ba (As b) (max 0 (As fr)) (t, chk t) pre).1)) (z := (⟨(nth ((Ba (As b) (max 0 (As fr)) (t, chk t) pre).1) xi).K, (((nth ((Ba (As b) (max 0 (As fr)) (t, chk t) pre).1) xi).N) + (As b)), (nth ((Ba (As b) (max 0 (As fr)) (t, chk t) pre).1) xi).M, (nth ((Ba (As b) (max 0 (As fr)) (t, chk t) pre).1) xi).S⟩ : Nd)) (F8 rfl (AJ rfl)) i1 o0 rfl rfl rfl rfl rfl (by omega) (by omega) (by decide) rfl rfl rfl sz3 fun b1 j1 d1 z0 => ?_
 have b1 : (((Ba (As b) (max 0 (As fr)) (t, chk t) pre).1).set xi (⟨(nth ((Ba (As b) (max 0 (As fr)) (t, chk t) pre).1) xi).K, (((nth ((Ba (As b) (max 0 (As fr)) (t, chk t) pre).1) xi).N) + (As b)), (nth ((Ba (As b) (max 0 (As fr)) (t, chk t) pre).1) xi).M, (nth ((Ba (As b) (max 0 (As fr)) (t, chk t) pre).1) xi).S⟩ : Nd)).length = ((Ba (As b) (max 0 (As fr)) (t, chk t) pre).1).length := by simp
 have b1 : nth (((Ba (As b) (max 0 (As fr)) (t, chk t) pre).1).set xi (⟨(nth ((Ba (As b) (max 0 (As fr)) (t, chk t) pre).1) xi).K, (((nth ((Ba (As b) (max 0 (As fr)) (t, chk t) pre).1) xi).N) + (As b)), (nth ((Ba (As b) (max 0 (As fr)) (t, chk t) pre).1) xi).M, (nth ((Ba (As b) (max 0 (As fr)) (t, chk t) pre).1) xi).S⟩ : Nd)) xi = (⟨(nth ((Ba (As b) (max 0 (As fr)) (t, chk t) pre).1) xi).K, (((nth ((Ba (As b) (max 0 (As fr)) (t, chk t) pre).1) xi).N) + (As b)), (nth ((Ba (As b) (max 0 (As fr)) (t, chk t) pre).1) xi).M, (nth ((Ba (As b) (max 0 (As fr)) (t, chk t) pre).1) xi).S⟩ : Nd) := Mh (by omega)
 have i1 : (nth (((Ba (As b) (max 0 (As fr)) (t, chk t) pre).1).set xi (⟨(nth ((Ba (As b) (max 0 (As fr)) (t, chk t) pre).1) xi).K, (((nth ((Ba (As b) (max 0 (As fr)) (t, chk t) pre).1) xi).N) + (As b)), (nth ((Ba (As b) (max 0 (As fr)) (t, chk t) pre).1) xi).M, (nth ((Ba (As b) (max 0 (As fr)) (t, chk t) pre).1) xi).S⟩ : Nd)) xi).N = (((nth ((Ba (As b) (max 0 (As fr)) (t, chk t) pre).1) xi).N) + (As b)) := by rw [b1]
 refine ⟨fun h => absurd h (by decide), ?_⟩
 refine GC (by kernel_rfl) (h1 _ _ ?_) _
 refine xn y0 <| wpIn_block ?_
 refine BM fun y0 h1 => ?_
 obtain ⟨y0, i1, b1⟩ := z0.agree
 refine Ks (S := (sW j1 y0 [cel d0 0 (.int .i64 (max 0 (As fr))), (Res.row Ao ((((Ba (As b) (max 0 (As fr)) (t, chk t) pre).1).set xi (⟨(nth ((Ba (As b) (max 0 (As fr)) (t, chk t) pre).1) xi).K, (((nth ((Ba (As b) (max 0 (As fr)) (t, chk t) pre).1) xi).N) + (As b)), (nth ((Ba (As b) (max 0 (As fr)) (t, chk t) pre).1) xi).M, (nth ((Ba (As b) (max 0 (As fr)) (t, chk t) pre).1) xi).S⟩ : Nd)).length) co 30 4 (Cd (((Ba (As b) (max 0 (As fr)) (t, chk t) pre).1).set xi (⟨(nth ((Ba (As b) (max 0 (As fr)) (t, chk t) pre).1) xi).K, (((nth ((Ba (As b) (max 0 (As fr)) (t, chk t) pre).1) xi).N) + (As b)), (nth ((Ba (As b) (max 0 (As fr)) (t, chk t) pre).1) xi).M, (nth ((Ba (As b) (max 0 (As fr)) (t, chk t) pre).1) xi).S⟩ : Nd)))).holds])) (k := 9) J9 rfl (by kernel_rfl) b1 (A5 (B3 (B3 Ha))) (B6 (BE (BE Cf))) fun i1 z0 o0 q0 v0 => ?_
 have i1 := sWI v0 7 (pc 1 0 (pr 3 pn))
 refine dR [0] d1 fun b1 f1 => ?_
 refine dt 1 rfl z0 f1 (AJ rfl) (fun x hx => Ew (sy f1) f1 rfl rfl rfl (Da (t := ((Ba (As b) (max 0 (As fr)) (t, chk t) pre).1).set xi (⟨(nth ((Ba (As b) (max 0 (As fr)) (t, chk t) pre).1) xi).K, (((nth ((Ba (As b) (max 0 (As fr)) (t, chk t) pre).1) xi).N) + (As b)), (nth ((Ba (As b) (max 0 (As fr)) (t, chk t) pre).1) xi).M, (nth ((Ba (As b) (max 0 (As fr)) (t, chk t) pre).1) xi).S⟩ : Nd)) (k := xi) (v0.res (i := 3) rfl) (by omega)).some_ (by decide) gt) i1 fun b1 d1 => ?_
 refine dt 2 rfl z0 d1 (AJ rfl) (fun x hx => CB (j' := xi * 4 + 1) (sy d1) d1 rfl rfl rfl (Da (t := ((Ba (As b) (max 0 (As fr)) (t, chk t) pre).1).set xi (⟨(nth ((Ba (As b) (max 0 (As fr)) (t, chk t) pre).1) xi).K, (((nth ((Ba (As b) (max 0 (As fr)) (t, chk t) pre).1) xi).N) + (As b)), (nth ((Ba (As b) (max 0 (As fr)) (t, chk t) pre).1) xi).M, (nth ((Ba (As b) (max 0 (As fr)) (t, chk t) pre).1) xi).S⟩ : Nd)) (k := xi) (v0.res (i := 3) rfl) (by omega)).some_ Ar rfl sz3 rfl rfl (by decide) gt) i1 fun b1 f1 => ?_
 refine dle 3 1 (xi * 4) f1 (fun x hx => Da (t := ((Ba (As b) (max 0 (As fr)) (t, chk t) pre).1).set xi (⟨(nth ((Ba (As b) (max 0 (As fr)) (t, chk t) pre).1) xi).K, (((nth ((Ba (As b) (max 0 (As fr)) (t, chk t) pre).1) xi).N) + (As b)), (nth ((Ba (As b) (max 0 (As fr)) (t, chk t) pre).1) xi).M, (nth ((Ba (As b) (max 0 (As fr)) (t, chk t) pre).1) xi).S⟩ : Nd)) (k := xi) (hx.r 1) (by omega)) fun b1 d1 => ?_
 refine dR [4] d1 fun b1 f1 => ?_
 refine dt 5 rfl z0 f1 (AJ rfl) (fun x hx => P3 (z := (((nth (((Ba (As b) (max 0 (As fr)) (t, chk t) pre).1).set xi (⟨(nth ((Ba (As b) (max 0 (As fr)) (t, chk t) pre).1) xi).K, (((nth ((Ba (As b) (max 0 (As fr)) (t, chk t) pre).1) xi).N) + (As b)), (nth ((Ba (As b) (max 0 (As fr)) (t, chk t) pre).1) xi).M, (nth ((Ba (As b) (max 0 (As fr)) (t, chk t) pre).1) xi).S⟩ : Nd)) xi).N) - (xj : Int))) (sy f1) f1 rfl rfl rfl rfl (by decide) (by omega) (by omega) (by omega) gt) i1 fun b1 d1 => ?_
 refine dR [6, 7, 8] d1 fun b1 f1 => ?_
 refine AL (by kernel_rfl) (o0 _ _ ?_) _
 refine xn h1 <| spd 55 f1 (fun h1 o0 => ?_) fun h1 b1 => ?_
 refine Dx (o0.ev rfl) ?_
 refine BH (by kernel_rfl) (BE (BE Cf)) ?_
 refine sto 2 o0 v0 fun h1 f1 d1 i1 => ?_
 refine Ae ?_
 refine A7 <| A7 ?_
 have d1 : St w0 Z A6 f1 [.box i0 3 [.int .i64 (As b)], .box d0 3 [.int .i64 (max 0 (As fr))], .box f0 31 [.int .i64 30], .row Ao ((((Ba (As b) (max 0 (As fr)) (t, chk t) pre).1).set xi (⟨(nth ((Ba (As b) (max 0 (As fr)) (t, chk t) pre).1) xi).K, (((nth ((Ba (As b) (max 0 (As fr)) (t, chk t) pre).1) xi).N) + (As b)), (nth ((Ba (As b) (max 0 (As fr)) (t, chk t) pre).1) xi).M, (nth ((Ba (As b) (max 0 (As fr)) (t, chk t) pre).1) xi).S⟩ : Nd)).length) co 30 4 (Cd (((Ba (As b) (max 0 (As fr)) (t, chk t) pre).1).set xi (⟨(nth ((Ba (As b) (max 0 (As fr)) (t, chk t) pre).1) xi).K, (((nth ((Ba (As b) (max 0 (As fr)) (t, chk t) pre).1) xi).N) + (As b)), (nth ((Ba (As b) (max 0 (As fr)) (t, chk t) pre).1) xi).M, (nth ((Ba (As b) (max 0 (As fr)) (t, chk t) pre).1) xi).S⟩ : Nd))), .box u0 22 [.slice Ao (((Ba (As b) (max 0 (As fr)) (t, chk t) pre).1).length) co]] [Br, n4 tA tc t, dAg k0 m0, Ct p0 [.slice tA t.length tc], dAg n0 (imm Z w0 [.box i0 3 [.int .i64 (As b)], .box d0 3 [.int .i64 (max 0 (As fr))], .box f0 31 [.int .i64 ((Ba (As b) (max 0 (As fr)) (t, chk t) pre).2)], .row Ao (((Ba (As b) (max 0 (As fr)) (t, chk t) pre).1).length) co 30 4 (Cd ((Ba (As b) (max 0 (As fr)) (t, chk t) pre).1)), .box u0 22 [.slice Ao (((Ba (As b) (max 0 (As fr)) (t, chk t) pre).1).length) co]] n0), dAg n0 j0, dAg c1 h0, dAg j1 y0] := i1
 exact ⟨_, _, 4, d1, rfl, _, _, (by rw [Gs, KA (by omega) (by omega)]; simp only [List.length_set]; (repeat' split) <;> first | rfl | (exfalso; omega))⟩
 refine Dh (b1.ev rfl) ?_
 refine BM fun d1 i1 => ?_
 refine BH (by kernel_rfl) (B6 (BE (BE Cf))) ?_
 refine mv b1 fun d1 f1 => ?_
 refine Ew sv f1 rfl rfl rfl (Da (t := ((Ba (As b) (max 0 (As fr)) (t, chk t) pre).1).set xi (⟨(nth ((Ba (As b) (max 0 (As fr)) (t, chk t) pre).1) xi).K, (((nth ((Ba (As b) (max 0 (As fr)) (t, chk t) pre).1) xi).N) + (As b)), (nth ((Ba (As b) (max 0 (As fr)) (t, chk t) pre).1) xi).M, (nth ((Ba (As b) (max 0 (As fr)) (t, chk t) pre).1) xi).S⟩ : Nd)) (k := xi) (v0.res (i := 3) rfl) (by omega)).some_ (by decide) fun d1 b1 => ?_
 refine CB (j' := xi * 4 + 1) sv b1 rfl rfl rfl (Da (t := ((Ba (As b) (max 0 (As fr)) (t, chk t) pre).1).set xi (⟨(nth ((Ba (As b) (max 0 (As fr)) (t, chk t) pre).1) xi).K, (((nth ((Ba (As b) (max 0 (As fr)) (t, chk t) pre).1) xi).N) + (As b)), (nth ((Ba (As b) (max 0 (As fr)) (t, chk t) pre).1) xi).M, (nth ((Ba (As b) (max 0 (As fr)) (t, chk t) pre).1) xi).S⟩ : Nd)) (k := xi) (v0.res (i := 3) rfl) (by omega)).some_ Ar rfl sz3 rfl rfl (by decide) fun d1 f1 => ?_
 refine lde 1 (xi * 4) f1 (Da (t := ((Ba (As b) (max 0 (As fr)) (t, chk t) pre).1).set xi (⟨(nth ((Ba (As b) (max 0 (As fr)) (t, chk t) pre).1) xi).K, (((nth ((Ba (As b) (max 0 (As fr)) (t, chk t) pre).1) xi).N) + (As b)), (nth ((Ba (As b) (max 0 (As fr)) (t, chk t) pre).1) xi).M, (nth ((Ba (As b) (max 0 (As fr)) (t, chk t) pre).1) xi).S⟩ : Nd)) (k := xi) (v0.res (i := 3) rfl) (by omega)) fun d1 b1 => ?_
 refine lR b1 fun d1 f1 => ?_
 refine wn i1 <| spd 64 f1 (fun i1 d1 => ?_) fun i1 b1 => ?_
 refine Dx (d1.ev rfl) ?_
 refine BH (by kernel_rfl) (BE (BE Cf)) ?_
 refine sto 2 d1 v0 fun i1 f1 h1 o0 => ?_
 refine Ae ?_
 refine A7 <| A7 ?_
 have h1 : St w0 Z A6 f1 [.box i0 3 [.int .i64 (As b)], .box d0 3 [.int .i64 (max 0 (As fr))], .box f0 31 [.int .i64 2], .row Ao ((((Ba (As b) (max 0 (As fr)) (t, chk t) pre).1).set xi (⟨(nth ((Ba (As b) (max 0 (As fr)) (t, chk t) pre).1) xi).K, (((nth ((Ba (As b) (max 0 (As fr)) (t, chk t) pre).1) xi).N) + (As b)), (nth ((Ba (As b) (max 0 (As fr)) (t, chk t) pre).1) xi).M, (nth ((Ba (As b) (max 0 (As fr)) (t, chk t) pre).1) xi).S⟩ : Nd)).length) co 30 4 (Cd (((Ba (As b) (max 0 (As fr)) (t, chk t) pre).1).set xi (⟨(nth ((Ba (As b) (max 0 (As fr)) (t, chk t) pre).1) xi).K, (((nth ((Ba (As b) (max 0 (As fr)) (t, chk t) pre).1) xi).N) + (As b)), (nth ((Ba (As b) (max 0 (As fr)) (t, chk t) pre).1) xi).M, (nth ((Ba (As b) (max 0 (As fr)) (t, chk t) pre).1) xi).S⟩ : Nd))), .box u0 22 [.slice Ao (((Ba (As b) (max 0 (As fr)) (t, chk t) pre).1).length) co]] [Br, n4 tA tc t, dAg k0 m0, Ct p0 [.slice tA t.length tc], dAg n0 (imm Z w0 [.box i0 3 [.int .i64 (As b)], .box d0 3 [.int .i64 (max 0 (As fr))], .box f0 31 [.int .i64 ((Ba (As b) (max 0 (As fr)) (t, chk t) pre).2)], .row Ao (((Ba (As b) (max 0 (As fr)) (t, chk t) pre).1).length) co 30 4 (Cd ((Ba (As b) (max 0 (As fr)) (t, chk t) pre).1)), .box u0 22 [.slice Ao (((Ba (As b) (max 0 (As fr)) (t, chk t) pre).1).length) co]] n0), dAg n0 j0, dAg c1 h0, dAg j1 y0] := o0
 exact ⟨_, _, 4, h1, rfl, _, _, (by rw [Gs, KA (by omega) (by omega)]; simp only [List.length_set]; (repeat' split) <;> first | rfl | (exfalso; omega))⟩
 refine Dh (b1.ev rfl) ?_
 refine GH ?_
 refine A7 <| A7 ?_
 have b1 : St w0 Z A6 q0 [.box i0 3 [.int .i64 (As b)], .box d0 3 [.int .i64 (max 0 (As fr))], .box f0 31 [.int .i64 ((Ba (As b) (max 0 (As fr)) (t, chk t) pre).2)], .row Ao ((((Ba (As b) (max 0 (As fr)) (t, chk t) pre).1).set xi (⟨(nth ((Ba (As b) (max 0 (As fr)) (t, chk t) pre).1) xi).K, (((nth ((Ba (As b) (max 0 (As fr)) (t, chk t) pre).1) xi).N) + (As b)), (nth ((Ba (As b) (max 0 (As fr)) (t, chk t) pre).1) xi).M, (nth ((Ba (As b) (max 0 (As fr)) (t, chk t) pre).1) xi).S⟩ : Nd)).length) co 30 4 (Cd (((Ba (As b) (max 0 (As fr)) (t, chk t) pre).1).set xi (⟨(nth ((Ba (As b) (max 0 (As fr)) (t, chk t) pre).1) xi).K, (((nth ((Ba (As b) (max 0 (As fr)) (t, chk t) pre).1) xi).N) + (As b)), (nth ((Ba (As b) (max 0 (As fr)) (t, chk t) pre).1) xi).M, (nth ((Ba (As b) (max 0 (As fr)) (t, chk t) pre).1) xi).S⟩ : Nd))), .box u0 22 [.slice Ao (((Ba (As b) (max 0 (As fr)) (t, chk t) pre).1).length) co]] [Br, n4 tA tc t, dAg k0 m0, Ct p0 [.slice tA t.length tc], dAg n0 (imm Z w0 [.box i0 3 [.int .i64 (As b)], .box d0 3 [.int .i64 (max 0 (As fr))], .box f0 31 [.int .i64 ((Ba (As b) (max 0 (As fr)) (t, chk t) pre).2)], .row Ao (((Ba (As b) (max 0 (As fr)) (t, chk t) pre).1).length) co 30 4 (Cd ((Ba (As b) (max 0 (As fr)) (t, chk t) pre).1)), .box u0 22 [.slice Ao (((Ba (As b) (max 0 (As fr)) (t, chk t) pre).1).length) co]] n0), dAg n0 j0, dAg c1 h0, dAg j1 y0] := v0
 exact ⟨_, _, 4, b1, rfl, _, _, (by rw [Gs, KA (by omega) (by omega)]; simp only [List.length_set]; (repeat' split) <;> first | rfl | (exfalso; omega))⟩
 rintro b1 m1 v0 ⟨Ao, co, rfl⟩ q0
 have y0 := DG x0 b1
 refine A7 <| xn t0 <| Ac fun t0 x0 => rR y0 fun t0 j1 => ?_
 refine wce j1 (fun t0 y0 => ?_) fun t0 h0 => ?_
 refine Am <| xn x0 <| rR y0 fun x0 t0 => ?_
 refine BV ?_
 have x0 : St w0 Z A6 v0 [.box i0 3 [.int .i64 (As b)], .box d0 3 [.int .i64 (max 0 (As fr))], .box f0 31 [.int .i64 ((Ba (As b) (max 0 (As fr)) (t, chk t) (Cx t)).2)], .row Ao (((Ba (As b) (max 0 (As fr)) (t, chk t) (Cx t)).1).length) co 30 4 (Cd ((Ba (As b) (max 0 (As fr)) (t, chk t) (Cx t)).1)), .box u0 22 [.slice Ao (((Ba (As b) (max 0 (As fr)) (t, chk t) (Cx t)).1).length) co]] [Br, n4 tA tc t, dAg k0 m0, Ct p0 [.slice tA t.length tc], Qa w0.heap.size b1] := q0
 obtain ⟨y0, j1⟩ := x0.shut (i := 4) rfl [] (fun _ h => by cases h)
 refine Fx (.inl rfl) t0 rfl y0 (VI t0 rfl rfl rfl _) ?_
 have y0 : sfA t b fr = (Ba (As b) (max 0 (As fr)) (t, chk t) (Cx t)).1 := (F9 hc).2 (by rw [(F9 hc).1]; assumption)
 rw [y0]
 refine ⟨Ao, co, ?_, j1.fr, (j1.res (i := 3) rfl), (j1.fresh (i := 3) rfl)⟩
 exact Bj rfl (Bz (by first | exact (F9 hc).1.symm | (rw [(F9 hc).1]; symm; assumption)))
 refine Ac fun j1 y0 => ?_
 obtain ⟨j1, t0, x0⟩ := q0.agree
 refine Cj (n := 3) x0 5 (pc 2 0 pn) (A5 (A5 IG)) fun t0 q0 c1 j0 n0 h1 => ?_
 refine dR [0, 1, 2] h0 fun h1 q0 => ?_
 refine AL (by kernel_rfl) (c1 _ _ ?_) _
 refine xn y0 <| BV <| AX ?_
 have y0 : St w0 Z A6 j0 [.box i0 3 [.int .i64 (As b)], .box d0 3 [.int .i64 (max 0 (As fr))], .box f0 31 [.int .i64 ((Ba (As b) (max 0 (As fr)) (t, chk t) (Cx t)).2)], .row Ao (((Ba (As b) (max 0 (As fr)) (t, chk t) (Cx t)).1).length) co 30 4 (Cd ((Ba (As b) (max 0 (As fr)) (t, chk t) (Cx t)).1)), .box u0 22 [.slice Ao (((Ba (As b) (max 0 (As fr)) (t, chk t) (Cx t)).1).length) co]] [Br, n4 tA tc t, dAg k0 m0, Ct p0 [.slice tA t.length tc], Qa w0.heap.size b1, dAg v0 j1] := n0
 obtain ⟨n0, j0⟩ := y0.shut (i := 4) rfl [] (fun _ h => by cases h)
 refine Fx (.inl rfl) q0 rfl n0 (VI q0 rfl rfl rfl _) ?_
 have n0 : sfA t b fr = [] := LL (by rw [(F9 hc).1]; assumption)
 rw [n0]
 refine ⟨none, 0, ?_, j0.fr, Ik, Ij⟩
 exact Bj rfl (Bz (by first | exact (F9 hc).1.symm | (rw [(F9 hc).1]; symm; assumption)))
 rintro _ _ _ _ _ _ h _
 exact h.elim
 refine Ac fun j0 n0 => ?_
 obtain ⟨j0, q0, y0⟩ := c0.agree
 refine Cj (n := 3) y0 2 (pc 2 0 pn) (A5 (A5 IG)) fun q0 j0 c0 j1 v0 b1 => ?_
 refine dR [0, 1, 2] b0 fun b1 j1 => ?_
 refine AL (by kernel_rfl) (c0 _ _ ?_) _
 refine xn n0 <| BV <| AX <| Kc (.inl rfl) j1 rfl (VI j1 rfl rfl rfl _) ?_
 have j1 : sfA t b fr = [] := (GP (by assumption)).2
 rw [j1]
 refine ⟨none, 0, ?_, v0.fr, Ik, Ij⟩
 exact Bj rfl (Bz (by exact (GP (by assumption)).1.symm))
theorem Ih (w0 : World) (Z : Nat → Prop) (hZ : HZ w0 Z) (tA : Option Addr) (tc : Nat) (t : List Nd) (ht : N4 tA tc t w0 Z) (hl : t.length ≤ 1000000 := by exact ax) :
    Calls Tryz.prog 163 [.slice tA t.length tc].toArray w0 (fun e w' => ∃ q0 : Nat, e = .returned (.func (.func 166) #[] #[.pointer (some ⟨q0, 0, none⟩)]) ∧ Fr A6 w0 w' ∧ (Res.box q0 22 [.slice tA t.length tc]).holds w' ∧ (∀ k, (Res.box q0 22 [.slice tA t.length tc]).blk = some k → w0.heap.size ≤ k)) := by
 have b0 := s0 (M := A6) hZ (zc ht zn)
 refine AE Tryz.func163 rfl Tryz.ntmps163 rfl fun c0 d0 => ?_
 refine wsc fun c0 f0 => bxx d0 b0 fun c0 h0 i0 j0 k0 => ?_
 refine aw j0 f0 fun h0 c0 => ?_
 refine wsc fun f0 h0 => C8 sv c0 rfl rfl rfl (by decide) fun f0 j0 => ?_
 refine aw j0 h0 fun f0 c0 => ?_
 refine rt1 c0 ?_
 refine ⟨i0, ?_, k0.fr, (k0.res (i := 0) rfl), (k0.fresh (i := 0) rfl)⟩
 exact cre rfl
theorem KB (w0 : World) (Z : Nat → Prop) (tg : Nat) (tA : Option Addr) (tc : Nat) (t : List Nd) (hShp : Cu w0 Z) (ht : N4 tA tc t w0 Z) (htb : (Ct tg [.slice tA t.length tc]).φ w0 Z) (hl : t.length ≤ 1000000) (hsm : sml t) (hc : chk t = 0) :
    HV Tryz.prog 162 [.pointer (some ⟨tg, 0, none⟩)].toArray (fun x : Nd × Int => #[.agg (Eb x.1).toArray, .int .i64 x.2]) (Dp t) Z w0 := by
 refine Pt Tryz.func162 rfl Tryz.ntmps162 rfl [Br, n4 tA tc t, Ct tg [.slice tA t.length tc]] (by
  intro d hd
  simp only [AD, AG, or_false] at hd
  rcases hd with rfl | rfl | rfl
  exact hShp
  exact ht
  exact htb
  ) (fun lp jf jx w0 C0 M0 hY hds b0 c0 d0 => ?_)
 refine wsc fun b0 f0 => bxx c0 d0 fun b0 h0 i0 j0 k0 => ?_
 refine wn f0 <| wsc fun f0 h0 => bsl j0 k0 fun f0 b0 d0 c0 m0 => ?_
 refine alc c0 m0 fun b0 f0 k0 j0 n0 => ?_
 refine sto 2 j0 n0 fun f0 b0 m0 c0 => ?_
 refine wn h0 <| wsc fun h0 b0 => BR sv m0 rfl rfl rfl (Bn (c0.get (i := 3) rfl) rfl) Au rfl (by decide) fun h0 f0 => ?_
 have h0 := c0.nf
 refine kcl f0 ok163 (Ih _ _ h0.il _ _ _ (h0.g 2)) ?_
 rintro f0 c0 ⟨m0, rfl, n0, j0, o0⟩
 have c0 := h0.callO n0 j0 o0
 refine ⟨_, rfl, fun o0 j0 => ?_⟩
 refine wn b0 <| A4 ?_
 have b0 := c0.nf
 have c0 : Reg o0 50 [(1000000, .bool false), (2, .pointer (some ⟨i0, 0, none⟩)), (3, .pointer (some ⟨k0, 0, none⟩)), (13, .func (.func 166) #[] #[.pointer (some ⟨m0, 0, none⟩)])] := (j0.sub (rc2 (rc rfl (rc rfl rnl))))
 refine Tk (jx := jx) (xs := bwL t) (encs := (fun x : Int × Nd => #[.int .i64 x.1, .agg (Eb x.2).toArray])) (i := 0) (ds0 := [Br, n4 tA tc t, Ct tg [.slice tA t.length tc]]) (c0.ev rfl) ok166 (L1 m0 tA tc t (by omega)) (fun _ => rfl) b0 rfl hY.zd hds (fun (pre : List (Int × Nd)) (sb : List (Nd × Int)) (mm : List Res) => ∃ k : Nat, ∃ Ts : List T, ∃ us : List Int, ∃ Ao : Option Addr, ∃ co : Nat, mm = [.box i0 194 [.func (.yield lp) #[] #[]], .row Ao ((us).length) co 3 1 (BN us), .box k0 57 [.slice Ao ((us).length) co], .box m0 22 [.slice tA t.length tc]] ∧ sb = (Dp t).take k ∧ pre = (bwL t).take k ∧ (k ≤ t.length) ∧ (VInv t k Ts us)) (fun cc (sb : List (Nd × Int)) (mm : List Res) => cc = Code.ret ∧ sb <+: Dp t) ⟨0, [Bk t], [0], (some ⟨d0, 0, none⟩), 1, rfl, rfl, rfl, by omega, VInv.zero hc⟩ ?_ ?_ ?_ ?_
 rintro _ _ _ W ⟨k, Ts, us, Ao, co, rfl, rfl, rfl, hk, hv⟩ hm hd
 exact ⟨D8 (hm _ (Ax (i := 3) rfl)) rfl, fun k hk => Bp (hd _ (Ax (i := 1) rfl)).2 hk⟩
 rintro b0 d0 j0 pre x sb o0 m1 hp ⟨k, Ts, us, Ao, co, rfl, rfl, rfl, hk, hv⟩ n0
 obtain ⟨hkl, rfl, hbs⟩ := Us hk hp
 obtain ⟨hvr, hu0, hul, hub, hpre, Ts', hv'⟩ := hv.step hkl
 have hpn := N5 (n := t.length - (k + 1)) hpre (by omega)
 refine (?_ : ∀ j0, Reg j0 50 [(15, .agg #[.int .i64 ((nth t (t.length - (k + 1))).K), .int .i64 ((nth t (t.length - (k + 1))).N), .int .i64 ((nth t (t.length - (k + 1))).M), .string ((nth t (t.length - (k + 1))).S)]), (14, .int .i64 ((t.length - (k + 1) : Nat) : Int)), (1000000, .bool false), (2, .pointer (some ⟨i0, 0, none⟩)), (3, .pointer (some ⟨k0, 0, none⟩)), (13, .func (.func 166) #[] #[.pointer (some ⟨m0, 0, none⟩)])] → Code.wpIn (rI b0) 0 _ _ _ j0 o0) _ (Ee c0 (by decide) (by decide) rfl)
 intro j0 o0
 refine BH (by kernel_rfl) (B6 (fun _ _ h => h)) ?_
 refine alc o0 n0 fun j0 h0 f0 p0 q0 => ?_
 refine sto 4 p0 q0 fun h0 j0 o0 n0 => ?_
 refine Ae ?_
 have j0 := n0.nf
 refine AC ⟨_, _, j0, fun n0 h0 q0 => ?_⟩
 refine wpIn_block ?_
 refine BM fun h0 j0 => ?_
 refine BH (by kernel_rfl) (B6 (BE Ef)) ?_
 refine lR o0 fun h0 p0 => ?_
 refine sbi (((us).length : Int) - 1) p0 fun h0 o0 => ?_
 refine ix (((us).length) - (1)) ((((us).length) - (1)) * 1) o0 (EZ (t := us) (k := ((us).length) - (1)) (q0.res (i := 1) rfl) (by omega)).some_ fun h0 p0 => ?_
 refine lde 0 ((((us).length) - (1)) * 1) p0 (EZ (t := us) (k := ((us).length) - (1)) (q0.res (i := 1) rfl) (by omega)) fun h0 o0 => ?_
 refine aw o0 j0 fun h0 p0 => ?_
 refine BM fun j0 h0 => ?_
 refine BH (by kernel_rfl) (B6 (BE Ef)) ?_
 refine lR p0 fun j0 o0 => ?_
 refine sbi (((us).length : Int) - 1) o0 fun j0 p0 => ?_
 have j0 := Db (q0.res (i := 1) rfl)
 refine Ez (q := ((us).length) - (1)) sv p0 rfl rfl rfl rfl (by omega) AU sz3 (by omega) (by decide) fun j0 o0 => ?_
 have j0 := q0.trim CC (i := 1) (L := us) rfl (((us).length) - (1)) (by omega)
 have q0 := Reg.cons o0 o0 (rs (i := 26) (n' := ((us).take (((us).length) - (1))).length) rfl (by rw [Ah]; omega))
 refine sto 2 q0 j0 fun o0 p0 s0 t0 => ?_
 refine wn h0 <| BM fun h0 p0 => ?_
 refine BM fun h0 o0 => ?_
 refine Qb ?_
 refine Hj (i := 0) (B2 rfl rfl) s0 t0 rfl rfl rfl rfl rfl Tryz.underlying194 rfl (by decide) fun h0 q0 => ?_
 refine RM (i := 4) (vs := [.int .i64 ((nth t (t.length - (k + 1))).K), .int .i64 ((nth t (t.length - (k + 1))).N), .int .i64 ((nth t (t.length - (k + 1))).M), .string ((nth t (t.length - (k + 1))).S)]) (B2 rfl rfl) q0 t0 rfl rfl rfl rfl rfl Ar rfl DK (by decide) fun h0 s0 => ?_
 refine CI (B2 rfl rfl) s0 rfl rfl rfl (by decide) fun h0 q0 => ?_
 have h0 := t0.nf
 refine Vz (t := .tmp 27) (xs := [.tmp 28, .tmp 29]) (pre := (Dp t).take k) (i := 0) (ds0 := [Br, n4 tA tc t, Ct tg [.slice tA t.length tc]]) hY rfl q0 h0 rfl rfl rfl rfl (by decide) (((nth t (t.length - (k + 1))), (Ci us (((us).length) - (1)))) : Nd × Int) rfl rfl (JT hpn) hds (fun t0 s0 j0 u0 => ?_) fun t0 s0 j0 u0 => ?_
 refine GX (B2 rfl rfl) j0 rfl rfl rfl (by decide) fun s0 t0 => ?_
 refine Fa ?_
 refine xn o0 <| Dh (t0.ev rfl) ?_
 refine GH ?_
 refine xn p0 <| BM fun p0 s0 => ?_
 refine BH (by kernel_rfl) (B6 (BE Ef)) ?_
 refine lR t0 fun p0 h0 => ?_
 have p0 := u0.nf
 refine krb h0 p0 ok89 (FN _ _ p0.il (nth t (t.length - (k + 1))) (p0.g 1) (hs := (hsm _ (by omega)))) fun t0 q0 v0 x0 y0 z0 => ?_
 refine lR z0 fun y0 t0 => ?_
 refine wn s0 <| BM fun s0 y0 => ?_
 refine BH (by kernel_rfl) (B6 (BE Ef)) ?_
 refine lR t0 fun s0 z0 => ?_
 refine wn y0 <| wpIn_block ?_
 have y0 : (us).take (((us).length) - (1)) = us.take (us.length - 1) ++ ((BI (nth t (t.length - (k + 1)))).take 0).map (Ci us (us.length - 1) + ·) := by simp
 have s0 := x0
 try simp only [List.set_cons_zero, List.set_cons_succ, List.set_nil] at s0
 rw [y0] at s0
 refine wpIn_loop_ghost (fun gn ga gw => ∃ j : Nat, ∃ Al : Option Addr, ∃ cl : Nat, (Reg ga 50 [(3, .pointer (some ⟨k0, 0, none⟩)), (1000000, .bool false), (6, .int .i64 (Ci us (((us).length) - (1)))), (37, .slice q0 ((BI (nth t (t.length - (k + 1)))).length) v0), (38, .int .i64 ((BI (nth t (t.length - (k + 1)))).length : Int)), (39, .int .i64 (j : Int))]) ∧ (St w0 (ED w0) M0 gw [.box i0 194 [.func (.yield lp) #[] #[]], .row Al ((us.take (us.length - 1) ++ ((BI (nth t (t.length - (k + 1)))).take j).map (Ci us (us.length - 1) + ·)).length) cl 3 1 (BN (us.take (us.length - 1) ++ ((BI (nth t (t.length - (k + 1)))).take j).map (Ci us (us.length - 1) + ·))), .box k0 57 [.slice Al ((us.take (us.length - 1) ++ ((BI (nth t (t.length - (k + 1)))).take j).map (Ci us (us.length - 1) + ·)).length) cl], .box m0 22 [.slice tA t.length tc], .box f0 30 [.int .i64 ((nth t (t.length - (k + 1))).K), .int .i64 ((nth t (t.length - (k + 1))).N), .int .i64 ((nth t (t.length - (k + 1))).M), .string ((nth t (t.length - (k + 1))).S)]] [dJX jf ((Dp t).take k ++ [(((nth t (t.length - (k + 1))), (Ci us (((us).length) - (1)))) : Nd × Int)]) C0 M0 w0.heap.size b0 d0 n0, Br, n4 tA tc t, Ct tg [.slice tA t.length tc], Bw 1 q0 ((BI (nth t (t.length - (k + 1)))).length) v0 (BN (BI (nth t (t.length - (k + 1)))))]) ∧ (j ≤ (BI (nth t (t.length - (k + 1)))).length) ∧ ((BI (nth t (t.length - (k + 1)))).length - j) = gn) _ ⟨0, Ao, co, (z0.sub (rc4 (rc rfl (rc rfl rnl)))), s0, by omega, rfl⟩ ?_
 rintro s0 z0 v0 ⟨j, Al, cl, q0, n0, hj, f0⟩
 have hbl := F2 (nth t (t.length - (k + 1)))
 have hbj := Kx (n := nth t (t.length - (k + 1))) j
 have hjl : (us.take (us.length - 1) ++ ((BI (nth t (t.length - (k + 1)))).take j).map (Ci us (us.length - 1) + ·)).length ≤ t.length + 8 := by have := F2 (nth t (t.length - (k + 1))); rw [Ab, Ah, BT, Ah]; omega
 refine BM fun f0 v0 => ?_
 refine BH (by kernel_rfl) (B6 (B6 (BE (BE Ef)))) ?_
 refine lR q0 fun f0 z0 => ?_
 refine wn v0 <| BM fun v0 f0 => ?_
 refine spd 40 z0 (fun v0 q0 => ?_) fun v0 s0 => ?_
 refine Dx (q0.ev rfl) ?_
 refine GH ?_
 refine xn f0 <| BM fun f0 v0 => ?_
 refine wpIn_block ?_
 refine BM fun f0 z0 => ?_
 refine BH (by kernel_rfl) (B6 (BE (B6 (B6 (BE (BE Ef)))))) ?_
 refine ix j (j * 1) q0 (Ds (t := BI (nth t (t.length - (k + 1)))) (k := j) (n0.row (i := 4) rfl).2 (by omega)).some_ fun f0 d0 => ?_
 refine lde 0 (j * 1) d0 (Ds (t := BI (nth t (t.length - (k + 1)))) (k := j) (n0.row (i := 4) rfl).2 (by omega)) fun f0 q0 => ?_
 refine aw q0 z0 fun f0 d0 => ?_
 refine BH (by kernel_rfl) (BE (B6 (B6 (BE (BE Ef))))) ?_
 refine lR d0 fun z0 f0 => ?_
 refine adi ((Ci us (((us).length) - (1))) + (Ci (BI (nth t (t.length - (k + 1)))) j)) f0 fun z0 d0 => ?_
 refine bsl d0 n0 fun z0 f0 q0 b0 m0 => ?_
 refine BL (f := EI) (i := 1) (us.take (us.length - 1) ++ ((BI (nth t (t.length - (k + 1)))).take j).map (Ci us (us.length - 1) + ·)) ([((Ci us (((us).length) - (1))) + (Ci (BI (nth t (t.length - (k + 1)))) j))]) sv b0 m0 rfl rfl rfl rfl rfl CC (Do _) AU zi3 rfl rfl (BU (f := EI) (m0.res (i := 5) rfl)) rfl (by (simp only [Ad, Aj]; omega)) (by decide) fun q0 f0 z0 d0 k0 i0 y0 => ?_
 have k0 : ((us.take (us.length - 1) ++ ((BI (nth t (t.length - (k + 1)))).take j).map (Ci us (us.length - 1) + ·)) ++ ([((Ci us (((us).length) - (1))) + (Ci (BI (nth t (t.length - (k + 1)))) j))]) : List Int).length = (us.take (us.length - 1) ++ ((BI (nth t (t.length - (k + 1)))).take j).map (Ci us (us.length - 1) + ·)).length + 1 := by (simp only [Ab, Ah, Ad, Aj]; done)
 have k0 := y0.erase 5
 refine sto 2 i0 k0 fun y0 f0 q0 m0 => ?_
 refine Ae ?_
 refine A7 <| xn v0 <| BH (by kernel_rfl) (B6 (BE (BE Ef))) ?_
 refine adi ((j + 1 : Nat) : Int) q0 fun v0 f0 => ?_
 refine mv f0 fun v0 q0 => ?_
 refine Ae ?_
 have v0 : (us.take (us.length - 1) ++ ((BI (nth t (t.length - (k + 1)))).take j).map (Ci us (us.length - 1) + ·)) ++ ([((Ci us (((us).length) - (1))) + (Ci (BI (nth t (t.length - (k + 1)))) j))]) = us.take (us.length - 1) ++ ((BI (nth t (t.length - (k + 1)))).take (j + 1)).map (Ci us (us.length - 1) + ·) := by rw [OH (by omega), ← BG]
 have f0 := m0
 rw [v0] at f0
 exact ⟨_, by omega, j + 1, z0, d0, (q0.sub (rc4 (rc rfl (rc rfl rnl)))), f0, by omega, rfl⟩
 refine Dh (s0.ev rfl) ?_
 refine wpIn_exit ?_
 refine EW ?_
 refine EW ?_
 refine EH ?_
 refine A7 ?_
 have s0 := n0.nf
 have n0 := s0.erase 4
 have s0 : us.take (us.length - 1) ++ ((BI (nth t (t.length - (k + 1)))).take j).map (Ci us (us.length - 1) + ·) = us.take (us.length - 1) ++ (BI (nth t (t.length - (k + 1)))).map (Ci us (us.length - 1) + ·) := by rw [show j = (BI (nth t (t.length - (k + 1)))).length by omega, CQ]
 have f0 := n0
 rw [s0] at f0
 exact ⟨_, _, _, f0, k + 1, Ts', _, _, _, rfl, hpn, hbs, by omega, hv'⟩
 refine GX (B2 rfl rfl) j0 rfl rfl rfl (by decide) fun f0 s0 => ?_
 refine Fa ?_
 refine xn o0 <| Dx (s0.ev rfl) ?_
 refine wpIn_ret ?_
 refine AX <| Bf ?_
 have s0 := u0.nf
 exact ⟨_, _, _, s0, rfl, JT hpn⟩
 rintro s0 u0 o0 sb m1 f0 hDn ⟨k, Ts, us, Ao, co, rfl, rfl, hpe, hk, hv⟩ j0
 have f0 := DG c0 u0
 have hkf := Ut hk hpe
 refine A7 ?_
 have u0 := j0.nf
 exact m_allX (.inr rfl) f0 rfl rfl u0 hDn (PD (hv.all (by omega)))
 rintro u0 f0 j0 cc sb m1 o0 hDn ⟨rfl, hsp⟩ s0
 have o0 := DG c0 f0
 refine BV <| Bf ?_
 exact Wq (.inl rfl) o0 rfl rfl s0 hDn hsp
theorem Jw (w0 : World) (Z : Nat → Prop) (hZ : HZ w0 Z) (tA : Option Addr) (tc : Nat) (t : List Nd) (ht : N4 tA tc t w0 Z) (hl : t.length ≤ 1000000 := by exact ax) :
    Calls Tryz.prog 155 [.slice tA t.length tc].toArray w0 (fun e w' => ∃ q0_0 : Nat, e = .returned (.func (.func 162) #[] #[.pointer (some ⟨q0_0, 0, none⟩)]) ∧ Fr A6 w0 w' ∧ (Ct q0_0 [.slice tA t.length tc]).φ w' (nxt Z w0 w')) := by
 have b0 := s0 (M := A6) hZ (zc ht zn)
 refine AE Tryz.func155 rfl Tryz.ntmps155 rfl fun c0 d0 => ?_
 refine wsc fun c0 f0 => bxx d0 b0 fun c0 h0 i0 j0 k0 => ?_
 refine aw j0 f0 fun h0 c0 => ?_
 refine wsc fun f0 h0 => C8 sv c0 rfl rfl rfl (by decide) fun f0 j0 => ?_
 refine aw j0 h0 fun f0 c0 => ?_
 refine rt1 c0 ?_
 obtain ⟨c0, h0⟩ := k0.box_data (i := 0) rfl (fun _ h => h)
 have k0 := c0.data (Ct i0 [.slice tA t.length tc]) h0
 refine ⟨i0, ?_, k0.fr, ((k0.get (i := 1) rfl).imp Fl id)⟩
 exact cre rfl
theorem JO (w0 : World) (Z : Nat → Prop) (hZ : HZ w0 Z) (tA : Option Addr) (tc : Nat) (t : List Nd) (ht : (Res.row tA (t).length tc 30 4 (Cd t)).holds w0) (htz : ∀ k, rM tA k → ¬ Z k) (hl : t.length ≤ 1000000 := by exact ax) :
    Calls Tryz.prog 149 [.slice tA t.length tc].toArray w0 (fun e w' => e = .returned (.tuple #[]) ∧ Fr (rM tA) w0 w' ∧ (Res.row tA (t.reverse).length tc 30 4 (Cd t.reverse)).holds w') := by
 have hstart : ∀ k, Z k → imm Z w0 [.row tA ((t).length) tc 30 4 (Cd t)] w0 k ∧ w0.heap[k]? = w0.heap[k]? := fun k hk => Km hZ htz hk
 have b0 : St w0 Z (rM tA) w0 [.row tA ((t).length) tc 30 4 (Cd t)] [] := MN w0 Z _ _ _ _ _ _ _ ht (by
  intro d hd
  cases hd
  )
 refine AE Tryz.func149 rfl Tryz.ntmps149 rfl fun c0 d0 => ?_
 refine wsc fun c0 f0 => lR d0 fun c0 h0 => ?_
 refine sbi ((t.length : Int) - 1) h0 fun c0 d0 => ?_
 refine lR d0 fun c0 h0 => ?_
 refine wn f0 <| A4 ?_
 refine AH (fun gn ga gw => ∃ k : Nat, ∃ R : List Nd, (Reg ga 28 [(1000000, .bool false), (0, .slice tA t.length tc), (2, .int .i64 (k : Int)), (3, .int .i64 ((t.length : Int) - (k : Int) - 1))]) ∧ (St w0 Z (rM tA) gw [.row tA ((R).length) tc 30 4 (Cd R)] []) ∧ (RevN t R k) ∧ (2 * k ≤ t.length + 1) ∧ (t.length - k) = gn) _ ⟨0, t, (h0.sub (rc2 (rc rfl (rc rfl rnl)))), b0, RevN.zero t, by omega, rfl⟩ ?_
 rintro h0 b0 f0 ⟨k, R, c0, d0, hr, hkn, i0⟩
 have hrl := hr.len
 refine Ac fun i0 b0 => rR c0 fun i0 h0 => ?_
 refine wcd h0 (fun i0 c0 => ?_) fun i0 j0 => ?_
 refine Am <| xn b0 <| Ac fun b0 i0 => A4 ?_
 obtain ⟨b0, h0, k0⟩ := d0.agree
 refine Fz (S := (sW f0 b0 [(Res.row tA ((R).length) tc 30 4 (Cd R)).holds])) (n := 16) [13, 14, 15] J9 rfl k0 (B3 (A5 (A5 (B3 BC)))) fun h0 m0 n0 o0 p0 => ?_
 have o0 := sWI p0 0 (pr 0 pn)
 refine dtv 0 m0 c0 fun h0 k0 => ?_
 refine dtv 1 m0 k0 fun h0 c0 => ?_
 refine dtv 2 m0 c0 fun h0 k0 => ?_
 refine dtv 3 m0 k0 fun h0 c0 => ?_
 refine dtv 4 m0 c0 fun h0 k0 => ?_
 refine dtv 5 m0 k0 fun h0 c0 => ?_
 refine dta 6 rfl m0 c0 (AJ rfl) (fun x => CV (i := (t.length) - (k + 1)) (j := ((t.length) - (k + 1)) * 4) (sy c0) c0 rfl rfl rfl rfl Au DK (by omega) (by omega) (Da (t := R) (k := (t.length) - (k + 1)) (p0.res (i := 0) rfl) (by omega)).some_ rfl (by decide) gt) fun h0 k0 => ?_
 refine dlt 7 rfl m0 k0 (AJ rfl) (fun x hx => Cw (sy k0) k0 rfl rfl rfl (Da (t := R) (k := (t.length) - (k + 1)) (hx.r 0) (by omega)) Ar rfl DK (by decide) gt) o0 fun h0 c0 => ?_
 refine dtv 8 m0 c0 fun h0 k0 => ?_
 refine dtv 9 m0 k0 fun h0 c0 => ?_
 refine dta 10 rfl m0 c0 (AJ rfl) (fun x => CV (i := k) (j := k * 4) (sy c0) c0 rfl rfl rfl rfl Au DK (by omega) (by omega) (Da (t := R) (k := k) (p0.res (i := 0) rfl) (by omega)).some_ rfl (by decide) gt) fun h0 k0 => ?_
 refine dlt 11 rfl m0 k0 (AJ rfl) (fun x hx => Cw (sy k0) k0 rfl rfl rfl (Da (t := R) (k := k) (hx.r 0) (by omega)) Ar rfl DK (by decide) gt) o0 fun h0 c0 => ?_
 refine dta 12 rfl m0 c0 (AJ rfl) (fun x => CV (i := k) (j := k * 4) (sy c0) c0 rfl rfl rfl rfl Au DK (by omega) (by omega) (Da (t := R) (k := k) (p0.res (i := 0) rfl) (by omega)).some_ rfl (by decide) gt) fun h0 k0 => ?_
 refine Eg (i := 13) (by kernel_rfl) ?_
 refine La (f := Eb) (i := 0) (k := k) (L := R) (z := (nth R ((t.length) - (k + 1)))) (F8 rfl (AJ rfl)) k0 p0 rfl rfl rfl rfl rfl rfl (by omega) Cq (Va (f := Eb) Dz) rfl DK fun h0 c0 o0 b0 => ?_
 have c0 : (R.set k (nth R ((t.length) - (k + 1)))).length = (R).length := by simp
 refine ⟨fun h => absurd h (by decide), ?_⟩
 refine dta 14 rfl m0 o0 (AJ rfl) (fun x => CV (i := (t.length) - (k + 1)) (j := ((t.length) - (k + 1)) * 4) (sy o0) o0 rfl rfl rfl rfl Au DK (by omega) (by omega) (Da (t := R.set k (nth R ((t.length) - (k + 1)))) (k := (t.length) - (k + 1)) (b0.res (i := 0) rfl) (by omega)).some_ rfl (by decide) gt) fun c0 h0 => ?_
 refine Eg (i := 15) (by kernel_rfl) ?_
 refine La (f := Eb) (i := 0) (k := (t.length) - (k + 1)) (L := (R.set k (nth R ((t.length) - (k + 1))))) (z := (nth R k)) (F8 rfl (AJ rfl)) h0 b0 rfl rfl rfl rfl rfl rfl (by omega) Cq (Va (f := Eb) Dz) rfl DK fun c0 o0 m0 k0 => ?_
 have o0 : ((R.set k (nth R ((t.length) - (k + 1)))).set ((t.length) - (k + 1)) (nth R k)).length = (R.set k (nth R ((t.length) - (k + 1)))).length := by simp
 refine ⟨fun h => absurd h (by decide), ?_⟩
 refine GC (by kernel_rfl) (n0 _ _ ?_) _
 refine A7 <| xn i0 <| A0 ?_
 refine mv m0 fun i0 n0 => ?_
 refine adi ((k + 1 : Nat) : Int) n0 fun i0 m0 => ?_
 refine mv m0 fun i0 n0 => ?_
 refine sbi ((t.length : Int) - (k : Int) - 2) n0 fun i0 m0 => ?_
 refine lR m0 fun i0 n0 => ?_
 refine Ae ?_
 have i0 := k0.forget 0
 exact ⟨_, by omega, k + 1, (R.set k (nth R ((t.length) - (k + 1)))).set ((t.length) - (k + 1)) (nth R k), (n0.sub (rc2 (rc rfl (rc (ri rfl (by omega)) rnl)))), i0, RevN.step hr (by omega) (by omega) rfl rfl, by omega, rfl⟩
 refine xe ?_
 refine Jc j0 rfl rfl ?_
 have j0 : R = t.reverse := hr.done (by omega)
 have i0 := d0
 rw [j0] at i0
 refine ⟨?_, i0.fr, i0.res (i := 0) rfl⟩
 rfl
theorem NG (w0 : World) (Z : Nat → Prop) (hZ : HZ w0 Z) (v : Int) (u : Int) (psg : Nat) (psA : Option Addr) (psc : Nat) (ps : List Sl) (hps : (Bw 1 psA ps.length psc (B7 ps)).φ w0 Z) (hpss : (Cl ps).φ w0 Z) (hpsb : (Ct psg [.slice psA ps.length psc]).φ w0 Z) (hv : 0 ≤ v := by exact ax) (hl0 : ps.length ≤ 1000 := by exact ax) (hne : ∀ s ∈ ps, s.2.2 ≠ [] := by exact ax) :
    Calls Tryz.prog 139 [.int .i64 v, .int .i64 u, .pointer (some ⟨psg, 0, none⟩)].toArray w0 (fun e w' => ∃ (rA0 : Option Addr) (rc0 : Nat), e = .returned (.tuple #[.slice rA0 (if v < ps.length then (BF ps v.toNat).2.2 else []).length rc0, .int .i64 (if v < ps.length then u else ps.length)]) ∧ Fr A6 w0 w' ∧ (Bw 4 rA0 ((if v < ps.length then (BF ps v.toNat).2.2 else []).length) rc0 (Cd (if v < ps.length then (BF ps v.toNat).2.2 else []))).φ w' (nxt Z w0 w') ∧ ((if v < ps.length then (BF ps v.toNat).2.2 else []) = [] → rA0 = none)) := by
 have b0 := s0 (M := A6) hZ (zc hps (zc hpss (zc hpsb zn)))
 refine AE Tryz.func139 rfl Tryz.ntmps139 rfl fun c0 d0 => ?_
 refine rR d0 fun c0 f0 => ?_
 refine Ac fun c0 d0 => wsc fun c0 h0 => mv f0 fun c0 i0 => ?_
 refine BR sv i0 rfl rfl rfl (Bn (b0.get (i := 2) rfl) rfl) Be rfl (by decide) fun c0 f0 => ?_
 refine lR f0 fun c0 i0 => ?_
 refine wn h0 <| wcd i0 (fun h0 c0 => ?_) fun h0 f0 => ?_
 refine wsc fun h0 i0 => BR sv c0 rfl rfl rfl (Bn (b0.get (i := 2) rfl) rfl) Be rfl (by decide) fun h0 j0 => ?_
 refine mv j0 fun h0 c0 => ?_
 refine ix ((v).toNat) (((v).toNat) * 1) c0 (BD (t := ps) (k := (v).toNat) (b0.row (i := 0) rfl).2 (by omega)).some_ fun h0 j0 => ?_
 refine lde 0 (((v).toNat) * 1) j0 (BD (t := ps) (k := (v).toNat) (b0.row (i := 0) rfl).2 (by omega)) fun h0 c0 => ?_
 have h0 := b0.el 1 ((v).toNat)
 refine lR c0 fun j0 k0 => ?_
 refine wn i0 <| rt2 k0 ?_
 have k0 : (if v < ps.length then (BF ps v.toNat).2.2 else []) = (BF ps ((v).toNat)).2.2 := At (by omega)
 rw [k0]
 refine ⟨((BF ps ((v).toNat)).1), ((BF ps ((v).toNat)).2.1), ?_, h0.fr, h0.rx 3, (fun h => absurd h (hne _ (Hc (by omega))))⟩
 exact Bj rfl (Bz (by first | exact (At (by omega)).symm | exact (Aq (by omega)).symm))
 refine Am <| xn d0 <| Ac fun d0 h0 => ?_
 obtain ⟨d0, k0, i0⟩ := b0.agree
 refine Cj (n := 4) i0 3 pn (A5 BC) fun d0 b0 j0 c0 m0 n0 => ?_
 refine dt 0 rfl b0 f0 (AJ rfl) (fun x hx => BR (sy f0) f0 rfl rfl rfl (Bn (D6 (k0 2 _ rfl) hx.ag) rfl) Be rfl (by decide) gt) n0 fun c0 d0 => ?_
 refine dR [1, 2, 3] d0 fun c0 n0 => ?_
 refine AL (by kernel_rfl) (j0 _ _ ?_) _
 refine xn h0 <| rt2 n0 ?_
 have n0 : (if v < ps.length then (BF ps v.toNat).2.2 else []) = [] := Aq (by omega)
 rw [n0]
 refine ⟨none, 0, ?_, m0.fr, ⟨Af _, RowI.nil _ _ _ _⟩, (fun _ => rfl)⟩
 exact Bj rfl (Bz (by first | exact (At (by omega)).symm | exact (Aq (by omega)).symm))
theorem Rb (w0 : World) (Z : Nat → Prop) (hZ : HZ w0 Z) (tA : Option Addr) (tc : Nat) (t : List Nd) (psg : Nat) (psA : Option Addr) (psc : Nat) (ps : List Sl) (hShp : Cu w0 Z) (ht : N4 tA tc t w0 Z) (hps : (Bw 1 psA ps.length psc (B7 ps)).φ w0 Z) (hpss : (Cl ps).φ w0 Z) (hpsb : (Ct psg [.slice psA ps.length psc]).φ w0 Z) (hsm : sml t := by exact ax) (hl : t.length ≤ 1000000 := by exact ax) (hc : chk t = 0 := by exact ax) (hok : oks (Bt ps) := by exact ax) (hls : ∀ x ∈ Bt ps, sml x := by exact ax) (hl0 : ps.length ≤ 1000 := by exact ax) :
    Calls Tryz.prog 138 [.slice tA t.length tc, .func (.func 139) #[] #[.pointer (some ⟨psg, 0, none⟩)]].toArray w0 (fun e w' => ∃ (rA0 : Option Addr) (rc0 : Nat), e = .returned (.tuple #[.slice rA0 (poA t 0 (Bt ps)).length rc0, .int .i64 (poE t 0 (Bt ps))]) ∧ Fr A6 w0 w' ∧ N4 rA0 rc0 (poA t 0 (Bt ps)) w' (nxt Z w0 w')) := by
 have b0 := s0 (M := A6) hZ (zc (d := Br) hShp (zc ht (zc hps (zc hpss (zc hpsb zn)))))
 have hne : ∀ s ∈ ps, s.2.2 ≠ [] := fun s hs e => by have c0 := hok s.2.2 (List.mem_map_of_mem hs); rw [e] at c0; have := FL c0; simp at this
 refine FM Tryz.func138 rfl Tryz.ntmps138 rfl fun c0 d0 => ?_
 refine wsc fun c0 f0 => bxx d0 b0 fun c0 h0 i0 j0 k0 => ?_
 refine alc j0 k0 fun h0 c0 d0 b0 m0 => ?_
 refine alc b0 m0 fun c0 h0 k0 j0 n0 => ?_
 refine wn f0 <| wsc fun f0 h0 => alc j0 n0 fun f0 c0 m0 b0 o0 => ?_
 refine wn h0 <| Ac fun h0 c0 => wsc fun h0 f0 => mv b0 fun h0 n0 => ?_
 have h0 := o0.nf
 refine kcl n0 ok155 (Jw _ _ h0.il _ _ _ (h0.g 1)) ?_
 rintro n0 o0 ⟨b0, rfl, j0, p0⟩
 have o0 := h0.below j0.below
 have j0 := h0.dN o0 p0
 refine ⟨_, rfl, fun o0 p0 => ?_⟩
 refine wn f0 <| A4 ?_
 have f0 := j0.nf
 have j0 := f0.nilrow 30 4
 have f0 := j0.nf
 have j0 : Reg o0 82 [(1000000, .bool false), (3, .pointer (some ⟨i0, 0, none⟩)), (4, .pointer (some ⟨d0, 0, none⟩)), (5, .pointer (some ⟨k0, 0, none⟩)), (6, .pointer (some ⟨m0, 0, none⟩)), (15, .func (.func 162) #[] #[.pointer (some ⟨b0, 0, none⟩)])] := (p0.sub (rc4 (rc rfl (rc rfl rnl))))
 refine Hu (xs := Dp t) (encs := (fun x : Nd × Int => #[.agg (Eb x.1).toArray, .int .i64 x.2])) (j0.ev rfl) ok162 (KB _ (imm Z w0 [.box i0 159 [.func (.func 139) #[] #[.pointer (some ⟨psg, 0, none⟩)]], .box d0 22 [.slice none 0 0], .box k0 31 [.int .i64 0], .box m0 22 [.slice none 0 0], .row none 0 0 30 4 (Cd ([]))] _) b0 tA tc t (f0.get (i := 0) rfl) (f0.get (i := 1) rfl) (f0.get (i := 5) rfl) (by assumption) (by assumption) (by assumption)) (fun _ => rfl) f0 (fun _ h => h) (fun (pre : List (Nd × Int)) (mm : List Res) => ∃ O : List Nd, ∃ ev : Int, ∃ Ao : Option Addr, ∃ co : Nat, mm = [.box i0 159 [.func (.func 139) #[] #[.pointer (some ⟨psg, 0, none⟩)]], .box d0 22 [.slice none 0 0], .box k0 31 [.int .i64 ev], .box m0 22 [.slice Ao ((O).length) co], .row Ao ((O).length) co 30 4 (Cd O)] ∧ (OutI (Bt ps) pre O) ∧ (ev = 0)) (fun cc (pre : List (Nd × Int)) (mm : List Res) => cc = Code.ret ∧ ∃ O : List Nd, ∃ ev : Int, ∃ Ao : Option Addr, ∃ co : Nat, mm = [.box i0 159 [.func (.func 139) #[] #[.pointer (some ⟨psg, 0, none⟩)]], .box d0 22 [.slice none 0 0], .box k0 31 [.int .i64 ev], .box m0 22 [.slice Ao ((O).length) co], .row Ao ((O).length) co 30 4 (Cd O)] ∧ (poE t 0 (Bt ps) = ev ∧ poA t 0 (Bt ps) = [])) ⟨[], 0, none, 0, rfl, OutI.nil _, rfl⟩ ?_ ?_ ?_
 rintro f0 pre x p0 m1 hp ⟨O, ev, Ao, co, rfl, hO, hev⟩ o0
 obtain ⟨hxm, hxr, hx0, hx1, hx2, hx3, hx4⟩ := RA hc hp
 have hOl := hO.len hc (List.IsPrefix.trans (List.prefix_append _ _) hp)
 have hct := (Co hc).2.2.2
 refine (?_ : ∀ h0, Reg h0 82 [(17, .int .i64 (x.2)), (16, .agg #[.int .i64 (x.1.K), .int .i64 (x.1.N), .int .i64 (x.1.M), .string x.1.S]), (1000000, .bool false), (3, .pointer (some ⟨i0, 0, none⟩)), (4, .pointer (some ⟨d0, 0, none⟩)), (5, .pointer (some ⟨k0, 0, none⟩)), (6, .pointer (some ⟨m0, 0, none⟩)), (15, .func (.func 162) #[] #[.pointer (some ⟨b0, 0, none⟩)])] → Code.wpIn (rI f0) 0 _ _ _ h0 p0) _ (Ee j0 (by decide) (by decide) rfl)
 intro h0 p0
 refine BM fun h0 f0 => ?_
 refine BH (by kernel_rfl) (B6 (B6 (fun _ _ h => h))) ?_
 refine alc p0 o0 fun h0 b0 n0 q0 t0 => ?_
 refine sto 5 q0 t0 fun n0 b0 h0 p0 => ?_
 refine wn f0 <| BH (by kernel_rfl) (B6 (fun _ _ h => h)) ?_
 refine asg h0 fun f0 b0 => ?_
 refine Ae ?_
 have f0 := p0.nf
 refine AC ⟨_, _, 6, f0, rfl, (fun _ h => False.elim h), (fun _ h => False.elim h), fun p0 h0 => ?_⟩
 refine wpIn_block ?_
 refine BM fun p0 f0 => ?_
 refine BM fun p0 n0 => ?_
 refine BH (by kernel_rfl) (B6 (B6 (BE Cf))) ?_
 refine lR b0 fun p0 t0 => ?_
 refine lOr 4 (decide ((x.1.N) < (x.2))) t0 fun p0 b0 => ?_
 refine wn n0 <| spg 26 b0 (fun n0 p0 => ?_) fun n0 t0 => ?_
 have b0 := n0
 try simp only [bz] at b0
 refine Dx (p0.ev rfl) ?_
 refine BM fun b0 q0 => ?_
 refine BH (by kernel_rfl) (B6 (B6 (BE Cf))) ?_
 refine lR p0 fun b0 o0 => ?_
 refine bsl o0 h0 fun b0 p0 u0 v0 x0 => ?_
 refine BL (f := Eb) (i := 4) O ([x.1]) sv v0 x0 rfl rfl rfl rfl rfl Cq (Dz _) Au Qj rfl rfl (BU (f := Eb) (x0.res (i := 6) rfl)) rfl (by (simp only [Ad, Aj]; omega)) (by decide) fun u0 p0 b0 o0 y0 z0 b1 => ?_
 have y0 : (O ++ ([x.1]) : List Nd).length = (O).length + 1 := by (simp only [Ab, Ah, Ad, Aj]; done)
 have y0 := b1.erase 6
 refine sto 3 z0 y0 fun b1 o0 b0 p0 => ?_
 refine wn q0 <| wpIn_exit ?_
 refine EW ?_
 refine EH ?_
 have q0 := p0.nf
 have p0 := q0.erase 5
 exact ⟨_, _, 6, p0, rfl, O ++ ([x.1]), _, _, _, rfl, hO.step (x := x) (QY (by omega)).1 (QY (by omega)).2 (.inr rfl), hev⟩
 have p0 := CU n0
 have q0 := He p0
 have p0 := A9 q0
 have p0 := CT n0
 have n0 := Ak p0
 refine Dh (t0.ev rfl) ?_
 refine GH ?_
 refine xn f0 <| BM fun f0 n0 => ?_
 refine BH (by kernel_rfl) (B6 (BE Cf)) ?_
 refine lR t0 fun f0 p0 => ?_
 refine sbi (x.1.N - x.2) p0 fun f0 t0 => ?_
 refine mv t0 fun f0 p0 => ?_
 have f0 := h0.nf
 refine DI (xs := [.tmp 36, .tmp 37]) se p0 rfl rfl rfl rfl (by decide) ok139 (NG _ _ f0.il (x.1.N - x.2) (x.2) psg psA psc ps (f0.g 2) (f0.g 3) (f0.g 4) (hv := (by omega)) (hl0 := hl0) (hne := hne)) ?_
 rintro p0 h0 ⟨t0, q0, rfl, b0, o0, b1⟩
 have q0 := f0.below b0.below
 have b0 := f0.dN q0 o0
 refine ⟨_, rfl, fun q0 o0 => ?_⟩
 refine lR o0 fun q0 f0 => ?_
 refine wn n0 <| BM fun n0 q0 => ?_
 refine BM fun n0 o0 => ?_
 refine BH (by kernel_rfl) (B6 (B6 (BE Cf))) ?_
 refine mv f0 fun n0 t0 => ?_
 refine KL sv t0 rfl rfl rfl rfl Au (by decide) fun n0 f0 => ?_
 refine wn o0 <| spg 42 f0 (fun o0 n0 => ?_) fun o0 t0 => ?_
 have hz : (if x.1.N - x.2 < (ps.length : Int) then (BF ps (x.1.N - x.2).toNat).2.2 else []).length = 0 := N6 (b0.get (i := 7) rfl) o0
 have hvl : ¬ x.1.N - x.2 < (ps.length : Int) := fun q => by rw [At q] at hz; have := hne _ (Hc (t := ps) (k := (x.1.N - x.2).toNat) (by omega)); exact this (BB hz)
 have hlv : (if x.1.N - x.2 < (ps.length : Int) then x.2 else (ps.length : Int)) = ps.length := Aq hvl
 refine Dx (n0.ev rfl) ?_
 refine BM fun f0 h0 => ?_
 refine BH (by kernel_rfl) (B6 (B6 (BE Cf))) ?_
 refine lR n0 fun f0 p0 => ?_
 refine sbi (x.1.N - (if (x.1.N - x.2) < ps.length then (x.2) else ps.length)) p0 fun f0 n0 => ?_
 refine lR n0 fun f0 p0 => ?_
 refine sto 5 p0 b0 fun f0 n0 y0 z0 => ?_
 refine wn h0 <| BM fun h0 n0 => ?_
 refine BH (by kernel_rfl) (B6 (B6 (BE Cf))) ?_
 refine lR y0 fun h0 f0 => ?_
 refine bsl f0 z0 fun h0 y0 p0 u0 x0 => ?_
 refine BL (f := Eb) (i := 4) O ([(⟨(x.1.K), (x.1.N - (if (x.1.N - x.2) < ps.length then (x.2) else ps.length)), (x.1.M), x.1.S⟩ : Nd)]) sv u0 x0 rfl rfl rfl rfl rfl Cq (Dz _) Au Qj rfl rfl (BU (f := Eb) (x0.res (i := 6) rfl)) rfl (by (simp only [Ad, Aj]; omega)) (by decide) fun p0 y0 h0 f0 z0 v0 c1 => ?_
 have z0 : (O ++ ([(⟨(x.1.K), (x.1.N - (if (x.1.N - x.2) < ps.length then (x.2) else ps.length)), (x.1.M), x.1.S⟩ : Nd)]) : List Nd).length = (O).length + 1 := by (simp only [Ab, Ah, Ad, Aj]; done)
 have z0 := c1.erase 6
 refine sto 3 v0 z0 fun c1 f0 h0 y0 => ?_
 refine wn n0 <| wpIn_exit ?_
 refine EW ?_
 refine EH ?_
 have n0 := y0.nf
 have y0 := n0.erase 5
 exact ⟨_, _, 6, y0, rfl, O ++ ([(⟨(x.1.K), (x.1.N - (if (x.1.N - x.2) < ps.length then (x.2) else ps.length)), (x.1.M), x.1.S⟩ : Nd)]), _, _, _, rfl, hO.step (x := x) (UN hxr (by omega) (by omega) (by rw [Bs]; exact hvl)).1 (by rw [show reL (Bt ps) x = _ from (UN hxr (by omega) (by omega) (by rw [Bs]; exact hvl)).2, Bs, hlv]; rfl) (.inr rfl), hev⟩
 have hvl : x.1.N - x.2 < (ps.length : Int) := Decidable.byContradiction fun q => by have := b1 (Aq q); rw [this] at o0; cases o0
 have hle : (if x.1.N - x.2 < (ps.length : Int) then (BF ps (x.1.N - x.2).toNat).2.2 else []) = Ce (Bt ps) (x.1.N - x.2).toNat := by rw [At hvl, AQ]
 have hlu : (if x.1.N - x.2 < (ps.length : Int) then x.2 else (ps.length : Int)) = x.2 := At hvl
 have hlm : Ce (Bt ps) (x.1.N - x.2).toNat ∈ Bt ps := CR (by rw [Bs]; omega)
 have hlc := hok _ hlm
 have hlb := (Co hlc).2.2.2
 obtain ⟨hre, hrl⟩ := re_in (l := Bt ps) (n := x.1) (u := x.2) (by omega) (by omega) (by rw [Bs]; omega)
 refine Dh (t0.ev rfl) ?_
 refine GH ?_
 refine xn q0 <| BM fun q0 o0 => ?_
 refine BH (by kernel_rfl) (B6 (BE Cf)) ?_
 refine lR t0 fun q0 b1 => ?_
 have q0 := b0.nf
 refine kcl b1 ok137 (Iz _ _ q0.il _ _ (if (x.1.N - x.2) < ps.length then (BF ps (x.1.N - x.2).toNat).2.2 else []) (if (x.1.N - x.2) < ps.length then (x.2) else ps.length) 0 (q0.g 0) (q0.g 7) (hsm := (by rw [hle]; exact hls _ hlm)) (hl := (by rw [hle]; omega))) ?_
 rintro b1 b0 ⟨t0, y0, rfl, n0, h0, f0⟩
 have b0 := q0.callO n0 h0 f0
 refine ⟨_, rfl, fun f0 h0 => ?_⟩
 refine lR h0 fun f0 n0 => ?_
 refine wn o0 <| BM fun o0 f0 => ?_
 refine BM fun o0 h0 => ?_
 refine BH (by kernel_rfl) (B6 (B6 (BE Cf))) ?_
 refine lR n0 fun o0 q0 => ?_
 refine wn h0 ?_
 rcases Cb ((sfE (if (x.1.N - x.2) < ps.length then (BF ps (x.1.N - x.2).toNat).2.2 else []) (if (x.1.N - x.2) < ps.length then (x.2) else ps.length) 0) = 0) with h0 | h0
 have hse0 := h0
 rw [hle, hlu] at hse0
 have hre0 : reE (Bt ps) x = 0 := (show reE (Bt ps) x = _ from hre).trans hse0
 have hSe := hrl hse0
 have hSe2 : (sfA (if x.1.N - x.2 < (ps.length : Int) then (BF ps (x.1.N - x.2).toNat).2.2 else []) (if x.1.N - x.2 < (ps.length : Int) then x.2 else (ps.length : Int)) 0).reverse = (reL (Bt ps) x).reverse := by rw [show reL (Bt ps) x = _ from hSe, hle, hlu]
 have hsl : (sfA (if x.1.N - x.2 < (ps.length : Int) then (BF ps (x.1.N - x.2).toNat).2.2 else []) (if x.1.N - x.2 < (ps.length : Int) then x.2 else (ps.length : Int)) 0).reverse.length ≤ 4000 := by rw [CS]; exact Bo (KG _ _ _) (by rw [hle]; omega)
 have hsl2 : (sfA (if x.1.N - x.2 < (ps.length : Int) then (BF ps (x.1.N - x.2).toNat).2.2 else []) (if x.1.N - x.2 < (ps.length : Int) then x.2 else (ps.length : Int)) 0).length ≤ 4000 := Bo (KG _ _ _) (by rw [hle]; omega)
 have o0 := q0.setb (d := 59) (b := false) rfl (by rw [(Aw h0)]; rfl)
 refine Dh (o0.ev rfl) ?_
 refine GH ?_
 refine xn f0 <| BM fun f0 n0 => ?_
 refine BH (by kernel_rfl) (B6 (BE Cf)) ?_
 refine mv o0 fun f0 b1 => ?_
 have f0 := b0.nf
 refine kcl b1 ok149 (JO _ _ f0.il t0 y0 (sfA (if (x.1.N - x.2) < ps.length then (BF ps (x.1.N - x.2).toNat).2.2 else []) (if (x.1.N - x.2) < ps.length then (x.2) else ps.length) 0) (f0.z 6) (Dw (i := 6) rfl)) ?_
 rintro b1 y0 ⟨rfl, t0, o0⟩
 have y0 := f0.callR (i := 6) rfl t0 o0
 refine ⟨_, rfl, fun o0 t0 => ?_⟩
 have o0 := (Reg.cons t0 (Reg.cons t0 (Reg.cons t0 t0 (rs (i := 56) (n' := ((sfA (if (x.1.N - x.2) < ps.length then (BF ps (x.1.N - x.2).toNat).2.2 else []) (if (x.1.N - x.2) < ps.length then (x.2) else ps.length) 0).reverse).length) rfl (by simp only [CS, List.set_cons_succ, List.set_cons_zero]))) (rs (i := 11) (n' := ((sfA (if (x.1.N - x.2) < ps.length then (BF ps (x.1.N - x.2).toNat).2.2 else []) (if (x.1.N - x.2) < ps.length then (x.2) else ps.length) 0).reverse).length) rfl (by simp only [CS, List.set_cons_succ, List.set_cons_zero]))) (rs (i := 61) (n' := ((sfA (if (x.1.N - x.2) < ps.length then (BF ps (x.1.N - x.2).toNat).2.2 else []) (if (x.1.N - x.2) < ps.length then (x.2) else ps.length) 0).reverse).length) rfl (by simp only [CS, List.set_cons_succ, List.set_cons_zero])))
 refine wn n0 <| BM fun n0 t0 => ?_
 refine BH (by kernel_rfl) (B6 (BE Cf)) ?_
 refine lR o0 fun n0 f0 => ?_
 refine BL (f := Eb) (i := 4) O ((sfA (if (x.1.N - x.2) < ps.length then (BF ps (x.1.N - x.2).toNat).2.2 else []) (if (x.1.N - x.2) < ps.length then (x.2) else ps.length) 0).reverse) sv f0 y0 rfl rfl rfl rfl rfl Cq (Dz _) Au Qj rfl rfl (BU (f := Eb) (y0.res (i := 6) rfl)) rfl (by omega) (by decide) fun n0 o0 b1 c1 z0 v0 p0 => ?_
 have z0 : (O ++ ((sfA (if (x.1.N - x.2) < ps.length then (BF ps (x.1.N - x.2).toNat).2.2 else []) (if (x.1.N - x.2) < ps.length then (x.2) else ps.length) 0).reverse) : List Nd).length = (O).length + ((sfA (if (x.1.N - x.2) < ps.length then (BF ps (x.1.N - x.2).toNat).2.2 else []) (if (x.1.N - x.2) < ps.length then (x.2) else ps.length) 0).reverse).length := by (simp only [Ab, Ah, Ad, Aj]; done)
 have z0 := p0.erase 6
 refine sto 3 v0 z0 fun p0 c1 b1 o0 => ?_
 refine wn t0 <| BM fun t0 c1 => ?_
 refine BH (by kernel_rfl) (B6 (BE Cf)) ?_
 refine lR b1 fun t0 p0 => ?_
 refine wn c1 <| spd 68 p0 (fun c1 t0 => ?_) fun c1 b1 => ?_
 refine Dx (t0.ev rfl) ?_
 refine BH (by kernel_rfl) (BE Cf) ?_
 refine lR t0 fun c1 p0 => ?_
 have c1 := Db (o0.res (i := 4) rfl)
 refine Ez (q := 8000) sv p0 rfl rfl rfl rfl (by omega) Au DK (by omega) (by decide) fun c1 t0 => ?_
 have c1 := o0.trim Cq (i := 4) (L := (O ++ ((sfA (if (x.1.N - x.2) < ps.length then (BF ps (x.1.N - x.2).toNat).2.2 else []) (if (x.1.N - x.2) < ps.length then (x.2) else ps.length) 0).reverse))) rfl (8000) (by omega)
 have p0 := Reg.cons t0 t0 (rs (i := 70) (n' := ((O ++ ((sfA (if (x.1.N - x.2) < ps.length then (BF ps (x.1.N - x.2).toNat).2.2 else []) (if (x.1.N - x.2) < ps.length then (x.2) else ps.length) 0).reverse)).take (8000)).length) rfl (by rw [Ah]; omega))
 refine sto 3 p0 c1 fun t0 z0 v0 n0 => ?_
 refine Ae ?_
 refine A7 ?_
 have v0 := n0.nf
 have n0 := v0.erase 5
 exact ⟨_, _, 6, n0, rfl, (O ++ ((sfA (if (x.1.N - x.2) < ps.length then (BF ps (x.1.N - x.2).toNat).2.2 else []) (if (x.1.N - x.2) < ps.length then (x.2) else ps.length) 0).reverse)).take (8000), _, _, _, rfl, hO.cut (x := x) hre0 hSe2 (by omega), hev⟩
 refine Dh (b1.ev rfl) ?_
 refine GH ?_
 refine A7 ?_
 have b1 := o0.nf
 have o0 := b1.erase 5
 exact ⟨_, _, 6, o0, rfl, O ++ ((sfA (if (x.1.N - x.2) < ps.length then (BF ps (x.1.N - x.2).toNat).2.2 else []) (if (x.1.N - x.2) < ps.length then (x.2) else ps.length) 0).reverse), _, _, _, rfl, hO.step (x := x) hre0 hSe2 (.inl (by omega)), hev⟩
 have hpe0 := h0
 rw [hle, hlu] at hpe0
 have hpe := VZ hc hok hxm (fun q => hpe0 ((show reE (Bt ps) x = _ from hre).symm.trans q))
 have o0 : sfE (if x.1.N - x.2 < (ps.length : Int) then (BF ps (x.1.N - x.2).toNat).2.2 else []) (if x.1.N - x.2 < (ps.length : Int) then x.2 else (ps.length : Int)) 0 = 2 := by rw [hle, hlu]; exact (UJ hlc hx0).resolve_left hpe0
 have b1 := q0.setb (d := 59) (b := true) rfl (by rw [(Ai h0)]; rfl)
 refine Dx (b1.ev rfl) ?_
 refine BM fun h0 q0 => ?_
 refine BH (by kernel_rfl) (B6 (B6 (BE Cf))) ?_
 refine mv b1 fun h0 n0 => ?_
 refine sto 1 n0 b0 fun h0 b1 v0 z0 => ?_
 refine sto 2 v0 z0 fun b1 h0 n0 b0 => ?_
 refine wn q0 <| wpIn_ret ?_
 refine AX <| Bf ?_
 have q0 := b0.nf
 have b0 := q0.erase 6
 have q0 := b0.erase 5
 exact ⟨_, _, 6, q0, rfl, rfl, _, _, _, _, rfl, ⟨hpe.1.trans o0.symm, hpe.2⟩⟩
 rintro q0 m1 o0 ⟨O, ev, Ao, co, rfl, hO, hev⟩ b0
 have o0 := DG j0 q0
 have hOl := hO.len hc (List.prefix_refl _)
 refine A7 <| xn c0 <| Ac fun c0 q0 => rR o0 fun c0 n0 => ?_
 refine wcd n0 (fun c0 o0 => ?_) fun c0 h0 => ?_
 obtain ⟨c0, n0⟩ := VQ hc hO (by omega)
 refine wsc fun b1 z0 => sto 1 o0 b0 fun b1 v0 t0 p0 => ?_
 refine sto 2 t0 p0 fun v0 b1 o0 c1 => ?_
 refine wn z0 <| BV <| AX ?_
 have z0 := c1.nf
 obtain ⟨c1, b1⟩ := z0.shut (i := 6) rfl [] (fun _ h => by cases h)
 refine Fx (.inl rfl) o0 rfl c1 (Tw o0 rfl rfl rfl (D8 (b1.res (i := 1) rfl) rfl) (D8 (b1.res (i := 2) rfl) rfl) Au rfl CX rfl) ?_
 have c1 : poA t 0 (Bt ps) = [] := by exact n0
 rw [c1]
 refine ⟨none, 0, ?_, b1.fr, ⟨Af _, RowI.nil _ _ _ _⟩⟩
 exact Bj rfl (Bz (by exact c0.symm))
 obtain ⟨c0, n0⟩ := VS hc hO (by omega)
 have hrs := VP hc hsm hls hO (by omega)
 have hrl : O.reverse.length = O.length := CS
 refine Am <| xn q0 <| wsc fun q0 b1 => lR h0 fun q0 c1 => ?_
 have q0 := b0.nf
 refine kcl c1 ok149 (JO _ _ q0.il Ao co O (q0.z 4) (Dw (i := 4) rfl)) ?_
 rintro c1 b0 ⟨rfl, h0, o0⟩
 have b0 := q0.callR (i := 4) rfl h0 o0
 have o0 := St.cast (m' := [.box i0 159 [.func (.func 139) #[] #[.pointer (some ⟨psg, 0, none⟩)]], .box d0 22 [.slice none 0 0], .box k0 31 [.int .i64 ev], .box m0 22 [.slice Ao ((O.reverse).length) co], .row Ao ((O.reverse).length) co 30 4 (Cd O.reverse)]) b0 (by simp only [CS, List.set_cons_succ, List.set_cons_zero])
 refine ⟨_, rfl, fun b0 m0 => ?_⟩
 have b0 := (Reg.cons m0 (Reg.cons m0 m0 (rs (i := 71) (n' := (O.reverse).length) rfl (by simp only [CS, List.set_cons_succ, List.set_cons_zero]))) (rs (i := 74) (n' := (O.reverse).length) rfl (by simp only [CS, List.set_cons_succ, List.set_cons_zero])))
 refine wn b1 <| Ac fun b1 m0 => wsc fun b1 k0 => lR b0 fun b1 d0 => ?_
 have b1 := o0.nf
 have o0 := b1.pub 4 (Bw 4 Ao ((O.reverse).length) co (Cd O.reverse))
 refine kra d0 o0 Vb (DP _ _ o0.il _ _ _ (o0.g 0) (o0.g 7) (hsm := hrs) (hl := (by omega))) fun b1 b0 i0 h0 => ?_
 refine aw h0 k0 fun i0 b1 => ?_
 refine rR b1 fun k0 i0 => ?_
 refine wce i0 (fun k0 b1 => ?_) fun k0 h0 => ?_
 refine Am <| xn m0 <| wsc fun m0 k0 => lR b1 fun m0 i0 => ?_
 refine sto 1 i0 b0 fun m0 b1 o0 d0 => ?_
 refine sto 2 o0 d0 fun b1 m0 i0 q0 => ?_
 refine wn k0 <| BV ?_
 have k0 := q0.nf
 obtain ⟨q0, m0⟩ := k0.shut (i := 6) rfl [Bw 4 Ao ((O.reverse).length) co (Cd O.reverse)] (by intro d hd; simp only [AD, AG, or_false] at hd; rcases hd with rfl; exact ⟨Ax (i := 7) rfl, Lj (by decide) _ _ _ _⟩)
 refine Fx (.inl rfl) i0 rfl q0 (Tw i0 rfl rfl rfl (D8 (m0.res (i := 1) rfl) rfl) (D8 (m0.res (i := 2) rfl) rfl) Au rfl CX rfl) ?_
 have q0 : poA t 0 (Bt ps) = O.reverse := by rw [n0, At (by assumption)]
 rw [q0]
 refine ⟨Ao, co, ?_, m0.fr, m0.rx 0⟩
 exact Bj rfl (Bz (by first | exact c0.symm | (rw [c0]; symm; assumption)))
 refine wsc fun m0 q0 => mv h0 fun m0 i0 => ?_
 refine sto 1 i0 b0 fun m0 h0 k0 b1 => ?_
 refine sto 2 k0 b1 fun h0 m0 i0 b0 => ?_
 refine wn q0 <| BV <| AX ?_
 have q0 := b0.nf
 obtain ⟨b0, m0⟩ := q0.shut (i := 6) rfl [] (fun _ h => by cases h)
 refine Fx (.inl rfl) i0 rfl b0 (Tw i0 rfl rfl rfl (D8 (m0.res (i := 1) rfl) rfl) (D8 (m0.res (i := 2) rfl) rfl) Au rfl CX rfl) ?_
 have b0 : poA t 0 (Bt ps) = [] := by (rw [n0, Aq (by assumption)])
 rw [b0]
 refine ⟨none, 0, ?_, m0.fr, ⟨Af _, RowI.nil _ _ _ _⟩⟩
 exact Bj rfl (Bz (by first | exact c0.symm | (rw [c0]; symm; assumption)))
 rintro c0 cc pre m1 m0 hpre ⟨rfl, O, ev, Ao, co, rfl, hev⟩ b0
 have m0 := DG j0 c0
 refine BV <| Bf <| AX ?_
 have c0 := b0.nf
 obtain ⟨b0, j0⟩ := c0.shut (i := 6) rfl [] (fun _ h => by cases h)
 refine Fx (.inl rfl) m0 rfl b0 (Tw m0 rfl rfl rfl (D8 (j0.res (i := 1) rfl) rfl) (D8 (j0.res (i := 2) rfl) rfl) Au rfl CX rfl) ?_
 have b0 : poA t 0 (Bt ps) = [] := by exact hev.2
 rw [b0]
 refine ⟨none, 0, ?_, j0.fr, ⟨Af _, RowI.nil _ _ _ _⟩⟩
 exact Bj rfl (Bz (by exact hev.1.symm))
theorem PN (w0 : World) (Z : Nat → Prop) (hZ : HZ w0 Z) (tA : Option Addr) (tc : Nat) (t : List Nd) (psA : Option Addr) (psc : Nat) (ps : List Sl) (hShp : Cu w0 Z) (ht : N4 tA tc t w0 Z) (hps : (Bw 1 psA ps.length psc (B7 ps)).φ w0 Z) (hpss : (Cl ps).φ w0 Z) (hsm : sml t := by exact ax) (hl : t.length ≤ 1000000 := by exact ax) (hls : ∀ x ∈ Bt ps, sml x := by exact ax) (hlb : ∀ x ∈ Bt ps, x.length ≤ 1000000 := by exact ax) (hl0 : ps.length ≤ 1000 := by exact ax) :
    Calls Tryz.prog 110 [.slice tA t.length tc, .slice psA ps.length psc].toArray w0 (fun e w' => ∃ (rA0 : Option Addr) (rc0 : Nat), e = .returned (.tuple #[.slice rA0 (inA t (Bt ps)).length rc0, .int .i64 (inE t (Bt ps))]) ∧ Fr A6 w0 w' ∧ N4 rA0 rc0 (inA t (Bt ps)) w' (nxt Z w0 w')) := by
 have b0 := s0 (M := A6) hZ (zc (d := Br) hShp (zc ht (zc hps (zc hpss zn))))
 refine AE Tryz.func110 rfl Tryz.ntmps110 rfl fun c0 d0 => ?_
 refine wsc fun c0 f0 => bxx d0 b0 fun c0 h0 i0 j0 k0 => ?_
 refine lR j0 fun h0 c0 => ?_
 refine wn f0 <| Ac fun f0 h0 => wsc fun f0 j0 => mv c0 fun f0 d0 => ?_
 have f0 := k0.data (Cl [((tA, tc, t) : Sl)]) (Cy (k0.get (i := 1) rfl) Cp)
 refine bsl d0 f0 fun k0 c0 b0 m0 n0 => ?_
 refine lR m0 fun b0 c0 => ?_
 refine BL (f := FK) (i := 1) ([((tA, tc, t) : Sl)]) ps sv c0 n0 rfl rfl rfl rfl rfl Dc (D7 _) Be L3 rfl rfl (n0.row (i := 2) rfl).2.news rfl (by (simp only [Ad, Aj]; omega)) (by decide) fun b0 m0 k0 f0 d0 o0 p0 => ?_
 have d0 : (([((tA, tc, t) : Sl)]) ++ ps : List Sl).length = ps.length + 1 := by (simp only [Ab, Ah, Ad, Aj]; omega)
 have d0 := p0.data (Cl (([((tA, tc, t) : Sl)]) ++ ps)) (CH (p0.get (i := 4) rfl) (p0.get (i := 3) rfl))
 refine lR o0 fun p0 m0 => ?_
 refine wn j0 <| A4 ?_
 refine AH (fun gn ga gw => ∃ k : Nat, (Reg ga 29 [(1000000, .bool false), (0, .slice tA t.length tc), (3, .pointer (some ⟨i0, 0, none⟩)), (12, .slice k0 ((([((tA, tc, t) : Sl)]) ++ ps : List Sl).length) f0), (13, .int .i64 ((([((tA, tc, t) : Sl)]) ++ ps : List Sl).length : Int)), (14, .int .i64 (k : Int))]) ∧ (St w0 Z A6 gw [.box i0 37 [.slice psA ps.length psc], .row k0 ((([((tA, tc, t) : Sl)]) ++ ps : List Sl).length) f0 22 1 (B7 (([((tA, tc, t) : Sl)]) ++ ps))] [Br, n4 tA tc t, Bw 1 psA ps.length psc (B7 ps), Cl ps, Cl [((tA, tc, t) : Sl)], Cl (([((tA, tc, t) : Sl)]) ++ ps)]) ∧ (k ≤ ps.length + 1) ∧ (∀ i, i < k → chk (Ce (t :: Bt ps) i) = 0) ∧ (ps.length + 1 - k) = gn) _ ⟨0, (m0.sub (rc4 (rc rfl (rc rfl rnl)))), d0, by omega, (fun _ h => by omega), rfl⟩ ?_
 rintro m0 d0 f0 ⟨k, k0, j0, hk, hck, p0⟩
 have hLl : (t :: Bt ps).length = ps.length + 1 := by rw [Ad, Bs]
 refine rR k0 fun p0 f0 => ?_
 refine Ac fun p0 k0 => wcd f0 (fun p0 d0 => ?_) fun p0 m0 => ?_
 have hne : (BF ([((tA, tc, t) : Sl)] ++ ps) k).2.2 = Ce (t :: Bt ps) k := R9 _ _ _
 have hmm : Ce (t :: Bt ps) k = t ∨ Ce (t :: Bt ps) k ∈ Bt ps := by have := CR (l := t :: Bt ps) (k := k) (by rw [Ad, Bs]; omega); simpa using this
 have hms : sml (BF ([((tA, tc, t) : Sl)] ++ ps) k).2.2 := by rw [hne]; rcases hmm with q | q; rw [q]; exact hsm; exact hls _ q
 have hml : (BF ([((tA, tc, t) : Sl)] ++ ps) k).2.2.length ≤ 1000000 := by rw [hne]; rcases hmm with q | q; rw [q]; exact hl; exact hlb _ q
 refine Am <| xn k0 <| Ac fun k0 p0 => A4 ?_
 refine wsc fun k0 f0 => ix k (k * 1) d0 (Rv (t := ([((tA, tc, t) : Sl)]) ++ ps) (k := k) (j0.res (i := 1) rfl) (by omega)).some_ fun k0 o0 => ?_
 refine lde 0 (k * 1) o0 (Rv (t := ([((tA, tc, t) : Sl)]) ++ ps) (k := k) (j0.res (i := 1) rfl) (by omega)) fun k0 d0 => ?_
 have k0 := j0.el 5 k
 refine aw d0 f0 fun o0 b0 => ?_
 refine wsc fun f0 o0 => mv b0 fun f0 d0 => ?_
 have f0 := k0.nf
 refine kra d0 f0 Vb (DP _ _ f0.il _ _ ((BF (([((tA, tc, t) : Sl)]) ++ ps) k).2.2) (f0.g 0) (f0.g 6)) fun k0 b0 c0 n0 => ?_
 refine aw n0 o0 fun c0 k0 => ?_
 refine rR k0 fun o0 c0 => ?_
 refine wce c0 (fun o0 k0 => ?_) fun o0 n0 => ?_
 refine Am <| A7 <| xn p0 <| A0 ?_
 refine adi ((k + 1 : Nat) : Int) k0 fun p0 o0 => ?_
 refine mv o0 fun p0 k0 => ?_
 refine Ae ?_
 have p0 := b0.forget 6
 exact ⟨_, by omega, k + 1, (k0.sub (rc4 (rc rfl (rc rfl rnl)))), p0, by omega, TW hck (by rw [← hne]; assumption), rfl⟩
 refine rR n0 fun p0 k0 => ?_
 refine rt2 k0 ?_
 have k0 : inA t (Bt ps) = [] := (Mu (by rw [SC hck (by rw [Ad, Bs]; omega) (by rw [← hne]; assumption), ← hne]; assumption)).2
 rw [k0]
 refine ⟨none, 0, ?_, b0.fr, ⟨Af _, RowI.nil _ _ _ _⟩⟩
 exact Bj rfl (Bz (by (rw [(Mu (by rw [SC hck (by rw [Ad, Bs]; omega) (by rw [← hne]; assumption), ← hne]; assumption)).1, SC hck (by rw [Ad, Bs]; omega) (by rw [← hne]; assumption), hne]; done)))
 obtain ⟨hca, hco⟩ := WR hck (by rw [Ad, Bs]; omega)
 have hct : chk t = 0 := hco t (by simp)
 have hol : oks (Bt ps) := fun p hp => hco p (by simp [hp])
 refine xe ?_
 refine xn h0 <| wsc fun h0 b0 => mv m0 fun h0 k0 => ?_
 refine C8 sv k0 rfl rfl rfl (by decide) fun h0 m0 => ?_
 have h0 := j0.nf
 obtain ⟨j0, k0⟩ := h0.box_data (i := 0) rfl (fun _ h => h)
 have h0 := j0.data (Ct i0 [.slice psA ps.length psc]) k0
 refine krb m0 h0 ok138 (Rb _ _ h0.il _ _ _ i0 psA psc ps (h0.g 0) (h0.g 1) (h0.g 2) (h0.g 3) (h0.g 6) (hsm := hsm) (hl := hl) (hc := hct) (hok := hol) (hls := hls) (hl0 := hl0)) fun k0 j0 p0 n0 o0 c0 => ?_
 refine lR c0 fun o0 k0 => ?_
 refine wn b0 <| rt2 k0 ?_
 have k0 : inA t (Bt ps) = poA t 0 (Bt ps) := (PO hca).2
 rw [k0]
 refine ⟨j0, p0, ?_, n0.fr, n0.rx 7⟩
 exact Bj rfl (Bz (by exact (PO hca).1.symm))
end Go.Proofs.YtpfmnpaifchleaaGreatDoor
