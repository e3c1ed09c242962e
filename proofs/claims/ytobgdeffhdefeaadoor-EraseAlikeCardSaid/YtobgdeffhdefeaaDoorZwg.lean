import Derived.Test.YtobgdeffhdefeaaDoorZwf
import Derived.Test.YtobgdeffhdefeaaDoorCards
import Derived.Test.YtobgdeffhdefeaaDoorTie
import Derived.ProofKit
import Derived.OpenShut
import Derived.ReadAgain
import Derived.Deep.DeepHandedRow
import Derived.Deep.Slices
import Derived.Lib.LaidTab
/- Contracts of functions, one theorem each: what the call returns, and that nothing old is changed. Printed by gen.py. -/
namespace Go.Proofs.YtobgdeffhdefeaaDoor
open Go Go.RowKit
set_option linter.unusedSimpArgs false
set_option linter.unusedVariables false

set_option maxRecDepth 100000 in
set_option maxHeartbeats 1000000 in
theorem replace_calls (w0 : World) (Z : Nat → Prop) (hZ : ∀ k, Z k → k < w0.heap.size) (tA : Option Addr) (tc : Nat) (t : List Nd) (i : Nat) (j : Nat) (vA : Option Addr) (vc : Nat) (v : List Nd) (ht : (Res.row tA (t).length tc 32 4 (encNs t)).holds w0) (htz : ∀ k, rM tA k → ¬ Z k) (hv : (dRow 4 vA v.length vc (encNs v)).φ w0 Z) (hl : t.length ≤ 1000000) (hij : i < j) (hj : j ≤ t.length) (hvl : v.length = 1) :
    Calls Tryd.prog 53 [.slice tA t.length tc, .int .i64 ((i : Nat) : Int), .int .i64 ((j : Nat) : Int), .slice vA v.length vc].toArray w0 (fun e w' => e = .returned (.slice tA (t.take i ++ v ++ t.drop j).length tc) ∧ Fr (rM tA) w0 w' ∧ (Res.row tA (t.take i ++ v ++ t.drop j).length tc 32 4 (encNs (t.take i ++ v ++ t.drop j))).holds w') := by
  have hstart : ∀ k, Z k → imm Z w0 [.row tA ((t).length) tc 32 4 (encNs t)] w0 k ∧ w0.heap[k]? = w0.heap[k]? := fun k hk => imm_startR hZ htz hk
  have hS3 : St w0 Z (rM tA) w0 [.row tA ((t).length) tc 32 4 (encNs t)] [dRow 4 vA v.length vc (encNs v)] := St.startR w0 Z _ _ _ _ _ _ _ ht (by
    intro d hd
    simp only [List.mem_cons, List.not_mem_nil, or_false] at hd
    rcases hd with rfl
    · exact Dat.mono _ _ _ _ _ (Nat.le_refl _) hv hstart
    )
  refine c_enter Tryd.func53 rfl Tryd.ntmps53 rfl (fun a1 hR2 => ?_)
  refine wp_seq_k (fun K4 hK5 => ?_)
  refine c_region ?_
  refine asg hR2 (fun a6 hR7 => ?_)
  refine wpList_nil (x_then_n (hK5 _ _ ?_))
  refine wp_seq_k (fun K8 hK9 => ?_)
  refine c_region ?_
  refine mv hR7 (fun a10 hR11 => ?_)
  refine mv hR11 (fun a12 hR13 => ?_)
  refine mv hR13 (fun a14 hR15 => ?_)
  have hcap22 := own_cap (hS3.res (i := 0) rfl)
  refine m_sliceV (lo := some (.tmp 16)) (hi := some (.tmp 17)) (vlo := (some (.int .i64 ((i : Nat) : Int)))) (vhi := (some (.int .i64 ((j : Nat) : Int)))) (kd := .i64) (kd' := .i64) sv hR15 rfl rfl rfl rfl rfl (i) ((j) - (i)) (.inl (by first | rfl | (congr 2; omega))) (.inl (by congr 2; omega)) Tryd.underlying22 sz32 (by omega) (by decide) (fun a16 A18 c19 hc20 hv21 hR17 => ?_)
  refine wpList_nil (x_then_n (hK9 _ _ ?_))
  refine wp_seq_k (fun K23 hK24 => ?_)
  refine wp_seq_k (fun K25 hK26 => ?_)
  refine c_region ?_
  refine mv hR17 (fun a27 hR28 => ?_)
  refine mv hR28 (fun a29 hR30 => ?_)
  refine r_eql sv hR30 rfl rfl rfl rfl (by decide) (fun a31 hR32 => ?_)
  refine wpList_nil (x_then_n (hK26 _ _ ?_))
  rcases Decidable.em (((i : Nat) : Int) = ((j : Nat) : Int)) with h33 | h33
  · skip
    exfalso; omega
  · skip
    have hR34 := hR32.setb (d := 21) (b := false) rfl (decide_eq_false h33)
    refine wp_cond_false (hR34.ev rfl) ?_
    refine wp_skip ?_
    refine x_then_n (hK24 _ _ ?_)
    refine wp_seq_k (fun K35 hK36 => ?_)
    refine wp_seq_k (fun K37 hK38 => ?_)
    refine c_region ?_
    refine mv hR34 (fun a39 hR40 => ?_)
    refine mv hR40 (fun a41 hR42 => ?_)
    refine r_len sv hR42 rfl rfl rfl rfl Tryd.underlying22 (by decide) (fun a43 hR44 => ?_)
    refine r_eql sv hR44 rfl rfl rfl rfl (by decide) (fun a45 hR46 => ?_)
    refine wpList_nil (x_then_n (hK38 _ _ ?_))
    rcases Decidable.em (((j : Nat) : Int) = ((t.length : Nat) : Int)) with h47 | h47
    · skip
      have hR48 := hR46.setb (d := 29) (b := true) rfl (decide_eq_true h47)
      refine wp_cond_true (hR48.ev rfl) ?_
      refine wp_seq_k (fun K49 hK50 => ?_)
      refine c_region ?_
      refine mv hR48 (fun a51 hR52 => ?_)
      refine mv hR52 (fun a53 hR54 => ?_)
      have hcap57 := own_cap (hS3.res (i := 0) rfl)
      refine m_sliceP (q := i) sv hR54 rfl rfl rfl rfl (by omega) Tryd.underlying22 sz32 (by omega) (by decide) (fun a58 hR59 => ?_)
      refine mv hR59 (fun a60 hR61 => ?_)
      refine m_appendFit (f := encN) (i := 0) (L := t) (K := v) sv hR61 hS3 rfl rfl rfl rfl rfl (by omega) (by omega) Tryd.underlying22 sz32 encN_len (one1 (f := encN) encN_one) (by first | rfl | omega) (hS3.row (i := 0) rfl).2.news _ rfl (by decide) (fun a62 w63 hR64 hS65 => ?_)
      have hl66 : (t.take (i) ++ v ++ t.drop (i + v.length)).length = (t).length := by simp only [List.length_append, List.length_take, List.length_drop]; omega
      refine asg hR64 (fun a67 hR68 => ?_)
      refine wpList_nil (x_then_n (hK50 _ _ ?_))
      refine wp_seq_k (fun K69 hK70 => ?_)
      refine wp_seq_k (fun K71 hK72 => ?_)
      refine c_region ?_
      refine mv hR68 (fun a73 hR74 => ?_)
      refine r_len sv hR74 rfl rfl rfl rfl Tryd.underlying22 (by decide) (fun a75 hR76 => ?_)
      refine mv hR76 (fun a77 hR78 => ?_)
      refine r_len sv hR78 rfl rfl rfl rfl Tryd.underlying22 (by decide) (fun a79 hR80 => ?_)
      refine r_lss sv hR80 rfl rfl rfl rfl (by decide) (fun a81 hR82 => ?_)
      refine wpList_nil (x_then_n (hK72 _ _ ?_))
      rcases Decidable.em (((i + v.length : Nat) : Int) < ((t.length : Nat) : Int)) with h83 | h83
      · skip
        have hR84 := hR82.setb (d := 39) (b := true) rfl (decide_eq_true h83)
        refine wp_cond_true (hR84.ev rfl) ?_
        refine c_region ?_
        refine mv hR84 (fun a85 hR86 => ?_)
        refine mv hR86 (fun a87 hR88 => ?_)
        refine r_len sv hR88 rfl rfl rfl rfl Tryd.underlying22 (by decide) (fun a89 hR90 => ?_)
        have hcap97 := own_cap (hS65.res (i := 0) rfl)
        refine m_sliceV (lo := some (.tmp 42)) (hi := none) (vlo := (some (.int .i64 ((i + v.length : Nat) : Int)))) (vhi := none) (kd := .i64) (kd' := .i64) sv hR90 rfl rfl rfl rfl rfl (i + v.length) ((t.length) - (i + v.length)) (.inl (by first | rfl | (congr 2; omega))) (.inr ⟨rfl, by omega⟩) Tryd.underlying22 sz32 (by omega) (by decide) (fun a91 A93 c94 hc95 hv96 hR92 => ?_)
        refine m_clear (f := encN) (i := 0) (L := (t.take (i) ++ v ++ t.drop (i + v.length))) (k := (i + v.length)) (z0 := (⟨0, 0, 0, (⟨#[]⟩ : ByteArray)⟩ : Nd)) sv hR92 hS65 rfl rfl rfl rfl hv96 (by omega) Tryd.underlying22 zi32 encN_len (one1 (f := encN) encN_one) rfl _ rfl (fun a98 w99 hR100 hS101 => ?_)
        have hl102 : ((t.take (i) ++ v ++ t.drop (i + v.length)).take (i + v.length) ++ List.replicate ((t.length) - (i + v.length)) (⟨0, 0, 0, (⟨#[]⟩ : ByteArray)⟩ : Nd) ++ (t.take (i) ++ v ++ t.drop (i + v.length)).drop ((i + v.length) + ((t.length) - (i + v.length))) : List Nd).length = (t.take (i) ++ v ++ t.drop (i + v.length)).length := by simp only [List.length_append, List.length_take, List.length_drop, List.length_replicate]; omega
        refine wpList_nil (x_then_n (hK70 _ _ ?_))
        refine wp_seq_k (fun K103 hK104 => ?_)
        refine c_region ?_
        refine mv hR100 (fun a105 hR106 => ?_)
        refine asg hR106 (fun a107 hR108 => ?_)
        refine wpList_nil (x_then_n (hK104 _ _ ?_))
        refine wp_ret ?_
        refine x_then_r ?_
        refine e_ret1 hR108 rfl rfl rfl ?_
        have hS109 := hS101.trim encN_len (i := 0) (L := ((t.take (i) ++ v ++ t.drop (i + v.length)).take (i + v.length) ++ List.replicate ((t.length) - (i + v.length)) (⟨0, 0, 0, (⟨#[]⟩ : ByteArray)⟩ : Nd) ++ (t.take (i) ++ v ++ t.drop (i + v.length)).drop ((i + v.length) + ((t.length) - (i + v.length))))) rfl (i + v.length) (by omega)
        have he110 : ((t.take (i) ++ v ++ t.drop (i + v.length)).take (i + v.length) ++ List.replicate ((t.length) - (i + v.length)) (⟨0, 0, 0, (⟨#[]⟩ : ByteArray)⟩ : Nd) ++ (t.take (i) ++ v ++ t.drop (i + v.length)).drop ((i + v.length) + ((t.length) - (i + v.length)))).take (i + v.length) = t.take i ++ v ++ t.drop j := by first | exact rep_end (by omega) (by omega) rfl | exact rep_end2 (by omega) (by omega) rfl (List.append_assoc _ _ _)
        have hS111 := hS109
        rw [he110] at hS111
        refine ⟨?_, hS111.fr, hS111.res (i := 0) rfl⟩
        exact congrArg Ending.returned (ret_s (by first | rfl | (exact congrArg List.length he110; done) | (rw [← he110]; simp; done) | (rw [← he110]; simp; omega) | omega))
      · skip
        have hR112 := hR82.setb (d := 39) (b := false) rfl (decide_eq_false h83)
        refine wp_cond_false (hR112.ev rfl) ?_
        refine wp_skip ?_
        refine x_then_n (hK70 _ _ ?_)
        refine wp_seq_k (fun K113 hK114 => ?_)
        refine c_region ?_
        refine mv hR112 (fun a115 hR116 => ?_)
        refine asg hR116 (fun a117 hR118 => ?_)
        refine wpList_nil (x_then_n (hK114 _ _ ?_))
        refine wp_ret ?_
        refine x_then_r ?_
        refine e_ret1 hR118 rfl rfl rfl ?_
        have hS119 := hS65.trim encN_len (i := 0) (L := (t.take (i) ++ v ++ t.drop (i + v.length))) rfl (i + v.length) (by omega)
        have he120 : (t.take (i) ++ v ++ t.drop (i + v.length)).take (i + v.length) = t.take i ++ v ++ t.drop j := by first | exact rep_end (by omega) (by omega) rfl | exact rep_end2 (by omega) (by omega) rfl (List.append_assoc _ _ _)
        have hS121 := hS119
        rw [he120] at hS121
        refine ⟨?_, hS121.fr, hS121.res (i := 0) rfl⟩
        exact congrArg Ending.returned (ret_s (by first | rfl | (exact congrArg List.length he120; done) | (rw [← he120]; simp; done) | (rw [← he120]; simp; omega) | omega))
    · skip
      have hR122 := hR46.setb (d := 29) (b := false) rfl (decide_eq_false h47)
      refine wp_cond_false (hR122.ev rfl) ?_
      refine wp_skip ?_
      refine x_then_n (hK36 _ _ ?_)
      refine wp_seq_k (fun K123 hK124 => ?_)
      obtain ⟨J125, hJ126, hS127⟩ := hS3.agree
      refine d_region2 (S := (fun x => agr w0 J125 x ∧ True)) (n := 13) mixed rfl hS127 (pan_then pan_body) (fun Q130 hP131 hN132 w128 hS129 => ?_)
      have hSw133 : agr w0 J125 w128 ∧ True := ⟨⟨(hS129.get (i := 1) rfl).1, fun k hk => ((hS129.get (i := 1) rfl).2 k hk).2⟩, trivial⟩
      refine dt 0 rfl hP131 hR122 (want_n rfl) (fun x hx => r_move (sy hR122) hR122 rfl rfl rfl (by decide) gt) hSw133 (fun a134 hR135 => ?_)
      refine dt 1 rfl hP131 hR135 (want_n rfl) (fun x hx => r_move (sy hR135) hR135 rfl rfl rfl (by decide) gt) hSw133 (fun a136 hR137 => ?_)
      refine dt 2 rfl hP131 hR137 (want_n rfl) (fun x hx => m_sliceP (q := i) (sy hR137) hR137 rfl rfl rfl rfl (by omega) Tryd.underlying22 sz32 (by omega) (by decide) gt) hSw133 (fun a140 hR141 => ?_)
      refine dt 3 rfl hP131 hR141 (want_n rfl) (fun x hx => r_len (sy hR141) hR141 rfl rfl rfl rfl Tryd.underlying22 (by decide) gt) hSw133 (fun a142 hR143 => ?_)
      refine dt 4 rfl hP131 hR143 (want_n rfl) (fun x hx => r_move (sy hR143) hR143 rfl rfl rfl (by decide) gt) hSw133 (fun a144 hR145 => ?_)
      refine dt 5 rfl hP131 hR145 (want_n rfl) (fun x hx => r_len (sy hR145) hR145 rfl rfl rfl rfl Tryd.underlying22 (by decide) gt) hSw133 (fun a146 hR147 => ?_)
      refine dt 6 rfl hP131 hR147 (want_n rfl) (fun x hx => r_add (z := ((i + v.length : Nat) : Int)) (sy hR147) hR147 rfl rfl rfl rfl (by decide) (by omega) (by omega) (by omega) gt) hSw133 (fun a148 hR149 => ?_)
      refine dt 7 rfl hP131 hR149 (want_n rfl) (fun x hx => r_move (sy hR149) hR149 rfl rfl rfl (by decide) gt) hSw133 (fun a150 hR151 => ?_)
      refine dt 8 rfl hP131 hR151 (want_n rfl) (fun x hx => r_move (sy hR151) hR151 rfl rfl rfl (by decide) gt) hSw133 (fun a152 hR153 => ?_)
      refine dt 9 rfl hP131 hR153 (want_n rfl) (fun x hx => m_sliceA (lo := some (.tmp 53)) (hi := none) (vlo := (some (.int .i64 ((j : Nat) : Int)))) (vhi := none) (kd := .i64) (kd' := .i64) (sy hR153) hR153 rfl rfl rfl rfl rfl (j) ((t.length) - (j)) (.inl (by first | rfl | (congr 2; omega))) (.inr ⟨rfl, by omega⟩) Tryd.underlying22 sz32 (by omega) (by decide) gt) hSw133 (fun a156 hR157 => ?_)
      refine dt 10 rfl hP131 hR157 (want_n rfl) (fun x hx => r_len (sy hR157) hR157 rfl rfl rfl rfl Tryd.underlying22 (by decide) gt) hSw133 (fun a158 hR159 => ?_)
      refine dt 11 rfl hP131 hR159 (want_n rfl) (fun x hx => r_add (z := (((i : Nat) : Int) + ((v.length : Nat) : Int) + ((t.length : Nat) : Int) - ((j : Nat) : Int))) (sy hR159) hR159 rfl rfl rfl rfl (by decide) (by omega) (by omega) (by omega) gt) hSw133 (fun a160 hR161 => ?_)
      refine dt 12 rfl hP131 hR161 (want_n rfl) (fun x hx => r_assign (sy hR161) hR161 rfl rfl rfl (by decide) gt) hSw133 (fun a162 hR163 => ?_)
      refine wpAnyH_done (by kernel_rfl) (hN132 _ _ ?_) _
      refine x_then_n (hK124 _ _ ?_)
      refine wp_seq_k (fun K164 hK165 => ?_)
      refine wp_seq_k (fun K166 hK167 => ?_)
      refine c_region ?_
      refine mv hR163 (fun a168 hR169 => ?_)
      refine mv hR169 (fun a170 hR171 => ?_)
      refine r_cap sv hR171 rfl rfl rfl rfl Tryd.underlying22 (by decide) (fun a172 hR173 => ?_)
      refine r_gtr sv hR173 rfl rfl rfl rfl (by decide) (fun a174 hR175 => ?_)
      refine wpList_nil (x_then_n (hK167 _ _ ?_))
      rcases Decidable.em (((tc : Nat) : Int) < (((i : Nat) : Int) + ((v.length : Nat) : Int) + ((t.length : Nat) : Int) - ((j : Nat) : Int))) with h176 | h176
      · skip
        exfalso; omega
      · skip
        have hR177 := hR175.setb (d := 60) (b := false) rfl (decide_eq_false h176)
        refine wp_cond_false (hR177.ev rfl) ?_
        refine wp_skip ?_
        refine x_then_n (hK165 _ _ ?_)
        refine wp_seq_k (fun K178 hK179 => ?_)
        refine c_region ?_
        refine mv hR177 (fun a180 hR181 => ?_)
        refine mv hR181 (fun a182 hR183 => ?_)
        have hcap186 := own_cap (hS129.res (i := 0) rfl)
        refine m_sliceP (q := (i + v.length + t.length) - (j)) sv hR183 rfl rfl rfl rfl (by omega) Tryd.underlying22 sz32 (by omega) (by decide) (fun a187 hR188 => ?_)
        refine asg hR188 (fun a189 hR190 => ?_)
        refine wpList_nil (x_then_n (hK179 _ _ ?_))
        refine wp_seq_k (fun K191 hK192 => ?_)
        refine wp_seq_k (fun K193 hK194 => ?_)
        refine c_region ?_
        refine mv hR190 (fun a195 hR196 => ?_)
        refine mv hR196 (fun a197 hR198 => ?_)
        refine r_len sv hR198 rfl rfl rfl rfl Tryd.underlying22 (by decide) (fun a199 hR200 => ?_)
        refine r_add (z := ((i + v.length : Nat) : Int)) sv hR200 rfl rfl rfl rfl (by decide) (by omega) (by omega) (by omega) (fun a201 hR202 => ?_)
        refine mv hR202 (fun a203 hR204 => ?_)
        refine r_leq sv hR204 rfl rfl rfl rfl (by decide) (fun a205 hR206 => ?_)
        refine wpList_nil (x_then_n (hK194 _ _ ?_))
        rcases Decidable.em (((i + v.length : Nat) : Int) ≤ ((j : Nat) : Int)) with h207 | h207
        · skip
          have hR208 := hR206.setb (d := 92) (b := true) rfl (decide_eq_true h207)
          refine wp_cond_true (hR208.ev rfl) ?_
          refine wp_seq_k (fun K209 hK210 => ?_)
          refine c_region ?_
          refine mv hR208 (fun a211 hR212 => ?_)
          refine mv hR212 (fun a213 hR214 => ?_)
          have hcap221 := own_cap (hS129.res (i := 0) rfl)
          refine m_sliceV (lo := some (.tmp 94)) (hi := none) (vlo := (some (.int .i64 ((i : Nat) : Int)))) (vhi := none) (kd := .i64) (kd' := .i64) sv hR214 rfl rfl rfl rfl rfl (i) ((v.length + t.length) - (j)) (.inl (by first | rfl | (congr 2; omega))) (.inr ⟨rfl, by omega⟩) Tryd.underlying22 sz32 (by omega) (by decide) (fun a215 A217 c218 hc219 hv220 hR216 => ?_)
          refine mv hR216 (fun a222 hR223 => ?_)
          have hk228 : (v).length = Nat.min (v.length) ((v.length + t.length) - (j)) := by show _ = min _ _; first | omega | (simp only [List.length_append, List.length_take, List.length_drop, List.length_cons, List.length_nil]; omega)
          have := Nat.min_le_right (v.length) ((v.length + t.length) - (j))
          refine m_copy (f := encN) (i := 0) (L := t) (K := v) (k := i) sv hR223 hS129 rfl rfl rfl rfl rfl hv220 (by omega) Tryd.underlying22 sz32 encN_len (one1 (f := encN) encN_one) hk228 (hS129.row (i := 0) rfl).2.news _ rfl (by decide) (fun a224 w225 hR226 hS227 => ?_)
          have hl229 : (t.take (i) ++ v ++ t.drop (i + v.length)).length = (t).length := by simp only [List.length_append, List.length_take, List.length_drop]; omega
          refine wpList_nil (x_then_n (hK210 _ _ ?_))
          refine wp_seq_k (fun K230 hK231 => ?_)
          obtain ⟨J232, hJ233, hS234⟩ := hS227.agree
          refine d_region2 (S := (fun x => agr w225 J232 x ∧ True)) (n := 10) mixed rfl hS234 (pan_then (pan_then pan_body)) (fun Q237 hP238 hN239 w235 hS236 => ?_)
          have hSw240 : agr w225 J232 w235 ∧ True := ⟨⟨(hS236.get (i := 2) rfl).1, fun k hk => ((hS236.get (i := 2) rfl).2 k hk).2⟩, trivial⟩
          refine dt 0 rfl hP238 hR226 (want_n rfl) (fun x hx => r_move (sy hR226) hR226 rfl rfl rfl (by decide) gt) hSw240 (fun a241 hR242 => ?_)
          refine dt 1 rfl hP238 hR242 (want_n rfl) (fun x hx => r_move (sy hR242) hR242 rfl rfl rfl (by decide) gt) hSw240 (fun a243 hR244 => ?_)
          refine dt 2 rfl hP238 hR244 (want_n rfl) (fun x hx => r_move (sy hR244) hR244 rfl rfl rfl (by decide) gt) hSw240 (fun a245 hR246 => ?_)
          refine dt 3 rfl hP238 hR246 (want_n rfl) (fun x hx => r_len (sy hR246) hR246 rfl rfl rfl rfl Tryd.underlying22 (by decide) gt) hSw240 (fun a247 hR248 => ?_)
          refine dt 4 rfl hP238 hR248 (want_n rfl) (fun x hx => r_add (z := ((i + v.length : Nat) : Int)) (sy hR248) hR248 rfl rfl rfl rfl (by decide) (by omega) (by omega) (by omega) gt) hSw240 (fun a249 hR250 => ?_)
          refine dt 5 rfl hP238 hR250 (want_n rfl) (fun x hx => m_sliceA (lo := some (.tmp 102)) (hi := none) (vlo := (some (.int .i64 ((i + v.length : Nat) : Int)))) (vhi := none) (kd := .i64) (kd' := .i64) (sy hR250) hR250 rfl rfl rfl rfl rfl (i + v.length) ((t.length) - (j)) (.inl (by first | rfl | (congr 2; omega))) (.inr ⟨rfl, by omega⟩) Tryd.underlying22 sz32 (by omega) (by decide) gt) hSw240 (fun a253 hR254 => ?_)
          refine dt 6 rfl hP238 hR254 (want_n rfl) (fun x hx => r_move (sy hR254) hR254 rfl rfl rfl (by decide) gt) hSw240 (fun a255 hR256 => ?_)
          refine dt 7 rfl hP238 hR256 (want_n rfl) (fun x hx => r_move (sy hR256) hR256 rfl rfl rfl (by decide) gt) hSw240 (fun a257 hR258 => ?_)
          refine dt 8 rfl hP238 hR258 (want_n rfl) (fun x hx => m_sliceA (lo := some (.tmp 105)) (hi := none) (vlo := (some (.int .i64 ((j : Nat) : Int)))) (vhi := none) (kd := .i64) (kd' := .i64) (sy hR258) hR258 rfl rfl rfl rfl rfl (j) ((t.length) - (j)) (.inl (by first | rfl | (congr 2; omega))) (.inr ⟨rfl, by omega⟩) Tryd.underlying22 sz32 (by omega) (by decide) gt) hSw240 (fun a261 hR262 => ?_)
          refine d_one (i := 9) (by kernel_rfl) ?_
          have hk267 : (((t.take (i) ++ v ++ t.drop (i + v.length)).drop (j)).take ((t.length) - (j))).length = Nat.min ((t.length) - (j)) ((t.length) - (j)) := by show _ = min _ _; first | omega | (simp only [List.length_append, List.length_take, List.length_drop, List.length_cons, List.length_nil]; omega)
          have := Nat.min_le_right ((t.length) - (j)) ((t.length) - (j))
          refine m_copy (f := encN) (i := 0) (L := (t.take (i) ++ v ++ t.drop (i + v.length))) (K := (((t.take (i) ++ v ++ t.drop (i + v.length)).drop (j)).take ((t.length) - (j)))) (k := (i + v.length)) (st_opV rfl (want_n rfl)) hR262 hS236 rfl rfl rfl rfl rfl (cut_A (by omega)) (by omega) Tryd.underlying22 sz32 encN_len (one1 (f := encN) encN_one) hk267 (own_cut_cells (f := encN) (i := 0) (L := (t.take (i) ++ v ++ t.drop (i + v.length))) (k := j) (q := (t.length) - (j)) hS236 rfl (cut_A (by omega)) encN_len (by omega)) _ rfl (by decide) (fun a263 w264 hR265 hS266 => ?_)
          have hl268 : ((t.take (i) ++ v ++ t.drop (i + v.length)).take (i + v.length) ++ (((t.take (i) ++ v ++ t.drop (i + v.length)).drop (j)).take ((t.length) - (j))) ++ (t.take (i) ++ v ++ t.drop (i + v.length)).drop ((i + v.length) + (((t.take (i) ++ v ++ t.drop (i + v.length)).drop (j)).take ((t.length) - (j))).length)).length = (t.take (i) ++ v ++ t.drop (i + v.length)).length := by simp only [List.length_append, List.length_take, List.length_drop]; omega
          have hSw269 : agr w225 J232 w264 ∧ True := ⟨⟨(hS266.get (i := 2) rfl).1, fun k hk => ((hS266.get (i := 2) rfl).2 k hk).2⟩, trivial⟩
          refine ⟨hSw269, ?_⟩
          refine wpAnyH_done (by kernel_rfl) (hN239 _ _ ?_) _
          refine x_then_n (hK231 _ _ ?_)
          refine wp_seq_k (fun K270 hK271 => ?_)
          refine c_region ?_
          refine mv hR265 (fun a272 hR273 => ?_)
          refine mv hR273 (fun a274 hR275 => ?_)
          have hcap282 := own_cap (hS266.res (i := 0) rfl)
          refine m_sliceV (lo := some (.tmp 109)) (hi := none) (vlo := (some (.int .i64 (((i : Nat) : Int) + ((v.length : Nat) : Int) + ((t.length : Nat) : Int) - ((j : Nat) : Int))))) (vhi := none) (kd := .i64) (kd' := .i64) sv hR275 rfl rfl rfl rfl rfl ((i + v.length + t.length) - (j)) ((j) - (i + v.length)) (.inl (by first | rfl | (congr 2; omega))) (.inr ⟨rfl, by omega⟩) Tryd.underlying22 sz32 (by omega) (by decide) (fun a276 A278 c279 hc280 hv281 hR277 => ?_)
          refine m_clear (f := encN) (i := 0) (L := ((t.take (i) ++ v ++ t.drop (i + v.length)).take (i + v.length) ++ (((t.take (i) ++ v ++ t.drop (i + v.length)).drop (j)).take ((t.length) - (j))) ++ (t.take (i) ++ v ++ t.drop (i + v.length)).drop ((i + v.length) + (((t.take (i) ++ v ++ t.drop (i + v.length)).drop (j)).take ((t.length) - (j))).length))) (k := ((i + v.length + t.length) - (j))) (z0 := (⟨0, 0, 0, (⟨#[]⟩ : ByteArray)⟩ : Nd)) sv hR277 hS266 rfl rfl rfl rfl hv281 (by omega) Tryd.underlying22 zi32 encN_len (one1 (f := encN) encN_one) rfl _ rfl (fun a283 w284 hR285 hS286 => ?_)
          have hl287 : (((t.take (i) ++ v ++ t.drop (i + v.length)).take (i + v.length) ++ (((t.take (i) ++ v ++ t.drop (i + v.length)).drop (j)).take ((t.length) - (j))) ++ (t.take (i) ++ v ++ t.drop (i + v.length)).drop ((i + v.length) + (((t.take (i) ++ v ++ t.drop (i + v.length)).drop (j)).take ((t.length) - (j))).length)).take ((i + v.length + t.length) - (j)) ++ List.replicate ((j) - (i + v.length)) (⟨0, 0, 0, (⟨#[]⟩ : ByteArray)⟩ : Nd) ++ ((t.take (i) ++ v ++ t.drop (i + v.length)).take (i + v.length) ++ (((t.take (i) ++ v ++ t.drop (i + v.length)).drop (j)).take ((t.length) - (j))) ++ (t.take (i) ++ v ++ t.drop (i + v.length)).drop ((i + v.length) + (((t.take (i) ++ v ++ t.drop (i + v.length)).drop (j)).take ((t.length) - (j))).length)).drop (((i + v.length + t.length) - (j)) + ((j) - (i + v.length))) : List Nd).length = ((t.take (i) ++ v ++ t.drop (i + v.length)).take (i + v.length) ++ (((t.take (i) ++ v ++ t.drop (i + v.length)).drop (j)).take ((t.length) - (j))) ++ (t.take (i) ++ v ++ t.drop (i + v.length)).drop ((i + v.length) + (((t.take (i) ++ v ++ t.drop (i + v.length)).drop (j)).take ((t.length) - (j))).length)).length := by simp only [List.length_append, List.length_take, List.length_drop, List.length_replicate]; omega
          refine wpList_nil (x_then_n (hK271 _ _ ?_))
          refine wp_seq_k (fun K288 hK289 => ?_)
          refine c_region ?_
          refine mv hR285 (fun a290 hR291 => ?_)
          refine asg hR291 (fun a292 hR293 => ?_)
          refine wpList_nil (x_then_n (hK289 _ _ ?_))
          refine wp_ret ?_
          refine x_then_r ?_
          refine e_ret1 hR293 rfl rfl rfl ?_
          have hS294 := hS286.trim encN_len (i := 0) (L := (((t.take (i) ++ v ++ t.drop (i + v.length)).take (i + v.length) ++ (((t.take (i) ++ v ++ t.drop (i + v.length)).drop (j)).take ((t.length) - (j))) ++ (t.take (i) ++ v ++ t.drop (i + v.length)).drop ((i + v.length) + (((t.take (i) ++ v ++ t.drop (i + v.length)).drop (j)).take ((t.length) - (j))).length)).take ((i + v.length + t.length) - (j)) ++ List.replicate ((j) - (i + v.length)) (⟨0, 0, 0, (⟨#[]⟩ : ByteArray)⟩ : Nd) ++ ((t.take (i) ++ v ++ t.drop (i + v.length)).take (i + v.length) ++ (((t.take (i) ++ v ++ t.drop (i + v.length)).drop (j)).take ((t.length) - (j))) ++ (t.take (i) ++ v ++ t.drop (i + v.length)).drop ((i + v.length) + (((t.take (i) ++ v ++ t.drop (i + v.length)).drop (j)).take ((t.length) - (j))).length)).drop (((i + v.length + t.length) - (j)) + ((j) - (i + v.length))))) rfl ((i + v.length + t.length) - (j)) (by omega)
          have he295 : (((t.take (i) ++ v ++ t.drop (i + v.length)).take (i + v.length) ++ (((t.take (i) ++ v ++ t.drop (i + v.length)).drop (j)).take ((t.length) - (j))) ++ (t.take (i) ++ v ++ t.drop (i + v.length)).drop ((i + v.length) + (((t.take (i) ++ v ++ t.drop (i + v.length)).drop (j)).take ((t.length) - (j))).length)).take ((i + v.length + t.length) - (j)) ++ List.replicate ((j) - (i + v.length)) (⟨0, 0, 0, (⟨#[]⟩ : ByteArray)⟩ : Nd) ++ ((t.take (i) ++ v ++ t.drop (i + v.length)).take (i + v.length) ++ (((t.take (i) ++ v ++ t.drop (i + v.length)).drop (j)).take ((t.length) - (j))) ++ (t.take (i) ++ v ++ t.drop (i + v.length)).drop ((i + v.length) + (((t.take (i) ++ v ++ t.drop (i + v.length)).drop (j)).take ((t.length) - (j))).length)).drop (((i + v.length + t.length) - (j)) + ((j) - (i + v.length)))).take ((i + v.length + t.length) - (j)) = t.take i ++ v ++ t.drop j := rep_mid2 (by omega) (by omega) (by omega) rfl rfl rfl rfl
          have hS296 := hS294
          rw [he295] at hS296
          refine ⟨?_, hS296.fr, hS296.res (i := 0) rfl⟩
          exact congrArg Ending.returned (ret_s (by first | rfl | (exact congrArg List.length he295; done) | (rw [← he295]; simp; done) | (rw [← he295]; simp; omega) | omega))
        · skip
          exfalso; omega
end Go.Proofs.YtobgdeffhdefeaaDoor
/- Contracts of functions, one theorem each: what the call returns, and that nothing old is changed. Printed by gen.py. -/
namespace Go.Proofs.YtobgdeffhdefeaaDoor
open Go Go.RowKit
set_option linter.unusedSimpArgs false
set_option linter.unusedVariables false

set_option maxRecDepth 100000 in
set_option maxHeartbeats 1000000 in
theorem proofsMk_calls (w0 : World) (Z : Nat → Prop) (hZ : ∀ k, Z k → k < w0.heap.size) (tA : Option Addr) (tc : Nat) (t : List Nd) (ht : (dRow 4 tA t.length tc (encNs t)).φ w0 Z) (hl : t.length ≤ 1000000) :
    Calls Tryd.prog 52 [.slice tA t.length tc].toArray w0 (fun e w' => ∃ q0_0 : Nat, e = .returned (.func (.func 70) #[] #[.pointer (some ⟨q0_0, 0, none⟩)]) ∧ Fr none_ w0 w' ∧ (dBox q0_0 [.slice tA t.length tc]).φ w' (nxt Z w0 w')) := by
  have hstart : ∀ k, Z k → imm Z w0 [] w0 k ∧ w0.heap[k]? = w0.heap[k]? := fun k hk => ⟨⟨hZ k hk, fun _ => hk, fun _ h => by cases h⟩, rfl⟩
  have hS3 : St w0 Z none_ w0 [] [dRow 4 tA t.length tc (encNs t)] := St.start w0 Z none_ _ (by
    intro d hd
    simp only [List.mem_cons, List.not_mem_nil, or_false] at hd
    rcases hd with rfl
    · exact Dat.mono _ _ _ _ _ (Nat.le_refl _) ht hstart
    )
  refine c_enter Tryd.func52 rfl Tryd.ntmps52 rfl (fun a1 hR2 => ?_)
  refine wp_seq_k (fun K4 hK5 => ?_)
  refine c_region ?_
  refine m_box (cs := [.slice tA t.length tc]) sv hR2 hS3 rfl rfl rfl rfl (by decide) (fun a6 w7 g8 hR9 hS10 => ?_)
  refine asg hR9 (fun a11 hR12 => ?_)
  refine wpList_nil (x_then_n (hK5 _ _ ?_))
  refine wp_seq_k (fun K13 hK14 => ?_)
  refine c_region ?_
  refine r_makeFunc sv hR12 rfl rfl rfl (by decide) (fun a15 hR16 => ?_)
  refine asg hR16 (fun a17 hR18 => ?_)
  refine wpList_nil (x_then_n (hK14 _ _ ?_))
  refine wp_ret ?_
  refine e_ret1 hR18 rfl rfl rfl ?_
  obtain ⟨hS19, hbx20⟩ := hS10.box_data (i := 0) rfl (fun _ h => h)
  have hS21 := hS19.data (dBox g8 [.slice tA t.length tc]) hbx20
  refine ⟨g8, ?_, hS21.fr, ((hS21.get (i := 1) rfl).imp imm_nxt id)⟩
  exact congrArg Ending.returned rfl

set_option maxRecDepth 100000 in
set_option maxHeartbeats 1000000 in
theorem nodesMk_calls (w0 : World) (Z : Nat → Prop) (hZ : ∀ k, Z k → k < w0.heap.size) (tA : Option Addr) (tc : Nat) (t : List Nd) (ht : (dRow 4 tA t.length tc (encNs t)).φ w0 Z) (hl : t.length ≤ 1000000) :
    Calls Tryd.prog 140 [.slice tA t.length tc].toArray w0 (fun e w' => ∃ q0_0 : Nat, e = .returned (.func (.func 146) #[] #[.pointer (some ⟨q0_0, 0, none⟩)]) ∧ Fr none_ w0 w' ∧ (dBox q0_0 [.slice tA t.length tc]).φ w' (nxt Z w0 w')) := by
  have hstart : ∀ k, Z k → imm Z w0 [] w0 k ∧ w0.heap[k]? = w0.heap[k]? := fun k hk => ⟨⟨hZ k hk, fun _ => hk, fun _ h => by cases h⟩, rfl⟩
  have hS3 : St w0 Z none_ w0 [] [dRow 4 tA t.length tc (encNs t)] := St.start w0 Z none_ _ (by
    intro d hd
    simp only [List.mem_cons, List.not_mem_nil, or_false] at hd
    rcases hd with rfl
    · exact Dat.mono _ _ _ _ _ (Nat.le_refl _) ht hstart
    )
  refine c_enter Tryd.func140 rfl Tryd.ntmps140 rfl (fun a1 hR2 => ?_)
  refine wp_seq_k (fun K4 hK5 => ?_)
  refine c_region ?_
  refine m_box (cs := [.slice tA t.length tc]) sv hR2 hS3 rfl rfl rfl rfl (by decide) (fun a6 w7 g8 hR9 hS10 => ?_)
  refine asg hR9 (fun a11 hR12 => ?_)
  refine wpList_nil (x_then_n (hK5 _ _ ?_))
  refine wp_seq_k (fun K13 hK14 => ?_)
  refine c_region ?_
  refine r_makeFunc sv hR12 rfl rfl rfl (by decide) (fun a15 hR16 => ?_)
  refine asg hR16 (fun a17 hR18 => ?_)
  refine wpList_nil (x_then_n (hK14 _ _ ?_))
  refine wp_ret ?_
  refine e_ret1 hR18 rfl rfl rfl ?_
  obtain ⟨hS19, hbx20⟩ := hS10.box_data (i := 0) rfl (fun _ h => h)
  have hS21 := hS19.data (dBox g8 [.slice tA t.length tc]) hbx20
  refine ⟨g8, ?_, hS21.fr, ((hS21.get (i := 1) rfl).imp imm_nxt id)⟩
  exact congrArg Ending.returned rfl
end Go.Proofs.YtobgdeffhdefeaaDoor
/- Contracts of functions, one theorem each: what the call returns, and that nothing old is changed. Printed by gen.py. -/
namespace Go.Proofs.YtobgdeffhdefeaaDoor
open Go Go.RowKit
set_option linter.unusedSimpArgs false
set_option linter.unusedVariables false

set_option maxRecDepth 100000 in
set_option maxHeartbeats 1000000 in
theorem erase_calls (w0 : World) (Z : Nat → Prop) (hZ : ∀ k, Z k → k < w0.heap.size) (tA : Option Addr) (tc : Nat) (t : List Nd) (hShp : Shapes w0 Z) (ht : (dRow 4 tA t.length tc (encNs t)).φ w0 Z) (hsm : sml t) (hl : t.length ≤ 1000000) :
    Calls Tryd.prog 28 [.slice tA t.length tc].toArray w0 (fun e w' => ∃ (rA0 : Option Addr) (rc0 : Nat), e = .returned (.tuple #[.slice rA0 (erA t).length rc0, .int .i64 (chk t)]) ∧ Fr none_ w0 w' ∧ (dRow 4 rA0 ((erA t).length) rc0 (encNs (erA t))).φ w' (nxt Z w0 w')) := by
  have hstart : ∀ k, Z k → imm Z w0 [] w0 k ∧ w0.heap[k]? = w0.heap[k]? := fun k hk => ⟨⟨hZ k hk, fun _ => hk, fun _ h => by cases h⟩, rfl⟩
  have hS3 : St w0 Z none_ w0 [] [dShapes, dRow 4 tA t.length tc (encNs t)] := St.start w0 Z none_ _ (by
    intro d hd
    simp only [List.mem_cons, List.not_mem_nil, or_false] at hd
    rcases hd with rfl | rfl
    · exact Dat.mono _ _ _ _ _ (Nat.le_refl _) hShp hstart
    · exact Dat.mono _ _ _ _ _ (Nat.le_refl _) ht hstart
    )
  refine c_enterM Tryd.func28 rfl Tryd.ntmps28 rfl (fun a1 hR2 => ?_)
  refine wp_seq_k (fun K4 hK5 => ?_)
  refine c_region ?_
  refine asg hR2 (fun a6 hR7 => ?_)
  refine asg hR7 (fun a8 hR9 => ?_)
  refine wpList_nil (x_then_n (hK5 _ _ ?_))
  refine wp_seq_k (fun K10 hK11 => ?_)
  refine wp_seq_k (fun K12 hK13 => ?_)
  refine c_region ?_
  refine mv hR9 (fun a14 hR15 => ?_)
  have hS16 : St w0 Z none_ w0 [] [dShapes, dRow 4 tA t.length tc (encNs t)] := hS3
  refine k_call (xs := [.tmp 8]) se hR15 rfl rfl rfl (by decide) ok44 (check_calls _ (imm Z w0 [] _) (fun _ h => h.1) tA tc t (hS16.get (i := 0) rfl) (hS16.get (i := 1) rfl) (by first | assumption | omega | (simp; done) | (simp; omega)) (by first | assumption | omega | (simp; done) | (simp; omega))) ?_
  rintro e23 w18 ⟨rfl, hf21⟩
  have hS24 := hS16.below hf21.below
  refine ⟨_, rfl, fun a17 hR19 => ?_⟩
  refine asg hR19 (fun a25 hR26 => ?_)
  refine wpList_nil (x_then_n (hK13 _ _ ?_))
  refine wp_seq_k (fun K27 hK28 => ?_)
  refine c_region ?_
  refine mv hR26 (fun a29 hR30 => ?_)
  refine r_neq sv hR30 rfl rfl rfl rfl (by decide) (fun a31 hR32 => ?_)
  refine wpList_nil (x_then_n (hK28 _ _ ?_))
  rcases Decidable.em (((chk t)) = 0) with h33 | h33
  · skip
    have hR34 := hR32.setb (d := 11) (b := false) rfl (by rw [(decide_eq_true h33)]; rfl)
    refine wp_cond_false (hR34.ev rfl) ?_
    refine wp_skip ?_
    refine x_then_n (hK11 _ _ ?_)
    refine wp_seq_k (fun K35 hK36 => ?_)
    refine c_region ?_
    refine mv hR34 (fun a37 hR38 => ?_)
    have hS39 : St w0 Z none_ w18 [] [dShapes, dRow 4 tA t.length tc (encNs t)] := hS24
    refine k_call (xs := [.tmp 13]) se hR38 rfl rfl rfl (by decide) ok51 (cloneN_calls _ (imm Z w0 [] _) (fun _ h => h.1) tA tc t (hS39.get (i := 1) rfl) (by first | assumption | omega | (simp; done) | (simp; omega))) ?_
    rintro e50 w41 ⟨A45, c46, rfl, hf44, hd47, hf48⟩
    have hS51 := hS39.callO hf44 hd47 hf48
    refine ⟨_, rfl, fun a40 hR42 => ?_⟩
    refine m_alloc (cs := [.slice none 0 0]) sv hR42 hS51 rfl rfl ze22 rfl (by decide) (fun a52 w53 g54 hR55 hS56 => ?_)
    refine m_store (i := 1) (cs' := [.slice A45 t.length c46]) se hR55 hS56 rfl rfl rfl rfl rfl sz22 rfl rfl rfl (fun a57 w58 hR59 hS60 => ?_)
    refine wpList_nil (x_then_n (hK36 _ _ ?_))
    refine wp_seq_k (fun K61 hK62 => ?_)
    refine wp_seq_k (fun K63 hK64 => ?_)
    refine c_region ?_
    refine mv hR59 (fun a65 hR66 => ?_)
    have hS67 : St w0 Z none_ w58 [.row A45 t.length c46 32 4 (encNs t), .box g54 22 [.slice A45 t.length c46]] [dShapes, dRow 4 tA t.length tc (encNs t)] := hS60
    refine k_call (xs := [.tmp 15]) se hR66 rfl rfl rfl (by decide) ok52 (proofsMk_calls _ (imm Z w0 [.row A45 t.length c46 32 4 (encNs t), .box g54 22 [.slice A45 t.length c46]] _) (fun _ h => h.1) tA tc t (hS67.get (i := 1) rfl) (by first | assumption | omega | (simp; done) | (simp; omega))) ?_
    rintro e76 w69 ⟨q73, rfl, hf72, hd74⟩
    have hS77 := hS67.below hf72.below
    have hS78 := hS77.data (dBox q73 [.slice tA t.length tc]) (hd74.imp (fun hk => nxt_imm hS67 hk) id)
    refine ⟨_, rfl, fun a68 hR70 => ?_⟩
    refine wpList_nil (x_then_n (hK64 _ _ ?_))
    refine wp_block ?_
    have hS79 : St w0 Z none_ w69 [.row A45 t.length c46 32 4 (encNs t), .box g54 22 [.slice A45 t.length c46]] [dShapes, dRow 4 tA t.length tc (encNs t), dBox q73 [.slice tA t.length tc]] := hS78
    have hR80 : Reg a68 27 [(1000000, .bool false), (2, .slice none 0 0), (3, .int .i64 0), (5, .pointer (some ⟨g54, 0, none⟩)), (16, .func (.func 70) #[] #[.pointer (some ⟨q73, 0, none⟩)])] := (hR70.sub (rc rfl (rc rfl (rc rfl (rc rfl (rc rfl rnl))))))
    refine w_range (xs := prfL t) (encs := (fun x : Int × Int => #[.int .i64 x.1, .int .i64 x.2])) (hR80.ev rfl) ok70 (proofs_yields _ (imm Z w0 [.row A45 t.length c46 32 4 (encNs t), .box g54 22 [.slice A45 t.length c46]] _) q73 tA tc t (hS79.get (i := 0) rfl) (hS79.get (i := 1) rfl) (hS79.get (i := 2) rfl) (by first | assumption | omega | (simp; done) | (simp; omega)) (by first | assumption | omega | (simp; done) | (simp; omega))) (fun _ => rfl) hS79 (fun _ h => h) (fun (pre : List (Int × Int)) (mm : List Res) => ∃ Ao : Option Addr, ∃ co : Nat, mm = [.row Ao ((repP t pre).length) co 32 4 (encNs (repP t pre)), .box g54 22 [.slice Ao ((repP t pre).length) co]]) (fun _ _ _ => False) ⟨A45, c46, rfl⟩ ?_ ?_ ?_
    · skip
      rintro l81 pre x w82 m1 hp ⟨Ao, co, rfl⟩ hS83
      obtain ⟨xi, xj, rfl, hxi, hxj, hxy⟩ := prfL_nat hp
      refine (?_ : ∀ a0, Reg a0 27 [(18, .int .i64 ((xj : Nat) : Int)), (17, .int .i64 ((xi : Nat) : Int)), (1000000, .bool false), (2, .slice none 0 0), (3, .int .i64 0), (5, .pointer (some ⟨g54, 0, none⟩)), (16, .func (.func 70) #[] #[.pointer (some ⟨q73, 0, none⟩)])] → Code.wpIn (rI l81) 0 _ _ _ a0 w82) _ (Reg.round2n hR80 (by decide) (by decide) rfl)
      intro a84 hR85
      have hpl := repP_le (List.IsPrefix.trans (List.prefix_append _ _) hp)
      have hpj := repP_len hxj hxy
      refine wpIn_seq_k (fun K86 hK87 => ?_)
      refine ci_region (by kernel_rfl) (out_then (out_then (fun _ _ h => h))) ?_
      refine asg hR85 (fun a88 hR89 => ?_)
      refine wpList_nil (x_then_n (hK87 _ _ ?_))
      refine ci_region (by kernel_rfl) (out_then (fun _ _ h => h)) ?_
      refine asg hR89 (fun a90 hR91 => ?_)
      refine wpList_nil ?_
      have hS92 : St w0 Z none_ w82 [.row Ao ((repP t pre).length) co 32 4 (encNs (repP t pre)), .box g54 22 [.slice Ao ((repP t pre).length) co]] [dShapes, dRow 4 tA t.length tc (encNs t), dBox q73 [.slice tA t.length tc], dAg w82 (imm Z w0 [.row Ao ((repP t pre).length) co 32 4 (encNs (repP t pre)), .box g54 22 [.slice Ao ((repP t pre).length) co]] w82)] := hS83
      refine x_then_n ⟨_, _, 3, hS92, rfl, (fun _ h => False.elim h), (fun _ h => False.elim h), fun w93 hS94 => ?_⟩
      refine wpIn_block ?_
      refine ci_region (by kernel_rfl) (out_block out_rPost) ?_
      refine m_load (i := 1) sv hR91 hS94 rfl rfl rfl rfl rfl Tryd.underlying22 rfl (by decide) (fun a95 hR96 => ?_)
      refine mv hR96 (fun a97 hR98 => ?_)
      refine mv hR98 (fun a99 hR100 => ?_)
      refine r_add (z := ((xj + 1 : Nat) : Int)) sv hR100 rfl rfl rfl rfl (by decide) (by omega) (by omega) (by omega) (fun a101 hR102 => ?_)
      refine m_build (ps := [(0, .const (.int .i64 29))]) (v := .agg #[.int .i64 29, .int .i64 0, .int .i64 0, .string (⟨#[]⟩ : ByteArray)]) sv hR102 rfl rfl rfl (fun _ => by kernel_rfl) (by decide) (fun a103 hR104 => ?_)
      refine m_buildSlice (ps := [(0, .tmp 23)]) (cs := [.int .i64 29, .int .i64 0, .int .i64 0, .string (⟨#[]⟩ : ByteArray)]) sv hR104 hS94 rfl rfl rfl Tryd.underlying22 zi32 rfl rfl (by kernel_rfl) rfl (by decide) (fun a105 w106 g107 hR108 hS109 => ?_)
      have hS110 : St w0 Z none_ w106 [.row Ao ((repP t pre).length) co 32 4 (encNs (repP t pre)), .box g54 22 [.slice Ao ((repP t pre).length) co], .row (some ⟨g107, 0, none⟩) 1 1 32 4 (encNs ([(⟨29, 0, 0, (⟨#[]⟩ : ByteArray)⟩ : Nd)]))] [dShapes, dRow 4 tA t.length tc (encNs t), dBox q73 [.slice tA t.length tc], dAg w93 (imm Z w0 [.row Ao ((repP t pre).length) co 32 4 (encNs (repP t pre)), .box g54 22 [.slice Ao ((repP t pre).length) co]] w93)] := hS109
      have hc114 := own_cap (hS110.res (i := 2) rfl)
      obtain ⟨hS111, hrow112⟩ := hS110.row_data (i := 2) rfl (fun _ h => h)
      have hS113 := hS111.data (dRow 4 (some ⟨g107, 0, none⟩) 1 1 (encNs ([(⟨29, 0, 0, (⟨#[]⟩ : ByteArray)⟩ : Nd)]))) ⟨hc114, hrow112⟩
      refine k_call (xs := [.tmp 19, .tmp 20, .tmp 22, .tmp 24]) se hR108 rfl rfl rfl (by decide) ok53 (replace_calls _ (imm Z w0 [.row Ao ((repP t pre).length) co 32 4 (encNs (repP t pre)), .box g54 22 [.slice Ao ((repP t pre).length) co]] _) (fun _ h => h.1) Ao co (repP t pre) xi (xj + 1) (some ⟨g107, 0, none⟩) 1 ([(⟨29, 0, 0, (⟨#[]⟩ : ByteArray)⟩ : Nd)]) (hS113.res (i := 0) rfl) (imm_row (i := 0) rfl) (hS113.get (i := 4) rfl) (by first | assumption | omega | (simp; done) | (simp; omega)) (by first | assumption | omega | (simp; done) | (simp; omega)) (by first | assumption | omega | (simp; done) | (simp; omega)) (by first | assumption | omega | (simp; done) | (simp; omega))) ?_
      rintro e121 w116 ⟨rfl, hf119, hb120⟩
      have hS122 := hS113.callR (i := 0) rfl hf119 hb120
      refine ⟨_, rfl, fun a115 hR117 => ?_⟩
      refine m_store (i := 1) (cs' := [.slice Ao (((repP t pre).take xi ++ ([(⟨29, 0, 0, (⟨#[]⟩ : ByteArray)⟩ : Nd)]) ++ (repP t pre).drop (xj + 1)).length) co]) se hR117 hS122 rfl rfl rfl rfl rfl sz22 rfl rfl rfl (fun a123 w124 hR125 hS126 => ?_)
      refine wpList_nil ?_
      refine x_block_n ?_
      have hS127 : St w0 Z none_ w124 [.row Ao (((repP t pre).take xi ++ ([(⟨29, 0, 0, (⟨#[]⟩ : ByteArray)⟩ : Nd)]) ++ (repP t pre).drop (xj + 1)).length) co 32 4 (encNs ((repP t pre).take xi ++ ([(⟨29, 0, 0, (⟨#[]⟩ : ByteArray)⟩ : Nd)]) ++ (repP t pre).drop (xj + 1))), .box g54 22 [.slice Ao (((repP t pre).take xi ++ ([(⟨29, 0, 0, (⟨#[]⟩ : ByteArray)⟩ : Nd)]) ++ (repP t pre).drop (xj + 1)).length) co]] [dShapes, dRow 4 tA t.length tc (encNs t), dBox q73 [.slice tA t.length tc], dAg w93 (imm Z w0 [.row Ao ((repP t pre).length) co 32 4 (encNs (repP t pre)), .box g54 22 [.slice Ao ((repP t pre).length) co]] w93), dRow 4 (some ⟨g107, 0, none⟩) 1 1 (encNs ([(⟨29, 0, 0, (⟨#[]⟩ : ByteArray)⟩ : Nd)]))] := hS126
      have he128 : (repP t pre).take xi ++ ([(⟨29, 0, 0, (⟨#[]⟩ : ByteArray)⟩ : Nd)]) ++ (repP t pre).drop (xj + 1) = repP t (pre ++ [(((xi : Nat) : Int), ((xj : Nat) : Int))]) := repP_step
      have hS129 := hS127
      rw [he128] at hS129
      exact ⟨_, _, 3, hS129, rfl, _, _, rfl⟩
    · skip
      rintro D130 m1 w131 ⟨Ao, co, rfl⟩ hS132
      have hR133 := Reg.marked hR80 D130
      refine x_block_n ?_
      refine x_then_n (hK62 _ _ ?_)
      refine wp_seq_k (fun K134 hK135 => ?_)
      refine c_region ?_
      refine m_load (i := 1) sv hR133 hS132 rfl rfl rfl rfl rfl Tryd.underlying22 rfl (by decide) (fun a136 hR137 => ?_)
      refine asg hR137 (fun a138 hR139 => ?_)
      refine asg hR139 (fun a140 hR141 => ?_)
      refine wpList_nil (x_then_n (hK135 _ _ ?_))
      refine wp_ret ?_
      have hc145 := own_cap (hS132.res (i := 0) rfl)
      obtain ⟨hS142, hrow143⟩ := hS132.row_data (i := 0) rfl (fun _ h => h)
      have hS144 := hS142.data (dRow 4 Ao ((repP t (prfL t)).length) co (encNs (repP t (prfL t)))) ⟨hc145, hrow143⟩
      have hS146 : St w0 Z none_ w131 [.box g54 22 [.slice Ao ((repP t (prfL t)).length) co]] [dShapes, dRow 4 tA t.length tc (encNs t), dBox q73 [.slice tA t.length tc], dMark w0.heap.size D130, dRow 4 Ao ((repP t (prfL t)).length) co (encNs (repP t (prfL t)))] := hS144
      obtain ⟨hD147, hS148⟩ := hS146.shut (i := 3) rfl [dRow 4 Ao ((repP t (prfL t)).length) co (encNs (repP t (prfL t)))] (by intro d hd; simp only [List.mem_cons, List.not_mem_nil, or_false] at hd; rcases hd with rfl; exact ⟨List.mem_of_getElem? (i := 4) rfl, datC_row (by decide) _ _ _ _⟩)
      refine m_mark (.inl rfl) hR141 rfl hD147 (res2 hR141 rfl rfl rfl _) ?_
      have he149 : erA t = repP t (prfL t) := by rw [erA_ok (by assumption), ← era_eq (meas_chk (by assumption))]
      rw [he149]
      refine ⟨Ao, co, ?_, hS148.fr, ⟨by have := (hS148.row (i := 0) rfl).1; exact this, ((hS148.row (i := 0) rfl).2.mono (fun _ hk => ⟨imm_nxt hk, rfl⟩))⟩⟩
      exact ret_t2 rfl (ret_i (by first | rfl | omega | assumption | exact decide_eq_true (by assumption) | (have q0 := h33; (try simp at q0);  omega) | (simp [h33]; done) | (simp [] at *; done) | (simp [h33] <;> omega) | (rw [Bool.eq_iff_iff]; simp [h33] <;> omega) | (rw [Bool.eq_iff_iff]; simp [h33] at * <;> omega)))
    · skip
      rintro _ _ _ _ _ _ h _
      exact h.elim
  · skip
    have hR150 := hR32.setb (d := 11) (b := true) rfl (by rw [(decide_eq_false h33)]; rfl)
    refine wp_cond_true (hR150.ev rfl) ?_
    refine wp_seq_k (fun K151 hK152 => ?_)
    refine c_region ?_
    refine mv hR150 (fun a153 hR154 => ?_)
    refine asg hR154 (fun a155 hR156 => ?_)
    refine asg hR156 (fun a157 hR158 => ?_)
    refine wpList_nil (x_then_n (hK152 _ _ ?_))
    refine wp_ret ?_
    refine x_then_r ?_
    refine m_none (.inl rfl) hR158 rfl (res2 hR158 rfl rfl rfl _) ?_
    have he159 : erA t = [] := erA_no (by assumption)
    rw [he159]
    refine ⟨none, 0, ?_, hS24.fr, ⟨Nat.le_refl _, RowI.nil _ _ _ _⟩⟩
    exact ret_t2 rfl (ret_i (by first | rfl | omega | assumption | exact decide_eq_true (by assumption) | (have q0 := h33; (try simp at q0);  omega) | (simp [h33]; done) | (simp [] at *; done) | (simp [h33] <;> omega) | (rw [Bool.eq_iff_iff]; simp [h33] <;> omega) | (rw [Bool.eq_iff_iff]; simp [h33] at * <;> omega)))
end Go.Proofs.YtobgdeffhdefeaaDoor
/- Contracts of functions, one theorem each: what the call returns, and that nothing old is changed. Printed by gen.py. -/
namespace Go.Proofs.YtobgdeffhdefeaaDoor
open Go Go.RowKit
set_option linter.unusedSimpArgs false
set_option linter.unusedVariables false

set_option maxRecDepth 100000 in
set_option maxHeartbeats 1000000 in
theorem revS_calls (w0 : World) (Z : Nat → Prop) (hZ : ∀ k, Z k → k < w0.heap.size) (tA : Option Addr) (tc : Nat) (t : List Sl) (ht : (Res.row tA (t).length tc 22 1 (encSs t)).holds w0) (htz : ∀ k, rM tA k → ¬ Z k) (hl : t.length ≤ 1000000) :
    Calls Tryd.prog 55 [.slice tA t.length tc].toArray w0 (fun e w' => e = .returned (.tuple #[]) ∧ Fr (rM tA) w0 w' ∧ (Res.row tA (t.reverse).length tc 22 1 (encSs t.reverse)).holds w') := by
  have hstart : ∀ k, Z k → imm Z w0 [.row tA ((t).length) tc 22 1 (encSs t)] w0 k ∧ w0.heap[k]? = w0.heap[k]? := fun k hk => imm_startR hZ htz hk
  have hS3 : St w0 Z (rM tA) w0 [.row tA ((t).length) tc 22 1 (encSs t)] [] := St.startR w0 Z _ _ _ _ _ _ _ ht (by
    intro d hd
    cases hd
    )
  refine c_enter Tryd.func55 rfl Tryd.ntmps55 rfl (fun a1 hR2 => ?_)
  refine wp_seq_k (fun K4 hK5 => ?_)
  refine c_region ?_
  refine mv hR2 (fun a6 hR7 => ?_)
  refine r_len sv hR7 rfl rfl rfl rfl Tryd.underlying39 (by decide) (fun a8 hR9 => ?_)
  refine r_sub (z := (((t.length : Nat) : Int) - 1)) sv hR9 rfl rfl rfl rfl (by decide) (by omega) (by omega) (by omega) (fun a10 hR11 => ?_)
  refine asg hR11 (fun a12 hR13 => ?_)
  refine asg hR13 (fun a14 hR15 => ?_)
  refine wpList_nil (x_then_n (hK5 _ _ ?_))
  refine wp_block ?_
  refine wp_loop_ghost (fun gn ga gw => ∃ k : Nat, ∃ R : List Sl, (Reg ga 28 [(1000000, .bool false), (0, .slice tA t.length tc), (2, .int .i64 ((k : Nat) : Int)), (3, .int .i64 (((t.length : Nat) : Int) - ((k : Nat) : Int) - 1))]) ∧ (St w0 Z (rM tA) gw [.row tA ((R).length) tc 22 1 (encSs R)] []) ∧ (RevTo t R k) ∧ (2 * k ≤ t.length + 1) ∧ (t.length - k) = gn) _ ⟨0, t, (hR15.sub (rc rfl (rc rfl (rc rfl (rc rfl rnl))))), hS3, RevTo.zero t, by omega, rfl⟩ ?_
  rintro r16 a17 w18 ⟨k, R, hR19, hS20, hr, hkn, hn21⟩
  have hrl := hr.len
  refine wp_seq_k (fun K22 hK23 => ?_)
  refine wp_seq_k (fun K24 hK25 => ?_)
  refine c_region ?_
  refine mv hR19 (fun a26 hR27 => ?_)
  refine mv hR27 (fun a28 hR29 => ?_)
  refine r_lss sv hR29 rfl rfl rfl rfl (by decide) (fun a30 hR31 => ?_)
  refine wpList_nil (x_then_n (hK25 _ _ ?_))
  rcases Decidable.em (((k : Nat) : Int) < (((t.length : Nat) : Int) - ((k : Nat) : Int) - 1)) with h32 | h32
  · skip
    have hR33 := hR31.setb (d := 9) (b := true) rfl (decide_eq_true h32)
    refine wp_cond_true (hR33.ev rfl) ?_
    refine wp_skip ?_
    refine x_then_n (hK23 _ _ ?_)
    refine wp_seq_k (fun K34 hK35 => ?_)
    refine wp_block ?_
    obtain ⟨J36, hJ37, hS38⟩ := hS20.agree
    refine dl_region2 (S := (fun x => agr w18 J36 x ∧ (Res.row tA ((R).length) tc 22 1 (encSs R)).holds x ∧ True)) (n := 16) [13, 14, 15] mixed rfl hS38 (pan_block (pan_then (pan_then (pan_block pan_body)))) (fun Q41 hP42 hN43 w39 hS40 => ?_)
    have hSw44 : agr w18 J36 w39 ∧ (Res.row tA ((R).length) tc 22 1 (encSs R)).holds w39 ∧ True := ⟨⟨(hS40.get (i := 0) rfl).1, fun k hk => ((hS40.get (i := 0) rfl).2 k hk).2⟩, (hS40.res (i := 0) rfl), trivial⟩
    refine dl_takeA (i := 0) rfl (by kernel_rfl) (by kernel_rfl) (by kernel_rfl) (fun c a w h => hP42 c _ _ _ _ h) rfl (by decide) hR33 (want_n rfl) (fun x => r_move (sy hR33) hR33 rfl rfl rfl (by decide) gt) (fun a45 hR46 => ?_)
    refine dl_takeA (i := 1) rfl (by kernel_rfl) (by kernel_rfl) (by kernel_rfl) (fun c a w h => hP42 c _ _ _ _ h) rfl (by decide) hR46 (want_n rfl) (fun x => r_move (sy hR46) hR46 rfl rfl rfl (by decide) gt) (fun a47 hR48 => ?_)
    refine dl_takeA (i := 2) rfl (by kernel_rfl) (by kernel_rfl) (by kernel_rfl) (fun c a w h => hP42 c _ _ _ _ h) rfl (by decide) hR48 (want_n rfl) (fun x => r_move (sy hR48) hR48 rfl rfl rfl (by decide) gt) (fun a49 hR50 => ?_)
    refine dl_takeA (i := 3) rfl (by kernel_rfl) (by kernel_rfl) (by kernel_rfl) (fun c a w h => hP42 c _ _ _ _ h) rfl (by decide) hR50 (want_n rfl) (fun x => r_move (sy hR50) hR50 rfl rfl rfl (by decide) gt) (fun a51 hR52 => ?_)
    refine dl_takeA (i := 4) rfl (by kernel_rfl) (by kernel_rfl) (by kernel_rfl) (fun c a w h => hP42 c _ _ _ _ h) rfl (by decide) hR52 (want_n rfl) (fun x => r_move (sy hR52) hR52 rfl rfl rfl (by decide) gt) (fun a53 hR54 => ?_)
    refine dl_takeA (i := 5) rfl (by kernel_rfl) (by kernel_rfl) (by kernel_rfl) (fun c a w h => hP42 c _ _ _ _ h) rfl (by decide) hR54 (want_n rfl) (fun x => r_move (sy hR54) hR54 rfl rfl rfl (by decide) gt) (fun a55 hR56 => ?_)
    refine dl_takeA (i := 6) rfl (by kernel_rfl) (by kernel_rfl) (by kernel_rfl) (fun c a w h => hP42 c _ _ _ _ h) rfl (by decide) hR56 (want_n rfl) (fun x => m_index (i := (t.length) - (k + 1)) (j := ((t.length) - (k + 1)) * 1) (sy hR56) hR56 rfl rfl rfl rfl Tryd.underlying39 sz22 (by omega) (by omega) (own_ss (t := R) (k := (t.length) - (k + 1)) (hS40.res (i := 0) rfl) (by omega)).some_ rfl (by decide) gt) (fun a57 hR58 => ?_)
    refine dl_take (i := 7) rfl (by kernel_rfl) (by kernel_rfl) (by kernel_rfl) (by kernel_rfl) (fun c a w h => hP42 c _ _ _ _ h) rfl (by decide) hR58 (want_n rfl) (fun x hx => m_loadE (sy hR58) hR58 rfl rfl rfl 0 (((t.length) - (k + 1)) * 1) (own_ss (t := R) (k := (t.length) - (k + 1)) hx.2.1 (by omega)) rfl rfl Tryd.underlying22 rfl (by decide) gt) hSw44 (fun a59 hR60 => ?_)
    refine dl_takeA (i := 8) rfl (by kernel_rfl) (by kernel_rfl) (by kernel_rfl) (fun c a w h => hP42 c _ _ _ _ h) rfl (by decide) hR60 (want_n rfl) (fun x => r_move (sy hR60) hR60 rfl rfl rfl (by decide) gt) (fun a61 hR62 => ?_)
    refine dl_takeA (i := 9) rfl (by kernel_rfl) (by kernel_rfl) (by kernel_rfl) (fun c a w h => hP42 c _ _ _ _ h) rfl (by decide) hR62 (want_n rfl) (fun x => r_move (sy hR62) hR62 rfl rfl rfl (by decide) gt) (fun a63 hR64 => ?_)
    refine dl_takeA (i := 10) rfl (by kernel_rfl) (by kernel_rfl) (by kernel_rfl) (fun c a w h => hP42 c _ _ _ _ h) rfl (by decide) hR64 (want_n rfl) (fun x => m_index (i := k) (j := k * 1) (sy hR64) hR64 rfl rfl rfl rfl Tryd.underlying39 sz22 (by omega) (by omega) (own_ss (t := R) (k := k) (hS40.res (i := 0) rfl) (by omega)).some_ rfl (by decide) gt) (fun a65 hR66 => ?_)
    refine dl_take (i := 11) rfl (by kernel_rfl) (by kernel_rfl) (by kernel_rfl) (by kernel_rfl) (fun c a w h => hP42 c _ _ _ _ h) rfl (by decide) hR66 (want_n rfl) (fun x hx => m_loadE (sy hR66) hR66 rfl rfl rfl 0 (k * 1) (own_ss (t := R) (k := k) hx.2.1 (by omega)) rfl rfl Tryd.underlying22 rfl (by decide) gt) hSw44 (fun a67 hR68 => ?_)
    refine dl_takeA (i := 12) rfl (by kernel_rfl) (by kernel_rfl) (by kernel_rfl) (fun c a w h => hP42 c _ _ _ _ h) rfl (by decide) hR68 (want_n rfl) (fun x => m_index (i := k) (j := k * 1) (sy hR68) hR68 rfl rfl rfl rfl Tryd.underlying39 sz22 (by omega) (by omega) (own_ss (t := R) (k := k) (hS40.res (i := 0) rfl) (by omega)).some_ rfl (by decide) gt) (fun a69 hR70 => ?_)
    refine dl_one (i := 13) (by kernel_rfl) ?_
    refine m_storeE (f := encS) (i := 0) (k := k) (L := R) (z := (((nthS R ((t.length) - (k + 1))).1, (nthS R ((t.length) - (k + 1))).2.1, (nthS R ((t.length) - (k + 1))).2.2) : Sl)) (st_op rfl (want_n rfl)) hR70 hS40 rfl rfl rfl rfl rfl rfl (by omega) encS_len (one1 (f := encS) encS_one) rfl sz22 (fun a71 w72 hR73 hS74 => ?_)
    have hl75 : (R.set (k) (((nthS R ((t.length) - (k + 1))).1, (nthS R ((t.length) - (k + 1))).2.1, (nthS R ((t.length) - (k + 1))).2.2) : Sl)).length = (R).length := by simp
    refine ⟨fun h => absurd h (by decide), ?_⟩
    refine dl_takeA (i := 14) rfl (by kernel_rfl) (by kernel_rfl) (by kernel_rfl) (fun c a w h => hP42 c _ _ _ _ h) rfl (by decide) hR73 (want_n rfl) (fun x => m_index (i := (t.length) - (k + 1)) (j := ((t.length) - (k + 1)) * 1) (sy hR73) hR73 rfl rfl rfl rfl Tryd.underlying39 sz22 (by omega) (by omega) (own_ss (t := R.set (k) (((nthS R ((t.length) - (k + 1))).1, (nthS R ((t.length) - (k + 1))).2.1, (nthS R ((t.length) - (k + 1))).2.2) : Sl)) (k := (t.length) - (k + 1)) (hS74.res (i := 0) rfl) (by omega)).some_ rfl (by decide) gt) (fun a76 hR77 => ?_)
    refine dl_one (i := 15) (by kernel_rfl) ?_
    refine m_storeE (f := encS) (i := 0) (k := (t.length) - (k + 1)) (L := (R.set (k) (((nthS R ((t.length) - (k + 1))).1, (nthS R ((t.length) - (k + 1))).2.1, (nthS R ((t.length) - (k + 1))).2.2) : Sl))) (z := (((nthS R k).1, (nthS R k).2.1, (nthS R k).2.2) : Sl)) (st_op rfl (want_n rfl)) hR77 hS74 rfl rfl rfl rfl rfl rfl (by omega) encS_len (one1 (f := encS) encS_one) rfl sz22 (fun a78 w79 hR80 hS81 => ?_)
    have hl82 : ((R.set (k) (((nthS R ((t.length) - (k + 1))).1, (nthS R ((t.length) - (k + 1))).2.1, (nthS R ((t.length) - (k + 1))).2.2) : Sl)).set ((t.length) - (k + 1)) (((nthS R k).1, (nthS R k).2.1, (nthS R k).2.2) : Sl)).length = (R.set (k) (((nthS R ((t.length) - (k + 1))).1, (nthS R ((t.length) - (k + 1))).2.1, (nthS R ((t.length) - (k + 1))).2.2) : Sl)).length := by simp
    refine ⟨fun h => absurd h (by decide), ?_⟩
    refine dl_done (by kernel_rfl) (hN43 _ _ ?_) _
    refine x_block_n ?_
    refine x_then_n (hK35 _ _ ?_)
    refine c_region ?_
    refine mv hR80 (fun a83 hR84 => ?_)
    refine r_add (z := ((k + 1 : Nat) : Int)) sv hR84 rfl rfl rfl rfl (by decide) (by omega) (by omega) (by omega) (fun a85 hR86 => ?_)
    refine mv hR86 (fun a87 hR88 => ?_)
    refine r_sub (z := (((t.length : Nat) : Int) - ((k : Nat) : Int) - 2)) sv hR88 rfl rfl rfl rfl (by decide) (by omega) (by omega) (by omega) (fun a89 hR90 => ?_)
    refine asg hR90 (fun a91 hR92 => ?_)
    refine asg hR92 (fun a93 hR94 => ?_)
    refine wpList_nil ?_
    have hS95 := hS81.forget 0
    exact ⟨_, by omega, k + 1, (R.set (k) (((nthS R ((t.length) - (k + 1))).1, (nthS R ((t.length) - (k + 1))).2.1, (nthS R ((t.length) - (k + 1))).2.2) : Sl)).set ((t.length) - (k + 1)) (((nthS R k).1, (nthS R k).2.1, (nthS R k).2.2) : Sl), (hR94.sub (rc rfl (rc rfl (rc rfl (rc (ri rfl (by omega)) rnl))))), hS95, RevTo.step hr (by omega) (by omega) rfl rfl, by omega, rfl⟩
  · skip
    have hR96 := hR31.setb (d := 9) (b := false) rfl (decide_eq_false h32)
    refine wp_cond_false (hR96.ev rfl) ?_
    refine wp_exit ?_
    refine x_then_e ?_
    refine x_then_e ?_
    refine x_block_eq ?_
    refine e_end0 hR96 rfl rfl ?_
    have he97 : R = t.reverse := hr.done (by omega)
    have hS98 := hS20
    rw [he97] at hS98
    refine ⟨?_, hS98.fr, hS98.res (i := 0) rfl⟩
    rfl
end Go.Proofs.YtobgdeffhdefeaaDoor
/- Contracts of functions, one theorem each: what the call returns, and that nothing old is changed. Printed by gen.py. -/
namespace Go.Proofs.YtobgdeffhdefeaaDoor
open Go Go.RowKit
set_option linter.unusedSimpArgs false
set_option linter.unusedVariables false

set_option maxRecDepth 100000 in
set_option maxHeartbeats 1000000 in
theorem eraProofs_calls (w0 : World) (Z : Nat → Prop) (hZ : ∀ k, Z k → k < w0.heap.size) (tA : Option Addr) (tc : Nat) (t : List Nd) (hShp : Shapes w0 Z) (ht : (dRow 4 tA t.length tc (encNs t)).φ w0 Z) (hsm : sml t) (hl : t.length ≤ 1000000) :
    Calls Tryd.prog 31 [.slice tA t.length tc].toArray w0 (fun e w' => ∃ (rA0 : Option Addr) (rc0 : Nat) (rL0 : List Sl), e = .returned (.tuple #[.slice rA0 rL0.length rc0, .int .i64 (chk t)]) ∧ Fr none_ w0 w' ∧ (dRow 1 rA0 rL0.length rc0 (encSs rL0)).φ w' (nxt Z w0 w') ∧ (dAll rL0).φ w' (nxt Z w0 w') ∧ lsts rL0 = prA t) := by
  have hstart : ∀ k, Z k → imm Z w0 [] w0 k ∧ w0.heap[k]? = w0.heap[k]? := fun k hk => ⟨⟨hZ k hk, fun _ => hk, fun _ h => by cases h⟩, rfl⟩
  have hS3 : St w0 Z none_ w0 [] [dShapes, dRow 4 tA t.length tc (encNs t)] := St.start w0 Z none_ _ (by
    intro d hd
    simp only [List.mem_cons, List.not_mem_nil, or_false] at hd
    rcases hd with rfl | rfl
    · exact Dat.mono _ _ _ _ _ (Nat.le_refl _) hShp hstart
    · exact Dat.mono _ _ _ _ _ (Nat.le_refl _) ht hstart
    )
  refine c_enterM Tryd.func31 rfl Tryd.ntmps31 rfl (fun a1 hR2 => ?_)
  refine wp_seq_k (fun K4 hK5 => ?_)
  refine c_region ?_
  refine m_box (cs := [.slice tA t.length tc]) sv hR2 hS3 rfl rfl rfl rfl (by decide) (fun a6 w7 g8 hR9 hS10 => ?_)
  refine asg hR9 (fun a11 hR12 => ?_)
  refine asg hR12 (fun a13 hR14 => ?_)
  refine wpList_nil (x_then_n (hK5 _ _ ?_))
  refine wp_seq_k (fun K15 hK16 => ?_)
  refine wp_seq_k (fun K17 hK18 => ?_)
  refine c_region ?_
  refine m_load (i := 0) sv hR14 hS10 rfl rfl rfl rfl rfl Tryd.underlying22 rfl (by decide) (fun a19 hR20 => ?_)
  have hS21 : St w0 Z none_ w7 [.box g8 22 [.slice tA t.length tc]] [dShapes, dRow 4 tA t.length tc (encNs t)] := hS10
  refine k_call (xs := [.tmp 8]) se hR20 rfl rfl rfl (by decide) ok44 (check_calls _ (imm Z w0 [.box g8 22 [.slice tA t.length tc]] _) (fun _ h => h.1) tA tc t (hS21.get (i := 0) rfl) (hS21.get (i := 1) rfl) (by first | assumption | omega | (simp; done) | (simp; omega)) (by first | assumption | omega | (simp; done) | (simp; omega))) ?_
  rintro e28 w23 ⟨rfl, hf26⟩
  have hS29 := hS21.below hf26.below
  refine ⟨_, rfl, fun a22 hR24 => ?_⟩
  refine asg hR24 (fun a30 hR31 => ?_)
  refine wpList_nil (x_then_n (hK18 _ _ ?_))
  refine wp_seq_k (fun K32 hK33 => ?_)
  refine c_region ?_
  refine mv hR31 (fun a34 hR35 => ?_)
  refine r_neq sv hR35 rfl rfl rfl rfl (by decide) (fun a36 hR37 => ?_)
  refine wpList_nil (x_then_n (hK33 _ _ ?_))
  rcases Decidable.em (((chk t)) = 0) with h38 | h38
  · skip
    have hR39 := hR37.setb (d := 11) (b := false) rfl (by rw [(decide_eq_true h38)]; rfl)
    refine wp_cond_false (hR39.ev rfl) ?_
    refine wp_skip ?_
    refine x_then_n (hK16 _ _ ?_)
    refine wp_seq_k (fun K40 hK41 => ?_)
    refine c_region ?_
    refine m_alloc (cs := [.slice none 0 0]) sv hR39 hS29 rfl rfl ze39 rfl (by decide) (fun a42 w43 g44 hR45 hS46 => ?_)
    refine wpList_nil (x_then_n (hK41 _ _ ?_))
    refine wp_seq_k (fun K47 hK48 => ?_)
    refine wp_seq_k (fun K49 hK50 => ?_)
    refine c_region ?_
    refine m_load (i := 0) sv hR45 hS46 rfl rfl rfl rfl rfl Tryd.underlying22 rfl (by decide) (fun a51 hR52 => ?_)
    have hS53 : St w0 Z none_ w43 [.box g8 22 [.slice tA t.length tc], .box g44 39 [.slice none 0 0]] [dShapes, dRow 4 tA t.length tc (encNs t)] := hS46
    refine k_call (xs := [.tmp 13]) se hR52 rfl rfl rfl (by decide) ok52 (proofsMk_calls _ (imm Z w0 [.box g8 22 [.slice tA t.length tc], .box g44 39 [.slice none 0 0]] _) (fun _ h => h.1) tA tc t (hS53.get (i := 1) rfl) (by first | assumption | omega | (simp; done) | (simp; omega))) ?_
    rintro e62 w55 ⟨q59, rfl, hf58, hd60⟩
    have hS63 := hS53.below hf58.below
    have hS64 := hS63.data (dBox q59 [.slice tA t.length tc]) (hd60.imp (fun hk => nxt_imm hS53 hk) id)
    refine ⟨_, rfl, fun a54 hR56 => ?_⟩
    refine wpList_nil (x_then_n (hK50 _ _ ?_))
    refine wp_block ?_
    have hS65 : St w0 Z none_ w55 [.box g8 22 [.slice tA t.length tc], .box g44 39 [.slice none 0 0]] [dShapes, dRow 4 tA t.length tc (encNs t), dBox q59 [.slice tA t.length tc]] := hS64
    have hS66 := hS65.nilrow 22 1
    have hS67 : St w0 Z none_ w55 [.box g8 22 [.slice tA t.length tc], .box g44 39 [.slice none 0 0], .row none 0 0 22 1 (encSs ([]))] [dShapes, dRow 4 tA t.length tc (encNs t), dBox q59 [.slice tA t.length tc]] := hS66
    have hR68 : Reg a54 29 [(1000000, .bool false), (1, .pointer (some ⟨g8, 0, none⟩)), (2, .slice none 0 0), (3, .int .i64 0), (5, .pointer (some ⟨g44, 0, none⟩)), (14, .func (.func 70) #[] #[.pointer (some ⟨q59, 0, none⟩)])] := (hR56.sub (rc rfl (rc rfl (rc rfl (rc rfl (rc rfl (rc rfl rnl)))))))
    refine w_range (xs := prfL t) (encs := (fun x : Int × Int => #[.int .i64 x.1, .int .i64 x.2])) (hR68.ev rfl) ok70 (proofs_yields _ (imm Z w0 [.box g8 22 [.slice tA t.length tc], .box g44 39 [.slice none 0 0], .row none 0 0 22 1 (encSs ([]))] _) q59 tA tc t (hS67.get (i := 0) rfl) (hS67.get (i := 1) rfl) (hS67.get (i := 2) rfl) (by first | assumption | omega | (simp; done) | (simp; omega)) (by first | assumption | omega | (simp; done) | (simp; omega))) (fun _ => rfl) hS67 (fun _ h => h) (fun (pre : List (Int × Int)) (mm : List Res) => ∃ Ao : Option Addr, ∃ co : Nat, ∃ Ls : List Sl, mm = ([.box g8 22 [.slice tA t.length tc], .box g44 39 [.slice Ao ((Ls).length) co], .row Ao ((Ls).length) co 22 1 (encSs Ls)] ++ (Ls).map (rowOf 32)) ∧ (lsts Ls = prfsOf t pre) ∧ (Ls.length = pre.length)) (fun _ _ _ => False) ⟨none, 0, [], rfl, rfl, rfl⟩ ?_ ?_ ?_
    · skip
      rintro l69 pre x w70 m1 hp ⟨Ao, co, Ls, rfl, hLs, hLn⟩ hS71
      obtain ⟨xi, xj, rfl, hxi, hxj, hxy⟩ := prfL_nat hp
      refine (?_ : ∀ a0, Reg a0 29 [(16, .int .i64 ((xj : Nat) : Int)), (15, .int .i64 ((xi : Nat) : Int)), (1000000, .bool false), (1, .pointer (some ⟨g8, 0, none⟩)), (2, .slice none 0 0), (3, .int .i64 0), (5, .pointer (some ⟨g44, 0, none⟩)), (14, .func (.func 70) #[] #[.pointer (some ⟨q59, 0, none⟩)])] → Code.wpIn (rI l69) 0 _ _ _ a0 w70) _ (Reg.round2n hR68 (by decide) (by decide) rfl)
      intro a72 hR73
      have hpl := prfL_len (List.IsPrefix.trans (List.prefix_append _ _) hp)
      refine wpIn_seq_k (fun K74 hK75 => ?_)
      refine ci_region (by kernel_rfl) (out_then (out_then (fun _ _ h => h))) ?_
      refine asg hR73 (fun a76 hR77 => ?_)
      refine wpList_nil (x_then_n (hK75 _ _ ?_))
      refine ci_region (by kernel_rfl) (out_then (fun _ _ h => h)) ?_
      refine asg hR77 (fun a78 hR79 => ?_)
      refine wpList_nil ?_
      have hS80 : St w0 Z none_ w70 ([.box g8 22 [.slice tA t.length tc], .box g44 39 [.slice Ao ((Ls).length) co], .row Ao ((Ls).length) co 22 1 (encSs Ls)] ++ (Ls).map (rowOf 32)) [dShapes, dRow 4 tA t.length tc (encNs t), dBox q59 [.slice tA t.length tc], dAg w70 (imm Z w0 ([.box g8 22 [.slice tA t.length tc], .box g44 39 [.slice Ao ((Ls).length) co], .row Ao ((Ls).length) co 22 1 (encSs Ls)] ++ (Ls).map (rowOf 32)) w70)] := hS71
      refine x_then_n ⟨_, _, 3, hS80, rfl, (fun _ h => False.elim h), (fun _ h => False.elim h), fun w81 hS82 => ?_⟩
      refine wpIn_block ?_
      obtain ⟨J83, hJ84, hS85⟩ := hS82.agree
      refine dli_region2 (S := (fun x => agr w81 J83 x ∧ cel g8 0 (.slice tA t.length tc) x ∧ cel g44 0 (.slice Ao ((Ls).length) co) x ∧ True)) (k := 10) [9] mixed rfl (by kernel_rfl) hS85 (pan_block pan_rPost) (out_block out_rPost) (fun Q88 hP89 hN90 w86 hS87 => ?_)
      have hSw91 : agr w81 J83 w86 ∧ cel g8 0 (.slice tA t.length tc) w86 ∧ cel g44 0 (.slice Ao ((Ls).length) co) w86 ∧ True := ⟨⟨(hS87.get (i := 4) rfl).1, fun k hk => ((hS87.get (i := 4) rfl).2 k hk).2⟩, (box_cell (hS87.res (i := 0) rfl) rfl), (box_cell (hS87.res (i := 1) rfl) rfl), trivial⟩
      refine dl_take (i := 0) rfl (by kernel_rfl) (by kernel_rfl) (by kernel_rfl) (by kernel_rfl) (fun c a w h => hP89 c _ _ _ _ h) rfl (by decide) hR79 (want_n rfl) (fun x hx => m_loadC (sy hR79) hR79 rfl rfl rfl hx.2.2.1 Tryd.underlying39 rfl (by decide) gt) hSw91 (fun a92 hR93 => ?_)
      refine dl_take (i := 1) rfl (by kernel_rfl) (by kernel_rfl) (by kernel_rfl) (by kernel_rfl) (fun c a w h => hP89 c _ _ _ _ h) rfl (by decide) hR93 (want_n rfl) (fun x hx => m_loadC (sy hR93) hR93 rfl rfl rfl hx.2.1 Tryd.underlying22 rfl (by decide) gt) hSw91 (fun a94 hR95 => ?_)
      refine dl_takeA (i := 2) rfl (by kernel_rfl) (by kernel_rfl) (by kernel_rfl) (fun c a w h => hP89 c _ _ _ _ h) rfl (by decide) hR95 (want_n rfl) (fun x => r_move (sy hR95) hR95 rfl rfl rfl (by decide) gt) (fun a96 hR97 => ?_)
      refine dl_takeA (i := 3) rfl (by kernel_rfl) (by kernel_rfl) (by kernel_rfl) (fun c a w h => hP89 c _ _ _ _ h) rfl (by decide) hR97 (want_n rfl) (fun x => r_move (sy hR97) hR97 rfl rfl rfl (by decide) gt) (fun a98 hR99 => ?_)
      refine dl_takeA (i := 4) rfl (by kernel_rfl) (by kernel_rfl) (by kernel_rfl) (fun c a w h => hP89 c _ _ _ _ h) rfl (by decide) hR99 (want_n rfl) (fun x => r_add (z := ((xj + 1 : Nat) : Int)) (sy hR99) hR99 rfl rfl rfl rfl (by decide) (by omega) (by omega) (by omega) gt) (fun a100 hR101 => ?_)
      have hl104 : (((t).drop (xi)).take ((xj + 1) - (xi))).length = (xj + 1) - (xi) := by simp only [List.length_drop, List.length_take]; omega
      have hS105 := hS87.data (dRow 4 (if tc = xi then tA else (tA).map (·.add (xi * 4))) ((((t).drop (xi)).take ((xj + 1) - (xi))).length) (tc - xi) (encNs (((t).drop (xi)).take ((xj + 1) - (xi))))) (cut_row (f := encN) (L := t) (hS87.get (i := 1) rfl) encN_len (by omega))
      have hcp106 := (hS105.get (i := 1) rfl).1
      refine dl_takeA (i := 5) rfl (by kernel_rfl) (by kernel_rfl) (by kernel_rfl) (fun c a w h => hP89 c _ _ _ _ h) rfl (by decide) hR101 (want_n rfl) (fun x => m_sliceA (lo := some (.tmp 19)) (hi := some (.tmp 21)) (vlo := (some (.int .i64 ((xi : Nat) : Int)))) (vhi := (some (.int .i64 ((xj + 1 : Nat) : Int)))) (kd := .i64) (kd' := .i64) (sy hR101) hR101 rfl rfl rfl rfl rfl (xi) ((((t).drop (xi)).take ((xj + 1) - (xi))).length) (.inl (by first | rfl | (congr 2; omega))) (.inl (by first | rfl | (congr 2; omega))) Tryd.underlying22 sz32 (by omega) (by decide) gt) (fun a107 hR108 => ?_)
      refine dl_one (i := 6) (by kernel_rfl) ?_
      have hS109 : St w0 Z none_ w86 ([.box g8 22 [.slice tA t.length tc], .box g44 39 [.slice Ao ((Ls).length) co], .row Ao ((Ls).length) co 22 1 (encSs Ls)] ++ (Ls).map (rowOf 32)) [dShapes, dRow 4 tA t.length tc (encNs t), dBox q59 [.slice tA t.length tc], dAg w81 (imm Z w0 ([.box g8 22 [.slice tA t.length tc], .box g44 39 [.slice Ao ((Ls).length) co], .row Ao ((Ls).length) co 22 1 (encSs Ls)] ++ (Ls).map (rowOf 32)) w81), dAg w81 J83, dRow 4 (if tc = xi then tA else (tA).map (·.add (xi * 4))) ((((t).drop (xi)).take ((xj + 1) - (xi))).length) (tc - xi) (encNs (((t).drop (xi)).take ((xj + 1) - (xi))))] := hS105
      refine k_call (xs := [.tmp 22]) (st_op rfl (want_n rfl)) hR108 rfl rfl rfl (by decide) ok51 (cloneN_calls _ (imm Z w0 ([.box g8 22 [.slice tA t.length tc], .box g44 39 [.slice Ao ((Ls).length) co], .row Ao ((Ls).length) co 22 1 (encSs Ls)] ++ (Ls).map (rowOf 32)) _) (fun _ h => h.1) (if tc = xi then tA else (tA).map (·.add (xi * 4))) (tc - xi) (((t).drop (xi)).take ((xj + 1) - (xi))) (hS109.get (i := 5) rfl) (by first | assumption | omega | (simp; done) | (simp; omega))) ?_
      rintro e120 w111 ⟨A115, c116, rfl, hf114, hd117, hf118⟩
      have hS121 := hS109.callO hf114 hd117 hf118
      have hS122 := St.rot (A := [.box g8 22 [.slice tA t.length tc], .box g44 39 [.slice Ao ((Ls).length) co], .row Ao ((Ls).length) co 22 1 (encSs Ls)]) (T := (Ls).map (rowOf 32)) hS121
      refine ⟨_, rfl, fun a110 hR112 => ?_⟩
      have hSw123 : agr w81 J83 w111 ∧ cel g8 0 (.slice tA t.length tc) w111 ∧ cel g44 0 (.slice Ao ((Ls).length) co) w111 ∧ True := ⟨⟨(hS122.get (i := 4) rfl).1, fun k hk => ((hS122.get (i := 4) rfl).2 k hk).2⟩, (box_cell (hS122.res (i := 0) rfl) rfl), (box_cell (hS122.res (i := 1) rfl) rfl), trivial⟩
      refine ⟨fun _ _ => hSw123, ?_⟩
      refine dl_one (i := 7) (by kernel_rfl) ?_
      have hS124 := St.absorb (e := 32) (A := [.box g8 22 [.slice tA t.length tc], .box g44 39 [.slice Ao ((Ls).length) co], .row Ao ((Ls).length) co 22 1 (encSs Ls)]) (Ls := Ls) (B := A115) (c := c116) (L := (((t).drop (xi)).take ((xj + 1) - (xi)))) hS122
      refine m_buildSlice (ps := [(0, .tmp 23)]) (cs := [.slice A115 ((((t).drop (xi)).take ((xj + 1) - (xi))).length) c116]) (st_opV rfl (want_n rfl)) hR112 hS124 rfl rfl rfl Tryd.underlying39 zi22 rfl rfl (by kernel_rfl) rfl (by decide) (fun a125 w126 g127 hR128 hS129 => ?_)
      have hS130 := St.rot (A := [.box g8 22 [.slice tA t.length tc], .box g44 39 [.slice Ao ((Ls).length) co], .row Ao ((Ls).length) co 22 1 (encSs Ls)]) (T := (Ls ++ [((A115, c116, (((t).drop (xi)).take ((xj + 1) - (xi)))) : Sl)]).map (rowOf 32)) hS129
      have hSw131 : agr w81 J83 w126 ∧ cel g8 0 (.slice tA t.length tc) w126 ∧ cel g44 0 (.slice Ao ((Ls).length) co) w126 ∧ True := ⟨⟨(hS130.get (i := 4) rfl).1, fun k hk => ((hS130.get (i := 4) rfl).2 k hk).2⟩, (box_cell (hS130.res (i := 0) rfl) rfl), (box_cell (hS130.res (i := 1) rfl) rfl), trivial⟩
      refine ⟨fun _ _ => hSw131, ?_⟩
      refine dl_one (i := 8) (by kernel_rfl) ?_
      refine m_appendF (f := encS) (i := 2) (Ls) ([((A115, c116, (((t).drop (xi)).take ((xj + 1) - (xi)))) : Sl)]) (st_opV rfl (want_n rfl)) hR128 hS130 rfl rfl rfl rfl rfl encS_len (encS_one _) Tryd.underlying39 zi22 rfl rfl (own_lnews (f := encS) (hS130.res (i := 3) rfl)) rfl (by first | omega | (simp only [List.length_cons, List.length_nil]; omega)) (by decide) (fun a132 w133 A134 c135 hc136 hR137 hS138 => ?_)
      have hl140 : (Ls ++ ([((A115, c116, (((t).drop (xi)).take ((xj + 1) - (xi)))) : Sl)]) : List Sl).length = (Ls).length + 1 := by first | (simp only [List.length_append, List.length_take, List.length_cons, List.length_nil]; done) | (simp only [List.length_append, List.length_take, List.length_cons, List.length_nil]; omega)
      have hS141 := hS138.erase 3
      have hSw142 : agr w81 J83 w133 ∧ cel g8 0 (.slice tA t.length tc) w133 ∧ cel g44 0 (.slice Ao ((Ls).length) co) w133 ∧ True := ⟨⟨(hS141.get (i := 4) rfl).1, fun k hk => ((hS141.get (i := 4) rfl).2 k hk).2⟩, (box_cell (hS141.res (i := 0) rfl) rfl), (box_cell (hS141.res (i := 1) rfl) rfl), trivial⟩
      refine ⟨fun _ _ => hSw142, ?_⟩
      refine dl_one (i := 9) (by kernel_rfl) ?_
      refine m_store (i := 1) (cs' := [.slice A134 ((Ls ++ ([((A115, c116, (((t).drop (xi)).take ((xj + 1) - (xi)))) : Sl)]) : List Sl).length) c135]) (st_op rfl (want_n rfl)) hR137 hS141 rfl rfl rfl rfl rfl sz39 rfl rfl rfl (fun a143 w144 hR145 hS146 => ?_)
      refine ⟨fun h => absurd h (by decide), ?_⟩
      refine dl_done (by kernel_rfl) (hN90 _ _ ?_) _
      refine x_block_n ?_
      have hS147 : St w0 Z none_ w144 ([.box g8 22 [.slice tA t.length tc], .box g44 39 [.slice A134 ((Ls ++ ([((A115, c116, (((t).drop (xi)).take ((xj + 1) - (xi)))) : Sl)]) : List Sl).length) c135], .row A134 ((Ls ++ ([((A115, c116, (((t).drop (xi)).take ((xj + 1) - (xi)))) : Sl)]) : List Sl).length) c135 22 1 (encSs (Ls ++ ([((A115, c116, (((t).drop (xi)).take ((xj + 1) - (xi)))) : Sl)])))] ++ (Ls ++ [((A115, c116, (((t).drop (xi)).take ((xj + 1) - (xi)))) : Sl)]).map (rowOf 32)) [dShapes, dRow 4 tA t.length tc (encNs t), dBox q59 [.slice tA t.length tc], dAg w81 (imm Z w0 ([.box g8 22 [.slice tA t.length tc], .box g44 39 [.slice Ao ((Ls).length) co], .row Ao ((Ls).length) co 22 1 (encSs Ls)] ++ (Ls).map (rowOf 32)) w81), dAg w81 J83, dRow 4 (if tc = xi then tA else (tA).map (·.add (xi * 4))) ((((t).drop (xi)).take ((xj + 1) - (xi))).length) (tc - xi) (encNs (((t).drop (xi)).take ((xj + 1) - (xi))))] := hS146
      exact ⟨_, _, 3, hS147, rfl, _, _, Ls ++ [((A115, c116, (((t).drop (xi)).take ((xj + 1) - (xi)))) : Sl)], rfl, prfs_step hLs, by simp [hLn]⟩
    · skip
      rintro D148 m1 w149 ⟨Ao, co, Ls, rfl, hLs, hLn⟩ hS150
      have hR151 := Reg.marked hR68 D148
      have hS152 := St.tail_data (e := 32) (A := [.box g8 22 [.slice tA t.length tc], .box g44 39 [.slice Ao ((Ls).length) co], .row Ao ((Ls).length) co 22 1 (encSs Ls)]) (Ls := Ls) hS150 (fun _ h => h)
      have hpl := prfL_len (List.prefix_refl (prfL t))
      refine x_block_n ?_
      refine x_then_n (hK48 _ _ ?_)
      refine wp_seq_k (fun K153 hK154 => ?_)
      refine c_region ?_
      refine m_load (i := 1) sv hR151 hS152 rfl rfl rfl rfl rfl Tryd.underlying39 rfl (by decide) (fun a155 hR156 => ?_)
      have hS157 : St w0 Z none_ w149 [.box g8 22 [.slice tA t.length tc], .box g44 39 [.slice Ao ((Ls).length) co], .row Ao ((Ls).length) co 22 1 (encSs Ls)] [dShapes, dRow 4 tA t.length tc (encNs t), dBox q59 [.slice tA t.length tc], dMark w0.heap.size D148, dAll Ls] := hS152
      refine k_call (xs := [.tmp 26]) se hR156 rfl rfl rfl (by decide) ok55 (revS_calls _ (imm Z w0 [.box g8 22 [.slice tA t.length tc], .box g44 39 [.slice Ao ((Ls).length) co], .row Ao ((Ls).length) co 22 1 (encSs Ls)] _) (fun _ h => h.1) Ao co Ls (hS157.res (i := 2) rfl) (imm_row (i := 2) rfl) (by first | assumption | omega | (simp; done) | (simp; omega))) ?_
      rintro e164 w159 ⟨rfl, hf162, hb163⟩
      have hS165 := hS157.callR (i := 2) rfl hf162 hb163
      have hS166 := hS165.data (dAll (Ls.reverse)) (all_rev (hS165.get (i := 4) rfl))
      refine ⟨_, rfl, fun a158 hR160 => ?_⟩
      refine wpList_nil (x_then_n (hK154 _ _ ?_))
      refine wp_seq_k (fun K167 hK168 => ?_)
      refine c_region ?_
      refine m_load (i := 1) sv hR160 hS166 rfl rfl rfl rfl rfl Tryd.underlying39 rfl (by decide) (fun a169 hR170 => ?_)
      refine asg hR170 (fun a171 hR172 => ?_)
      refine asg hR172 (fun a173 hR174 => ?_)
      refine wpList_nil (x_then_n (hK168 _ _ ?_))
      refine wp_ret ?_
      have hc178 := own_cap (hS166.res (i := 2) rfl)
      obtain ⟨hS175, hrow176⟩ := hS166.row_data (i := 2) rfl (fun _ h => h)
      have hS177 := hS175.data (dRow 1 Ao ((Ls.reverse).length) co (encSs Ls.reverse)) ⟨hc178, hrow176⟩
      have hS179 : St w0 Z none_ w159 [.box g8 22 [.slice tA t.length tc], .box g44 39 [.slice Ao ((Ls).length) co]] [dShapes, dRow 4 tA t.length tc (encNs t), dBox q59 [.slice tA t.length tc], dMark w0.heap.size D148, dAll Ls, dAll (Ls.reverse), dRow 1 Ao ((Ls.reverse).length) co (encSs Ls.reverse)] := hS177
      obtain ⟨hD180, hS181⟩ := hS179.shut (i := 3) rfl [dRow 1 Ao ((Ls.reverse).length) co (encSs Ls.reverse), dAll (Ls.reverse)] (by intro d hd; simp only [List.mem_cons, List.not_mem_nil, or_false] at hd; rcases hd with rfl | rfl; exact ⟨List.mem_of_getElem? (i := 6) rfl, datC_row (by decide) _ _ _ _⟩; exact ⟨List.mem_of_getElem? (i := 5) rfl, datC_all _⟩)
      refine m_mark (.inl rfl) hR174 rfl hD180 (res2 hR174 rfl rfl rfl _) ?_
      refine ⟨Ao, co, Ls.reverse, ?_, hS181.fr, ⟨by have := (hS181.row (i := 0) rfl).1; exact this, ((hS181.row (i := 0) rfl).2.mono (fun _ hk => ⟨imm_nxt hk, rfl⟩))⟩, ((dAll _).mono _ _ _ _ (Nat.le_refl _) (hS181.get (i := 1) rfl) (fun k hk => ⟨imm_nxt hk, rfl⟩)), (by rw [prA_ok (by assumption), ← prf_eq (meas_chk (by assumption)), lsts_rev, hLs])⟩
      exact ret_t2 (ret_s (by first | rfl | (simp; done))) (ret_i (by first | rfl | omega | assumption | exact decide_eq_true (by assumption) | (have q0 := h38; (try simp at q0);  omega) | (simp [h38]; done) | (simp [] at *; done) | (simp [h38] <;> omega) | (rw [Bool.eq_iff_iff]; simp [h38] <;> omega) | (rw [Bool.eq_iff_iff]; simp [h38] at * <;> omega)))
    · skip
      rintro _ _ _ _ _ _ h _
      exact h.elim
  · skip
    have hR182 := hR37.setb (d := 11) (b := true) rfl (by rw [(decide_eq_false h38)]; rfl)
    refine wp_cond_true (hR182.ev rfl) ?_
    refine wp_seq_k (fun K183 hK184 => ?_)
    refine c_region ?_
    refine mv hR182 (fun a185 hR186 => ?_)
    refine asg hR186 (fun a187 hR188 => ?_)
    refine asg hR188 (fun a189 hR190 => ?_)
    refine wpList_nil (x_then_n (hK184 _ _ ?_))
    refine wp_ret ?_
    refine x_then_r ?_
    refine m_none (.inl rfl) hR190 rfl (res2 hR190 rfl rfl rfl _) ?_
    refine ⟨none, 0, [], ?_, hS29.fr, ⟨Nat.le_refl _, RowI.nil _ _ _ _⟩, all_nil, (prA_no (by assumption)).symm⟩
    exact ret_t2 (ret_s (by first | rfl | (simp; done))) (ret_i (by first | rfl | omega | assumption | exact decide_eq_true (by assumption) | (have q0 := h38; (try simp at q0);  omega) | (simp [h38]; done) | (simp [] at *; done) | (simp [h38] <;> omega) | (rw [Bool.eq_iff_iff]; simp [h38] <;> omega) | (rw [Bool.eq_iff_iff]; simp [h38] at * <;> omega)))
end Go.Proofs.YtobgdeffhdefeaaDoor
/- Contracts of functions, one theorem each: what the call returns, and that nothing old is changed. Printed by gen.py. -/
namespace Go.Proofs.YtobgdeffhdefeaaDoor
open Go Go.RowKit
set_option linter.unusedSimpArgs false
set_option linter.unusedVariables false

set_option maxRecDepth 100000 in
set_option maxHeartbeats 1000000 in
theorem heavy13_calls (w0 : World) (Z : Nat → Prop) (hZ : ∀ k, Z k → k < w0.heap.size) (tA : Option Addr) (tc : Nat) (t : List Nd) (ht : (dRow 4 tA t.length tc (encNs t)).φ w0 Z) :
    Calls Tryd.prog 34 [.slice tA t.length tc].toArray w0 (fun e w' => e = .returned (.bool (heavyB 100 t)) ∧ Fr none_ w0 w') := by
  have hstart : ∀ k, Z k → imm Z w0 [] w0 k ∧ w0.heap[k]? = w0.heap[k]? := fun k hk => ⟨⟨hZ k hk, fun _ => hk, fun _ h => by cases h⟩, rfl⟩
  have hS3 : St w0 Z none_ w0 [] [dRow 4 tA t.length tc (encNs t)] := St.start w0 Z none_ _ (by
    intro d hd
    simp only [List.mem_cons, List.not_mem_nil, or_false] at hd
    rcases hd with rfl
    · exact Dat.mono _ _ _ _ _ (Nat.le_refl _) ht hstart
    )
  refine c_enter Tryd.func34 rfl Tryd.ntmps34 rfl (fun a1 hR2 => ?_)
  refine wp_seq_k (fun K4 hK5 => ?_)
  refine c_region ?_
  refine asg hR2 (fun a6 hR7 => ?_)
  refine wpList_nil (x_then_n (hK5 _ _ ?_))
  refine wp_seq_k (fun K8 hK9 => ?_)
  refine wp_seq_k (fun K10 hK11 => ?_)
  refine c_region ?_
  refine mv hR7 (fun a12 hR13 => ?_)
  refine r_len sv hR13 rfl rfl rfl rfl Tryd.underlying22 (by decide) (fun a14 hR15 => ?_)
  refine r_gtr sv hR15 rfl rfl rfl rfl (by decide) (fun a16 hR17 => ?_)
  refine wpList_nil (x_then_n (hK11 _ _ ?_))
  rcases Decidable.em (100 < ((t.length : Nat) : Int)) with h18 | h18
  · skip
    have hR19 := hR17.setb (d := 6) (b := true) rfl (decide_eq_true h18)
    refine wp_cond_true (hR19.ev rfl) ?_
    refine wp_seq_k (fun K20 hK21 => ?_)
    refine c_region ?_
    refine asg hR19 (fun a22 hR23 => ?_)
    refine wpList_nil (x_then_n (hK21 _ _ ?_))
    refine wp_ret ?_
    refine x_then_r ?_
    refine e_ret1 hR23 rfl rfl rfl ?_
    refine ⟨?_, hS3.fr⟩
    exact congrArg Ending.returned (ret_b (by first | exact (heavy_len (by omega)).symm | exact (heavy_at (k := k) (by omega) (by omega)).symm | exact (heavy_no hi (by omega) (by omega)).symm))
  · skip
    have hR24 := hR17.setb (d := 6) (b := false) rfl (decide_eq_false h18)
    refine wp_cond_false (hR24.ev rfl) ?_
    refine wp_skip ?_
    refine x_then_n (hK9 _ _ ?_)
    refine wp_seq_k (fun K25 hK26 => ?_)
    refine wp_seq_k (fun K27 hK28 => ?_)
    refine c_region ?_
    refine asg hR24 (fun a29 hR30 => ?_)
    refine wpList_nil (x_then_n (hK28 _ _ ?_))
    refine wp_block ?_
    refine wp_loop_ghost (fun gn ga gw => ∃ k : Nat, (Reg ga 20 [(1000000, .bool false), (0, .slice tA t.length tc), (3, .int .i64 ((k : Nat) : Int))]) ∧ (St w0 Z none_ gw [] [dRow 4 tA t.length tc (encNs t)]) ∧ (k ≤ t.length) ∧ (lightTo t k) ∧ (t.length - k) = gn) _ ⟨0, (hR30.sub (rc rfl (rc rfl (rc rfl rnl)))), hS3, by omega, (fun _ h => by omega), rfl⟩ ?_
    rintro r31 a32 w33 ⟨k, hR34, hS35, hk, hi, hn36⟩
    refine wp_seq_k (fun K37 hK38 => ?_)
    refine wp_seq_k (fun K39 hK40 => ?_)
    refine c_region ?_
    refine mv hR34 (fun a41 hR42 => ?_)
    refine mv hR42 (fun a43 hR44 => ?_)
    refine r_len sv hR44 rfl rfl rfl rfl Tryd.underlying22 (by decide) (fun a45 hR46 => ?_)
    refine r_lss sv hR46 rfl rfl rfl rfl (by decide) (fun a47 hR48 => ?_)
    refine wpList_nil (x_then_n (hK40 _ _ ?_))
    rcases Decidable.em (((k : Nat) : Int) < ((t.length : Nat) : Int)) with h49 | h49
    · skip
      have hR50 := hR48.setb (d := 10) (b := true) rfl (decide_eq_true h49)
      refine wp_cond_true (hR50.ev rfl) ?_
      refine wp_skip ?_
      refine x_then_n (hK38 _ _ ?_)
      refine wp_seq_k (fun K51 hK52 => ?_)
      refine wp_block ?_
      refine wp_seq_k (fun K53 hK54 => ?_)
      refine c_region ?_
      refine mv hR50 (fun a55 hR56 => ?_)
      refine mv hR56 (fun a57 hR58 => ?_)
      refine m_index (i := k) (j := k * 4) sv hR58 rfl rfl rfl rfl Tryd.underlying22 sz32 (by omega) (by omega) (nds_elem (t := t) (k := k) (hS35.row (i := 0) rfl).2 (by omega)).some_ rfl (by decide) (fun a59 hR60 => ?_)
      refine m_fieldE (j' := k * 4 + 3) sv hR60 rfl rfl rfl (nds_elem (t := t) (k := k) (hS35.row (i := 0) rfl).2 (by omega)).some_ Tryd.underlying32 rfl sz9 rfl rfl (by decide) (fun a61 hR62 => ?_)
      refine m_loadE sv hR62 rfl rfl rfl 3 (k * 4) (nds_elem (t := t) (k := k) (hS35.row (i := 0) rfl).2 (by omega)) rfl rfl Tryd.underlying9 rfl (by decide) (fun a63 hR64 => ?_)
      refine r_lenS sv hR64 rfl rfl rfl rfl Tryd.underlying9 (by decide) (fun a65 hR66 => ?_)
      refine r_gtr sv hR66 rfl rfl rfl rfl (by decide) (fun a67 hR68 => ?_)
      refine wpList_nil (x_then_n (hK54 _ _ ?_))
      rcases Decidable.em (100 < ((((nth t k).S).size : Nat) : Int)) with h69 | h69
      · skip
        have hR70 := hR68.setb (d := 19) (b := true) rfl (decide_eq_true h69)
        refine wp_cond_true (hR70.ev rfl) ?_
        refine wp_seq_k (fun K71 hK72 => ?_)
        refine c_region ?_
        refine asg hR70 (fun a73 hR74 => ?_)
        refine wpList_nil (x_then_n (hK72 _ _ ?_))
        refine wp_ret ?_
        refine x_block_r ?_
        refine x_then_r ?_
        refine x_then_r ?_
        refine x_block_r ?_
        refine x_then_r ?_
        refine e_ret1 hR74 rfl rfl rfl ?_
        refine ⟨?_, hS35.fr⟩
        exact congrArg Ending.returned (ret_b (by first | exact (heavy_len (by omega)).symm | exact (heavy_at (k := k) (by omega) (by omega)).symm | exact (heavy_no hi (by omega) (by omega)).symm))
      · skip
        have hR75 := hR68.setb (d := 19) (b := false) rfl (decide_eq_false h69)
        refine wp_cond_false (hR75.ev rfl) ?_
        refine wp_skip ?_
        refine x_block_n ?_
        refine x_then_n (hK52 _ _ ?_)
        refine c_region ?_
        refine mv hR75 (fun a76 hR77 => ?_)
        refine r_add (z := ((k + 1 : Nat) : Int)) sv hR77 rfl rfl rfl rfl (by decide) (by omega) (by omega) (by omega) (fun a78 hR79 => ?_)
        refine asg hR79 (fun a80 hR81 => ?_)
        refine wpList_nil ?_
        exact ⟨_, by omega, k + 1, (hR81.sub (rc rfl (rc rfl (rc rfl rnl)))), hS35, by omega, light_step hi (by omega), rfl⟩
    · skip
      have hR82 := hR48.setb (d := 10) (b := false) rfl (decide_eq_false h49)
      refine wp_cond_false (hR82.ev rfl) ?_
      refine wp_exit ?_
      refine x_then_e ?_
      refine x_then_e ?_
      refine x_block_eq ?_
      refine x_then_n (hK26 _ _ ?_)
      refine wp_seq_k (fun K83 hK84 => ?_)
      refine c_region ?_
      refine asg hR82 (fun a85 hR86 => ?_)
      refine wpList_nil (x_then_n (hK84 _ _ ?_))
      refine wp_ret ?_
      refine e_ret1 hR86 rfl rfl rfl ?_
      refine ⟨?_, hS35.fr⟩
      exact congrArg Ending.returned (ret_b (by first | exact (heavy_len (by omega)).symm | exact (heavy_at (k := k) (by omega) (by omega)).symm | exact (heavy_no hi (by omega) (by omega)).symm))
end Go.Proofs.YtobgdeffhdefeaaDoor
/- Contracts of functions, one theorem each: what the call returns, and that nothing old is changed. Printed by gen.py. -/
namespace Go.Proofs.YtobgdeffhdefeaaDoor
open Go Go.RowKit
set_option linter.unusedSimpArgs false
set_option linter.unusedVariables false

set_option maxRecDepth 100000 in
set_option maxHeartbeats 1000000 in
theorem heavy11_calls (w0 : World) (Z : Nat → Prop) (hZ : ∀ k, Z k → k < w0.heap.size) (tA : Option Addr) (tc : Nat) (t : List Nd) (ht : (dRow 4 tA t.length tc (encNs t)).φ w0 Z) :
    Calls Tryd.prog 26 [.slice tA t.length tc].toArray w0 (fun e w' => e = .returned (.bool (heavyB 200 t)) ∧ Fr none_ w0 w') := by
  have hstart : ∀ k, Z k → imm Z w0 [] w0 k ∧ w0.heap[k]? = w0.heap[k]? := fun k hk => ⟨⟨hZ k hk, fun _ => hk, fun _ h => by cases h⟩, rfl⟩
  have hS3 : St w0 Z none_ w0 [] [dRow 4 tA t.length tc (encNs t)] := St.start w0 Z none_ _ (by
    intro d hd
    simp only [List.mem_cons, List.not_mem_nil, or_false] at hd
    rcases hd with rfl
    · exact Dat.mono _ _ _ _ _ (Nat.le_refl _) ht hstart
    )
  refine c_enter Tryd.func26 rfl Tryd.ntmps26 rfl (fun a1 hR2 => ?_)
  refine wp_seq_k (fun K4 hK5 => ?_)
  refine c_region ?_
  refine asg hR2 (fun a6 hR7 => ?_)
  refine wpList_nil (x_then_n (hK5 _ _ ?_))
  refine wp_seq_k (fun K8 hK9 => ?_)
  refine wp_seq_k (fun K10 hK11 => ?_)
  refine c_region ?_
  refine mv hR7 (fun a12 hR13 => ?_)
  refine r_len sv hR13 rfl rfl rfl rfl Tryd.underlying22 (by decide) (fun a14 hR15 => ?_)
  refine r_gtr sv hR15 rfl rfl rfl rfl (by decide) (fun a16 hR17 => ?_)
  refine wpList_nil (x_then_n (hK11 _ _ ?_))
  rcases Decidable.em (200 < ((t.length : Nat) : Int)) with h18 | h18
  · skip
    have hR19 := hR17.setb (d := 6) (b := true) rfl (decide_eq_true h18)
    refine wp_cond_true (hR19.ev rfl) ?_
    refine wp_seq_k (fun K20 hK21 => ?_)
    refine c_region ?_
    refine asg hR19 (fun a22 hR23 => ?_)
    refine wpList_nil (x_then_n (hK21 _ _ ?_))
    refine wp_ret ?_
    refine x_then_r ?_
    refine e_ret1 hR23 rfl rfl rfl ?_
    refine ⟨?_, hS3.fr⟩
    exact congrArg Ending.returned (ret_b (by first | exact (heavy_len (by omega)).symm | exact (heavy_at (k := k) (by omega) (by omega)).symm | exact (heavy_no hi (by omega) (by omega)).symm))
  · skip
    have hR24 := hR17.setb (d := 6) (b := false) rfl (decide_eq_false h18)
    refine wp_cond_false (hR24.ev rfl) ?_
    refine wp_skip ?_
    refine x_then_n (hK9 _ _ ?_)
    refine wp_seq_k (fun K25 hK26 => ?_)
    refine wp_seq_k (fun K27 hK28 => ?_)
    refine c_region ?_
    refine asg hR24 (fun a29 hR30 => ?_)
    refine wpList_nil (x_then_n (hK28 _ _ ?_))
    refine wp_block ?_
    refine wp_loop_ghost (fun gn ga gw => ∃ k : Nat, (Reg ga 20 [(1000000, .bool false), (0, .slice tA t.length tc), (3, .int .i64 ((k : Nat) : Int))]) ∧ (St w0 Z none_ gw [] [dRow 4 tA t.length tc (encNs t)]) ∧ (k ≤ t.length) ∧ (lightTo t k) ∧ (t.length - k) = gn) _ ⟨0, (hR30.sub (rc rfl (rc rfl (rc rfl rnl)))), hS3, by omega, (fun _ h => by omega), rfl⟩ ?_
    rintro r31 a32 w33 ⟨k, hR34, hS35, hk, hi, hn36⟩
    refine wp_seq_k (fun K37 hK38 => ?_)
    refine wp_seq_k (fun K39 hK40 => ?_)
    refine c_region ?_
    refine mv hR34 (fun a41 hR42 => ?_)
    refine mv hR42 (fun a43 hR44 => ?_)
    refine r_len sv hR44 rfl rfl rfl rfl Tryd.underlying22 (by decide) (fun a45 hR46 => ?_)
    refine r_lss sv hR46 rfl rfl rfl rfl (by decide) (fun a47 hR48 => ?_)
    refine wpList_nil (x_then_n (hK40 _ _ ?_))
    rcases Decidable.em (((k : Nat) : Int) < ((t.length : Nat) : Int)) with h49 | h49
    · skip
      have hR50 := hR48.setb (d := 10) (b := true) rfl (decide_eq_true h49)
      refine wp_cond_true (hR50.ev rfl) ?_
      refine wp_skip ?_
      refine x_then_n (hK38 _ _ ?_)
      refine wp_seq_k (fun K51 hK52 => ?_)
      refine wp_block ?_
      refine wp_seq_k (fun K53 hK54 => ?_)
      refine c_region ?_
      refine mv hR50 (fun a55 hR56 => ?_)
      refine mv hR56 (fun a57 hR58 => ?_)
      refine m_index (i := k) (j := k * 4) sv hR58 rfl rfl rfl rfl Tryd.underlying22 sz32 (by omega) (by omega) (nds_elem (t := t) (k := k) (hS35.row (i := 0) rfl).2 (by omega)).some_ rfl (by decide) (fun a59 hR60 => ?_)
      refine m_fieldE (j' := k * 4 + 3) sv hR60 rfl rfl rfl (nds_elem (t := t) (k := k) (hS35.row (i := 0) rfl).2 (by omega)).some_ Tryd.underlying32 rfl sz9 rfl rfl (by decide) (fun a61 hR62 => ?_)
      refine m_loadE sv hR62 rfl rfl rfl 3 (k * 4) (nds_elem (t := t) (k := k) (hS35.row (i := 0) rfl).2 (by omega)) rfl rfl Tryd.underlying9 rfl (by decide) (fun a63 hR64 => ?_)
      refine r_lenS sv hR64 rfl rfl rfl rfl Tryd.underlying9 (by decide) (fun a65 hR66 => ?_)
      refine r_gtr sv hR66 rfl rfl rfl rfl (by decide) (fun a67 hR68 => ?_)
      refine wpList_nil (x_then_n (hK54 _ _ ?_))
      rcases Decidable.em (100 < ((((nth t k).S).size : Nat) : Int)) with h69 | h69
      · skip
        have hR70 := hR68.setb (d := 19) (b := true) rfl (decide_eq_true h69)
        refine wp_cond_true (hR70.ev rfl) ?_
        refine wp_seq_k (fun K71 hK72 => ?_)
        refine c_region ?_
        refine asg hR70 (fun a73 hR74 => ?_)
        refine wpList_nil (x_then_n (hK72 _ _ ?_))
        refine wp_ret ?_
        refine x_block_r ?_
        refine x_then_r ?_
        refine x_then_r ?_
        refine x_block_r ?_
        refine x_then_r ?_
        refine e_ret1 hR74 rfl rfl rfl ?_
        refine ⟨?_, hS35.fr⟩
        exact congrArg Ending.returned (ret_b (by first | exact (heavy_len (by omega)).symm | exact (heavy_at (k := k) (by omega) (by omega)).symm | exact (heavy_no hi (by omega) (by omega)).symm))
      · skip
        have hR75 := hR68.setb (d := 19) (b := false) rfl (decide_eq_false h69)
        refine wp_cond_false (hR75.ev rfl) ?_
        refine wp_skip ?_
        refine x_block_n ?_
        refine x_then_n (hK52 _ _ ?_)
        refine c_region ?_
        refine mv hR75 (fun a76 hR77 => ?_)
        refine r_add (z := ((k + 1 : Nat) : Int)) sv hR77 rfl rfl rfl rfl (by decide) (by omega) (by omega) (by omega) (fun a78 hR79 => ?_)
        refine asg hR79 (fun a80 hR81 => ?_)
        refine wpList_nil ?_
        exact ⟨_, by omega, k + 1, (hR81.sub (rc rfl (rc rfl (rc rfl rnl)))), hS35, by omega, light_step hi (by omega), rfl⟩
    · skip
      have hR82 := hR48.setb (d := 10) (b := false) rfl (decide_eq_false h49)
      refine wp_cond_false (hR82.ev rfl) ?_
      refine wp_exit ?_
      refine x_then_e ?_
      refine x_then_e ?_
      refine x_block_eq ?_
      refine x_then_n (hK26 _ _ ?_)
      refine wp_seq_k (fun K83 hK84 => ?_)
      refine c_region ?_
      refine asg hR82 (fun a85 hR86 => ?_)
      refine wpList_nil (x_then_n (hK84 _ _ ?_))
      refine wp_ret ?_
      refine e_ret1 hR86 rfl rfl rfl ?_
      refine ⟨?_, hS35.fr⟩
      exact congrArg Ending.returned (ret_b (by first | exact (heavy_len (by omega)).symm | exact (heavy_at (k := k) (by omega) (by omega)).symm | exact (heavy_no hi (by omega) (by omega)).symm))
end Go.Proofs.YtobgdeffhdefeaaDoor
/- Contracts of functions, one theorem each: what the call returns, and that nothing old is changed. Printed by gen.py. -/
namespace Go.Proofs.YtobgdeffhdefeaaDoor
open Go Go.RowKit
set_option linter.unusedSimpArgs false
set_option linter.unusedVariables false

set_option maxRecDepth 100000 in
set_option maxHeartbeats 1000000 in
theorem shown11_calls (w0 : World) (Z : Nat → Prop) (hZ : ∀ k, Z k → k < w0.heap.size)  (hShp : Shapes w0 Z) :
    Calls Tryd.prog 27 [].toArray w0 (fun e w' => e = .returned (.bool (true)) ∧ Fr none_ w0 w') := by
  have hstart : ∀ k, Z k → imm Z w0 [] w0 k ∧ w0.heap[k]? = w0.heap[k]? := fun k hk => ⟨⟨hZ k hk, fun _ => hk, fun _ h => by cases h⟩, rfl⟩
  have hS3 : St w0 Z none_ w0 [] [dShapes] := St.start w0 Z none_ _ (by
    intro d hd
    simp only [List.mem_cons, List.not_mem_nil, or_false] at hd
    rcases hd with rfl
    · exact Dat.mono _ _ _ _ _ (Nat.le_refl _) hShp hstart
    )
  refine c_enter Tryd.func27 rfl Tryd.ntmps27 rfl (fun a1 hR2 => ?_)
  refine wp_seq_k (fun K4 hK5 => ?_)
  refine c_region ?_
  refine asg hR2 (fun a6 hR7 => ?_)
  refine wpList_nil (x_then_n (hK5 _ _ ?_))
  refine wp_seq_k (fun K8 hK9 => ?_)
  refine c_region ?_
  refine m_build (ps := [(0, .const (.int .i64 17))]) (v := .agg #[.int .i64 17, .int .i64 0, .int .i64 0, .string (⟨#[]⟩ : ByteArray)]) sv hR7 rfl rfl rfl (fun _ => by kernel_rfl) (by decide) (fun a10 hR11 => ?_)
  refine m_build (ps := [(0, .const (.int .i64 28))]) (v := .agg #[.int .i64 28, .int .i64 0, .int .i64 0, .string (⟨#[]⟩ : ByteArray)]) sv hR11 rfl rfl rfl (fun _ => by kernel_rfl) (by decide) (fun a12 hR13 => ?_)
  refine m_buildSlice (ps := [(0, .tmp 4), (1, .tmp 5)]) (cs := [.int .i64 17, .int .i64 0, .int .i64 0, .string (⟨#[]⟩ : ByteArray), .int .i64 28, .int .i64 0, .int .i64 0, .string (⟨#[]⟩ : ByteArray)]) sv hR13 hS3 rfl rfl rfl Tryd.underlying22 zi32 rfl rfl (by kernel_rfl) rfl (by decide) (fun a14 w15 g16 hR17 hS18 => ?_)
  refine asg hR17 (fun a19 hR20 => ?_)
  refine wpList_nil (x_then_n (hK9 _ _ ?_))
  refine wp_seq_k (fun K21 hK22 => ?_)
  refine c_region ?_
  refine mv hR20 (fun a23 hR24 => ?_)
  have hS25 : St w0 Z none_ w15 [.row (some ⟨g16, 0, none⟩) 2 2 32 4 (encNs ([(⟨17, 0, 0, (⟨#[]⟩ : ByteArray)⟩ : Nd), (⟨28, 0, 0, (⟨#[]⟩ : ByteArray)⟩ : Nd)]))] [dShapes] := hS18
  have hc29 := own_cap (hS25.res (i := 0) rfl)
  obtain ⟨hS26, hrow27⟩ := hS25.row_data (i := 0) rfl (fun _ h => h)
  have hS28 := hS26.data (dRow 4 (some ⟨g16, 0, none⟩) 2 2 (encNs ([(⟨17, 0, 0, (⟨#[]⟩ : ByteArray)⟩ : Nd), (⟨28, 0, 0, (⟨#[]⟩ : ByteArray)⟩ : Nd)]))) ⟨hc29, hrow27⟩
  refine k_call (xs := [.tmp 8]) se hR24 rfl rfl rfl (by decide) ok28 (erase_calls _ (imm Z w0 [] _) (fun _ h => h.1) (some ⟨g16, 0, none⟩) 2 ([(⟨17, 0, 0, (⟨#[]⟩ : ByteArray)⟩ : Nd), (⟨28, 0, 0, (⟨#[]⟩ : ByteArray)⟩ : Nd)]) (hS28.get (i := 0) rfl) (hS28.get (i := 1) rfl) sml_sp (by simp)) ?_
  rintro e39 w31 ⟨A35, c36, rfl, hf34, hd37⟩
  have hS40 := hS28.below hf34.below
  have hS41 := hS40.data (dRow 4 A35 ((erA ([(⟨17, 0, 0, (⟨#[]⟩ : ByteArray)⟩ : Nd), (⟨28, 0, 0, (⟨#[]⟩ : ByteArray)⟩ : Nd)])).length) c36 (encNs (erA ([(⟨17, 0, 0, (⟨#[]⟩ : ByteArray)⟩ : Nd), (⟨28, 0, 0, (⟨#[]⟩ : ByteArray)⟩ : Nd)])))) ⟨hd37.1, hd37.2.mono (fun _ hk => ⟨nxt_imm hS28 hk, rfl⟩)⟩
  refine ⟨_, rfl, fun a30 hR32 => ?_⟩
  refine mv hR32 (fun a42 hR43 => ?_)
  refine r_extract sv hR43 rfl rfl rfl rfl (by decide) (fun a44 hR45 => ?_)
  refine r_extract sv hR45 rfl rfl rfl rfl (by decide) (fun a46 hR47 => ?_)
  refine asg hR47 (fun a48 hR49 => ?_)
  refine asg hR49 (fun a50 hR51 => ?_)
  refine wpList_nil (x_then_n (hK22 _ _ ?_))
  refine wp_seq_k (fun K52 hK53 => ?_)
  refine c_region ?_
  refine mv hR51 (fun a54 hR55 => ?_)
  refine r_eql sv hR55 rfl rfl rfl rfl (by decide) (fun a56 hR57 => ?_)
  refine mv hR57 (fun a58 hR59 => ?_)
  refine l_join (fun ga gw => Reg ga 26 [(0, .bool false), (2, .slice A35 ((erA ([(⟨17, 0, 0, (⟨#[]⟩ : ByteArray)⟩ : Nd), (⟨28, 0, 0, (⟨#[]⟩ : ByteArray)⟩ : Nd)])).length) c36), (18, .bool ((decide (((chk ([(⟨17, 0, 0, (⟨#[]⟩ : ByteArray)⟩ : Nd), (⟨28, 0, 0, (⟨#[]⟩ : ByteArray)⟩ : Nd)]))) = 0)) && (decide ((((erA ([(⟨17, 0, 0, (⟨#[]⟩ : ByteArray)⟩ : Nd), (⟨28, 0, 0, (⟨#[]⟩ : ByteArray)⟩ : Nd)])).length : Nat) : Int) = 1)))), (1000000, .bool false)] ∧ St w0 Z none_ gw [] [dShapes, dRow 4 (some ⟨g16, 0, none⟩) 2 2 (encNs ([(⟨17, 0, 0, (⟨#[]⟩ : ByteArray)⟩ : Nd), (⟨28, 0, 0, (⟨#[]⟩ : ByteArray)⟩ : Nd)])), dRow 4 A35 ((erA ([(⟨17, 0, 0, (⟨#[]⟩ : ByteArray)⟩ : Nd), (⟨28, 0, 0, (⟨#[]⟩ : ByteArray)⟩ : Nd)])).length) c36 (encNs (erA ([(⟨17, 0, 0, (⟨#[]⟩ : ByteArray)⟩ : Nd), (⟨28, 0, 0, (⟨#[]⟩ : ByteArray)⟩ : Nd)])))]) 4 ?_ ?_
  · skip
    rcases Decidable.em (((chk ([(⟨17, 0, 0, (⟨#[]⟩ : ByteArray)⟩ : Nd), (⟨28, 0, 0, (⟨#[]⟩ : ByteArray)⟩ : Nd)]))) = 0) with h60 | h60
    · skip
      have hR61 := hR59.setb (d := 14) (b := true) rfl (decide_eq_true h60)
      refine r_move (st_listV_w (wt hR61)) hR61 rfl rfl rfl (by decide) (fun a62 hR63 => ?_)
      refine r_len (st_listV_w (wt hR63)) hR63 rfl rfl rfl rfl Tryd.underlying22 (by decide) (fun a64 hR65 => ?_)
      refine r_eql (st_listV_w (wt hR65)) hR65 rfl rfl rfl rfl (by decide) (fun a66 hR67 => ?_)
      refine r_pick_t sv hR67 rfl rfl rfl rfl (by decide) (fun a68 hR69 => ?_)
      refine wpList_nil ?_
      exact x_then_n ⟨(hR69.sub (rc rfl (rc rfl (rc (rb rfl (by first | rfl | (simp only [decide_eq_true h60, if_pos h60, bl]; done) | (simp [h60]; done) | (simp [h60]; omega))) (rc rfl rnl))))), hS41⟩
    · skip
      have hR70 := hR59.setb (d := 14) (b := false) rfl (decide_eq_false h60)
      refine sps hR70 (wff hR70) (fun a71 hR72 => ?_)
      refine sps hR72 (wff hR72) (fun a73 hR74 => ?_)
      refine sps hR74 (wff hR74) (fun a75 hR76 => ?_)
      refine r_pick_f sv hR76 rfl rfl rfl rfl (by decide) (fun a77 hR78 => ?_)
      refine wpList_nil ?_
      exact x_then_n ⟨(hR78.sub (rc rfl (rc rfl (rc (rb rfl (by first | rfl | (simp only [decide_eq_false h60, if_neg h60, bl]; done) | (simp [h60]; done) | (simp [h60]; omega))) (rc rfl rnl))))), hS41⟩
  rintro a79 w80 ⟨hR81, hS82⟩
  refine mv hR81 (fun a83 hR84 => ?_)
  refine l_join (fun ga gw => Reg ga 26 [(0, .bool false), (25, .bool (((decide (((chk ([(⟨17, 0, 0, (⟨#[]⟩ : ByteArray)⟩ : Nd), (⟨28, 0, 0, (⟨#[]⟩ : ByteArray)⟩ : Nd)]))) = 0)) && (decide ((((erA ([(⟨17, 0, 0, (⟨#[]⟩ : ByteArray)⟩ : Nd), (⟨28, 0, 0, (⟨#[]⟩ : ByteArray)⟩ : Nd)])).length : Nat) : Int) = 1))) && (decide ((((nth (erA ([(⟨17, 0, 0, (⟨#[]⟩ : ByteArray)⟩ : Nd), (⟨28, 0, 0, (⟨#[]⟩ : ByteArray)⟩ : Nd)])) 0).K)) = 29)))), (1000000, .bool false)] ∧ St w0 Z none_ gw [] [dShapes, dRow 4 (some ⟨g16, 0, none⟩) 2 2 (encNs ([(⟨17, 0, 0, (⟨#[]⟩ : ByteArray)⟩ : Nd), (⟨28, 0, 0, (⟨#[]⟩ : ByteArray)⟩ : Nd)])), dRow 4 A35 ((erA ([(⟨17, 0, 0, (⟨#[]⟩ : ByteArray)⟩ : Nd), (⟨28, 0, 0, (⟨#[]⟩ : ByteArray)⟩ : Nd)])).length) c36 (encNs (erA ([(⟨17, 0, 0, (⟨#[]⟩ : ByteArray)⟩ : Nd), (⟨28, 0, 0, (⟨#[]⟩ : ByteArray)⟩ : Nd)])))]) 6 ?_ ?_
  · skip
    rcases Bool.eq_false_or_eq_true (((decide (((chk ([(⟨17, 0, 0, (⟨#[]⟩ : ByteArray)⟩ : Nd), (⟨28, 0, 0, (⟨#[]⟩ : ByteArray)⟩ : Nd)]))) = 0)) && (decide ((((erA ([(⟨17, 0, 0, (⟨#[]⟩ : ByteArray)⟩ : Nd), (⟨28, 0, 0, (⟨#[]⟩ : ByteArray)⟩ : Nd)])).length : Nat) : Int) = 1)))) with h85 | h85
    · skip
      have h86 := and_tl h85
      have h87 := of_decide_eq_true h86
      have h88 := and_tr h85
      have h89 := of_decide_eq_true h88
      have hR90 := hR84.setb (d := 19) (b := true) rfl h85
      refine r_move (st_listV_w (wt hR90)) hR90 rfl rfl rfl (by decide) (fun a91 hR92 => ?_)
      refine m_index (i := 0) (j := 0 * 4) (st_listV_w (wt hR92)) hR92 rfl rfl rfl rfl Tryd.underlying22 sz32 (by omega) (by omega) (nds_elem (t := erA ([(⟨17, 0, 0, (⟨#[]⟩ : ByteArray)⟩ : Nd), (⟨28, 0, 0, (⟨#[]⟩ : ByteArray)⟩ : Nd)])) (k := 0) (hS82.row (i := 2) rfl).2 (by omega)).some_ rfl (by decide) (fun a93 hR94 => ?_)
      refine m_fieldE (j' := 0 * 4) (st_listV_w (wt hR94)) hR94 rfl rfl rfl (nds_elem (t := erA ([(⟨17, 0, 0, (⟨#[]⟩ : ByteArray)⟩ : Nd), (⟨28, 0, 0, (⟨#[]⟩ : ByteArray)⟩ : Nd)])) (k := 0) (hS82.row (i := 2) rfl).2 (by omega)).some_ Tryd.underlying32 rfl sz3 rfl rfl (by decide) (fun a95 hR96 => ?_)
      refine m_loadE (st_listV_w (wt hR96)) hR96 rfl rfl rfl 0 (0 * 4) (nds_elem (t := erA ([(⟨17, 0, 0, (⟨#[]⟩ : ByteArray)⟩ : Nd), (⟨28, 0, 0, (⟨#[]⟩ : ByteArray)⟩ : Nd)])) (k := 0) (hS82.row (i := 2) rfl).2 (by omega)) rfl rfl Tryd.underlying3 rfl (by decide) (fun a97 hR98 => ?_)
      refine r_eql (st_listV_w (wt hR98)) hR98 rfl rfl rfl rfl (by decide) (fun a99 hR100 => ?_)
      refine r_pick_t sv hR100 rfl rfl rfl rfl (by decide) (fun a101 hR102 => ?_)
      refine wpList_nil ?_
      exact x_then_n ⟨(hR102.sub (rc rfl (rc (rb rfl (by first | rfl | (simp only [h85, bl]; done) | (simp [h85]; done) | (simp [h85]; omega))) (rc rfl rnl)))), hS82⟩
    · skip
      have hq103 := h85
      try simp only [Bool.or_eq_true, Bool.and_eq_true, Bool.not_eq_true', Bool.not_eq_false', decide_eq_true_eq, decide_eq_false_iff_not, Bool.or_eq_false_iff, Bool.and_eq_false_iff] at hq103
      have hR104 := hR84.setb (d := 19) (b := false) rfl h85
      refine sps hR104 (wff hR104) (fun a105 hR106 => ?_)
      refine sps hR106 (wff hR106) (fun a107 hR108 => ?_)
      refine sps hR108 (wff hR108) (fun a109 hR110 => ?_)
      refine sps hR110 (wff hR110) (fun a111 hR112 => ?_)
      refine sps hR112 (wff hR112) (fun a113 hR114 => ?_)
      refine r_pick_f sv hR114 rfl rfl rfl rfl (by decide) (fun a115 hR116 => ?_)
      refine wpList_nil ?_
      exact x_then_n ⟨(hR116.sub (rc rfl (rc (rb rfl (by first | rfl | (simp only [h85, bl]; done) | (simp [h85]; done) | (simp [h85]; omega))) (rc rfl rnl)))), hS82⟩
  rintro a117 w118 ⟨hR119, hS120⟩
  refine asg hR119 (fun a121 hR122 => ?_)
  refine wpList_nil (x_then_n (hK53 _ _ ?_))
  refine wp_ret ?_
  refine e_ret1 hR122 rfl rfl rfl ?_
  refine ⟨?_, hS120.fr⟩
  exact congrArg Ending.returned (ret_b (by simp [chk_sp, era_sp, show (nth [tick] 0).K = 29 from rfl]))
end Go.Proofs.YtobgdeffhdefeaaDoor
/- Contracts of functions, one theorem each: what the call returns, and that nothing old is changed. Printed by gen.py. -/
namespace Go.Proofs.YtobgdeffhdefeaaDoor
open Go Go.RowKit
set_option linter.unusedSimpArgs false
set_option linter.unusedVariables false

set_option maxRecDepth 100000 in
set_option maxHeartbeats 1000000 in
theorem eraseAlike_calls (w0 : World) (Z : Nat → Prop) (hZ : ∀ k, Z k → k < w0.heap.size) (tA : Option Addr) (tc : Nat) (t : List Nd) (pA : Option Addr) (pc : Nat) (p : List Nd) (kb : Nat) (hShp : Shapes w0 Z) (ht : (dRow 4 tA t.length tc (encNs t)).φ w0 Z) (hp : (dRow 4 pA p.length pc (encNs p)).φ w0 Z) (hkb : kb < 256) :
    Calls Tryd.prog 8 [.slice tA t.length tc, .slice pA p.length pc, .int .u8 ((kb : Nat) : Int)].toArray w0 (fun e w' => e = .returned (.bool (true)) ∧ Fr none_ w0 w') := by
  have hstart : ∀ k, Z k → imm Z w0 [] w0 k ∧ w0.heap[k]? = w0.heap[k]? := fun k hk => ⟨⟨hZ k hk, fun _ => hk, fun _ h => by cases h⟩, rfl⟩
  have hS3 : St w0 Z none_ w0 [] [dShapes, dRow 4 tA t.length tc (encNs t), dRow 4 pA p.length pc (encNs p)] := St.start w0 Z none_ _ (by
    intro d hd
    simp only [List.mem_cons, List.not_mem_nil, or_false] at hd
    rcases hd with rfl | rfl | rfl
    · exact Dat.mono _ _ _ _ _ (Nat.le_refl _) hShp hstart
    · exact Dat.mono _ _ _ _ _ (Nat.le_refl _) ht hstart
    · exact Dat.mono _ _ _ _ _ (Nat.le_refl _) hp hstart
    )
  refine c_enter Tryd.func8 rfl Tryd.ntmps8 rfl (fun a1 hR2 => ?_)
  refine wp_seq_k (fun K4 hK5 => ?_)
  refine c_region ?_
  refine asg hR2 (fun a6 hR7 => ?_)
  refine wpList_nil (x_then_n (hK5 _ _ ?_))
  refine wp_seq_k (fun K8 hK9 => ?_)
  refine wp_seq_k (fun K10 hK11 => ?_)
  refine c_region ?_
  refine mv hR7 (fun a12 hR13 => ?_)
  have hS14 : St w0 Z none_ w0 [] [dShapes, dRow 4 tA t.length tc (encNs t), dRow 4 pA p.length pc (encNs p)] := hS3
  refine k_call (xs := [.tmp 21]) se hR13 rfl rfl rfl (by decide) ok26 (heavy11_calls _ (imm Z w0 [] _) (fun _ h => h.1) tA tc t (hS14.get (i := 1) rfl)) ?_
  rintro e21 w16 ⟨rfl, hf19⟩
  have hS22 := hS14.below hf19.below
  refine ⟨_, rfl, fun a15 hR17 => ?_⟩
  refine mv hR17 (fun a23 hR24 => ?_)
  refine l_join (fun ga gw => Reg ga 152 [(0, .slice tA t.length tc), (1, .slice pA p.length pc), (2, .int .u8 ((kb : Nat) : Int)), (6, .bool false), (26, .bool ((heavyB 200 t) || (heavyB 200 p))), (1000000, .bool false)] ∧ St w0 Z none_ gw [] [dShapes, dRow 4 tA t.length tc (encNs t), dRow 4 pA p.length pc (encNs p)]) 3 ?_ ?_
  · skip
    rcases Bool.eq_false_or_eq_true (heavyB 200 t) with h25 | h25
    · skip
      have hR26 := hR24.setb (d := 23) (b := true) rfl h25
      refine sps hR26 (wff hR26) (fun a27 hR28 => ?_)
      refine sps hR28 (wff hR28) (fun a29 hR30 => ?_)
      refine r_pick_t sv hR30 rfl rfl rfl rfl (by decide) (fun a31 hR32 => ?_)
      refine wpList_nil ?_
      exact x_then_n ⟨(hR32.sub (rc rfl (rc rfl (rc rfl (rc rfl (rc (rb rfl (by first | rfl | (simp only [h25, bl]; done) | (simp [h25]; done) | (simp [h25]; omega))) (rc rfl rnl))))))), hS22⟩
    · skip
      obtain ⟨hlt, hst⟩ := heavy_false h25
      obtain ⟨hlt, hst⟩ := heavy_false h25
      have hR33 := hR24.setb (d := 23) (b := false) rfl h25
      refine r_move (st_listV_w (wt hR33)) hR33 rfl rfl rfl (by decide) (fun a34 hR35 => ?_)
      have hS36 : St w0 Z none_ w16 [] [dShapes, dRow 4 tA t.length tc (encNs t), dRow 4 pA p.length pc (encNs p)] := hS22
      refine k_call (xs := [.tmp 24]) (st_list_w (wt hR35)) hR35 rfl rfl rfl (by decide) ok26 (heavy11_calls _ (imm Z w0 [] _) (fun _ h => h.1) pA pc p (hS36.get (i := 2) rfl)) ?_
      rintro e43 w38 ⟨rfl, hf41⟩
      have hS44 := hS36.below hf41.below
      refine ⟨_, rfl, fun a37 hR39 => ?_⟩
      refine r_pick_f sv hR39 rfl rfl rfl rfl (by decide) (fun a45 hR46 => ?_)
      refine wpList_nil ?_
      exact x_then_n ⟨(hR46.sub (rc rfl (rc rfl (rc rfl (rc rfl (rc (rb rfl (by first | rfl | (simp only [h25, bl]; done) | (simp [h25]; done) | (simp [h25]; omega))) (rc rfl rnl))))))), hS44⟩
  rintro a47 w48 ⟨hR49, hS50⟩
  refine mv hR49 (fun a51 hR52 => ?_)
  refine l_join (fun ga gw => Reg ga 152 [(0, .slice tA t.length tc), (1, .slice pA p.length pc), (2, .int .u8 ((kb : Nat) : Int)), (6, .bool false), (31, .bool (((heavyB 200 t) || (heavyB 200 p)) || (!(decide (((chk t)) = 0))))), (1000000, .bool false)] ∧ St w0 Z none_ gw [] [dShapes, dRow 4 tA t.length tc (encNs t), dRow 4 pA p.length pc (encNs p)]) 4 ?_ ?_
  · skip
    rcases Bool.eq_false_or_eq_true (((heavyB 200 t) || (heavyB 200 p))) with h53 | h53
    · skip
      have hq54 := h53
      try simp only [Bool.or_eq_true, Bool.and_eq_true, Bool.not_eq_true', Bool.not_eq_false', decide_eq_true_eq, decide_eq_false_iff_not, Bool.or_eq_false_iff, Bool.and_eq_false_iff] at hq54
      have hR55 := hR52.setb (d := 27) (b := true) rfl h53
      refine sps hR55 (wff hR55) (fun a56 hR57 => ?_)
      refine sps hR57 (wff hR57) (fun a58 hR59 => ?_)
      refine sps hR59 (wff hR59) (fun a60 hR61 => ?_)
      refine r_pick_t sv hR61 rfl rfl rfl rfl (by decide) (fun a62 hR63 => ?_)
      refine wpList_nil ?_
      exact x_then_n ⟨(hR63.sub (rc rfl (rc rfl (rc rfl (rc rfl (rc (rb rfl (by first | rfl | (simp only [h53, bl]; done) | (simp [h53]; done) | (simp [h53]; omega))) (rc rfl rnl))))))), hS50⟩
    · skip
      have h64 := or_fl h53
      obtain ⟨hlt, hst⟩ := heavy_false h64
      have h65 := or_fr h53
      obtain ⟨hlp, hsp⟩ := heavy_false h65
      have hR66 := hR52.setb (d := 27) (b := false) rfl h53
      refine r_move (st_listV_w (wt hR66)) hR66 rfl rfl rfl (by decide) (fun a67 hR68 => ?_)
      have hS69 : St w0 Z none_ w48 [] [dShapes, dRow 4 tA t.length tc (encNs t), dRow 4 pA p.length pc (encNs p)] := hS50
      refine k_call (xs := [.tmp 28]) (st_list_w (wt hR68)) hR68 rfl rfl rfl (by decide) ok19 (rcheck_calls _ (imm Z w0 [] _) (fun _ h => h.1) tA tc t (hS69.get (i := 1) rfl) (by first | assumption | omega | (simp; done) | (simp; omega)) (by first | assumption | omega | (simp; done) | (simp; omega))) ?_
      rintro e76 w71 ⟨rfl, hf74⟩
      have hS77 := hS69.below hf74.below
      refine ⟨_, rfl, fun a70 hR72 => ?_⟩
      refine r_neq (st_listV_w (wt hR72)) hR72 rfl rfl rfl rfl (by decide) (fun a78 hR79 => ?_)
      refine r_pick_f sv hR79 rfl rfl rfl rfl (by decide) (fun a80 hR81 => ?_)
      refine wpList_nil ?_
      exact x_then_n ⟨(hR81.sub (rc rfl (rc rfl (rc rfl (rc rfl (rc (rb rfl (by first | rfl | (simp only [h53, bl]; done) | (simp [h53]; done) | (simp [h53]; omega))) (rc rfl rnl))))))), hS77⟩
  rintro a82 w83 ⟨hR84, hS85⟩
  refine mv hR84 (fun a86 hR87 => ?_)
  refine l_join (fun ga gw => Reg ga 152 [(0, .slice tA t.length tc), (1, .slice pA p.length pc), (2, .int .u8 ((kb : Nat) : Int)), (6, .bool false), (36, .bool ((((heavyB 200 t) || (heavyB 200 p)) || (!(decide (((chk t)) = 0)))) || (!(decide (((chk p)) = 0))))), (1000000, .bool false)] ∧ St w0 Z none_ gw [] [dShapes, dRow 4 tA t.length tc (encNs t), dRow 4 pA p.length pc (encNs p)]) 4 ?_ ?_
  · skip
    rcases Bool.eq_false_or_eq_true ((((heavyB 200 t) || (heavyB 200 p)) || (!(decide (((chk t)) = 0))))) with h88 | h88
    · skip
      have hq89 := h88
      try simp only [Bool.or_eq_true, Bool.and_eq_true, Bool.not_eq_true', Bool.not_eq_false', decide_eq_true_eq, decide_eq_false_iff_not, Bool.or_eq_false_iff, Bool.and_eq_false_iff] at hq89
      have hR90 := hR87.setb (d := 32) (b := true) rfl h88
      refine sps hR90 (wff hR90) (fun a91 hR92 => ?_)
      refine sps hR92 (wff hR92) (fun a93 hR94 => ?_)
      refine sps hR94 (wff hR94) (fun a95 hR96 => ?_)
      refine r_pick_t sv hR96 rfl rfl rfl rfl (by decide) (fun a97 hR98 => ?_)
      refine wpList_nil ?_
      exact x_then_n ⟨(hR98.sub (rc rfl (rc rfl (rc rfl (rc rfl (rc (rb rfl (by first | rfl | (simp only [h88, bl]; done) | (simp [h88]; done) | (simp [h88]; omega))) (rc rfl rnl))))))), hS85⟩
    · skip
      have h99 := or_fl h88
      have h100 := or_fl h99
      obtain ⟨hlt, hst⟩ := heavy_false h100
      have h101 := or_fr h99
      obtain ⟨hlp, hsp⟩ := heavy_false h101
      have h102 := or_fr h88
      have h103 := not_f h102
      have h104 := of_decide_eq_true h103
      have hct := h104
      have hpt := chk_pos hct
      obtain ⟨⟨hE1, hE2, hE3, hE4, hE5⟩, ⟨hS1, hS2, hS3⟩, hP1, hP2, hP3⟩ := twice_facts hct hst
      have hR105 := hR87.setb (d := 32) (b := false) rfl h88
      refine r_move (st_listV_w (wt hR105)) hR105 rfl rfl rfl (by decide) (fun a106 hR107 => ?_)
      have hS108 : St w0 Z none_ w83 [] [dShapes, dRow 4 tA t.length tc (encNs t), dRow 4 pA p.length pc (encNs p)] := hS85
      refine k_call (xs := [.tmp 33]) (st_list_w (wt hR107)) hR107 rfl rfl rfl (by decide) ok19 (rcheck_calls _ (imm Z w0 [] _) (fun _ h => h.1) pA pc p (hS108.get (i := 2) rfl) (by first | assumption | omega | (simp; done) | (simp; omega)) (by first | assumption | omega | (simp; done) | (simp; omega))) ?_
      rintro e115 w110 ⟨rfl, hf113⟩
      have hS116 := hS108.below hf113.below
      refine ⟨_, rfl, fun a109 hR111 => ?_⟩
      refine r_neq (st_listV_w (wt hR111)) hR111 rfl rfl rfl rfl (by decide) (fun a117 hR118 => ?_)
      refine r_pick_f sv hR118 rfl rfl rfl rfl (by decide) (fun a119 hR120 => ?_)
      refine wpList_nil ?_
      exact x_then_n ⟨(hR120.sub (rc rfl (rc rfl (rc rfl (rc rfl (rc (rb rfl (by first | rfl | (simp only [h88, bl]; done) | (simp [h88]; done) | (simp [h88]; omega))) (rc rfl rnl))))))), hS116⟩
  rintro a121 w122 ⟨hR123, hS124⟩
  refine mv hR123 (fun a125 hR126 => ?_)
  refine l_join (fun ga gw => Reg ga 152 [(0, .slice tA t.length tc), (1, .slice pA p.length pc), (2, .int .u8 ((kb : Nat) : Int)), (6, .bool false), (40, .bool (((((heavyB 200 t) || (heavyB 200 p)) || (!(decide (((chk t)) = 0)))) || (!(decide (((chk p)) = 0)))) || (!true))), (1000000, .bool false)] ∧ St w0 Z none_ gw [] [dShapes, dRow 4 tA t.length tc (encNs t), dRow 4 pA p.length pc (encNs p)]) 3 ?_ ?_
  · skip
    rcases Bool.eq_false_or_eq_true (((((heavyB 200 t) || (heavyB 200 p)) || (!(decide (((chk t)) = 0)))) || (!(decide (((chk p)) = 0))))) with h127 | h127
    · skip
      have hq128 := h127
      try simp only [Bool.or_eq_true, Bool.and_eq_true, Bool.not_eq_true', Bool.not_eq_false', decide_eq_true_eq, decide_eq_false_iff_not, Bool.or_eq_false_iff, Bool.and_eq_false_iff] at hq128
      have hR129 := hR126.setb (d := 37) (b := true) rfl h127
      refine sps hR129 (wff hR129) (fun a130 hR131 => ?_)
      refine sps hR131 (wff hR131) (fun a132 hR133 => ?_)
      refine r_pick_t sv hR133 rfl rfl rfl rfl (by decide) (fun a134 hR135 => ?_)
      refine wpList_nil ?_
      exact x_then_n ⟨(hR135.sub (rc rfl (rc rfl (rc rfl (rc rfl (rc (rb rfl (by first | rfl | (simp only [h127, bl]; done) | (simp [h127]; done) | (simp [h127]; omega))) (rc rfl rnl))))))), hS124⟩
    · skip
      have h136 := or_fl h127
      have h137 := or_fl h136
      have h138 := or_fl h137
      obtain ⟨hlt, hst⟩ := heavy_false h138
      have h139 := or_fr h137
      obtain ⟨hlp, hsp⟩ := heavy_false h139
      have h140 := or_fr h136
      have h141 := not_f h140
      have h142 := of_decide_eq_true h141
      have hct := h142
      have hpt := chk_pos hct
      obtain ⟨⟨hE1, hE2, hE3, hE4, hE5⟩, ⟨hS1, hS2, hS3⟩, hP1, hP2, hP3⟩ := twice_facts hct hst
      have h143 := or_fr h127
      have h144 := not_f h143
      have h145 := of_decide_eq_true h144
      have hcp := h145
      have hR146 := hR126.setb (d := 37) (b := false) rfl h127
      have hS147 : St w0 Z none_ w122 [] [dShapes, dRow 4 tA t.length tc (encNs t), dRow 4 pA p.length pc (encNs p)] := hS124
      refine k_call (xs := []) (st_list_w (wt hR146)) hR146 rfl rfl rfl (by decide) ok27 (shown11_calls _ (imm Z w0 [] _) (fun _ h => h.1) (hS147.get (i := 0) rfl)) ?_
      rintro e154 w149 ⟨rfl, hf152⟩
      have hS155 := hS147.below hf152.below
      refine ⟨_, rfl, fun a148 hR150 => ?_⟩
      refine r_not (st_listV_w (wt hR150)) hR150 rfl rfl rfl (by decide) (fun a156 hR157 => ?_)
      refine r_pick_f sv hR157 rfl rfl rfl rfl (by decide) (fun a158 hR159 => ?_)
      refine wpList_nil ?_
      exact x_then_n ⟨(hR159.sub (rc rfl (rc rfl (rc rfl (rc rfl (rc (rb rfl (by first | rfl | (simp only [h127, bl]; done) | (simp [h127]; done) | (simp [h127]; omega))) (rc rfl rnl))))))), hS155⟩
  rintro a160 w161 ⟨hR162, hS163⟩
  refine wpList_nil (x_then_n (hK11 _ _ ?_))
  rcases Bool.eq_false_or_eq_true ((((((heavyB 200 t) || (heavyB 200 p)) || (!(decide (((chk t)) = 0)))) || (!(decide (((chk p)) = 0)))) || (!true))) with h164 | h164
  · skip
    have hq165 := h164
    try simp only [Bool.or_eq_true, Bool.and_eq_true, Bool.not_eq_true', Bool.not_eq_false', decide_eq_true_eq, decide_eq_false_iff_not, Bool.or_eq_false_iff, Bool.and_eq_false_iff] at hq165
    have hR166 := hR162.setb (d := 40) (b := true) rfl h164
    refine wp_cond_true (hR166.ev rfl) ?_
    refine wp_seq_k (fun K167 hK168 => ?_)
    refine c_region ?_
    have hS169 : St w0 Z none_ w161 [] [dShapes, dRow 4 tA t.length tc (encNs t), dRow 4 pA p.length pc (encNs p)] := hS163
    refine k_call (xs := []) se hR166 rfl rfl rfl (by decide) ok27 (shown11_calls _ (imm Z w0 [] _) (fun _ h => h.1) (hS169.get (i := 0) rfl)) ?_
    rintro e176 w171 ⟨rfl, hf174⟩
    have hS177 := hS169.below hf174.below
    refine ⟨_, rfl, fun a170 hR172 => ?_⟩
    refine asg hR172 (fun a178 hR179 => ?_)
    refine wpList_nil (x_then_n (hK168 _ _ ?_))
    refine wp_ret ?_
    refine x_then_r ?_
    refine e_ret1 hR179 rfl rfl rfl ?_
    refine ⟨?_, hS177.fr⟩
    exact congrArg Ending.returned (ret_b (by first | rfl | omega | assumption | exact decide_eq_true (by assumption) | (have q0 := h164; (try simp at q0);  omega) | (simp [h164]; done) | (simp [] at *; done) | (simp [h164] <;> omega) | (rw [Bool.eq_iff_iff]; simp [h164] <;> omega) | (rw [Bool.eq_iff_iff]; simp [h164] at * <;> omega)))
  · skip
    have h180 := or_fl h164
    have h181 := or_fl h180
    have h182 := or_fl h181
    have h183 := or_fl h182
    obtain ⟨hlt, hst⟩ := heavy_false h183
    have h184 := or_fr h182
    obtain ⟨hlp, hsp⟩ := heavy_false h184
    have h185 := or_fr h181
    have h186 := not_f h185
    have h187 := of_decide_eq_true h186
    have hct := h187
    have hpt := chk_pos hct
    obtain ⟨⟨hE1, hE2, hE3, hE4, hE5⟩, ⟨hS1, hS2, hS3⟩, hP1, hP2, hP3⟩ := twice_facts hct hst
    have h188 := or_fr h180
    have h189 := not_f h188
    have h190 := of_decide_eq_true h189
    have hcp := h190
    have h191 := or_fr h164
    have h192 := not_f h191
    have hR193 := hR162.setb (d := 40) (b := false) rfl h164
    refine wp_cond_false (hR193.ev rfl) ?_
    refine wp_skip ?_
    refine x_then_n (hK9 _ _ ?_)
    refine wp_seq_k (fun K194 hK195 => ?_)
    refine c_region ?_
    refine m_buildSlice (ps := []) (cs := []) sv hR193 hS163 rfl rfl rfl Tryd.underlying22 zi32 rfl rfl (by kernel_rfl) rfl (by decide) (fun a196 w197 g198 hR199 hS200 => ?_)
    refine asg hR199 (fun a201 hR202 => ?_)
    refine wpList_nil (x_then_n (hK195 _ _ ?_))
    refine wp_seq_k (fun K203 hK204 => ?_)
    refine c_region ?_
    refine asg hR202 (fun a205 hR206 => ?_)
    refine wpList_nil (x_then_n (hK204 _ _ ?_))
    refine wp_seq_k (fun K207 hK208 => ?_)
    refine wp_seq_k (fun K209 hK210 => ?_)
    refine c_region ?_
    refine asg hR206 (fun a211 hR212 => ?_)
    refine wpList_nil (x_then_n (hK210 _ _ ?_))
    refine wp_block ?_
    refine wp_loop_ghost (fun gn ga gw => ∃ k : Nat, (Reg ga 152 [(0, .slice tA t.length tc), (1, .slice pA p.length pc), (2, .int .u8 ((kb : Nat) : Int)), (6, .bool false), (1000000, .bool false), (7, .slice (some ⟨g198, 0, none⟩) 0 0), (9, .int .i64 ((k : Nat) : Int)), (8, .int .i64 ((marks (t.take k) : Nat) : Int))]) ∧ (St w0 Z none_ gw [.row (some ⟨g198, 0, none⟩) 0 0 32 4 (encNs ([]))] [dShapes, dRow 4 tA t.length tc (encNs t), dRow 4 pA p.length pc (encNs p)]) ∧ (k ≤ t.length) ∧ (t.length - k) = gn) _ ⟨0, (hR212.sub (rc rfl (rc rfl (rc rfl (rc rfl (rc rfl (rc rfl (rc rfl (rc rfl rnl))))))))), hS200, by omega, rfl⟩ ?_
    rintro r213 a214 w215 ⟨k, hR216, hS217, hk, hn218⟩
    have hmb : marks (t.take k) ≤ k := Nat.le_trans List.countP_le_length (by rw [List.length_take]; omega)
    refine wp_seq_k (fun K219 hK220 => ?_)
    refine wp_seq_k (fun K221 hK222 => ?_)
    refine c_region ?_
    refine mv hR216 (fun a223 hR224 => ?_)
    refine mv hR224 (fun a225 hR226 => ?_)
    refine r_len sv hR226 rfl rfl rfl rfl Tryd.underlying22 (by decide) (fun a227 hR228 => ?_)
    refine r_lss sv hR228 rfl rfl rfl rfl (by decide) (fun a229 hR230 => ?_)
    refine wpList_nil (x_then_n (hK222 _ _ ?_))
    rcases Decidable.em (((k : Nat) : Int) < ((t.length : Nat) : Int)) with h231 | h231
    · skip
      have hR232 := hR230.setb (d := 46) (b := true) rfl (decide_eq_true h231)
      refine wp_cond_true (hR232.ev rfl) ?_
      refine wp_skip ?_
      refine x_then_n (hK220 _ _ ?_)
      refine wp_seq_k (fun K233 hK234 => ?_)
      refine wp_block ?_
      refine wp_seq_k (fun K235 hK236 => ?_)
      refine c_region ?_
      refine mv hR232 (fun a237 hR238 => ?_)
      refine mv hR238 (fun a239 hR240 => ?_)
      refine m_index (i := k) (j := k * 4) sv hR240 rfl rfl rfl rfl Tryd.underlying22 sz32 (by omega) (by omega) (nds_elem (t := t) (k := k) (hS217.row (i := 1) rfl).2 (by omega)).some_ rfl (by decide) (fun a241 hR242 => ?_)
      refine m_fieldE (j' := k * 4) sv hR242 rfl rfl rfl (nds_elem (t := t) (k := k) (hS217.row (i := 1) rfl).2 (by omega)).some_ Tryd.underlying32 rfl sz3 rfl rfl (by decide) (fun a243 hR244 => ?_)
      refine m_loadE sv hR244 rfl rfl rfl 0 (k * 4) (nds_elem (t := t) (k := k) (hS217.row (i := 1) rfl).2 (by omega)) rfl rfl Tryd.underlying3 rfl (by decide) (fun a245 hR246 => ?_)
      refine r_eql sv hR246 rfl rfl rfl rfl (by decide) (fun a247 hR248 => ?_)
      refine wpList_nil (x_then_n (hK236 _ _ ?_))
      rcases Decidable.em ((((nth t k).K)) = 28) with h249 | h249
      · skip
        have hR250 := hR248.setb (d := 54) (b := true) rfl (decide_eq_true h249)
        refine wp_cond_true (hR250.ev rfl) ?_
        refine c_region ?_
        refine mv hR250 (fun a251 hR252 => ?_)
        refine r_add (z := ((marks (t.take k) + 1 : Nat) : Int)) sv hR252 rfl rfl rfl rfl (by decide) (by omega) (by omega) (by omega) (fun a253 hR254 => ?_)
        refine asg hR254 (fun a255 hR256 => ?_)
        refine wpList_nil ?_
        refine x_block_n ?_
        refine x_then_n (hK234 _ _ ?_)
        refine c_region ?_
        refine mv hR256 (fun a257 hR258 => ?_)
        refine r_add (z := ((k + 1 : Nat) : Int)) sv hR258 rfl rfl rfl rfl (by decide) (by omega) (by omega) (by omega) (fun a259 hR260 => ?_)
        refine asg hR260 (fun a261 hR262 => ?_)
        refine wpList_nil ?_
        exact ⟨_, by omega, k + 1, (hR262.sub (rc rfl (rc rfl (rc rfl (rc rfl (rc rfl (rc rfl (rc rfl (rc (ri rfl (by rw [marks_step (by omega)]; split <;> omega)) rnl))))))))), hS217, by omega, rfl⟩
      · skip
        have hR263 := hR248.setb (d := 54) (b := false) rfl (decide_eq_false h249)
        refine wp_cond_false (hR263.ev rfl) ?_
        refine wp_skip ?_
        refine x_block_n ?_
        refine x_then_n (hK234 _ _ ?_)
        refine c_region ?_
        refine mv hR263 (fun a264 hR265 => ?_)
        refine r_add (z := ((k + 1 : Nat) : Int)) sv hR265 rfl rfl rfl rfl (by decide) (by omega) (by omega) (by omega) (fun a266 hR267 => ?_)
        refine asg hR267 (fun a268 hR269 => ?_)
        refine wpList_nil ?_
        exact ⟨_, by omega, k + 1, (hR269.sub (rc rfl (rc rfl (rc rfl (rc rfl (rc rfl (rc rfl (rc rfl (rc (ri rfl (by rw [marks_step (by omega)]; split <;> omega)) rnl))))))))), hS217, by omega, rfl⟩
    · skip
      have hR270 := hR230.setb (d := 46) (b := false) rfl (decide_eq_false h231)
      refine wp_cond_false (hR270.ev rfl) ?_
      refine wp_exit ?_
      refine x_then_e ?_
      refine x_then_e ?_
      refine x_block_eq ?_
      refine x_then_n (hK208 _ _ ?_)
      refine wp_seq_k (fun K271 hK272 => ?_)
      refine c_region ?_
      refine mv hR270 (fun a273 hR274 => ?_)
      have hS275 : St w0 Z none_ w215 [.row (some ⟨g198, 0, none⟩) 0 0 32 4 (encNs ([]))] [dShapes, dRow 4 tA t.length tc (encNs t), dRow 4 pA p.length pc (encNs p)] := hS217
      refine k_call (xs := [.tmp 58]) se hR274 rfl rfl rfl (by decide) ok31 (eraProofs_calls _ (imm Z w0 [.row (some ⟨g198, 0, none⟩) 0 0 32 4 (encNs ([]))] _) (fun _ h => h.1) tA tc t (hS275.get (i := 0) rfl) (hS275.get (i := 1) rfl) (by first | assumption | omega | (simp; done) | (simp; omega)) (by first | assumption | omega | (simp; done) | (simp; omega))) ?_
      rintro e288 w277 ⟨A281, c282, rL283, rfl, hf280, hd284, hd285, hL286⟩
      have hS289 := hS275.below hf280.below
      have hS290 := hS289.data (dRow 1 A281 rL283.length c282 (encSs rL283)) ⟨hd284.1, hd284.2.mono (fun _ hk => ⟨nxt_imm hS275 hk, rfl⟩)⟩
      have hS291 := hS290.data (dAll rL283) ((dAll _).mono _ _ _ _ (Nat.le_refl _) hd285 (fun _ hk => ⟨nxt_imm hS275 hk, rfl⟩))
      refine ⟨_, rfl, fun a276 hR278 => ?_⟩
      have hmk : 0 < rL283.length ↔ 0 < marks (t.take k) := by rw [List.take_of_length_le (by omega), ← lsts_len, hL286]; exact marks_prA hct
      refine mv hR278 (fun a292 hR293 => ?_)
      refine r_extract sv hR293 rfl rfl rfl rfl (by decide) (fun a294 hR295 => ?_)
      refine r_extract sv hR295 rfl rfl rfl rfl (by decide) (fun a296 hR297 => ?_)
      refine asg hR297 (fun a298 hR299 => ?_)
      refine asg hR299 (fun a300 hR301 => ?_)
      refine wpList_nil (x_then_n (hK272 _ _ ?_))
      refine wp_seq_k (fun K302 hK303 => ?_)
      refine c_region ?_
      refine mv hR301 (fun a304 hR305 => ?_)
      have hS306 : St w0 Z none_ w277 [.row (some ⟨g198, 0, none⟩) 0 0 32 4 (encNs ([]))] [dShapes, dRow 4 tA t.length tc (encNs t), dRow 4 pA p.length pc (encNs p), dRow 1 A281 rL283.length c282 (encSs rL283), dAll rL283] := hS291
      refine k_call (xs := [.tmp 63]) se hR305 rfl rfl rfl (by decide) ok28 (erase_calls _ (imm Z w0 [.row (some ⟨g198, 0, none⟩) 0 0 32 4 (encNs ([]))] _) (fun _ h => h.1) tA tc t (hS306.get (i := 0) rfl) (hS306.get (i := 1) rfl) (by first | assumption | omega | (simp; done) | (simp; omega)) (by first | assumption | omega | (simp; done) | (simp; omega))) ?_
      rintro e316 w308 ⟨A312, c313, rfl, hf311, hd314⟩
      have hS317 := hS306.below hf311.below
      have hS318 := hS317.data (dRow 4 A312 ((erA t).length) c313 (encNs (erA t))) ⟨hd314.1, hd314.2.mono (fun _ hk => ⟨nxt_imm hS306 hk, rfl⟩)⟩
      refine ⟨_, rfl, fun a307 hR309 => ?_⟩
      refine mv hR309 (fun a319 hR320 => ?_)
      refine r_extract sv hR320 rfl rfl rfl rfl (by decide) (fun a321 hR322 => ?_)
      refine r_extract sv hR322 rfl rfl rfl rfl (by decide) (fun a323 hR324 => ?_)
      refine asg hR324 (fun a325 hR326 => ?_)
      refine asg hR326 (fun a327 hR328 => ?_)
      refine wpList_nil (x_then_n (hK303 _ _ ?_))
      refine wp_seq_k (fun K329 hK330 => ?_)
      refine wp_seq_k (fun K331 hK332 => ?_)
      refine c_region ?_
      refine mv hR328 (fun a333 hR334 => ?_)
      refine r_neq sv hR334 rfl rfl rfl rfl (by decide) (fun a335 hR336 => ?_)
      refine mv hR336 (fun a337 hR338 => ?_)
      have hR339 := hR338.setb (d := 69) (b := false) rfl (by rw [(decide_eq_true h187)]; rfl)
      refine r_move (st_listV_w (wt hR339)) hR339 rfl rfl rfl (by decide) (fun a340 hR341 => ?_)
      refine r_neq (st_listV_w (wt hR341)) hR341 rfl rfl rfl rfl (by decide) (fun a342 hR343 => ?_)
      refine r_pick_f sv hR343 rfl rfl rfl rfl (by decide) (fun a344 hR345 => ?_)
      refine mv hR345 (fun a346 hR347 => ?_)
      have hR348 := hR347.setb (d := 73) (b := false) rfl (by rw [(decide_eq_true h187)]; rfl)
      refine r_move (st_listV_w (wt hR348)) hR348 rfl rfl rfl (by decide) (fun a349 hR350 => ?_)
      refine r_len (st_listV_w (wt hR350)) hR350 rfl rfl rfl rfl Tryd.underlying39 (by decide) (fun a351 hR352 => ?_)
      refine r_gtr (st_listV_w (wt hR352)) hR352 rfl rfl rfl rfl (by decide) (fun a353 hR354 => ?_)
      refine r_move (st_listV_w (wt hR354)) hR354 rfl rfl rfl (by decide) (fun a355 hR356 => ?_)
      refine r_gtr (st_listV_w (wt hR356)) hR356 rfl rfl rfl rfl (by decide) (fun a357 hR358 => ?_)
      rcases Decidable.em (0 < ((rL283.length : Nat) : Int)) with h359 | h359
      · skip
        have h360 : 0 < ((marks (t.take k) : Nat) : Int) := by omega
        have hR361 := hR358.setb (d := 76) (b := true) rfl (decide_eq_true h359)
        have hR362 := hR361.setb (d := 78) (b := true) rfl (decide_eq_true h360)
        refine r_neqB (st_listV_w (wt hR358)) hR362 rfl rfl rfl rfl Tryd.underlying4 (by decide) (fun a363 hR364 => ?_)
        refine r_pick_f sv hR364 rfl rfl rfl rfl (by decide) (fun a365 hR366 => ?_)
        refine wpList_nil (x_then_n (hK332 _ _ ?_))
        refine wp_cond_false (hR366.ev rfl) ?_
        refine wp_skip ?_
        refine x_then_n (hK330 _ _ ?_)
        refine wp_seq_k (fun K367 hK368 => ?_)
        refine wp_seq_k (fun K369 hK370 => ?_)
        refine c_region ?_
        refine asg hR366 (fun a371 hR372 => ?_)
        refine wpList_nil (x_then_n (hK370 _ _ ?_))
        refine wp_block ?_
        refine wp_loop_ghost (fun gn ga gw => ∃ j : Nat, ∃ Ao : Option Addr, ∃ co : Nat, (Reg ga 152 [(0, .slice tA t.length tc), (1, .slice pA p.length pc), (2, .int .u8 ((kb : Nat) : Int)), (6, .bool false), (1000000, .bool false), (12, .slice A312 ((erA t).length) c313), (14, .int .i64 ((j : Nat) : Int)), (7, .slice Ao ((subL p ((erA t).take j)).length) co)]) ∧ (St w0 Z none_ gw [.row Ao ((subL p ((erA t).take j)).length) co 32 4 (encNs (subL p ((erA t).take j)))] [dShapes, dRow 4 tA t.length tc (encNs t), dRow 4 pA p.length pc (encNs p), dRow 1 A281 rL283.length c282 (encSs rL283), dAll rL283, dRow 4 A312 ((erA t).length) c313 (encNs (erA t))]) ∧ (j ≤ (erA t).length) ∧ ((erA t).length - j) = gn) _ ⟨0, (some ⟨g198, 0, none⟩), 0, (hR372.sub (rc rfl (rc rfl (rc rfl (rc rfl (rc rfl (rc rfl (rc rfl (rc rfl rnl))))))))), hS318, by omega, rfl⟩ ?_
        rintro r373 a374 w375 ⟨j, Ao, co, hR376, hS377, hj, hn378⟩
        have hsb : (subL p ((erA t).take j)).length ≤ 200 * 201 := Nat.le_trans (subL_le _ _) (Nat.mul_le_mul (by rw [List.length_take]; omega) (by omega))
        refine wp_seq_k (fun K379 hK380 => ?_)
        refine wp_seq_k (fun K381 hK382 => ?_)
        refine c_region ?_
        refine mv hR376 (fun a383 hR384 => ?_)
        refine mv hR384 (fun a385 hR386 => ?_)
        refine r_len sv hR386 rfl rfl rfl rfl Tryd.underlying22 (by decide) (fun a387 hR388 => ?_)
        refine r_lss sv hR388 rfl rfl rfl rfl (by decide) (fun a389 hR390 => ?_)
        refine wpList_nil (x_then_n (hK382 _ _ ?_))
        rcases Decidable.em (((j : Nat) : Int) < (((erA t).length : Nat) : Int)) with h391 | h391
        · skip
          have hR392 := hR390.setb (d := 84) (b := true) rfl (decide_eq_true h391)
          refine wp_cond_true (hR392.ev rfl) ?_
          refine wp_skip ?_
          refine x_then_n (hK380 _ _ ?_)
          refine wp_seq_k (fun K393 hK394 => ?_)
          refine wp_block ?_
          refine wp_seq_k (fun K395 hK396 => ?_)
          refine c_region ?_
          refine mv hR392 (fun a397 hR398 => ?_)
          refine mv hR398 (fun a399 hR400 => ?_)
          refine m_index (i := j) (j := j * 4) sv hR400 rfl rfl rfl rfl Tryd.underlying22 sz32 (by omega) (by omega) (nds_elem (t := erA t) (k := j) (hS377.row (i := 5) rfl).2 (by omega)).some_ rfl (by decide) (fun a401 hR402 => ?_)
          refine m_fieldE (j' := j * 4) sv hR402 rfl rfl rfl (nds_elem (t := erA t) (k := j) (hS377.row (i := 5) rfl).2 (by omega)).some_ Tryd.underlying32 rfl sz3 rfl rfl (by decide) (fun a403 hR404 => ?_)
          refine m_loadE sv hR404 rfl rfl rfl 0 (j * 4) (nds_elem (t := erA t) (k := j) (hS377.row (i := 5) rfl).2 (by omega)) rfl rfl Tryd.underlying3 rfl (by decide) (fun a405 hR406 => ?_)
          refine r_eql sv hR406 rfl rfl rfl rfl (by decide) (fun a407 hR408 => ?_)
          refine wpList_nil (x_then_n (hK396 _ _ ?_))
          rcases Decidable.em ((((nth (erA t) j).K)) = 29) with h409 | h409
          · skip
            have hR410 := hR408.setb (d := 92) (b := true) rfl (decide_eq_true h409)
            refine wp_cond_true (hR410.ev rfl) ?_
            refine wp_seq_k (fun K411 hK412 => ?_)
            refine c_region ?_
            refine mv hR410 (fun a413 hR414 => ?_)
            refine mv hR414 (fun a415 hR416 => ?_)
            refine m_appendF (f := encN) (i := 0) (subL p ((erA t).take j)) (p) sv hR416 hS377 rfl rfl rfl rfl rfl encN_len (encN_one _) Tryd.underlying22 zi32 rfl rfl (hS377.row (i := 2) rfl).2.news rfl (by first | omega | (simp only [List.length_cons, List.length_nil]; omega)) (by decide) (fun a417 w418 A419 c420 hc421 hR422 hS423 => ?_)
            have hl425 : ((subL p ((erA t).take j)) ++ p).length = (subL p ((erA t).take j)).length + p.length := by first | (simp only [List.length_append, List.length_take, List.length_cons, List.length_nil]; done) | (simp only [List.length_append, List.length_take, List.length_cons, List.length_nil]; omega)
            refine asg hR422 (fun a426 hR427 => ?_)
            refine wpList_nil (x_then_n (hK412 _ _ (c_region ?_)))
            refine mv hR427 (fun a428 hR429 => ?_)
            refine m_build (ps := [(0, .const (.int .i64 28))]) (v := .agg #[.int .i64 28, .int .i64 0, .int .i64 0, .string (⟨#[]⟩ : ByteArray)]) sv hR429 rfl rfl rfl (fun _ => by kernel_rfl) (by decide) (fun a430 hR431 => ?_)
            refine m_buildSlice (ps := [(0, .tmp 97)]) (cs := [.int .i64 28, .int .i64 0, .int .i64 0, .string (⟨#[]⟩ : ByteArray)]) sv hR431 hS423 rfl rfl rfl Tryd.underlying22 zi32 rfl rfl (by kernel_rfl) rfl (by decide) (fun a432 w433 g434 hR435 hS436 => ?_)
            refine m_appendF (f := encN) (i := 0) ((subL p ((erA t).take j)) ++ p) ([(⟨28, 0, 0, (⟨#[]⟩ : ByteArray)⟩ : Nd)]) sv hR435 hS436 rfl rfl rfl rfl rfl encN_len (encN_one _) Tryd.underlying22 zi32 rfl rfl (own_lnews (f := encN) (hS436.res (i := 1) rfl)) rfl (by first | omega | (simp only [List.length_cons, List.length_nil]; omega)) (by decide) (fun a437 w438 A439 c440 hc441 hR442 hS443 => ?_)
            have hl445 : (((subL p ((erA t).take j)) ++ p) ++ ([(⟨28, 0, 0, (⟨#[]⟩ : ByteArray)⟩ : Nd)]) : List Nd).length = ((subL p ((erA t).take j)) ++ p).length + 1 := by first | (simp only [List.length_append, List.length_take, List.length_cons, List.length_nil]; done) | (simp only [List.length_append, List.length_take, List.length_cons, List.length_nil]; omega)
            have hS446 := hS443.erase 1
            refine asg hR442 (fun a447 hR448 => ?_)
            refine wpList_nil ?_
            refine x_block_n ?_
            refine x_then_n (hK394 _ _ ?_)
            refine c_region ?_
            refine mv hR448 (fun a449 hR450 => ?_)
            refine r_add (z := ((j + 1 : Nat) : Int)) sv hR450 rfl rfl rfl rfl (by decide) (by omega) (by omega) (by omega) (fun a451 hR452 => ?_)
            refine asg hR452 (fun a453 hR454 => ?_)
            refine wpList_nil ?_
            have he455 : ((subL p ((erA t).take j)) ++ p) ++ ([(⟨28, 0, 0, (⟨#[]⟩ : ByteArray)⟩ : Nd)]) = subL p ((erA t).take (j + 1)) := by rw [subL_step (by omega)]; split <;> first | (exfalso; omega) | rfl | (simp; done)
            have hR456 := hR454
            have hS457 := hS446
            rw [he455] at hR456 hS457
            exact ⟨_, by omega, j + 1, A439, c440, (hR456.sub (rc rfl (rc rfl (rc rfl (rc rfl (rc rfl (rc rfl (rc rfl (rc rfl rnl))))))))), hS457, by omega, rfl⟩
          · skip
            have hR458 := hR408.setb (d := 92) (b := false) rfl (decide_eq_false h409)
            refine wp_cond_false (hR458.ev rfl) ?_
            refine c_region ?_
            refine mv hR458 (fun a459 hR460 => ?_)
            refine mv hR460 (fun a461 hR462 => ?_)
            refine mv hR462 (fun a463 hR464 => ?_)
            refine m_index (i := j) (j := j * 4) sv hR464 rfl rfl rfl rfl Tryd.underlying22 sz32 (by omega) (by omega) (nds_elem (t := erA t) (k := j) (hS377.row (i := 5) rfl).2 (by omega)).some_ rfl (by decide) (fun a465 hR466 => ?_)
            refine m_loadEN sv hR466 rfl rfl rfl (nds_elem (t := erA t) (k := j) (hS377.row (i := 5) rfl).2 (by omega)) Tryd.underlying32 rfl sz32 (by decide) (fun a467 hR468 => ?_)
            refine m_buildSlice (ps := [(0, .tmp 104)]) (cs := [.int .i64 (((nth (erA t) j).K)), .int .i64 (((nth (erA t) j).N)), .int .i64 (((nth (erA t) j).M)), .string ((nth (erA t) j).S)]) sv hR468 hS377 rfl rfl rfl Tryd.underlying22 zi32 rfl rfl (by kernel_rfl) rfl (by decide) (fun a469 w470 g471 hR472 hS473 => ?_)
            refine m_appendF (f := encN) (i := 0) (subL p ((erA t).take j)) ([(nth (erA t) j)]) sv hR472 hS473 rfl rfl rfl rfl rfl encN_len (encN_one _) Tryd.underlying22 zi32 rfl rfl (own_lnews (f := encN) (hS473.res (i := 1) rfl)) rfl (by first | omega | (simp only [List.length_cons, List.length_nil]; omega)) (by decide) (fun a474 w475 A476 c477 hc478 hR479 hS480 => ?_)
            have hl482 : ((subL p ((erA t).take j)) ++ ([(nth (erA t) j)]) : List Nd).length = (subL p ((erA t).take j)).length + 1 := by first | (simp only [List.length_append, List.length_take, List.length_cons, List.length_nil]; done) | (simp only [List.length_append, List.length_take, List.length_cons, List.length_nil]; omega)
            have hS483 := hS480.erase 1
            refine asg hR479 (fun a484 hR485 => ?_)
            refine wpList_nil ?_
            refine x_block_n ?_
            refine x_then_n (hK394 _ _ ?_)
            refine c_region ?_
            refine mv hR485 (fun a486 hR487 => ?_)
            refine r_add (z := ((j + 1 : Nat) : Int)) sv hR487 rfl rfl rfl rfl (by decide) (by omega) (by omega) (by omega) (fun a488 hR489 => ?_)
            refine asg hR489 (fun a490 hR491 => ?_)
            refine wpList_nil ?_
            have he492 : (subL p ((erA t).take j)) ++ ([(nth (erA t) j)]) = subL p ((erA t).take (j + 1)) := by rw [subL_step (by omega)]; split <;> first | (exfalso; omega) | rfl | (simp; done)
            have hR493 := hR491
            have hS494 := hS483
            rw [he492] at hR493 hS494
            exact ⟨_, by omega, j + 1, A476, c477, (hR493.sub (rc rfl (rc rfl (rc rfl (rc rfl (rc rfl (rc rfl (rc rfl (rc rfl rnl))))))))), hS494, by omega, rfl⟩
        · skip
          have htj : (erA t).take j = erA t := List.take_of_length_le (by omega)
          have hsu : sml (subL p ((erA t).take j)) := by rw [htj]; exact subL_sml hE1 hsp
          have hR495 := hR390.setb (d := 84) (b := false) rfl (decide_eq_false h391)
          refine wp_cond_false (hR495.ev rfl) ?_
          refine wp_exit ?_
          refine x_then_e ?_
          refine x_then_e ?_
          refine x_block_eq ?_
          refine x_then_n (hK368 _ _ ?_)
          refine wp_seq_k (fun K496 hK497 => ?_)
          refine wp_seq_k (fun K498 hK499 => ?_)
          refine c_region ?_
          refine mv hR495 (fun a500 hR501 => ?_)
          have hS502 : St w0 Z none_ w375 [.row Ao ((subL p ((erA t).take j)).length) co 32 4 (encNs (subL p ((erA t).take j)))] [dShapes, dRow 4 tA t.length tc (encNs t), dRow 4 pA p.length pc (encNs p), dRow 1 A281 rL283.length c282 (encSs rL283), dAll rL283, dRow 4 A312 ((erA t).length) c313 (encNs (erA t))] := hS377
          have hc506 := own_cap (hS502.res (i := 0) rfl)
          obtain ⟨hS503, hrow504⟩ := hS502.row_data (i := 0) rfl (fun _ h => h)
          have hS505 := hS503.data (dRow 4 Ao ((subL p ((erA t).take j)).length) co (encNs (subL p ((erA t).take j)))) ⟨hc506, hrow504⟩
          refine k_call (xs := [.tmp 107]) se hR501 rfl rfl rfl (by decide) ok19 (rcheck_calls _ (imm Z w0 [] _) (fun _ h => h.1) Ao co (subL p ((erA t).take j)) (hS505.get (i := 6) rfl) (by first | assumption | omega | (simp; done) | (simp; omega)) (by first | assumption | omega | (simp; done) | (simp; omega))) ?_
          rintro e513 w508 ⟨rfl, hf511⟩
          have hS514 := hS505.below hf511.below
          refine ⟨_, rfl, fun a507 hR509 => ?_⟩
          refine r_neq sv hR509 rfl rfl rfl rfl (by decide) (fun a515 hR516 => ?_)
          refine wpList_nil (x_then_n (hK499 _ _ ?_))
          rcases Decidable.em (((chk (subL p ((erA t).take j)))) = 0) with h517 | h517
          · skip
            have hal := alike hct hcp (by rw [← htj]; exact h517)
            have hR518 := hR516.setb (d := 109) (b := false) rfl (by rw [(decide_eq_true h517)]; rfl)
            refine wp_cond_false (hR518.ev rfl) ?_
            refine wp_skip ?_
            refine x_then_n (hK497 _ _ ?_)
            refine wp_seq_k (fun K519 hK520 => ?_)
            refine c_region ?_
            refine mv hR518 (fun a521 hR522 => ?_)
            have hS523 : St w0 Z none_ w508 [] [dShapes, dRow 4 tA t.length tc (encNs t), dRow 4 pA p.length pc (encNs p), dRow 1 A281 rL283.length c282 (encSs rL283), dAll rL283, dRow 4 A312 ((erA t).length) c313 (encNs (erA t)), dRow 4 Ao ((subL p ((erA t).take j)).length) co (encNs (subL p ((erA t).take j)))] := hS514
            refine k_call (xs := [.tmp 112]) se hR522 rfl rfl rfl (by decide) ok28 (erase_calls _ (imm Z w0 [] _) (fun _ h => h.1) Ao co (subL p ((erA t).take j)) (hS523.get (i := 0) rfl) (hS523.get (i := 6) rfl) (by first | assumption | omega | (simp; done) | (simp; omega)) (by first | assumption | omega | (simp; done) | (simp; omega))) ?_
            rintro e533 w525 ⟨A529, c530, rfl, hf528, hd531⟩
            have hS534 := hS523.below hf528.below
            have hS535 := hS534.data (dRow 4 A529 ((erA (subL p ((erA t).take j))).length) c530 (encNs (erA (subL p ((erA t).take j))))) ⟨hd531.1, hd531.2.mono (fun _ hk => ⟨nxt_imm hS523 hk, rfl⟩)⟩
            refine ⟨_, rfl, fun a524 hR526 => ?_⟩
            refine mv hR526 (fun a536 hR537 => ?_)
            refine r_extract sv hR537 rfl rfl rfl rfl (by decide) (fun a538 hR539 => ?_)
            refine r_extract sv hR539 rfl rfl rfl rfl (by decide) (fun a540 hR541 => ?_)
            refine asg hR541 (fun a542 hR543 => ?_)
            refine asg hR543 (fun a544 hR545 => ?_)
            refine wpList_nil (x_then_n (hK520 _ _ ?_))
            refine wp_seq_k (fun K546 hK547 => ?_)
            refine c_region ?_
            refine mv hR545 (fun a548 hR549 => ?_)
            refine mv hR549 (fun a550 hR551 => ?_)
            refine r_conv sv hR551 rfl rfl rfl Tryd.underlying5 Tryd.underlying3 (by decide) (by omega) (by omega) (fun a552 hR553 => ?_)
            refine r_rem (z := (((kb) % 20 : Nat) : Int)) sv hR553 rfl rfl rfl rfl (by decide) (tmod_nat (kb) 20) (by decide) (fun a554 hR555 => ?_)
            have hS556 : St w0 Z none_ w525 [] [dShapes, dRow 4 tA t.length tc (encNs t), dRow 4 pA p.length pc (encNs p), dRow 1 A281 rL283.length c282 (encSs rL283), dAll rL283, dRow 4 A312 ((erA t).length) c313 (encNs (erA t)), dRow 4 Ao ((subL p ((erA t).take j)).length) co (encNs (subL p ((erA t).take j))), dRow 4 A529 ((erA (subL p ((erA t).take j))).length) c530 (encNs (erA (subL p ((erA t).take j))))] := hS535
            refine k_call (xs := [.tmp 117, .tmp 120]) se hR555 rfl rfl rfl (by decide) ok33 (ruses_calls _ (imm Z w0 [] _) (fun _ h => h.1) tA tc t (((kb) % 20 : Nat) : Int) (hS556.get (i := 1) rfl) (by first | assumption | omega | (simp; done) | (simp; omega)) (by first | assumption | omega | (simp; done) | (simp; omega))) ?_
            rintro e563 w558 ⟨rfl, hf561⟩
            have hS564 := hS556.below hf561.below
            refine ⟨_, rfl, fun a557 hR559 => ?_⟩
            refine mv hR559 (fun a565 hR566 => ?_)
            refine r_extract sv hR566 rfl rfl rfl rfl (by decide) (fun a567 hR568 => ?_)
            refine r_extract sv hR568 rfl rfl rfl rfl (by decide) (fun a569 hR570 => ?_)
            refine asg hR570 (fun a571 hR572 => ?_)
            refine asg hR572 (fun a573 hR574 => ?_)
            refine wpList_nil (x_then_n (hK547 _ _ ?_))
            refine wp_seq_k (fun K575 hK576 => ?_)
            refine c_region ?_
            refine mv hR574 (fun a577 hR578 => ?_)
            refine mv hR578 (fun a579 hR580 => ?_)
            refine r_conv sv hR580 rfl rfl rfl Tryd.underlying5 Tryd.underlying3 (by decide) (by omega) (by omega) (fun a581 hR582 => ?_)
            refine r_rem (z := (((kb) % 20 : Nat) : Int)) sv hR582 rfl rfl rfl rfl (by decide) (tmod_nat (kb) 20) (by decide) (fun a583 hR584 => ?_)
            have hS585 : St w0 Z none_ w558 [] [dShapes, dRow 4 tA t.length tc (encNs t), dRow 4 pA p.length pc (encNs p), dRow 1 A281 rL283.length c282 (encSs rL283), dAll rL283, dRow 4 A312 ((erA t).length) c313 (encNs (erA t)), dRow 4 Ao ((subL p ((erA t).take j)).length) co (encNs (subL p ((erA t).take j))), dRow 4 A529 ((erA (subL p ((erA t).take j))).length) c530 (encNs (erA (subL p ((erA t).take j))))] := hS564
            refine k_call (xs := [.tmp 125, .tmp 128]) se hR584 rfl rfl rfl (by decide) ok33 (ruses_calls _ (imm Z w0 [] _) (fun _ h => h.1) A312 c313 (erA t) (((kb) % 20 : Nat) : Int) (hS585.get (i := 5) rfl) (by first | assumption | omega | (simp; done) | (simp; omega)) (by first | assumption | omega | (simp; done) | (simp; omega))) ?_
            rintro e592 w587 ⟨rfl, hf590⟩
            have hS593 := hS585.below hf590.below
            refine ⟨_, rfl, fun a586 hR588 => ?_⟩
            refine mv hR588 (fun a594 hR595 => ?_)
            refine r_extract sv hR595 rfl rfl rfl rfl (by decide) (fun a596 hR597 => ?_)
            refine r_extract sv hR597 rfl rfl rfl rfl (by decide) (fun a598 hR599 => ?_)
            refine asg hR599 (fun a600 hR601 => ?_)
            refine asg hR601 (fun a602 hR603 => ?_)
            refine wpList_nil (x_then_n (hK576 _ _ ?_))
            refine wp_seq_k (fun K604 hK605 => ?_)
            refine c_region ?_
            refine mv hR603 (fun a606 hR607 => ?_)
            refine r_eql sv hR607 rfl rfl rfl rfl (by decide) (fun a608 hR609 => ?_)
            refine mv hR609 (fun a610 hR611 => ?_)
            have hR612 := hR611.setb (d := 134) (b := true) rfl (decide_eq_true h517)
            refine r_move (st_listV_w (wt hR612)) hR612 rfl rfl rfl (by decide) (fun a613 hR614 => ?_)
            refine r_move (st_listV_w (wt hR614)) hR614 rfl rfl rfl (by decide) (fun a615 hR616 => ?_)
            have hS617 : St w0 Z none_ w587 [] [dShapes, dRow 4 tA t.length tc (encNs t), dRow 4 pA p.length pc (encNs p), dRow 1 A281 rL283.length c282 (encSs rL283), dAll rL283, dRow 4 A312 ((erA t).length) c313 (encNs (erA t)), dRow 4 Ao ((subL p ((erA t).take j)).length) co (encNs (subL p ((erA t).take j))), dRow 4 A529 ((erA (subL p ((erA t).take j))).length) c530 (encNs (erA (subL p ((erA t).take j))))] := hS593
            refine k_call (xs := [.tmp 135, .tmp 136]) (st_list_w (wt hR616)) hR616 rfl rfl rfl (by decide) ok30 (rsame_calls _ (imm Z w0 [] _) (fun _ h => h.1) A312 c313 (erA t) A529 c530 (erA (subL p ((erA t).take j))) (hS617.get (i := 5) rfl) (hS617.get (i := 7) rfl) (by first | assumption | omega | (simp; done) | (simp; omega))) ?_
            rintro e624 w619 ⟨rfl, hf622⟩
            have hS625 := hS617.below hf622.below
            refine ⟨_, rfl, fun a618 hR620 => ?_⟩
            refine r_pick_t sv hR620 rfl rfl rfl rfl (by decide) (fun a626 hR627 => ?_)
            refine mv hR627 (fun a628 hR629 => ?_)
            have h639 : (decide ((erA t) = (erA (subL p ((erA t).take j))))) = true := decide_eq_true (by rw [htj]; exact hal.symm)
            have h640 := of_decide_eq_true h639
            have hR641 := hR629.setb (d := 139) (b := true) rfl h639
            refine r_move (st_listV_w (wt hR641)) hR641 rfl rfl rfl (by decide) (fun a642 hR643 => ?_)
            refine r_eql (st_listV_w (wt hR643)) hR643 rfl rfl rfl rfl (by decide) (fun a644 hR645 => ?_)
            refine r_pick_t sv hR645 rfl rfl rfl rfl (by decide) (fun a646 hR647 => ?_)
            refine mv hR647 (fun a648 hR649 => ?_)
            have hR650 := hR649.setb (d := 143) (b := true) rfl (decide_eq_true h187)
            refine r_move (st_listV_w (wt hR650)) hR650 rfl rfl rfl (by decide) (fun a651 hR652 => ?_)
            refine r_eql (st_listV_w (wt hR652)) hR652 rfl rfl rfl rfl (by decide) (fun a653 hR654 => ?_)
            refine r_pick_t sv hR654 rfl rfl rfl rfl (by decide) (fun a655 hR656 => ?_)
            refine mv hR656 (fun a657 hR658 => ?_)
            have h669 : ((chk (erA t))) = 0 := hE2
            have hR670 := hR658.setb (d := 147) (b := true) rfl (decide_eq_true h669)
            refine r_move (st_listV_w (wt hR670)) hR670 rfl rfl rfl (by decide) (fun a671 hR672 => ?_)
            refine r_move (st_listV_w (wt hR672)) hR672 rfl rfl rfl (by decide) (fun a673 hR674 => ?_)
            refine r_leq (st_listV_w (wt hR674)) hR674 rfl rfl rfl rfl (by decide) (fun a675 hR676 => ?_)
            refine r_pick_t sv hR676 rfl rfl rfl rfl (by decide) (fun a677 hR678 => ?_)
            refine asg hR678 (fun a679 hR680 => ?_)
            refine wpList_nil (x_then_n (hK605 _ _ ?_))
            refine wp_ret ?_
            refine e_ret1 hR680 rfl rfl rfl ?_
            have h681 : ((usA (erA t) (((kb) % 20 : Nat) : Int) : Nat) : Int) ≤ ((usA t (((kb) % 20 : Nat) : Int) : Nat) : Int) := by rw [usA_ok hE2 (by omega), usA_ok hct (by omega)]; have hus := us_erA hct (((kb % 20 : Nat) : Int)); omega
            refine ⟨?_, hS625.fr⟩
            exact congrArg Ending.returned (ret_b (by first | rfl | omega | assumption | exact decide_eq_true (by assumption) | (have q0 := h164; (try simp at q0); have q1 := h183; (try simp at q1); have q2 := h184; (try simp at q2); have q3 := h187; (try simp at q3); have q4 := h190; (try simp at q4); have q5 := h192; (try simp at q5); have q6 := h231; (try simp at q6); have q7 := h359; (try simp at q7); have q8 := h360; (try simp at q8); have q9 := h391; (try simp at q9); have q10 := h517; (try simp at q10); have q11 := h639; (try simp at q11); have q12 := h640; (try simp at q12); have q13 := h669; (try simp at q13); have q14 := h681; (try simp at q14);  omega) | (simp [h164, h183, h184, h187, h190, h192, h231, h359, h360, h391, h517, h639, h640, h669, h681]; done) | (simp [] at *; done) | (simp [h164, h183, h184, h187, h190, h192, h231, h359, h360, h391, h517, h639, h640, h669, h681] <;> omega) | (rw [Bool.eq_iff_iff]; simp [h164, h183, h184, h187, h190, h192, h231, h359, h360, h391, h517, h639, h640, h669, h681] <;> omega) | (rw [Bool.eq_iff_iff]; simp [h164, h183, h184, h187, h190, h192, h231, h359, h360, h391, h517, h639, h640, h669, h681] at * <;> omega)))
          · skip
            have hR682 := hR516.setb (d := 109) (b := true) rfl (by rw [(decide_eq_false h517)]; rfl)
            refine wp_cond_true (hR682.ev rfl) ?_
            refine wp_seq_k (fun K683 hK684 => ?_)
            refine c_region ?_
            have hS685 : St w0 Z none_ w508 [] [dShapes, dRow 4 tA t.length tc (encNs t), dRow 4 pA p.length pc (encNs p), dRow 1 A281 rL283.length c282 (encSs rL283), dAll rL283, dRow 4 A312 ((erA t).length) c313 (encNs (erA t)), dRow 4 Ao ((subL p ((erA t).take j)).length) co (encNs (subL p ((erA t).take j)))] := hS514
            refine k_call (xs := []) se hR682 rfl rfl rfl (by decide) ok27 (shown11_calls _ (imm Z w0 [] _) (fun _ h => h.1) (hS685.get (i := 0) rfl)) ?_
            rintro e692 w687 ⟨rfl, hf690⟩
            have hS693 := hS685.below hf690.below
            refine ⟨_, rfl, fun a686 hR688 => ?_⟩
            refine asg hR688 (fun a694 hR695 => ?_)
            refine wpList_nil (x_then_n (hK684 _ _ ?_))
            refine wp_ret ?_
            refine x_then_r ?_
            refine e_ret1 hR695 rfl rfl rfl ?_
            refine ⟨?_, hS693.fr⟩
            exact congrArg Ending.returned (ret_b (by first | rfl | omega | assumption | exact decide_eq_true (by assumption) | (have q0 := h164; (try simp at q0); have q1 := h183; (try simp at q1); have q2 := h184; (try simp at q2); have q3 := h187; (try simp at q3); have q4 := h190; (try simp at q4); have q5 := h192; (try simp at q5); have q6 := h231; (try simp at q6); have q7 := h359; (try simp at q7); have q8 := h360; (try simp at q8); have q9 := h391; (try simp at q9); have q10 := h517; (try simp at q10);  omega) | (simp [h164, h183, h184, h187, h190, h192, h231, h359, h360, h391, h517]; done) | (simp [] at *; done) | (simp [h164, h183, h184, h187, h190, h192, h231, h359, h360, h391, h517] <;> omega) | (rw [Bool.eq_iff_iff]; simp [h164, h183, h184, h187, h190, h192, h231, h359, h360, h391, h517] <;> omega) | (rw [Bool.eq_iff_iff]; simp [h164, h183, h184, h187, h190, h192, h231, h359, h360, h391, h517] at * <;> omega)))
      · skip
        have h696 : ¬ (0 < ((marks (t.take k) : Nat) : Int)) := by omega
        have hR697 := hR358.setb (d := 76) (b := false) rfl (decide_eq_false h359)
        have hR698 := hR697.setb (d := 78) (b := false) rfl (decide_eq_false h696)
        refine r_neqB (st_listV_w (wt hR358)) hR698 rfl rfl rfl rfl Tryd.underlying4 (by decide) (fun a699 hR700 => ?_)
        refine r_pick_f sv hR700 rfl rfl rfl rfl (by decide) (fun a701 hR702 => ?_)
        refine wpList_nil (x_then_n (hK332 _ _ ?_))
        refine wp_cond_false (hR702.ev rfl) ?_
        refine wp_skip ?_
        refine x_then_n (hK330 _ _ ?_)
        refine wp_seq_k (fun K703 hK704 => ?_)
        refine wp_seq_k (fun K705 hK706 => ?_)
        refine c_region ?_
        refine asg hR702 (fun a707 hR708 => ?_)
        refine wpList_nil (x_then_n (hK706 _ _ ?_))
        refine wp_block ?_
        refine wp_loop_ghost (fun gn ga gw => ∃ j : Nat, ∃ Ao : Option Addr, ∃ co : Nat, (Reg ga 152 [(0, .slice tA t.length tc), (1, .slice pA p.length pc), (2, .int .u8 ((kb : Nat) : Int)), (6, .bool false), (1000000, .bool false), (12, .slice A312 ((erA t).length) c313), (14, .int .i64 ((j : Nat) : Int)), (7, .slice Ao ((subL p ((erA t).take j)).length) co)]) ∧ (St w0 Z none_ gw [.row Ao ((subL p ((erA t).take j)).length) co 32 4 (encNs (subL p ((erA t).take j)))] [dShapes, dRow 4 tA t.length tc (encNs t), dRow 4 pA p.length pc (encNs p), dRow 1 A281 rL283.length c282 (encSs rL283), dAll rL283, dRow 4 A312 ((erA t).length) c313 (encNs (erA t))]) ∧ (j ≤ (erA t).length) ∧ ((erA t).length - j) = gn) _ ⟨0, (some ⟨g198, 0, none⟩), 0, (hR708.sub (rc rfl (rc rfl (rc rfl (rc rfl (rc rfl (rc rfl (rc rfl (rc rfl rnl))))))))), hS318, by omega, rfl⟩ ?_
        rintro r709 a710 w711 ⟨j, Ao, co, hR712, hS713, hj, hn714⟩
        have hsb : (subL p ((erA t).take j)).length ≤ 200 * 201 := Nat.le_trans (subL_le _ _) (Nat.mul_le_mul (by rw [List.length_take]; omega) (by omega))
        refine wp_seq_k (fun K715 hK716 => ?_)
        refine wp_seq_k (fun K717 hK718 => ?_)
        refine c_region ?_
        refine mv hR712 (fun a719 hR720 => ?_)
        refine mv hR720 (fun a721 hR722 => ?_)
        refine r_len sv hR722 rfl rfl rfl rfl Tryd.underlying22 (by decide) (fun a723 hR724 => ?_)
        refine r_lss sv hR724 rfl rfl rfl rfl (by decide) (fun a725 hR726 => ?_)
        refine wpList_nil (x_then_n (hK718 _ _ ?_))
        rcases Decidable.em (((j : Nat) : Int) < (((erA t).length : Nat) : Int)) with h727 | h727
        · skip
          have hR728 := hR726.setb (d := 84) (b := true) rfl (decide_eq_true h727)
          refine wp_cond_true (hR728.ev rfl) ?_
          refine wp_skip ?_
          refine x_then_n (hK716 _ _ ?_)
          refine wp_seq_k (fun K729 hK730 => ?_)
          refine wp_block ?_
          refine wp_seq_k (fun K731 hK732 => ?_)
          refine c_region ?_
          refine mv hR728 (fun a733 hR734 => ?_)
          refine mv hR734 (fun a735 hR736 => ?_)
          refine m_index (i := j) (j := j * 4) sv hR736 rfl rfl rfl rfl Tryd.underlying22 sz32 (by omega) (by omega) (nds_elem (t := erA t) (k := j) (hS713.row (i := 5) rfl).2 (by omega)).some_ rfl (by decide) (fun a737 hR738 => ?_)
          refine m_fieldE (j' := j * 4) sv hR738 rfl rfl rfl (nds_elem (t := erA t) (k := j) (hS713.row (i := 5) rfl).2 (by omega)).some_ Tryd.underlying32 rfl sz3 rfl rfl (by decide) (fun a739 hR740 => ?_)
          refine m_loadE sv hR740 rfl rfl rfl 0 (j * 4) (nds_elem (t := erA t) (k := j) (hS713.row (i := 5) rfl).2 (by omega)) rfl rfl Tryd.underlying3 rfl (by decide) (fun a741 hR742 => ?_)
          refine r_eql sv hR742 rfl rfl rfl rfl (by decide) (fun a743 hR744 => ?_)
          refine wpList_nil (x_then_n (hK732 _ _ ?_))
          rcases Decidable.em ((((nth (erA t) j).K)) = 29) with h745 | h745
          · skip
            have hR746 := hR744.setb (d := 92) (b := true) rfl (decide_eq_true h745)
            refine wp_cond_true (hR746.ev rfl) ?_
            refine wp_seq_k (fun K747 hK748 => ?_)
            refine c_region ?_
            refine mv hR746 (fun a749 hR750 => ?_)
            refine mv hR750 (fun a751 hR752 => ?_)
            refine m_appendF (f := encN) (i := 0) (subL p ((erA t).take j)) (p) sv hR752 hS713 rfl rfl rfl rfl rfl encN_len (encN_one _) Tryd.underlying22 zi32 rfl rfl (hS713.row (i := 2) rfl).2.news rfl (by first | omega | (simp only [List.length_cons, List.length_nil]; omega)) (by decide) (fun a753 w754 A755 c756 hc757 hR758 hS759 => ?_)
            have hl761 : ((subL p ((erA t).take j)) ++ p).length = (subL p ((erA t).take j)).length + p.length := by first | (simp only [List.length_append, List.length_take, List.length_cons, List.length_nil]; done) | (simp only [List.length_append, List.length_take, List.length_cons, List.length_nil]; omega)
            refine asg hR758 (fun a762 hR763 => ?_)
            refine wpList_nil (x_then_n (hK748 _ _ (c_region ?_)))
            refine mv hR763 (fun a764 hR765 => ?_)
            refine m_build (ps := [(0, .const (.int .i64 28))]) (v := .agg #[.int .i64 28, .int .i64 0, .int .i64 0, .string (⟨#[]⟩ : ByteArray)]) sv hR765 rfl rfl rfl (fun _ => by kernel_rfl) (by decide) (fun a766 hR767 => ?_)
            refine m_buildSlice (ps := [(0, .tmp 97)]) (cs := [.int .i64 28, .int .i64 0, .int .i64 0, .string (⟨#[]⟩ : ByteArray)]) sv hR767 hS759 rfl rfl rfl Tryd.underlying22 zi32 rfl rfl (by kernel_rfl) rfl (by decide) (fun a768 w769 g770 hR771 hS772 => ?_)
            refine m_appendF (f := encN) (i := 0) ((subL p ((erA t).take j)) ++ p) ([(⟨28, 0, 0, (⟨#[]⟩ : ByteArray)⟩ : Nd)]) sv hR771 hS772 rfl rfl rfl rfl rfl encN_len (encN_one _) Tryd.underlying22 zi32 rfl rfl (own_lnews (f := encN) (hS772.res (i := 1) rfl)) rfl (by first | omega | (simp only [List.length_cons, List.length_nil]; omega)) (by decide) (fun a773 w774 A775 c776 hc777 hR778 hS779 => ?_)
            have hl781 : (((subL p ((erA t).take j)) ++ p) ++ ([(⟨28, 0, 0, (⟨#[]⟩ : ByteArray)⟩ : Nd)]) : List Nd).length = ((subL p ((erA t).take j)) ++ p).length + 1 := by first | (simp only [List.length_append, List.length_take, List.length_cons, List.length_nil]; done) | (simp only [List.length_append, List.length_take, List.length_cons, List.length_nil]; omega)
            have hS782 := hS779.erase 1
            refine asg hR778 (fun a783 hR784 => ?_)
            refine wpList_nil ?_
            refine x_block_n ?_
            refine x_then_n (hK730 _ _ ?_)
            refine c_region ?_
            refine mv hR784 (fun a785 hR786 => ?_)
            refine r_add (z := ((j + 1 : Nat) : Int)) sv hR786 rfl rfl rfl rfl (by decide) (by omega) (by omega) (by omega) (fun a787 hR788 => ?_)
            refine asg hR788 (fun a789 hR790 => ?_)
            refine wpList_nil ?_
            have he791 : ((subL p ((erA t).take j)) ++ p) ++ ([(⟨28, 0, 0, (⟨#[]⟩ : ByteArray)⟩ : Nd)]) = subL p ((erA t).take (j + 1)) := by rw [subL_step (by omega)]; split <;> first | (exfalso; omega) | rfl | (simp; done)
            have hR792 := hR790
            have hS793 := hS782
            rw [he791] at hR792 hS793
            exact ⟨_, by omega, j + 1, A775, c776, (hR792.sub (rc rfl (rc rfl (rc rfl (rc rfl (rc rfl (rc rfl (rc rfl (rc rfl rnl))))))))), hS793, by omega, rfl⟩
          · skip
            have hR794 := hR744.setb (d := 92) (b := false) rfl (decide_eq_false h745)
            refine wp_cond_false (hR794.ev rfl) ?_
            refine c_region ?_
            refine mv hR794 (fun a795 hR796 => ?_)
            refine mv hR796 (fun a797 hR798 => ?_)
            refine mv hR798 (fun a799 hR800 => ?_)
            refine m_index (i := j) (j := j * 4) sv hR800 rfl rfl rfl rfl Tryd.underlying22 sz32 (by omega) (by omega) (nds_elem (t := erA t) (k := j) (hS713.row (i := 5) rfl).2 (by omega)).some_ rfl (by decide) (fun a801 hR802 => ?_)
            refine m_loadEN sv hR802 rfl rfl rfl (nds_elem (t := erA t) (k := j) (hS713.row (i := 5) rfl).2 (by omega)) Tryd.underlying32 rfl sz32 (by decide) (fun a803 hR804 => ?_)
            refine m_buildSlice (ps := [(0, .tmp 104)]) (cs := [.int .i64 (((nth (erA t) j).K)), .int .i64 (((nth (erA t) j).N)), .int .i64 (((nth (erA t) j).M)), .string ((nth (erA t) j).S)]) sv hR804 hS713 rfl rfl rfl Tryd.underlying22 zi32 rfl rfl (by kernel_rfl) rfl (by decide) (fun a805 w806 g807 hR808 hS809 => ?_)
            refine m_appendF (f := encN) (i := 0) (subL p ((erA t).take j)) ([(nth (erA t) j)]) sv hR808 hS809 rfl rfl rfl rfl rfl encN_len (encN_one _) Tryd.underlying22 zi32 rfl rfl (own_lnews (f := encN) (hS809.res (i := 1) rfl)) rfl (by first | omega | (simp only [List.length_cons, List.length_nil]; omega)) (by decide) (fun a810 w811 A812 c813 hc814 hR815 hS816 => ?_)
            have hl818 : ((subL p ((erA t).take j)) ++ ([(nth (erA t) j)]) : List Nd).length = (subL p ((erA t).take j)).length + 1 := by first | (simp only [List.length_append, List.length_take, List.length_cons, List.length_nil]; done) | (simp only [List.length_append, List.length_take, List.length_cons, List.length_nil]; omega)
            have hS819 := hS816.erase 1
            refine asg hR815 (fun a820 hR821 => ?_)
            refine wpList_nil ?_
            refine x_block_n ?_
            refine x_then_n (hK730 _ _ ?_)
            refine c_region ?_
            refine mv hR821 (fun a822 hR823 => ?_)
            refine r_add (z := ((j + 1 : Nat) : Int)) sv hR823 rfl rfl rfl rfl (by decide) (by omega) (by omega) (by omega) (fun a824 hR825 => ?_)
            refine asg hR825 (fun a826 hR827 => ?_)
            refine wpList_nil ?_
            have he828 : (subL p ((erA t).take j)) ++ ([(nth (erA t) j)]) = subL p ((erA t).take (j + 1)) := by rw [subL_step (by omega)]; split <;> first | (exfalso; omega) | rfl | (simp; done)
            have hR829 := hR827
            have hS830 := hS819
            rw [he828] at hR829 hS830
            exact ⟨_, by omega, j + 1, A812, c813, (hR829.sub (rc rfl (rc rfl (rc rfl (rc rfl (rc rfl (rc rfl (rc rfl (rc rfl rnl))))))))), hS830, by omega, rfl⟩
        · skip
          have htj : (erA t).take j = erA t := List.take_of_length_le (by omega)
          have hsu : sml (subL p ((erA t).take j)) := by rw [htj]; exact subL_sml hE1 hsp
          have hR831 := hR726.setb (d := 84) (b := false) rfl (decide_eq_false h727)
          refine wp_cond_false (hR831.ev rfl) ?_
          refine wp_exit ?_
          refine x_then_e ?_
          refine x_then_e ?_
          refine x_block_eq ?_
          refine x_then_n (hK704 _ _ ?_)
          refine wp_seq_k (fun K832 hK833 => ?_)
          refine wp_seq_k (fun K834 hK835 => ?_)
          refine c_region ?_
          refine mv hR831 (fun a836 hR837 => ?_)
          have hS838 : St w0 Z none_ w711 [.row Ao ((subL p ((erA t).take j)).length) co 32 4 (encNs (subL p ((erA t).take j)))] [dShapes, dRow 4 tA t.length tc (encNs t), dRow 4 pA p.length pc (encNs p), dRow 1 A281 rL283.length c282 (encSs rL283), dAll rL283, dRow 4 A312 ((erA t).length) c313 (encNs (erA t))] := hS713
          have hc842 := own_cap (hS838.res (i := 0) rfl)
          obtain ⟨hS839, hrow840⟩ := hS838.row_data (i := 0) rfl (fun _ h => h)
          have hS841 := hS839.data (dRow 4 Ao ((subL p ((erA t).take j)).length) co (encNs (subL p ((erA t).take j)))) ⟨hc842, hrow840⟩
          refine k_call (xs := [.tmp 107]) se hR837 rfl rfl rfl (by decide) ok19 (rcheck_calls _ (imm Z w0 [] _) (fun _ h => h.1) Ao co (subL p ((erA t).take j)) (hS841.get (i := 6) rfl) (by first | assumption | omega | (simp; done) | (simp; omega)) (by first | assumption | omega | (simp; done) | (simp; omega))) ?_
          rintro e849 w844 ⟨rfl, hf847⟩
          have hS850 := hS841.below hf847.below
          refine ⟨_, rfl, fun a843 hR845 => ?_⟩
          refine r_neq sv hR845 rfl rfl rfl rfl (by decide) (fun a851 hR852 => ?_)
          refine wpList_nil (x_then_n (hK835 _ _ ?_))
          rcases Decidable.em (((chk (subL p ((erA t).take j)))) = 0) with h853 | h853
          · skip
            have hal := alike hct hcp (by rw [← htj]; exact h853)
            have hR854 := hR852.setb (d := 109) (b := false) rfl (by rw [(decide_eq_true h853)]; rfl)
            refine wp_cond_false (hR854.ev rfl) ?_
            refine wp_skip ?_
            refine x_then_n (hK833 _ _ ?_)
            refine wp_seq_k (fun K855 hK856 => ?_)
            refine c_region ?_
            refine mv hR854 (fun a857 hR858 => ?_)
            have hS859 : St w0 Z none_ w844 [] [dShapes, dRow 4 tA t.length tc (encNs t), dRow 4 pA p.length pc (encNs p), dRow 1 A281 rL283.length c282 (encSs rL283), dAll rL283, dRow 4 A312 ((erA t).length) c313 (encNs (erA t)), dRow 4 Ao ((subL p ((erA t).take j)).length) co (encNs (subL p ((erA t).take j)))] := hS850
            refine k_call (xs := [.tmp 112]) se hR858 rfl rfl rfl (by decide) ok28 (erase_calls _ (imm Z w0 [] _) (fun _ h => h.1) Ao co (subL p ((erA t).take j)) (hS859.get (i := 0) rfl) (hS859.get (i := 6) rfl) (by first | assumption | omega | (simp; done) | (simp; omega)) (by first | assumption | omega | (simp; done) | (simp; omega))) ?_
            rintro e869 w861 ⟨A865, c866, rfl, hf864, hd867⟩
            have hS870 := hS859.below hf864.below
            have hS871 := hS870.data (dRow 4 A865 ((erA (subL p ((erA t).take j))).length) c866 (encNs (erA (subL p ((erA t).take j))))) ⟨hd867.1, hd867.2.mono (fun _ hk => ⟨nxt_imm hS859 hk, rfl⟩)⟩
            refine ⟨_, rfl, fun a860 hR862 => ?_⟩
            refine mv hR862 (fun a872 hR873 => ?_)
            refine r_extract sv hR873 rfl rfl rfl rfl (by decide) (fun a874 hR875 => ?_)
            refine r_extract sv hR875 rfl rfl rfl rfl (by decide) (fun a876 hR877 => ?_)
            refine asg hR877 (fun a878 hR879 => ?_)
            refine asg hR879 (fun a880 hR881 => ?_)
            refine wpList_nil (x_then_n (hK856 _ _ ?_))
            refine wp_seq_k (fun K882 hK883 => ?_)
            refine c_region ?_
            refine mv hR881 (fun a884 hR885 => ?_)
            refine mv hR885 (fun a886 hR887 => ?_)
            refine r_conv sv hR887 rfl rfl rfl Tryd.underlying5 Tryd.underlying3 (by decide) (by omega) (by omega) (fun a888 hR889 => ?_)
            refine r_rem (z := (((kb) % 20 : Nat) : Int)) sv hR889 rfl rfl rfl rfl (by decide) (tmod_nat (kb) 20) (by decide) (fun a890 hR891 => ?_)
            have hS892 : St w0 Z none_ w861 [] [dShapes, dRow 4 tA t.length tc (encNs t), dRow 4 pA p.length pc (encNs p), dRow 1 A281 rL283.length c282 (encSs rL283), dAll rL283, dRow 4 A312 ((erA t).length) c313 (encNs (erA t)), dRow 4 Ao ((subL p ((erA t).take j)).length) co (encNs (subL p ((erA t).take j))), dRow 4 A865 ((erA (subL p ((erA t).take j))).length) c866 (encNs (erA (subL p ((erA t).take j))))] := hS871
            refine k_call (xs := [.tmp 117, .tmp 120]) se hR891 rfl rfl rfl (by decide) ok33 (ruses_calls _ (imm Z w0 [] _) (fun _ h => h.1) tA tc t (((kb) % 20 : Nat) : Int) (hS892.get (i := 1) rfl) (by first | assumption | omega | (simp; done) | (simp; omega)) (by first | assumption | omega | (simp; done) | (simp; omega))) ?_
            rintro e899 w894 ⟨rfl, hf897⟩
            have hS900 := hS892.below hf897.below
            refine ⟨_, rfl, fun a893 hR895 => ?_⟩
            refine mv hR895 (fun a901 hR902 => ?_)
            refine r_extract sv hR902 rfl rfl rfl rfl (by decide) (fun a903 hR904 => ?_)
            refine r_extract sv hR904 rfl rfl rfl rfl (by decide) (fun a905 hR906 => ?_)
            refine asg hR906 (fun a907 hR908 => ?_)
            refine asg hR908 (fun a909 hR910 => ?_)
            refine wpList_nil (x_then_n (hK883 _ _ ?_))
            refine wp_seq_k (fun K911 hK912 => ?_)
            refine c_region ?_
            refine mv hR910 (fun a913 hR914 => ?_)
            refine mv hR914 (fun a915 hR916 => ?_)
            refine r_conv sv hR916 rfl rfl rfl Tryd.underlying5 Tryd.underlying3 (by decide) (by omega) (by omega) (fun a917 hR918 => ?_)
            refine r_rem (z := (((kb) % 20 : Nat) : Int)) sv hR918 rfl rfl rfl rfl (by decide) (tmod_nat (kb) 20) (by decide) (fun a919 hR920 => ?_)
            have hS921 : St w0 Z none_ w894 [] [dShapes, dRow 4 tA t.length tc (encNs t), dRow 4 pA p.length pc (encNs p), dRow 1 A281 rL283.length c282 (encSs rL283), dAll rL283, dRow 4 A312 ((erA t).length) c313 (encNs (erA t)), dRow 4 Ao ((subL p ((erA t).take j)).length) co (encNs (subL p ((erA t).take j))), dRow 4 A865 ((erA (subL p ((erA t).take j))).length) c866 (encNs (erA (subL p ((erA t).take j))))] := hS900
            refine k_call (xs := [.tmp 125, .tmp 128]) se hR920 rfl rfl rfl (by decide) ok33 (ruses_calls _ (imm Z w0 [] _) (fun _ h => h.1) A312 c313 (erA t) (((kb) % 20 : Nat) : Int) (hS921.get (i := 5) rfl) (by first | assumption | omega | (simp; done) | (simp; omega)) (by first | assumption | omega | (simp; done) | (simp; omega))) ?_
            rintro e928 w923 ⟨rfl, hf926⟩
            have hS929 := hS921.below hf926.below
            refine ⟨_, rfl, fun a922 hR924 => ?_⟩
            refine mv hR924 (fun a930 hR931 => ?_)
            refine r_extract sv hR931 rfl rfl rfl rfl (by decide) (fun a932 hR933 => ?_)
            refine r_extract sv hR933 rfl rfl rfl rfl (by decide) (fun a934 hR935 => ?_)
            refine asg hR935 (fun a936 hR937 => ?_)
            refine asg hR937 (fun a938 hR939 => ?_)
            refine wpList_nil (x_then_n (hK912 _ _ ?_))
            refine wp_seq_k (fun K940 hK941 => ?_)
            refine c_region ?_
            refine mv hR939 (fun a942 hR943 => ?_)
            refine r_eql sv hR943 rfl rfl rfl rfl (by decide) (fun a944 hR945 => ?_)
            refine mv hR945 (fun a946 hR947 => ?_)
            have hR948 := hR947.setb (d := 134) (b := true) rfl (decide_eq_true h853)
            refine r_move (st_listV_w (wt hR948)) hR948 rfl rfl rfl (by decide) (fun a949 hR950 => ?_)
            refine r_move (st_listV_w (wt hR950)) hR950 rfl rfl rfl (by decide) (fun a951 hR952 => ?_)
            have hS953 : St w0 Z none_ w923 [] [dShapes, dRow 4 tA t.length tc (encNs t), dRow 4 pA p.length pc (encNs p), dRow 1 A281 rL283.length c282 (encSs rL283), dAll rL283, dRow 4 A312 ((erA t).length) c313 (encNs (erA t)), dRow 4 Ao ((subL p ((erA t).take j)).length) co (encNs (subL p ((erA t).take j))), dRow 4 A865 ((erA (subL p ((erA t).take j))).length) c866 (encNs (erA (subL p ((erA t).take j))))] := hS929
            refine k_call (xs := [.tmp 135, .tmp 136]) (st_list_w (wt hR952)) hR952 rfl rfl rfl (by decide) ok30 (rsame_calls _ (imm Z w0 [] _) (fun _ h => h.1) A312 c313 (erA t) A865 c866 (erA (subL p ((erA t).take j))) (hS953.get (i := 5) rfl) (hS953.get (i := 7) rfl) (by first | assumption | omega | (simp; done) | (simp; omega))) ?_
            rintro e960 w955 ⟨rfl, hf958⟩
            have hS961 := hS953.below hf958.below
            refine ⟨_, rfl, fun a954 hR956 => ?_⟩
            refine r_pick_t sv hR956 rfl rfl rfl rfl (by decide) (fun a962 hR963 => ?_)
            refine mv hR963 (fun a964 hR965 => ?_)
            have h975 : (decide ((erA t) = (erA (subL p ((erA t).take j))))) = true := decide_eq_true (by rw [htj]; exact hal.symm)
            have h976 := of_decide_eq_true h975
            have hR977 := hR965.setb (d := 139) (b := true) rfl h975
            refine r_move (st_listV_w (wt hR977)) hR977 rfl rfl rfl (by decide) (fun a978 hR979 => ?_)
            refine r_eql (st_listV_w (wt hR979)) hR979 rfl rfl rfl rfl (by decide) (fun a980 hR981 => ?_)
            refine r_pick_t sv hR981 rfl rfl rfl rfl (by decide) (fun a982 hR983 => ?_)
            refine mv hR983 (fun a984 hR985 => ?_)
            have hR986 := hR985.setb (d := 143) (b := true) rfl (decide_eq_true h187)
            refine r_move (st_listV_w (wt hR986)) hR986 rfl rfl rfl (by decide) (fun a987 hR988 => ?_)
            refine r_eql (st_listV_w (wt hR988)) hR988 rfl rfl rfl rfl (by decide) (fun a989 hR990 => ?_)
            refine r_pick_t sv hR990 rfl rfl rfl rfl (by decide) (fun a991 hR992 => ?_)
            refine mv hR992 (fun a993 hR994 => ?_)
            have h1005 : ((chk (erA t))) = 0 := hE2
            have hR1006 := hR994.setb (d := 147) (b := true) rfl (decide_eq_true h1005)
            refine r_move (st_listV_w (wt hR1006)) hR1006 rfl rfl rfl (by decide) (fun a1007 hR1008 => ?_)
            refine r_move (st_listV_w (wt hR1008)) hR1008 rfl rfl rfl (by decide) (fun a1009 hR1010 => ?_)
            refine r_leq (st_listV_w (wt hR1010)) hR1010 rfl rfl rfl rfl (by decide) (fun a1011 hR1012 => ?_)
            refine r_pick_t sv hR1012 rfl rfl rfl rfl (by decide) (fun a1013 hR1014 => ?_)
            refine asg hR1014 (fun a1015 hR1016 => ?_)
            refine wpList_nil (x_then_n (hK941 _ _ ?_))
            refine wp_ret ?_
            refine e_ret1 hR1016 rfl rfl rfl ?_
            have h1017 : ((usA (erA t) (((kb) % 20 : Nat) : Int) : Nat) : Int) ≤ ((usA t (((kb) % 20 : Nat) : Int) : Nat) : Int) := by rw [usA_ok hE2 (by omega), usA_ok hct (by omega)]; have hus := us_erA hct (((kb % 20 : Nat) : Int)); omega
            refine ⟨?_, hS961.fr⟩
            exact congrArg Ending.returned (ret_b (by first | rfl | omega | assumption | exact decide_eq_true (by assumption) | (have q0 := h164; (try simp at q0); have q1 := h183; (try simp at q1); have q2 := h184; (try simp at q2); have q3 := h187; (try simp at q3); have q4 := h190; (try simp at q4); have q5 := h192; (try simp at q5); have q6 := h231; (try simp at q6); have q7 := h359; (try simp at q7); have q8 := h696; (try simp at q8); have q9 := h727; (try simp at q9); have q10 := h853; (try simp at q10); have q11 := h975; (try simp at q11); have q12 := h976; (try simp at q12); have q13 := h1005; (try simp at q13); have q14 := h1017; (try simp at q14);  omega) | (simp [h164, h183, h184, h187, h190, h192, h231, h359, h696, h727, h853, h975, h976, h1005, h1017]; done) | (simp [] at *; done) | (simp [h164, h183, h184, h187, h190, h192, h231, h359, h696, h727, h853, h975, h976, h1005, h1017] <;> omega) | (rw [Bool.eq_iff_iff]; simp [h164, h183, h184, h187, h190, h192, h231, h359, h696, h727, h853, h975, h976, h1005, h1017] <;> omega) | (rw [Bool.eq_iff_iff]; simp [h164, h183, h184, h187, h190, h192, h231, h359, h696, h727, h853, h975, h976, h1005, h1017] at * <;> omega)))
          · skip
            have hR1018 := hR852.setb (d := 109) (b := true) rfl (by rw [(decide_eq_false h853)]; rfl)
            refine wp_cond_true (hR1018.ev rfl) ?_
            refine wp_seq_k (fun K1019 hK1020 => ?_)
            refine c_region ?_
            have hS1021 : St w0 Z none_ w844 [] [dShapes, dRow 4 tA t.length tc (encNs t), dRow 4 pA p.length pc (encNs p), dRow 1 A281 rL283.length c282 (encSs rL283), dAll rL283, dRow 4 A312 ((erA t).length) c313 (encNs (erA t)), dRow 4 Ao ((subL p ((erA t).take j)).length) co (encNs (subL p ((erA t).take j)))] := hS850
            refine k_call (xs := []) se hR1018 rfl rfl rfl (by decide) ok27 (shown11_calls _ (imm Z w0 [] _) (fun _ h => h.1) (hS1021.get (i := 0) rfl)) ?_
            rintro e1028 w1023 ⟨rfl, hf1026⟩
            have hS1029 := hS1021.below hf1026.below
            refine ⟨_, rfl, fun a1022 hR1024 => ?_⟩
            refine asg hR1024 (fun a1030 hR1031 => ?_)
            refine wpList_nil (x_then_n (hK1020 _ _ ?_))
            refine wp_ret ?_
            refine x_then_r ?_
            refine e_ret1 hR1031 rfl rfl rfl ?_
            refine ⟨?_, hS1029.fr⟩
            exact congrArg Ending.returned (ret_b (by first | rfl | omega | assumption | exact decide_eq_true (by assumption) | (have q0 := h164; (try simp at q0); have q1 := h183; (try simp at q1); have q2 := h184; (try simp at q2); have q3 := h187; (try simp at q3); have q4 := h190; (try simp at q4); have q5 := h192; (try simp at q5); have q6 := h231; (try simp at q6); have q7 := h359; (try simp at q7); have q8 := h696; (try simp at q8); have q9 := h727; (try simp at q9); have q10 := h853; (try simp at q10);  omega) | (simp [h164, h183, h184, h187, h190, h192, h231, h359, h696, h727, h853]; done) | (simp [] at *; done) | (simp [h164, h183, h184, h187, h190, h192, h231, h359, h696, h727, h853] <;> omega) | (rw [Bool.eq_iff_iff]; simp [h164, h183, h184, h187, h190, h192, h231, h359, h696, h727, h853] <;> omega) | (rw [Bool.eq_iff_iff]; simp [h164, h183, h184, h187, h190, h192, h231, h359, h696, h727, h853] at * <;> omega)))
end Go.Proofs.YtobgdeffhdefeaaDoor
/- From a row's reading to cells, and back: slices of nodes, the table of shapes, arguments that nobody changed. -/
namespace Go.Proofs.YtobgdeffhdefeaaDoor
set_option linter.unusedSimpArgs false
set_option linter.unusedVariables false
open Go Go.RowKit Go.WideShapes Go.ChangeShapes

theorem kids : Kids Tryd.prog (· < Tryd.prog.types.size) := kids_rows (by kernel_rfl) (by kernel_rfl)
theorem slicesFull : ∀ t e, t < Tryd.prog.types.size → Tryd.prog.underlying t = some (.slice e) → 0 < Tryd.prog.cellsOf e := slices_full_of Tryd.prog (by kernel_rfl)
theorem ownKnobNone : ownKnob Tryd.prog.godebug = none := by kernel_rfl

section
variable {H : Type} {enc : TypeId × Value → H} {P : Program} {w W W' : World}
/-- What lay in old blocks reads as it did. -/
theorem trodAll_carry {base : Nat} {sp : Nat → Bool} {held : Bool} : ∀ {ts : List TypeId} {vs : List Value} {ds : List (DataW H)} {ps : List MemPlace},
    DataW.TrodAll enc P W base sp held ts vs ds ps → (∀ p ∈ ps, W.sameAt W' p) → DataW.TrodAll enc P W' base sp held ts vs ds ps
  | [], [], [], _, h, _ => h
  | _ :: _, _ :: _, _ :: _, _, ⟨p, q, ⟨n, h1⟩, h2, e⟩, hs =>
    ⟨p, q, ⟨n, DataW.trod_carry n _ _ _ h1 (fun x hx => hs x (by rw [e]; exact List.mem_append_left _ hx))⟩,
      trodAll_carry h2 (fun x hx => hs x (by rw [e]; exact List.mem_append_right _ hx)), e⟩
  | [], [], _ :: _, _, h, _ => h.elim
  | [], _ :: _, _, _, h, _ => h.elim
  | _ :: _, [], _, _, h, _ => h.elim
  | _ :: _, _ :: _, [], _, h, _ => h.elim
theorem sameAt_below (hb : Below W.heap.size W W') {p : MemPlace} (hp : p.block < W.heap.size) : W.sameAt W' p := by
  cases p with
  | cell b off => exact hb.cell (p := ⟨b, off, none⟩) hp
  | map b => exact hb.block b hp
/-- The last step of a row of a law that returns true and changes nothing old. -/
theorem post_true {f : Func} {s : ChangeSpec} {apart fresh handsOn again : Bool} {args : Array Value} {ds : List (DataW H)} {before : List MemPlace}
    (K : Kids P (· < P.types.size)) (hz : ∀ t e, t < P.types.size → P.underlying t = some (.slice e) → 0 < P.cellsOf e) (hts : ∀ t ∈ f.params.toList, t < P.types.size)
    (hvars : s.vars = []) (hW : DataW.Whole enc P f.params.toList s.vars apart W args.toList ds [] before)
    {tb : TypeId} (hrt : f.resultTypes = #[tb]) (htb : P.underlying tb = some .bool)
    (hfn : (s.fn H ds).results = [.lit (.bool true)] ∧ (s.fn H ds).args = ds ∧ (s.fn H ds).vars = []) (hb : Below W.heap.size W W') :
    s.post enc P f apart fresh handsOn again W args (.bool true) W' := by
  have hlt : ∀ p ∈ before, p.block < W.heap.size := fun p hp => hW.lt p hp
  have hold : ∀ p ∈ before, (fun b => decide (b < W.heap.size)) p.block = true := fun p hp => by simpa using hlt p hp
  have hW0 := hW
  obtain ⟨p, q, hA, hV, he, hzf, hn⟩ := hW0
  rw [hvars] at hV
  have hq : q = [] := hV
  subst hq
  rw [List.append_nil] at he
  subst he
  have hA' := trodAll_carry (W' := W') hA (fun x hx => sameAt_below hb (hlt x hx))
  have hres : ∀ (b : Nat) (sp : Nat → Bool) (hd : Bool), DataW.TrodAll enc P W' b sp hd f.resultTypes.toList ((Value.bool true).resultList f.resultTypes.size) (s.fn H ds).results [] := fun b sp hd => by
    rw [hfn.1, hrt]
    exact trodAll_mk1 (shut_bool htb true)
  refine ⟨ds, [], before, [], before, [], hW, ?_, ?_, ?_, World.keptBut_mono (fun p hp => ⟨hp, .inr (.inl hp)⟩) (hb.frame (· ∈ before)), fun _ => ⟨?_, ?_⟩⟩
  · rw [List.append_nil]; exact hres _ _ _
  · rw [List.append_nil, hfn.2.1]
    exact DataW.TrodAll.respare K hz hts hA' hold
  · rw [List.append_nil, hfn.2.2, hvars]
    exact rfl
  · exact ok_one hrt rfl (okWide_bool_mk htb true)
  · refine ⟨[.lit (.bool true)] ++ ds, [], [] ++ before, ⟨[] ++ before, [], ?_, ?_, by simp, ?_, ?_⟩, ?_⟩
    · rw [hrt]
      exact trodAll_append hA' (trodAll_mk1 (shut_bool htb true))
    · rw [hvars]
      exact rfl
    · intro b off hp
      have hin : MemPlace.cell b off ∈ before := by simpa using hp
      rw [hb.frozen (hlt _ hin)]
      exact hzf b off hin
    · intro ha
      simpa using hn ha
    · intro x hx _
      simpa using hx
end

section
variable {H : Type} {enc : TypeId × Value → H} {w : World}
theorem lt_of_cell {p : Addr} {v : Value} (h : w.cell? p = some v) : p.block < w.heap.size := by
  unfold World.cell? at h
  cases ho : w.heap[p.block]? with
  | none => simp [ho] at h
  | some o => exact (Array.getElem?_eq_some_iff.1 ho).1
set_option maxRecDepth 100000 in
/-- A node's four cells, read. -/
theorem node_cells {base : Nat} {sp : Nat → Bool} {held : Bool} {n : Nat} {cs : List Value} {x : DataW H × List MemPlace} (h : DataW.trod enc Tryd.prog w base sp held n 32 cs = some x) : ∃ nd : Nd, cs = encN nd := by
  have hu : Tryd.prog.underlying 32 = some (.struct (Tryd.prog.fieldsOf 32)) := by kernel_rfl
  have hf : (Tryd.prog.fieldsOf 32).toList.map (fun f => (f.type, f.offset)) = [(3, 0), (3, 1), (3, 2), (9, 3)] := by kernel_rfl
  have hci : Tryd.prog.cellsOf 3 = 1 := by kernel_rfl
  have hcs : Tryd.prog.cellsOf 9 = 1 := by kernel_rfl
  have hcn : Tryd.prog.cellsOf 32 = 4 := by kernel_rfl
  obtain ⟨xs, m, _, _, hl, _, hg⟩ := DataW.trod_struct hu h
  rw [hcn] at hl
  have fld : ∀ (j : Nat) (t : TypeId) (off : Nat), ((Tryd.prog.fieldsOf 32).toList.map (fun f => (f.type, f.offset)))[j]? = some (t, off) → ∃ y, DataW.trod enc Tryd.prog w base sp held m t ((cs.drop off).take (Tryd.prog.cellsOf t)) = some y := by
    intro j t off hj
    rw [List.getElem?_map] at hj
    cases hfj : (Tryd.prog.fieldsOf 32).toList[j]? with
    | none => rw [hfj] at hj; cases hj
    | some f =>
      rw [hfj] at hj
      simp only [Option.map_some, Option.some.injEq, Prod.mk.injEq] at hj
      obtain ⟨rfl, rfl⟩ := hj
      have h1 := hg j f (by rw [← Array.getElem?_toList]; exact hfj)
      have hjl : j < (Tryd.prog.fieldsOf 32).size := by
        have := (List.getElem?_eq_some_iff.1 hfj).1
        simpa using this
      have hxl : j < xs.length := by omega
      exact ⟨xs[j], by rw [h1]; exact List.getElem?_eq_getElem hxl⟩
  rw [hf] at fld
  match cs, hl with
  | [c0, c1, c2, c3], _ =>
    obtain ⟨y0, h0⟩ := fld 0 _ _ rfl
    obtain ⟨y1, h1⟩ := fld 1 _ _ rfl
    obtain ⟨y2, h2⟩ := fld 2 _ _ rfl
    obtain ⟨y3, h3⟩ := fld 3 _ _ rfl
    rw [hci] at h0 h1 h2
    rw [hcs] at h3
    obtain ⟨a, ha, _⟩ := DataW.trod_int Tryd.underlying3 h0
    obtain ⟨b, hb, _⟩ := DataW.trod_int Tryd.underlying3 h1
    obtain ⟨c, hc, _⟩ := DataW.trod_int Tryd.underlying3 h2
    obtain ⟨s, hs, _⟩ := DataW.trod_string Tryd.underlying9 h3
    simp at ha hb hc hs
    exact ⟨⟨a, b, c, s⟩, by simp [encN, ha, hb, hc, hs]⟩
set_option maxRecDepth 100000 in
/-- An argument that is a slice of nodes. -/
theorem open_nodes {r : Reach} {base b0 : Nat} {sp : Nat → Bool} {held : Bool} {v : Value} {d : DataW H} {ps : List MemPlace} (hval : Value.okWide Tryd.prog w r b0 22 v) (hd : DataW.Trod enc Tryd.prog w base sp held 22 v d ps) :
    ∃ (A : Option Addr) (c : Nat) (t : List Nd), v = .slice A t.length c ∧ (dRow 4 A t.length c (encNs t)).φ w (fun k => k < w.heap.size) := by
  obtain ⟨A, len, cap, rfl⟩ := okWide_slice Tryd.underlying22 hval
  obtain ⟨fuel, hf⟩ := hd
  have hcn : Tryd.prog.cellsOf 32 = 4 := by kernel_rfl
  rcases Deep.open_slice Tryd.underlying22 hf with ⟨hcs, _⟩ | ⟨a, len', cap', m, n, D, Pl, hcs, _, hl, _, hm, _, hi⟩
  · simp [Value.cells] at hcs
    obtain ⟨rfl, rfl, rfl⟩ := hcs
    exact ⟨none, 0, [], rfl, Nat.le_refl _, rfl, fun h => absurd h (by simp)⟩
  · simp [Value.cells] at hcs
    obtain ⟨rfl, rfl, rfl⟩ := hcs
    have hmm : len ≤ m := by rw [hm]; split <;> omega
    have hnd : ∀ i, ∃ nd : Nd, i < len → w.cells? base (a.add (i * 4)) 4 = some (encN nd) := by
      intro i
      by_cases hil : i < len
      · obtain ⟨cs', hc, ht⟩ := hi i (by omega)
        obtain ⟨nd, rfl⟩ := node_cells ht
        rw [hcn] at hc
        exact ⟨nd, fun _ => hc⟩
      · exact ⟨ndz, fun h => absurd h hil⟩
    obtain ⟨f, hf'⟩ := Classical.axiomOfChoice hnd
    refine ⟨some a, cap, (List.range len).map f, by simp, ?_, ?_, fun hpos => ⟨a, rfl, ?_, ?_⟩⟩
    · simpa using hl
    · exact encNs_length _
    · have hp0 : 0 < len := by simpa using hpos
      obtain ⟨_, _, hat⟩ := World.cells?_some (hf' 0 hp0)
      have h0 := hat 0 (by omega)
      rw [add_of_add] at h0
      have := lt_of_cell (w := w) (p := a.add (0 * 4 + 0)) (by rw [h0]; rfl)
      rwa [block_of_add] at this
    · intro j u hu
      have hjl : j < len * 4 := by
        have h1 := (List.getElem?_eq_some_iff.1 hu).1
        rw [encNs_length] at h1
        simpa using h1
      have hi4 : j / 4 < len := by omega
      obtain ⟨_, hcl, hat⟩ := World.cells?_some (hf' (j / 4) hi4)
      have h1 := hat (j % 4) (by omega)
      rw [add_of_add, show j / 4 * 4 + j % 4 = j by omega] at h1
      rw [h1, ← hu]
      have h2 := enc_at encN_len ((List.range len).map f) (j / 4) (by simpa using hi4) ndz
      have h3 : (((List.range len).map f).getD (j / 4) ndz) = f (j / 4) := by simp [hi4]
      rw [h3] at h2
      have h4 : (encNs ((List.range len).map f))[j]? = (((((List.range len).map f).flatMap encN).drop (j / 4 * 4)).take 4)[j % 4]? := by
        rw [List.getElem?_take_of_lt (by omega), List.getElem?_drop, show j / 4 * 4 + j % 4 = j by omega]
        rfl
      rw [h4, h2]
end
end Go.Proofs.YtobgdeffhdefeaaDoor
/- An argument that is a byte. -/
namespace Go.Proofs.YtobgdeffhdefeaaDoor
set_option linter.unusedSimpArgs false
set_option linter.unusedVariables false
open Go Go.RowKit Go.WideShapes Go.ChangeShapes
section
variable {P : Program}
theorem okWide_byte {t : TypeId} {w : World} {r : Reach} {b0 : Nat} {v : Value} (ht : P.underlying t = some (.int .u8)) (h : Value.okWide P w r b0 t v) : ∃ b : Nat, v = .int .u8 (b : Int) ∧ b < 256 := by
  have h0 := h
  obtain ⟨n, rfl⟩ := okWide_int ht h
  simp only [Value.okWide, ht, Cell.okWide] at h0
  have h1 : IntKind.u8.has n := by simpa [Cell.ok, ht] using h0
  have h2 : (0 : Int) ≤ n ∧ n ≤ 255 := h1
  exact ⟨n.toNat, by rw [Int.toNat_of_nonneg h2.1], by omega⟩
end
set_option maxRecDepth 100000 in
theorem open_byte {w : World} {r : Reach} {b0 : Nat} {v : Value} (hval : Value.okWide Tryd.prog w r b0 5 v) : ∃ b : Nat, v = .int .u8 (b : Int) ∧ b < 256 := okWide_byte Tryd.underlying5 hval
end Go.Proofs.YtobgdeffhdefeaaDoor
