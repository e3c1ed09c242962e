import Derived.Test.YtcfponnkfhkbdaaDoorYxf
import Derived.Test.YtcfponnkfhkbdaaDoorCards
import Derived.Test.YtcfponnkfhkbdaaDoorTie
import Derived.ProofKit
import Derived.OpenShut
import Derived.ReadAgain
import Derived.Deep.DeepHandedRow
import Derived.Deep.Slices
import Derived.Lib.LaidTab
import Derived.Deep.DeepWitnessRowRef
/- Contracts of functions, one theorem each: what the call returns, and that nothing old is changed. Printed by gen.py. -/
namespace Go.Proofs.YtcfponnkfhkbdaaDoor
open Go Go.RowKit
set_option linter.unusedSimpArgs false
set_option linter.unusedVariables false
set_option maxRecDepth 100000 in
set_option maxHeartbeats 1000000 in
theorem unfoldKinds_calls (w0 : World) (Z : Nat → Prop) (hZ : ∀ k, Z k → k < w0.heap.size) (a : ByteArray) (b : ByteArray) (tA : Option Addr) (tc : Nat) (t : List Nd) (n : Nat) (hShp : Shapes w0 Z) (ht : (dRow 4 tA t.length tc (encNs t)).φ w0 Z) (hza : a.size ≤ 9223372036854775807 := by first | assumption | omega | (simp; done) | (simp; omega)) (hzb : b.size ≤ 9223372036854775807 := by first | assumption | omega | (simp; done) | (simp; omega)) (hn : n < 256 := by first | assumption | omega | (simp; done) | (simp; omega)) :
    Calls Tryd.prog 8 [.string a, .string b, .slice tA t.length tc, .int .u8 ((n : Nat) : Int)].toArray w0 (fun e w' => e = .returned (.bool (true)) ∧ Fr none_ w0 w') := by
 have b0 := s0 (M := none_) hZ (zc (d := dShapes) hShp (zc ht zn))
 refine c_enter Tryd.func8 rfl Tryd.ntmps8 rfl (fun c0 d0 => ?_)
 refine wsc (fun c0 f0 => ?_)
 refine asg d0 (fun c0 h0 => ?_)
 refine wpList_nil (x_then_n (f0 _ _ ?_))
 refine wp_seq_k (fun f0 c0 => ?_)
 refine wsc (fun f0 d0 => ?_)
 refine mv h0 (fun f0 i0 => ?_)
 have f0 := b0.nf
 refine k_call (xs := [.tmp 13]) se i0 rfl rfl rfl (by decide) ok10 (heavy14_calls _ _ f0.il _ _ _ (f0.g 1)) ?_
 rintro i0 b0 ⟨rfl, h0⟩
 have b0 := f0.below h0.below
 refine ⟨_, rfl, fun h0 f0 => ?_⟩
 refine mv f0 (fun h0 i0 => ?_)
 refine l_join (fun ga gw => Reg ga 96 [(0, .string a), (1, .string b), (2, .slice tA t.length tc), (3, .int .u8 ((n : Nat) : Int)), (8, .bool false), (19, .bool ((heavyB 120 t) || (!(nameOk a)))), (1000000, .bool false)] ∧ St w0 Z none_ gw [] [dShapes, dRow 4 tA t.length tc (encNs t)]) 4 ?_ ?_
 ·
  rcases Bool.eq_false_or_eq_true (heavyB 120 t) with h0 | h0
  ·
   have f0 := i0.setb (d := 15) (b := true) rfl h0
   refine sps f0 (wff f0) (fun j0 k0 => ?_)
   refine sps k0 (wff k0) (fun j0 f0 => ?_)
   refine sps f0 (wff f0) (fun j0 k0 => ?_)
   refine r_pick_t sv k0 rfl rfl rfl rfl (by decide) (fun j0 f0 => ?_)
   refine wpList_nil ?_
   exact x_then_n ⟨(f0.sub (rc rfl (rc rfl (rc rfl (rc rfl (rc rfl (rc (rb rfl (by first | rfl | (simp only [h0, bl]; done) | (simp [h0]; done) | (simp [h0]; omega))) (rc rfl rnl)))))))), b0⟩
  ·
   obtain ⟨hlt, hst⟩ := heavy_false h0
   obtain ⟨hlt, hst⟩ := heavy_false h0
   have f0 := i0.setb (d := 15) (b := false) rfl h0
   refine r_move (st_listV_w (wt f0)) f0 rfl rfl rfl (by decide) (fun i0 j0 => ?_)
   have i0 := b0.nf
   refine k_call (xs := [.tmp 16]) (st_list_w (wt j0)) j0 rfl rfl rfl (by decide) ok28 (rname_calls _ _ i0.il a (hs := (by assumption))) ?_
   rintro j0 b0 ⟨rfl, f0⟩
   have b0 := i0.below f0.below
   refine ⟨_, rfl, fun f0 i0 => ?_⟩
   refine r_not (st_listV_w (wt i0)) i0 rfl rfl rfl (by decide) (fun f0 j0 => ?_)
   refine r_pick_f sv j0 rfl rfl rfl rfl (by decide) (fun f0 i0 => ?_)
   refine wpList_nil ?_
   exact x_then_n ⟨(i0.sub (rc rfl (rc rfl (rc rfl (rc rfl (rc rfl (rc (rb rfl (by first | rfl | (simp only [h0, bl]; done) | (simp [h0]; done) | (simp [h0]; omega))) (rc rfl rnl)))))))), b0⟩
 rintro i0 b0 ⟨h0, f0⟩
 refine mv h0 (fun b0 i0 => ?_)
 refine l_join (fun ga gw => Reg ga 96 [(0, .string a), (1, .string b), (2, .slice tA t.length tc), (3, .int .u8 ((n : Nat) : Int)), (8, .bool false), (24, .bool (((heavyB 120 t) || (!(nameOk a))) || (!(nameOk b)))), (1000000, .bool false)] ∧ St w0 Z none_ gw [] [dShapes, dRow 4 tA t.length tc (encNs t)]) 4 ?_ ?_
 ·
  rcases Bool.eq_false_or_eq_true (((heavyB 120 t) || (!(nameOk a)))) with b0 | b0
  ·
   have h0 := b0
   try simp only [Bool.or_eq_true, Bool.and_eq_true, Bool.not_eq_true', Bool.not_eq_false', decide_eq_true_eq, decide_eq_false_iff_not, Bool.or_eq_false_iff, Bool.and_eq_false_iff] at h0
   have h0 := i0.setb (d := 20) (b := true) rfl b0
   refine sps h0 (wff h0) (fun j0 k0 => ?_)
   refine sps k0 (wff k0) (fun j0 h0 => ?_)
   refine sps h0 (wff h0) (fun j0 k0 => ?_)
   refine r_pick_t sv k0 rfl rfl rfl rfl (by decide) (fun j0 h0 => ?_)
   refine wpList_nil ?_
   exact x_then_n ⟨(h0.sub (rc rfl (rc rfl (rc rfl (rc rfl (rc rfl (rc (rb rfl (by first | rfl | (simp only [b0, bl]; done) | (simp [b0]; done) | (simp [b0]; omega))) (rc rfl rnl)))))))), f0⟩
  ·
   have h0 := or_fl b0
   obtain ⟨hlt, hst⟩ := heavy_false h0
   have h0 := or_fr b0
   have j0 := not_f h0
   have hna := j0
   have hsa := name_size hna
   have j0 := i0.setb (d := 20) (b := false) rfl b0
   refine r_move (st_listV_w (wt j0)) j0 rfl rfl rfl (by decide) (fun i0 h0 => ?_)
   have i0 := f0.nf
   refine k_call (xs := [.tmp 21]) (st_list_w (wt h0)) h0 rfl rfl rfl (by decide) ok28 (rname_calls _ _ i0.il b (hs := (by assumption))) ?_
   rintro h0 f0 ⟨rfl, j0⟩
   have f0 := i0.below j0.below
   refine ⟨_, rfl, fun j0 i0 => ?_⟩
   refine r_not (st_listV_w (wt i0)) i0 rfl rfl rfl (by decide) (fun j0 h0 => ?_)
   refine r_pick_f sv h0 rfl rfl rfl rfl (by decide) (fun j0 i0 => ?_)
   refine wpList_nil ?_
   exact x_then_n ⟨(i0.sub (rc rfl (rc rfl (rc rfl (rc rfl (rc rfl (rc (rb rfl (by first | rfl | (simp only [b0, bl]; done) | (simp [b0]; done) | (simp [b0]; omega))) (rc rfl rnl)))))))), f0⟩
 rintro i0 f0 ⟨b0, j0⟩
 refine mv b0 (fun f0 i0 => ?_)
 refine l_join (fun ga gw => Reg ga 96 [(0, .string a), (1, .string b), (2, .slice tA t.length tc), (3, .int .u8 ((n : Nat) : Int)), (8, .bool false), (29, .bool ((((heavyB 120 t) || (!(nameOk a))) || (!(nameOk b))) || (decide (a = b)))), (1000000, .bool false)] ∧ St w0 Z none_ gw [] [dShapes, dRow 4 tA t.length tc (encNs t)]) 4 ?_ ?_
 ·
  rcases Bool.eq_false_or_eq_true ((((heavyB 120 t) || (!(nameOk a))) || (!(nameOk b)))) with f0 | f0
  ·
   have b0 := f0
   try simp only [Bool.or_eq_true, Bool.and_eq_true, Bool.not_eq_true', Bool.not_eq_false', decide_eq_true_eq, decide_eq_false_iff_not, Bool.or_eq_false_iff, Bool.and_eq_false_iff] at b0
   have b0 := i0.setb (d := 25) (b := true) rfl f0
   refine sps b0 (wff b0) (fun h0 k0 => ?_)
   refine sps k0 (wff k0) (fun h0 b0 => ?_)
   refine sps b0 (wff b0) (fun h0 k0 => ?_)
   refine r_pick_t sv k0 rfl rfl rfl rfl (by decide) (fun h0 b0 => ?_)
   refine wpList_nil ?_
   exact x_then_n ⟨(b0.sub (rc rfl (rc rfl (rc rfl (rc rfl (rc rfl (rc (rb rfl (by first | rfl | (simp only [f0, bl]; done) | (simp [f0]; done) | (simp [f0]; omega))) (rc rfl rnl)))))))), j0⟩
  ·
   have b0 := or_fl f0
   have h0 := or_fl b0
   obtain ⟨hlt, hst⟩ := heavy_false h0
   have h0 := or_fr b0
   have b0 := not_f h0
   have hna := b0
   have hsa := name_size hna
   have b0 := or_fr f0
   have h0 := not_f b0
   have hnb := h0
   have hsb := name_size hnb
   have h0 := i0.setb (d := 25) (b := false) rfl f0
   refine r_move (st_listV_w (wt h0)) h0 rfl rfl rfl (by decide) (fun i0 b0 => ?_)
   refine r_move (st_listV_w (wt b0)) b0 rfl rfl rfl (by decide) (fun i0 h0 => ?_)
   refine r_eqlS (st_listV_w (wt h0)) h0 rfl rfl rfl rfl (by decide) (fun i0 b0 => ?_)
   refine r_pick_f sv b0 rfl rfl rfl rfl (by decide) (fun i0 h0 => ?_)
   refine wpList_nil ?_
   exact x_then_n ⟨(h0.sub (rc rfl (rc rfl (rc rfl (rc rfl (rc rfl (rc (rb rfl (by first | rfl | (simp only [f0, bl]; done) | (simp [f0]; done) | (simp [f0]; omega))) (rc rfl rnl)))))))), j0⟩
 rintro h0 f0 ⟨j0, i0⟩
 refine mv j0 (fun f0 h0 => ?_)
 refine l_join (fun ga gw => Reg ga 96 [(0, .string a), (1, .string b), (2, .slice tA t.length tc), (3, .int .u8 ((n : Nat) : Int)), (8, .bool false), (34, .bool (((((heavyB 120 t) || (!(nameOk a))) || (!(nameOk b))) || (decide (a = b))) || (!(decide (((chk t)) = 0))))), (1000000, .bool false)] ∧ St w0 Z none_ gw [] [dShapes, dRow 4 tA t.length tc (encNs t)]) 4 ?_ ?_
 ·
  rcases Bool.eq_false_or_eq_true (((((heavyB 120 t) || (!(nameOk a))) || (!(nameOk b))) || (decide (a = b)))) with f0 | f0
  ·
   have j0 := f0
   try simp only [Bool.or_eq_true, Bool.and_eq_true, Bool.not_eq_true', Bool.not_eq_false', decide_eq_true_eq, decide_eq_false_iff_not, Bool.or_eq_false_iff, Bool.and_eq_false_iff] at j0
   have j0 := h0.setb (d := 30) (b := true) rfl f0
   refine sps j0 (wff j0) (fun b0 k0 => ?_)
   refine sps k0 (wff k0) (fun b0 j0 => ?_)
   refine sps j0 (wff j0) (fun b0 k0 => ?_)
   refine r_pick_t sv k0 rfl rfl rfl rfl (by decide) (fun b0 j0 => ?_)
   refine wpList_nil ?_
   exact x_then_n ⟨(j0.sub (rc rfl (rc rfl (rc rfl (rc rfl (rc rfl (rc (rb rfl (by first | rfl | (simp only [f0, bl]; done) | (simp [f0]; done) | (simp [f0]; omega))) (rc rfl rnl)))))))), i0⟩
  ·
   have j0 := or_fl f0
   have b0 := or_fl j0
   have k0 := or_fl b0
   obtain ⟨hlt, hst⟩ := heavy_false k0
   have k0 := or_fr b0
   have b0 := not_f k0
   have hna := b0
   have hsa := name_size hna
   have b0 := or_fr j0
   have j0 := not_f b0
   have hnb := j0
   have hsb := name_size hnb
   have j0 := or_fr f0
   have b0 := of_decide_eq_false j0
   have hab := b0
   have b0 := h0.setb (d := 30) (b := false) rfl f0
   refine r_move (st_listV_w (wt b0)) b0 rfl rfl rfl (by decide) (fun h0 j0 => ?_)
   have h0 := i0.nf
   refine k_call (xs := [.tmp 31]) (st_list_w (wt j0)) j0 rfl rfl rfl (by decide) ok24 (rcheck_calls _ _ h0.il _ _ _ (h0.g 1)) ?_
   rintro j0 i0 ⟨rfl, b0⟩
   have i0 := h0.below b0.below
   refine ⟨_, rfl, fun b0 h0 => ?_⟩
   refine r_neq (st_listV_w (wt h0)) h0 rfl rfl rfl rfl (by decide) (fun b0 j0 => ?_)
   refine r_pick_f sv j0 rfl rfl rfl rfl (by decide) (fun b0 h0 => ?_)
   refine wpList_nil ?_
   exact x_then_n ⟨(h0.sub (rc rfl (rc rfl (rc rfl (rc rfl (rc rfl (rc (rb rfl (by first | rfl | (simp only [f0, bl]; done) | (simp [f0]; done) | (simp [f0]; omega))) (rc rfl rnl)))))))), i0⟩
 rintro h0 i0 ⟨f0, b0⟩
 refine mv f0 (fun i0 h0 => ?_)
 refine l_join (fun ga gw => Reg ga 96 [(0, .string a), (1, .string b), (2, .slice tA t.length tc), (3, .int .u8 ((n : Nat) : Int)), (8, .bool false), (39, .bool ((((((heavyB 120 t) || (!(nameOk a))) || (!(nameOk b))) || (decide (a = b))) || (!(decide (((chk t)) = 0)))) || (decide (50 < ((dpL t : Nat) : Int))))), (1000000, .bool false)] ∧ St w0 Z none_ gw [] [dShapes, dRow 4 tA t.length tc (encNs t)]) 4 ?_ ?_
 ·
  rcases Bool.eq_false_or_eq_true ((((((heavyB 120 t) || (!(nameOk a))) || (!(nameOk b))) || (decide (a = b))) || (!(decide (((chk t)) = 0))))) with i0 | i0
  ·
   have f0 := i0
   try simp only [Bool.or_eq_true, Bool.and_eq_true, Bool.not_eq_true', Bool.not_eq_false', decide_eq_true_eq, decide_eq_false_iff_not, Bool.or_eq_false_iff, Bool.and_eq_false_iff] at f0
   have f0 := h0.setb (d := 35) (b := true) rfl i0
   refine sps f0 (wff f0) (fun j0 k0 => ?_)
   refine sps k0 (wff k0) (fun j0 f0 => ?_)
   refine sps f0 (wff f0) (fun j0 k0 => ?_)
   refine r_pick_t sv k0 rfl rfl rfl rfl (by decide) (fun j0 f0 => ?_)
   refine wpList_nil ?_
   exact x_then_n ⟨(f0.sub (rc rfl (rc rfl (rc rfl (rc rfl (rc rfl (rc (rb rfl (by first | rfl | (simp only [i0, bl]; done) | (simp [i0]; done) | (simp [i0]; omega))) (rc rfl rnl)))))))), b0⟩
  ·
   have f0 := or_fl i0
   have j0 := or_fl f0
   have k0 := or_fl j0
   have m0 := or_fl k0
   obtain ⟨hlt, hst⟩ := heavy_false m0
   have m0 := or_fr k0
   have k0 := not_f m0
   have hna := k0
   have hsa := name_size hna
   have k0 := or_fr j0
   have j0 := not_f k0
   have hnb := j0
   have hsb := name_size hnb
   have j0 := or_fr f0
   have f0 := of_decide_eq_false j0
   have hab := f0
   have f0 := or_fr i0
   have j0 := not_f f0
   have f0 := of_decide_eq_true j0
   have hct := f0
   have hmt := meas_chk hct
   have hpt := chk_pos hct
   have f0 := h0.setb (d := 35) (b := false) rfl i0
   refine r_move (st_listV_w (wt f0)) f0 rfl rfl rfl (by decide) (fun h0 j0 => ?_)
   have h0 := b0.nf
   refine k_call (xs := [.tmp 36]) (st_list_w (wt j0)) j0 rfl rfl rfl (by decide) ok25 (rdeep_calls _ _ h0.il _ _ _ (h0.g 1) (hl := (by omega)) (hsm := hst) (hb := hmt)) ?_
   rintro j0 b0 ⟨rfl, f0⟩
   have b0 := h0.below f0.below
   refine ⟨_, rfl, fun f0 h0 => ?_⟩
   refine r_gtr (st_listV_w (wt h0)) h0 rfl rfl rfl rfl (by decide) (fun f0 j0 => ?_)
   refine r_pick_f sv j0 rfl rfl rfl rfl (by decide) (fun f0 h0 => ?_)
   refine wpList_nil ?_
   exact x_then_n ⟨(h0.sub (rc rfl (rc rfl (rc rfl (rc rfl (rc rfl (rc (rb rfl (by first | rfl | (simp only [i0, bl]; done) | (simp [i0]; done) | (simp [i0]; omega))) (rc rfl rnl)))))))), b0⟩
 rintro h0 b0 ⟨i0, f0⟩
 refine mv i0 (fun b0 h0 => ?_)
 refine l_join (fun ga gw => Reg ga 96 [(0, .string a), (1, .string b), (2, .slice tA t.length tc), (3, .int .u8 ((n : Nat) : Int)), (8, .bool false), (43, .bool (((((((heavyB 120 t) || (!(nameOk a))) || (!(nameOk b))) || (decide (a = b))) || (!(decide (((chk t)) = 0)))) || (decide (50 < ((dpL t : Nat) : Int)))) || (!true))), (1000000, .bool false)] ∧ St w0 Z none_ gw [] [dShapes, dRow 4 tA t.length tc (encNs t)]) 3 ?_ ?_
 ·
  rcases Bool.eq_false_or_eq_true (((((((heavyB 120 t) || (!(nameOk a))) || (!(nameOk b))) || (decide (a = b))) || (!(decide (((chk t)) = 0)))) || (decide (50 < ((dpL t : Nat) : Int))))) with b0 | b0
  ·
   have i0 := b0
   try simp only [Bool.or_eq_true, Bool.and_eq_true, Bool.not_eq_true', Bool.not_eq_false', decide_eq_true_eq, decide_eq_false_iff_not, Bool.or_eq_false_iff, Bool.and_eq_false_iff] at i0
   have i0 := h0.setb (d := 40) (b := true) rfl b0
   refine sps i0 (wff i0) (fun j0 k0 => ?_)
   refine sps k0 (wff k0) (fun j0 i0 => ?_)
   refine r_pick_t sv i0 rfl rfl rfl rfl (by decide) (fun j0 k0 => ?_)
   refine wpList_nil ?_
   exact x_then_n ⟨(k0.sub (rc rfl (rc rfl (rc rfl (rc rfl (rc rfl (rc (rb rfl (by first | rfl | (simp only [b0, bl]; done) | (simp [b0]; done) | (simp [b0]; omega))) (rc rfl rnl)))))))), f0⟩
  ·
   have k0 := or_fl b0
   have j0 := or_fl k0
   have i0 := or_fl j0
   have m0 := or_fl i0
   have n0 := or_fl m0
   obtain ⟨hlt, hst⟩ := heavy_false n0
   have n0 := or_fr m0
   have m0 := not_f n0
   have hna := m0
   have hsa := name_size hna
   have m0 := or_fr i0
   have i0 := not_f m0
   have hnb := i0
   have hsb := name_size hnb
   have i0 := or_fr j0
   have j0 := of_decide_eq_false i0
   have hab := j0
   have j0 := or_fr k0
   have k0 := not_f j0
   have j0 := of_decide_eq_true k0
   have hct := j0
   have hmt := meas_chk hct
   have hpt := chk_pos hct
   have j0 := or_fr b0
   have k0 := of_decide_eq_false j0
   obtain ⟨k0, j0, i0, m0⟩ := kd_f (m := n % 4) (b := b) (Nat.mod_lt _ (by decide)) hct (by omega) (by omega) hna
   have n0 := h0.setb (d := 40) (b := false) rfl b0
   have h0 := f0.nf
   refine k_call (xs := []) (st_list_w (wt n0)) n0 rfl rfl rfl (by decide) ok12 (shown14_calls _ _ h0.il (h0.g 0)) ?_
   rintro n0 f0 ⟨rfl, o0⟩
   have f0 := h0.below o0.below
   refine ⟨_, rfl, fun o0 h0 => ?_⟩
   refine r_not (st_listV_w (wt h0)) h0 rfl rfl rfl (by decide) (fun o0 n0 => ?_)
   refine r_pick_f sv n0 rfl rfl rfl rfl (by decide) (fun o0 h0 => ?_)
   refine wpList_nil ?_
   exact x_then_n ⟨(h0.sub (rc rfl (rc rfl (rc rfl (rc rfl (rc rfl (rc (rb rfl (by first | rfl | (simp only [b0, bl]; done) | (simp [b0]; done) | (simp [b0]; omega))) (rc rfl rnl)))))))), f0⟩
 rintro h0 f0 ⟨b0, o0⟩
 refine wpList_nil (x_then_n (d0 _ _ ?_))
 rcases Bool.eq_false_or_eq_true ((((((((heavyB 120 t) || (!(nameOk a))) || (!(nameOk b))) || (decide (a = b))) || (!(decide (((chk t)) = 0)))) || (decide (50 < ((dpL t : Nat) : Int)))) || (!true))) with d0 | d0
 ·
  have f0 := d0
  try simp only [Bool.or_eq_true, Bool.and_eq_true, Bool.not_eq_true', Bool.not_eq_false', decide_eq_true_eq, decide_eq_false_iff_not, Bool.or_eq_false_iff, Bool.and_eq_false_iff] at f0
  have f0 := b0.setb (d := 43) (b := true) rfl d0
  refine wp_cond_true (f0.ev rfl) ?_
  refine wsc (fun h0 n0 => ?_)
  have h0 := o0.nf
  refine k_call (xs := []) se f0 rfl rfl rfl (by decide) ok12 (shown14_calls _ _ h0.il (h0.g 0)) ?_
  rintro f0 p0 ⟨rfl, t0⟩
  have p0 := h0.below t0.below
  refine ⟨_, rfl, fun t0 h0 => ?_⟩
  refine asg h0 (fun t0 f0 => ?_)
  refine wpList_nil (x_then_n (n0 _ _ ?_))
  refine wp_ret ?_
  refine x_then_r ?_
  refine e_ret1 f0 rfl rfl rfl ?_
  refine ⟨?_, p0.fr⟩
  exact congrArg Ending.returned (ret_b (by first | rfl | omega | assumption | exact decide_eq_true (by assumption) | (have p0 := d0; (try simp at p0);  omega) | (simp [d0]; done) | (simp [] at *; done) | (simp [d0] <;> omega) | (rw [Bool.eq_iff_iff]; simp [d0] <;> omega) | (rw [Bool.eq_iff_iff]; simp [d0] at * <;> omega)))
 ·
  have f0 := or_fl d0
  have n0 := or_fl f0
  have t0 := or_fl n0
  have h0 := or_fl t0
  have u0 := or_fl h0
  have v0 := or_fl u0
  obtain ⟨hlt, hst⟩ := heavy_false v0
  have x0 := or_fr u0
  have u0 := not_f x0
  have hna := u0
  have hsa := name_size hna
  have x0 := or_fr h0
  have h0 := not_f x0
  have hnb := h0
  have hsb := name_size hnb
  have x0 := or_fr t0
  have t0 := of_decide_eq_false x0
  have hab := t0
  have x0 := or_fr n0
  have n0 := not_f x0
  have x0 := of_decide_eq_true n0
  have hct := x0
  have hmt := meas_chk hct
  have hpt := chk_pos hct
  have n0 := or_fr f0
  have f0 := of_decide_eq_false n0
  obtain ⟨k0, j0, i0, m0⟩ := kd_f (m := n % 4) (b := b) (Nat.mod_lt _ (by decide)) hct (by omega) (by omega) hna
  have n0 := or_fr d0
  have y0 := not_f n0
  have n0 := b0.setb (d := 43) (b := false) rfl d0
  refine wp_cond_false (n0.ev rfl) ?_
  refine wp_skip ?_
  refine x_then_n (c0 _ _ ?_)
  refine wsc (fun c0 b0 => ?_)
  refine mv n0 (fun c0 z0 => ?_)
  refine m_build (ps := [(0, .const (.int .i64 25)), (3, .tmp 45)]) (v := .agg #[.int .i64 25, .int .i64 0, .int .i64 0, .string a]) sv z0 rfl rfl rfl (fun _ => by kernel_rfl) (by decide) (fun c0 n0 => ?_)
  refine mbs [(0, .tmp 46)] [.int .i64 25, .int .i64 0, .int .i64 0, .string a] sv n0 o0 Tryd.underlying22 zi39 (fun c0 z0 b1 c1 d1 => ?_)
  refine asg c1 (fun z0 c0 => ?_)
  refine wpList_nil (x_then_n (b0 _ _ ?_))
  refine wsc (fun b0 z0 => ?_)
  refine mv c0 (fun b0 c1 => ?_)
  refine mv c1 (fun b0 c0 => ?_)
  have b0 := own_cap (d1.res (i := 0) rfl)
  obtain ⟨c1, n0⟩ := d1.row_data (i := 0) rfl (fun _ h => h)
  have d1 := c1.data (dRow 4 (some ⟨b1, 0, none⟩) 1 1 (encNs ([(⟨25, 0, 0, a⟩ : Nd)]))) ⟨b0, n0⟩
  have n0 := d1.data (dAll [((tA, tc, t) : Sl), (((some ⟨b1, 0, none⟩), 1, [(⟨25, 0, 0, a⟩ : Nd)]) : Sl)]) (all_cons (d1.get (i := 1) rfl) (all_cons (d1.get (i := 2) rfl) all_nil))
  refine mbs [(0, .tmp 48), (1, .tmp 49)] [.slice tA t.length tc, .slice (some ⟨b1, 0, none⟩) 1 1] sv c0 n0 Tryd.underlying42 zi22 (fun d1 c1 b0 o0 f1 => ?_)
  refine asg o0 (fun c1 d1 => ?_)
  refine wpList_nil (x_then_n (z0 _ _ ?_))
  refine wsc (fun z0 c1 => ?_)
  refine mv d1 (fun z0 o0 => ?_)
  refine r_conv sv o0 rfl rfl rfl Tryd.underlying5 Tryd.underlying3 (by decide) (by omega) (by omega) (fun z0 d1 => ?_)
  refine r_rem (z := (((n) % 4 : Nat) : Int)) sv d1 rfl rfl rfl rfl (by decide) (tmod_nat (n) 4) (by decide) (fun z0 o0 => ?_)
  refine m_build (ps := [(0, .const (.int .i64 3)), (1, .tmp 53)]) (v := .agg #[.int .i64 3, .int .i64 (((n) % 4 : Nat) : Int), .int .i64 0, .string (⟨#[]⟩ : ByteArray)]) sv o0 rfl rfl rfl (fun _ => by kernel_rfl) (by decide) (fun z0 d1 => ?_)
  refine mv d1 (fun z0 o0 => ?_)
  have z0 := f1.nf
  have f1 := own_cap (z0.res (i := 0) rfl)
  obtain ⟨d1, n0⟩ := z0.row_data (i := 0) rfl (fun _ h => h)
  have z0 := d1.data (dRow 1 (some ⟨b0, 0, none⟩) 2 2 (encSs ([((tA, tc, t) : Sl), (((some ⟨b1, 0, none⟩), 1, [(⟨25, 0, 0, a⟩ : Nd)]) : Sl)]))) ⟨f1, n0⟩
  refine k_call (xs := [.tmp 54, .tmp 55]) se o0 rfl rfl rfl (by decide) ok26 (rof_calls _ _ z0.il (⟨3, (((n) % 4 : Nat) : Int), 0, (⟨#[]⟩ : ByteArray)⟩ : Nd) _ _ ([((tA, tc, t) : Sl), (((some ⟨b1, 0, none⟩), 1, [(⟨25, 0, 0, a⟩ : Nd)]) : Sl)]) (z0.g 4) (z0.g 3) (hl := (by simp)) (hb := (by simp [lsts]; omega))) ?_
  rintro o0 n0 ⟨d1, f1, rfl, b0, c0⟩
  have f1 := z0.below b0.below
  have b0 := z0.dN f1 c0
  refine ⟨_, rfl, fun f1 c0 => ?_⟩
  refine asg c0 (fun f1 z0 => ?_)
  refine wpList_nil (x_then_n (c1 _ _ ?_))
  refine wsc (fun c1 f1 => ?_)
  refine mv z0 (fun c1 c0 => ?_)
  refine r_conv sv c0 rfl rfl rfl Tryd.underlying5 Tryd.underlying3 (by decide) (by omega) (by omega) (fun c1 z0 => ?_)
  refine r_rem (z := (((n) % 4 : Nat) : Int)) sv z0 rfl rfl rfl rfl (by decide) (tmod_nat (n) 4) (by decide) (fun c1 c0 => ?_)
  refine m_build (ps := [(0, .const (.int .i64 6)), (1, .tmp 59)]) (v := .agg #[.int .i64 6, .int .i64 (((n) % 4 : Nat) : Int), .int .i64 0, .string (⟨#[]⟩ : ByteArray)]) sv c0 rfl rfl rfl (fun _ => by kernel_rfl) (by decide) (fun c1 z0 => ?_)
  refine mv z0 (fun c1 c0 => ?_)
  have c1 := b0.nf
  refine k_call (xs := [.tmp 60, .tmp 61]) se c0 rfl rfl rfl (by decide) ok26 (rof_calls _ _ c1.il (⟨6, (((n) % 4 : Nat) : Int), 0, (⟨#[]⟩ : ByteArray)⟩ : Nd) _ _ ([((tA, tc, t) : Sl), (((some ⟨b1, 0, none⟩), 1, [(⟨25, 0, 0, a⟩ : Nd)]) : Sl)]) (c1.g 4) (c1.g 3) (hl := (by simp)) (hb := (by simp [lsts]; omega))) ?_
  rintro c0 b0 ⟨z0, d1, rfl, n0, o0⟩
  have d1 := c1.below n0.below
  have n0 := c1.dN d1 o0
  refine ⟨_, rfl, fun d1 o0 => ?_⟩
  refine asg o0 (fun d1 c1 => ?_)
  refine wpList_nil (x_then_n (f1 _ _ ?_))
  refine wsc (fun f1 d1 => ?_)
  refine mv c1 (fun f1 o0 => ?_)
  refine mv o0 (fun f1 c1 => ?_)
  have f1 := n0.nf
  refine k_call (xs := [.tmp 63, .tmp 64]) se c1 rfl rfl rfl (by decide) ok19 (ukind_calls _ _ f1.il a _ _ ([(⟨25, 0, 0, a⟩ : Nd)]) (f1.get (i := 0) rfl) (f1.get (i := 2) rfl) (hsm := (by first | exact own_sml hsa | exact ofX_sml hst hsa)) (hl := (by first | (simp; done) | (simp [lsts]; omega)))) ?_
  rintro c1 n0 ⟨rfl, o0⟩
  have n0 := f1.below o0.below
  refine ⟨_, rfl, fun o0 f1 => ?_⟩
  refine r_eql sv f1 rfl rfl rfl rfl (by decide) (fun o0 c1 => ?_)
  refine mv c1 (fun o0 f1 => ?_)
  have o0 : ((kdA a ([(⟨25, 0, 0, a⟩ : Nd)]))) = 1 := kd_own hna
  have c1 := f1.setb (d := 67) (b := true) rfl (decide_eq_true o0)
  refine r_move (st_listV_w (wt c1)) c1 rfl rfl rfl (by decide) (fun f1 z0 => ?_)
  refine r_move (st_listV_w (wt z0)) z0 rfl rfl rfl (by decide) (fun f1 c1 => ?_)
  have f1 := n0.nf
  refine k_call (xs := [.tmp 68, .tmp 69]) (st_list_w (wt c1)) c1 rfl rfl rfl (by decide) ok19 (ukind_calls _ _ f1.il b _ _ ([(⟨25, 0, 0, a⟩ : Nd)]) (f1.get (i := 0) rfl) (f1.get (i := 2) rfl) (hsm := (by first | exact own_sml hsa | exact ofX_sml hst hsa)) (hl := (by first | (simp; done) | (simp [lsts]; omega)))) ?_
  rintro c1 n0 ⟨rfl, z0⟩
  have n0 := f1.below z0.below
  refine ⟨_, rfl, fun z0 f1 => ?_⟩
  refine r_eql (st_listV_w (wt f1)) f1 rfl rfl rfl rfl (by decide) (fun z0 c1 => ?_)
  refine r_pick_t sv c1 rfl rfl rfl rfl (by decide) (fun z0 f1 => ?_)
  refine mv f1 (fun z0 c1 => ?_)
  have z0 : ((kdA b ([(⟨25, 0, 0, a⟩ : Nd)]))) = 0 := kd_other hab
  have f1 := c1.setb (d := 73) (b := true) rfl (decide_eq_true z0)
  refine r_move (st_listV_w (wt f1)) f1 rfl rfl rfl (by decide) (fun c1 b0 => ?_)
  refine r_move (st_listV_w (wt b0)) b0 rfl rfl rfl (by decide) (fun c1 f1 => ?_)
  have c1 := n0.nf
  refine k_call (xs := [.tmp 74, .tmp 75]) (st_list_w (wt f1)) f1 rfl rfl rfl (by decide) ok19 (ukind_calls _ _ c1.il a _ _ ((lsts ([((tA, tc, t) : Sl), (((some ⟨b1, 0, none⟩), 1, [(⟨25, 0, 0, a⟩ : Nd)]) : Sl)])).flatten ++ [(⟨3, (((n) % 4 : Nat) : Int), 0, (⟨#[]⟩ : ByteArray)⟩ : Nd)]) (c1.get (i := 0) rfl) (c1.get (i := 5) rfl) (hsm := (by first | exact own_sml hsa | exact ofX_sml hst hsa)) (hl := (by first | (simp; done) | (simp [lsts]; omega)))) ?_
  rintro f1 n0 ⟨rfl, b0⟩
  have n0 := c1.below b0.below
  refine ⟨_, rfl, fun b0 c1 => ?_⟩
  refine r_eql (st_listV_w (wt c1)) c1 rfl rfl rfl rfl (by decide) (fun b0 f1 => ?_)
  refine r_pick_t sv f1 rfl rfl rfl rfl (by decide) (fun b0 c1 => ?_)
  refine mv c1 (fun b0 f1 => ?_)
  have b0 : ((kdA a ((lsts ([((tA, tc, t) : Sl), (((some ⟨b1, 0, none⟩), 1, [(⟨25, 0, 0, a⟩ : Nd)]) : Sl)])).flatten ++ [(⟨3, (((n) % 4 : Nat) : Int), 0, (⟨#[]⟩ : ByteArray)⟩ : Nd)]))) = 2 := k0
  have k0 := f1.setb (d := 79) (b := true) rfl (decide_eq_true b0)
  refine r_move (st_listV_w (wt k0)) k0 rfl rfl rfl (by decide) (fun f1 c1 => ?_)
  refine r_move (st_listV_w (wt c1)) c1 rfl rfl rfl (by decide) (fun f1 k0 => ?_)
  have f1 := n0.nf
  refine k_call (xs := [.tmp 80, .tmp 81]) (st_list_w (wt k0)) k0 rfl rfl rfl (by decide) ok19 (ukind_calls _ _ f1.il b _ _ ((lsts ([((tA, tc, t) : Sl), (((some ⟨b1, 0, none⟩), 1, [(⟨25, 0, 0, a⟩ : Nd)]) : Sl)])).flatten ++ [(⟨3, (((n) % 4 : Nat) : Int), 0, (⟨#[]⟩ : ByteArray)⟩ : Nd)]) (f1.get (i := 0) rfl) (f1.get (i := 5) rfl) (hsm := (by first | exact own_sml hsa | exact ofX_sml hst hsa)) (hl := (by first | (simp; done) | (simp [lsts]; omega)))) ?_
  rintro k0 n0 ⟨rfl, c1⟩
  have n0 := f1.below c1.below
  refine ⟨_, rfl, fun c1 f1 => ?_⟩
  refine r_eql (st_listV_w (wt f1)) f1 rfl rfl rfl rfl (by decide) (fun c1 k0 => ?_)
  refine r_pick_t sv k0 rfl rfl rfl rfl (by decide) (fun c1 f1 => ?_)
  refine mv f1 (fun c1 k0 => ?_)
  have c1 : ((kdA b ((lsts ([((tA, tc, t) : Sl), (((some ⟨b1, 0, none⟩), 1, [(⟨25, 0, 0, a⟩ : Nd)]) : Sl)])).flatten ++ [(⟨3, (((n) % 4 : Nat) : Int), 0, (⟨#[]⟩ : ByteArray)⟩ : Nd)]))) = 0 := j0 hab
  have j0 := k0.setb (d := 85) (b := true) rfl (decide_eq_true c1)
  refine r_move (st_listV_w (wt j0)) j0 rfl rfl rfl (by decide) (fun k0 f1 => ?_)
  refine r_move (st_listV_w (wt f1)) f1 rfl rfl rfl (by decide) (fun k0 j0 => ?_)
  have k0 := n0.nf
  refine k_call (xs := [.tmp 86, .tmp 87]) (st_list_w (wt j0)) j0 rfl rfl rfl (by decide) ok19 (ukind_calls _ _ k0.il a _ _ ((lsts ([((tA, tc, t) : Sl), (((some ⟨b1, 0, none⟩), 1, [(⟨25, 0, 0, a⟩ : Nd)]) : Sl)])).flatten ++ [(⟨6, (((n) % 4 : Nat) : Int), 0, (⟨#[]⟩ : ByteArray)⟩ : Nd)]) (k0.get (i := 0) rfl) (k0.get (i := 6) rfl) (hsm := (by first | exact own_sml hsa | exact ofX_sml hst hsa)) (hl := (by first | (simp; done) | (simp [lsts]; omega)))) ?_
  rintro j0 n0 ⟨rfl, f1⟩
  have n0 := k0.below f1.below
  refine ⟨_, rfl, fun f1 k0 => ?_⟩
  refine r_eql (st_listV_w (wt k0)) k0 rfl rfl rfl rfl (by decide) (fun f1 j0 => ?_)
  refine r_pick_t sv j0 rfl rfl rfl rfl (by decide) (fun f1 k0 => ?_)
  refine mv k0 (fun f1 j0 => ?_)
  have f1 : ((kdA a ((lsts ([((tA, tc, t) : Sl), (((some ⟨b1, 0, none⟩), 1, [(⟨25, 0, 0, a⟩ : Nd)]) : Sl)])).flatten ++ [(⟨6, (((n) % 4 : Nat) : Int), 0, (⟨#[]⟩ : ByteArray)⟩ : Nd)]))) = 0 := i0
  have i0 := j0.setb (d := 91) (b := true) rfl (decide_eq_true f1)
  refine r_move (st_listV_w (wt i0)) i0 rfl rfl rfl (by decide) (fun j0 k0 => ?_)
  have j0 := n0.nf
  refine k_call (xs := [.tmp 92]) (st_list_w (wt k0)) k0 rfl rfl rfl (by decide) ok17 (uTarget_calls _ _ j0.il _ _ ((lsts ([((tA, tc, t) : Sl), (((some ⟨b1, 0, none⟩), 1, [(⟨25, 0, 0, a⟩ : Nd)]) : Sl)])).flatten ++ [(⟨3, (((n) % 4 : Nat) : Int), 0, (⟨#[]⟩ : ByteArray)⟩ : Nd)]) (j0.g 0) (j0.g 5) (hsm := (ofX_sml hst hsa)) (hl := (by simp [lsts]; omega))) ?_
  rintro k0 n0 ⟨rfl, i0⟩
  have n0 := j0.below i0.below
  refine ⟨_, rfl, fun i0 j0 => ?_⟩
  refine r_eql (st_listV_w (wt j0)) j0 rfl rfl rfl rfl (by decide) (fun i0 k0 => ?_)
  refine r_pick_t sv k0 rfl rfl rfl rfl (by decide) (fun i0 j0 => ?_)
  refine asg j0 (fun i0 k0 => ?_)
  refine wpList_nil (x_then_n (d1 _ _ ?_))
  refine wp_ret ?_
  refine e_ret1 k0 rfl rfl rfl ?_
  have k0 : ((tgA ((lsts ([((tA, tc, t) : Sl), (((some ⟨b1, 0, none⟩), 1, [(⟨25, 0, 0, a⟩ : Nd)]) : Sl)])).flatten ++ [(⟨3, (((n) % 4 : Nat) : Int), 0, (⟨#[]⟩ : ByteArray)⟩ : Nd)]))) = (-1) := m0
  refine ⟨?_, n0.fr⟩
  exact congrArg Ending.returned (ret_b (by first | rfl | omega | assumption | exact decide_eq_true (by assumption) | (have p0 := d0; (try simp at p0); have n0 := v0; (try simp at n0); have b1 := u0; (try simp at b1); have m0 := h0; (try simp at m0); have d1 := t0; (try simp at d1); have i0 := x0; (try simp at i0); have j0 := f0; (try simp at j0); have c0 := y0; (try simp at c0); have h1 := o0; (try simp at h1); have i1 := z0; (try simp at i1); have j1 := b0; (try simp at j1); have k1 := c1; (try simp at k1); have m1 := f1; (try simp at m1); have n1 := k0; (try simp at n1);  omega) | (simp [d0, v0, u0, h0, t0, x0, f0, y0, o0, z0, b0, c1, f1, k0]; done) | (simp [] at *; done) | (simp [d0, v0, u0, h0, t0, x0, f0, y0, o0, z0, b0, c1, f1, k0] <;> omega) | (rw [Bool.eq_iff_iff]; simp [d0, v0, u0, h0, t0, x0, f0, y0, o0, z0, b0, c1, f1, k0] <;> omega) | (rw [Bool.eq_iff_iff]; simp [d0, v0, u0, h0, t0, x0, f0, y0, o0, z0, b0, c1, f1, k0] at * <;> omega)))
end Go.Proofs.YtcfponnkfhkbdaaDoor
/- From a row's reading to cells, and back: slices of nodes, the table of shapes, arguments that nobody changed. -/
namespace Go.Proofs.YtcfponnkfhkbdaaDoor
set_option linter.unusedSimpArgs false
set_option linter.unusedVariables false
open Go Go.RowKit Go.WideShapes Go.ChangeShapes
theorem kids : Kids Tryd.prog (· < Tryd.prog.types.size) := kids_rows (by kernel_rfl) (by kernel_rfl)
theorem slicesFull : ∀ t e, t < Tryd.prog.types.size → Tryd.prog.underlying t = some (.slice e) → 0 < Tryd.prog.cellsOf e := slices_full_of Tryd.prog (by kernel_rfl)
theorem ownKnobNone : ownKnob Tryd.prog.godebug = none := by kernel_rfl
section
variable {H : Type} {enc : TypeId × Value → H} {P : Program} {w W W' : World}
theorem trodAll_carry {base : Nat} {sp : Nat → Bool} {held : Bool} : ∀ {ts : List TypeId} {vs : List Value} {ds : List (DataW H)} {ps : List MemPlace},
  DataW.TrodAll enc P W base sp held ts vs ds ps → (∀ p ∈ ps, W.sameAt W' p) → DataW.TrodAll enc P W' base sp held ts vs ds ps
 | [], [], [], _, h, _ => h
 | _ :: _, _ :: _, _ :: _, _, ⟨p, q, ⟨n, h1⟩, h2, e⟩, hs =>
  ⟨p, q, ⟨n, DataW.trod_carry n _ _ _ h1 (fun x hx => hs x (by rw [e]; exact List.mem_append_left _ hx))⟩,
   trodAll_carry h2 (fun x hx => hs x (by rw [e]; exact List.mem_append_right _ hx)), e⟩
 | [], [], _ :: _, _, h, _ => h.elim
 | [], _ :: _, _, _, h, _ => h.elim
 | _ :: _, [], _, _, h, _ => h.elim
 | _ :: _, _ :: _, [], _, h, _ => h.elim
theorem sameAt_below (hb : Below W.heap.size W W') {p : MemPlace} (hp : p.block < W.heap.size) : W.sameAt W' p := by
 cases p with
 | cell b off => exact hb.cell (p := ⟨b, off, none⟩) hp
 | map b => exact hb.block b hp
theorem post_true {f : Func} {s : ChangeSpec} {apart fresh handsOn again : Bool} {args : Array Value} {ds : List (DataW H)} {before : List MemPlace}
  (K : Kids P (· < P.types.size)) (hz : ∀ t e, t < P.types.size → P.underlying t = some (.slice e) → 0 < P.cellsOf e) (hts : ∀ t ∈ f.params.toList, t < P.types.size)
  (hvars : s.vars = []) (hW : DataW.Whole enc P f.params.toList s.vars apart W args.toList ds [] before)
  {tb : TypeId} (hrt : f.resultTypes = #[tb]) (htb : P.underlying tb = some .bool)
  (hfn : (s.fn H ds).results = [.lit (.bool true)] ∧ (s.fn H ds).args = ds ∧ (s.fn H ds).vars = []) (hb : Below W.heap.size W W') :
  s.post enc P f apart fresh handsOn again W args (.bool true) W' := by
 have hlt : ∀ p ∈ before, p.block < W.heap.size := fun p hp => hW.lt p hp
 have hold : ∀ p ∈ before, (fun b => decide (b < W.heap.size)) p.block = true := fun p hp => by simpa using hlt p hp
 have hW0 := hW
 obtain ⟨p, q, hA, hV, he, hzf, hn⟩ := hW0
 rw [hvars] at hV
 have hq : q = [] := hV
 subst hq
 rw [List.append_nil] at he
 subst he
 have hA' := trodAll_carry (W' := W') hA (fun x hx => sameAt_below hb (hlt x hx))
 have hres : ∀ (b : Nat) (sp : Nat → Bool) (hd : Bool), DataW.TrodAll enc P W' b sp hd f.resultTypes.toList ((Value.bool true).resultList f.resultTypes.size) (s.fn H ds).results [] := fun b sp hd => by
  rw [hfn.1, hrt]
  exact trodAll_mk1 (shut_bool htb true)
 refine ⟨ds, [], before, [], before, [], hW, ?_, ?_, ?_, World.keptBut_mono (fun p hp => ⟨hp, .inr (.inl hp)⟩) (hb.frame (· ∈ before)), fun _ => ⟨?_, ?_⟩⟩
 · rw [List.append_nil]; exact hres _ _ _
 ·
  rw [List.append_nil, hfn.2.1]
  exact DataW.TrodAll.respare K hz hts hA' hold
 ·
  rw [List.append_nil, hfn.2.2, hvars]
  exact rfl
 · exact ok_one hrt rfl (okWide_bool_mk htb true)
 ·
  refine ⟨[.lit (.bool true)] ++ ds, [], [] ++ before, ⟨[] ++ before, [], ?_, ?_, by simp, ?_, ?_⟩, ?_⟩
  ·
   rw [hrt]
   exact trodAll_append hA' (trodAll_mk1 (shut_bool htb true))
  ·
   rw [hvars]
   exact rfl
  ·
   intro b off hp
   have hin : MemPlace.cell b off ∈ before := by simpa using hp
   rw [hb.frozen (hlt _ hin)]
   exact hzf b off hin
  ·
   intro ha
   simpa using hn ha
  ·
   intro x hx _
   simpa using hx
end
section
variable {H : Type} {enc : TypeId × Value → H} {w : World}
theorem lt_of_cell {p : Addr} {v : Value} (h : w.cell? p = some v) : p.block < w.heap.size := by
 unfold World.cell? at h
 cases ho : w.heap[p.block]? with
 | none => simp [ho] at h
 | some o => exact (Array.getElem?_eq_some_iff.1 ho).1
set_option maxRecDepth 100000 in
theorem node_cells {base : Nat} {sp : Nat → Bool} {held : Bool} {n : Nat} {cs : List Value} {x : DataW H × List MemPlace} (h : DataW.trod enc Tryd.prog w base sp held n 39 cs = some x) : ∃ nd : Nd, cs = encN nd := by
 have hu : Tryd.prog.underlying 39 = some (.struct (Tryd.prog.fieldsOf 39)) := by kernel_rfl
 have hf : (Tryd.prog.fieldsOf 39).toList.map (fun f => (f.type, f.offset)) = [(3, 0), (3, 1), (3, 2), (9, 3)] := by kernel_rfl
 have hci : Tryd.prog.cellsOf 3 = 1 := by kernel_rfl
 have hcs : Tryd.prog.cellsOf 9 = 1 := by kernel_rfl
 have hcn : Tryd.prog.cellsOf 39 = 4 := by kernel_rfl
 obtain ⟨xs, m, _, _, hl, _, hg⟩ := DataW.trod_struct hu h
 rw [hcn] at hl
 have fld : ∀ (j : Nat) (t : TypeId) (off : Nat), ((Tryd.prog.fieldsOf 39).toList.map (fun f => (f.type, f.offset)))[j]? = some (t, off) → ∃ y, DataW.trod enc Tryd.prog w base sp held m t ((cs.drop off).take (Tryd.prog.cellsOf t)) = some y := by
  intro j t off hj
  rw [List.getElem?_map] at hj
  cases hfj : (Tryd.prog.fieldsOf 39).toList[j]? with
  | none => rw [hfj] at hj; cases hj
  | some f =>
   rw [hfj] at hj
   simp only [Option.map_some, Option.some.injEq, Prod.mk.injEq] at hj
   obtain ⟨rfl, rfl⟩ := hj
   have h1 := hg j f (by rw [← Array.getElem?_toList]; exact hfj)
   have hjl : j < (Tryd.prog.fieldsOf 39).size := by
    have := (List.getElem?_eq_some_iff.1 hfj).1
    simpa using this
   have hxl : j < xs.length := by omega
   exact ⟨xs[j], by rw [h1]; exact List.getElem?_eq_getElem hxl⟩
 rw [hf] at fld
 match cs, hl with
 | [c0, c1, c2, c3], _ =>
  obtain ⟨y0, h0⟩ := fld 0 _ _ rfl
  obtain ⟨y1, h1⟩ := fld 1 _ _ rfl
  obtain ⟨y2, h2⟩ := fld 2 _ _ rfl
  obtain ⟨y3, h3⟩ := fld 3 _ _ rfl
  rw [hci] at h0 h1 h2
  rw [hcs] at h3
  obtain ⟨a, ha, _⟩ := DataW.trod_int Tryd.underlying3 h0
  obtain ⟨b, hb, _⟩ := DataW.trod_int Tryd.underlying3 h1
  obtain ⟨c, hc, _⟩ := DataW.trod_int Tryd.underlying3 h2
  obtain ⟨s, hs, _⟩ := DataW.trod_string Tryd.underlying9 h3
  simp at ha hb hc hs
  exact ⟨⟨a, b, c, s⟩, by simp [encN, ha, hb, hc, hs]⟩
set_option maxRecDepth 100000 in
theorem open_nodes {r : Reach} {base b0 : Nat} {sp : Nat → Bool} {held : Bool} {v : Value} {d : DataW H} {ps : List MemPlace} (hval : Value.okWide Tryd.prog w r b0 22 v) (hd : DataW.Trod enc Tryd.prog w base sp held 22 v d ps) :
  ∃ (A : Option Addr) (c : Nat) (t : List Nd), v = .slice A t.length c ∧ (dRow 4 A t.length c (encNs t)).φ w (fun k => k < w.heap.size) := by
 obtain ⟨A, len, cap, rfl⟩ := okWide_slice Tryd.underlying22 hval
 obtain ⟨fuel, hf⟩ := hd
 have hcn : Tryd.prog.cellsOf 39 = 4 := by kernel_rfl
 rcases Deep.open_slice Tryd.underlying22 hf with ⟨hcs, _⟩ | ⟨a, len', cap', m, n, D, Pl, hcs, _, hl, _, hm, _, hi⟩
 ·
  simp [Value.cells] at hcs
  obtain ⟨rfl, rfl, rfl⟩ := hcs
  exact ⟨none, 0, [], rfl, Nat.le_refl _, rfl, fun h => absurd h (by simp)⟩
 ·
  simp [Value.cells] at hcs
  obtain ⟨rfl, rfl, rfl⟩ := hcs
  have hmm : len ≤ m := by rw [hm]; split <;> omega
  have hnd : ∀ i, ∃ nd : Nd, i < len → w.cells? base (a.add (i * 4)) 4 = some (encN nd) := by
   intro i
   by_cases hil : i < len
   ·
    obtain ⟨cs', hc, ht⟩ := hi i (by omega)
    obtain ⟨nd, rfl⟩ := node_cells ht
    rw [hcn] at hc
    exact ⟨nd, fun _ => hc⟩
   · exact ⟨ndz, fun h => absurd h hil⟩
  obtain ⟨f, hf'⟩ := Classical.axiomOfChoice hnd
  refine ⟨some a, cap, (List.range len).map f, by simp, ?_, ?_, fun hpos => ⟨a, rfl, ?_, ?_⟩⟩
  · simpa using hl
  · exact encNs_length _
  ·
   have hp0 : 0 < len := by simpa using hpos
   obtain ⟨_, _, hat⟩ := World.cells?_some (hf' 0 hp0)
   have h0 := hat 0 (by omega)
   rw [add_of_add] at h0
   have := lt_of_cell (w := w) (p := a.add (0 * 4 + 0)) (by rw [h0]; rfl)
   rwa [block_of_add] at this
  ·
   intro j u hu
   have hjl : j < len * 4 := by
    have h1 := (List.getElem?_eq_some_iff.1 hu).1
    rw [encNs_length] at h1
    simpa using h1
   have hi4 : j / 4 < len := by omega
   obtain ⟨_, hcl, hat⟩ := World.cells?_some (hf' (j / 4) hi4)
   have h1 := hat (j % 4) (by omega)
   rw [add_of_add, show j / 4 * 4 + j % 4 = j by omega] at h1
   rw [h1, ← hu]
   have h2 := enc_at encN_len ((List.range len).map f) (j / 4) (by simpa using hi4) ndz
   have h3 : (((List.range len).map f).getD (j / 4) ndz) = f (j / 4) := by simp [hi4]
   rw [h3] at h2
   have h4 : (encNs ((List.range len).map f))[j]? = (((((List.range len).map f).flatMap encN).drop (j / 4 * 4)).take 4)[j % 4]? := by
    rw [List.getElem?_take_of_lt (by omega), List.getElem?_drop, show j / 4 * 4 + j % 4 = j by omega]
    rfl
   rw [h4, h2]
end
end Go.Proofs.YtcfponnkfhkbdaaDoor
/- An argument that is a byte. -/
namespace Go.Proofs.YtcfponnkfhkbdaaDoor
set_option linter.unusedSimpArgs false
set_option linter.unusedVariables false
open Go Go.RowKit Go.WideShapes Go.ChangeShapes
section
variable {P : Program}
theorem okWide_byte {t : TypeId} {w : World} {r : Reach} {b0 : Nat} {v : Value} (ht : P.underlying t = some (.int .u8)) (h : Value.okWide P w r b0 t v) : ∃ b : Nat, v = .int .u8 (b : Int) ∧ b < 256 := by
 have h0 := h
 obtain ⟨n, rfl⟩ := okWide_int ht h
 simp only [Value.okWide, ht, Cell.okWide] at h0
 have h1 : IntKind.u8.has n := by simpa [Cell.ok, ht] using h0
 have h2 : (0 : Int) ≤ n ∧ n ≤ 255 := h1
 exact ⟨n.toNat, by rw [Int.toNat_of_nonneg h2.1], by omega⟩
end
set_option maxRecDepth 100000 in
theorem open_byte {w : World} {r : Reach} {b0 : Nat} {v : Value} (hval : Value.okWide Tryd.prog w r b0 5 v) : ∃ b : Nat, v = .int .u8 (b : Int) ∧ b < 256 := okWide_byte Tryd.underlying5 hval
end Go.Proofs.YtcfponnkfhkbdaaDoor
/- An argument that is a string. -/
namespace Go.Proofs.YtcfponnkfhkbdaaDoor
set_option linter.unusedSimpArgs false
set_option linter.unusedVariables false
open Go Go.RowKit Go.WideShapes Go.ChangeShapes
set_option maxRecDepth 100000 in
theorem open_str {w : World} {r : Reach} {b0 : Nat} {v : Value} (hval : Value.okWide Tryd.prog w r b0 9 v) : ∃ s : ByteArray, v = .string s ∧ s.size ≤ 9223372036854775807 := by
 have ht : Tryd.prog.underlying 9 = some .string := Tryd.underlying9
 obtain ⟨s, rfl⟩ := okWide_string ht hval
 refine ⟨s, rfl, ?_⟩
 simp only [Value.okWide, ht, Cell.okWide] at hval
 have h1 : (s.size : Int) ≤ IntKind.i64.max := by simpa [Cell.ok, ht] using hval
 have h2 : IntKind.i64.max = 9223372036854775807 := rfl
 omega
end Go.Proofs.YtcfponnkfhkbdaaDoor
/- The table of shapes: from the row's list to cells; a world that holds it. -/
namespace Go.Proofs.YtcfponnkfhkbdaaDoor
set_option linter.unusedSimpArgs false
set_option linter.unusedVariables false
open Go Go.RowKit Go.WideShapes Go.ChangeShapes
set_option maxRecDepth 100000
def shapeD (k : Nat) : DataW Unit := .agg [(match (shp k).b with | [] => .nil | b => .slice (lits .i64 b) []), .lit (.bool (shp k).n), .lit (.bool (shp k).m), .lit (.bool (shp k).s)]
theorem laid_eq : (Rows.laid_cornice_term_shapes : DataW Unit) = .agg ((List.range 30).map shapeD) := by kernel_rfl
theorem encIs_map (l : List Int) : encIs l = l.map (fun n => Value.int .i64 n) := by
 induction l with
 | nil => rfl
 | cons x t ih => rw [List.map_cons, ← ih]; rfl
theorem shape_cells {w : World} {base : Nat} {sp : Nat → Bool} {held : Bool} {n : Nat} {cs : List Value} {k : Nat} {p : List MemPlace}
  (h : DataW.trod (fun _ => ()) Tryd.prog w base sp held n 113 cs = some (shapeD k, p)) :
  ∃ (A : Option Addr) (cap : Nat), cs = [.slice A (shp k).b.length cap, .bool (shp k).n, .bool (shp k).m, .bool (shp k).s] ∧ (shp k).b.length ≤ cap ∧ RowI w (fun k => k < w.heap.size) 1 A (shp k).b.length (encIs (shp k).b) := by
 have hu : Tryd.prog.underlying 113 = some (.struct (Tryd.prog.fieldsOf 113)) := by kernel_rfl
 have hf : (Tryd.prog.fieldsOf 113).toList.map (fun f => (f.type, f.offset)) = [(79, 0), (4, 1), (4, 2), (4, 3)] := by kernel_rfl
 have hci : Tryd.prog.cellsOf 79 = 1 := by kernel_rfl
 have hci1 : Tryd.prog.cellsOf 3 = 1 := by kernel_rfl
 have hcs : Tryd.prog.cellsOf 4 = 1 := by kernel_rfl
 have hcn : Tryd.prog.cellsOf 113 = 4 := by kernel_rfl
 obtain ⟨xs, m, _, hx, hl, hxl, hg⟩ := DataW.trod_struct hu h
 rw [hcn] at hl
 have hd : xs.map (·.1) = [(match (shp k).b with | [] => .nil | b => .slice (lits .i64 b) []), .lit (.bool (shp k).n), .lit (.bool (shp k).m), .lit (.bool (shp k).s)] := by
  have := congrArg Prod.fst hx
  simp only [shapeD] at this
  injection this with h1
  exact h1.symm
 have fld : ∀ (j : Nat) (t : TypeId) (off : Nat), ((Tryd.prog.fieldsOf 113).toList.map (fun f => (f.type, f.offset)))[j]? = some (t, off) → DataW.trod (fun _ => ()) Tryd.prog w base sp held m t ((cs.drop off).take (Tryd.prog.cellsOf t)) = xs[j]? := by
  intro j t off hj
  rw [List.getElem?_map] at hj
  cases hfj : (Tryd.prog.fieldsOf 113).toList[j]? with
  | none => rw [hfj] at hj; cases hj
  | some f =>
   rw [hfj] at hj
   simp only [Option.map_some, Option.some.injEq, Prod.mk.injEq] at hj
   obtain ⟨rfl, rfl⟩ := hj
   exact hg j f (by rw [← Array.getElem?_toList]; exact hfj)
 rw [hf] at fld
 match cs, hl, xs, hd with
 | [c0, c1, c2, c3], _, [y0, y1, y2, y3], hd =>
  simp only [List.map_cons, List.map_nil, List.cons.injEq, and_true] at hd
  obtain ⟨d0, d1, d2, d3⟩ := hd
  have h0 := fld 0 _ _ rfl
  have h1 := fld 1 _ _ rfl
  have h2 := fld 2 _ _ rfl
  have h3 := fld 3 _ _ rfl
  rw [hci] at h0
  rw [hcs] at h1 h2 h3
  obtain ⟨b1, e1, f1⟩ := DataW.trod_bool Tryd.underlying4 h1
  obtain ⟨b2, e2, f2⟩ := DataW.trod_bool Tryd.underlying4 h2
  obtain ⟨b3, e3, f3⟩ := DataW.trod_bool Tryd.underlying4 h3
  simp at e1 e2 e3
  simp [f1] at d1
  simp [f2] at d2
  simp [f3] at d3
  subst e1 e2 e3 d1 d2 d3
  rcases open_ints Tryd.underlying79 Tryd.underlying3 hci1 h0 with ⟨hcs0, hy⟩ | ⟨a, len, cap, zs, hcs0, _, hle, _, hzl, hy, hcell, _⟩
  ·
   simp at hcs0
   subst hcs0
   rw [hy] at d0
   cases hb : (shp k).b with
   | nil => exact ⟨none, 0, by simp, by simp, by simp [encIs], fun h => absurd h (by simp)⟩
   | cons z zs => rw [hb] at d0; simp at d0
  ·
   simp at hcs0
   subst hcs0
   rw [hy] at d0
   cases hb : (shp k).b with
   | nil => rw [hb] at d0; simp at d0
   | cons z l =>
    rw [hb] at d0
    simp only [DataW.slice.injEq] at d0
    obtain ⟨d4, d5⟩ := d0
    have hinj : ∀ a b : List Int, (lits .i64 a : List (DataW Unit)) = lits .i64 b → a = b := by
     intro a
     induction a with
     | nil => intro b hb; cases b with
      | nil => rfl
      | cons _ _ => simp [lits] at hb
     | cons x a ih => intro b hb; cases b with
      | nil => simp [lits] at hb
      | cons y b =>
       simp only [lits, List.map_cons, List.cons.injEq, DataW.lit.injEq, Lit.int.injEq, true_and] at hb
       rw [hb.1, ih b hb.2]
    have d6 := hinj _ _ d4
    have hll : len = (z :: l).length := by
     have := congrArg List.length d6
     rw [List.length_take] at this
     have hz : len ≤ zs.length := by rw [hzl]; split <;> omega
     omega
    subst hll
    refine ⟨some a, cap, rfl, hle, by simp [encIs_length], fun _ => ⟨a, rfl, ?_, ?_⟩⟩
    ·
     have h9 := hcell 0 (by have hz2 : (z :: l).length ≤ zs.length := (by rw [hzl]; split <;> omega); rw [List.length_cons] at hz2; omega)
     have := lt_of_cell h9
     rwa [block_of_add] at this
    ·
     intro j u hu
     have hjl : j < (z :: l).length := by
      have := (List.getElem?_eq_some_iff.1 hu).1
      rw [encIs_length] at this
      simpa using this
     have hzz : (z :: l).length ≤ zs.length := by rw [hzl]; split <;> omega
     rw [hcell j (by omega)]
     have h8 : (z :: l)[j]? = zs[j]? := by rw [← d6, List.getElem?_take_of_lt hjl]
     have h7 := encIs_map (z :: l)
     rw [h7, List.getElem?_map, h8] at hu
     cases hq : zs[j]? with
     | none => rw [hq] at hu; simp at hu
     | some q =>
      rw [hq] at hu
      simp only [Option.map_some, Option.some.injEq] at hu
      rw [← hu, List.getD_eq_getElem?_getD, hq]
      rfl
theorem shapes_of_laid {W : World} (h : laidMetH Tryd.prog [("cornice/term.shapes", Rows.laid_cornice_term_shapes)] W) : Shapes W (fun k => k < W.heap.size) := by
 have h' : laidMet Tryd.prog [("cornice/term.shapes", Rows.laid_cornice_term_shapes)] W := h
 obtain ⟨ps, ⟨g, t, cs, fuel, p, q, hg, ht, hvar, hd, _, _⟩, _⟩ := h'
 have hg0 : Tryd.prog.globalNamed "cornice/term.shapes" = some 0 := by kernel_rfl
 have ht0 : (Tryd.prog.globals[0]?).map (·.type) = some 114 := by kernel_rfl
 obtain rfl : 0 = g := Option.some.inj (hg0.symm.trans hg)
 obtain rfl : 114 = t := Option.some.inj (ht0.symm.trans ht)
 have hcn : Tryd.prog.cellsOf 113 = 4 := by kernel_rfl
 have hct : Tryd.prog.cellsOf 114 = 120 := by kernel_rfl
 obtain ⟨xs, m, _, hx, hl, hxl, hi⟩ := DataW.trod_array Tryd.underlying114 hd
 rw [hct] at hl
 have hxd : xs.map (·.1) = (List.range 30).map shapeD := by
  have := congrArg Prod.fst hx
  simp only [laid_eq] at this
  injection this with h1
  exact h1.symm
 intro k hk
 have h1 := hi k hk
 rw [hcn] at h1
 have hkx : k < xs.length := by omega
 have h2 : xs[k]? = some (shapeD k, (xs[k]).2) := by
  rw [List.getElem?_eq_getElem hkx]
  have h3 : (xs.map (·.1))[k]? = some (shapeD k) := by rw [hxd]; simp [hk]
  rw [List.getElem?_map, List.getElem?_eq_getElem hkx] at h3
  simp only [Option.map_some, Option.some.injEq] at h3
  rw [← h3]
 rw [h2] at h1
 obtain ⟨A, cap, hcs, hle, hrow⟩ := shape_cells h1
 refine ⟨A, cap, ⟨hle, hrow⟩, ?_, ?_⟩
 ·
  have h4 := World.var?_cell hg hvar 0
  have h5 : cs[0]? ≠ none := by
   intro e
   rw [← Array.getElem?_toList, List.getElem?_eq_none_iff] at e
   omega
  cases h6 : cs[0]? with
  | none => exact absurd h6 h5
  | some v => rw [h6] at h4; exact lt_of_cell h4
 ·
  intro j u hu
  have hj : j < 4 := by
   have := (List.getElem?_eq_some_iff.1 hu).1
   simpa using this
  have h4 := World.var?_cell hg hvar (k * 4 + j)
  rw [← hcs, List.getElem?_take_of_lt hj, List.getElem?_drop, Array.getElem?_toList] at hu
  rw [hu] at h4
  rw [add_of_add]
  have : (⟨0, 0, none⟩ : Addr).add (k * 4 + j) = ⟨0, k * 4 + j, none⟩ := by unfold Addr.add; split <;> simp_all
  rw [this]
  exact h4
noncomputable def laidWorld (os : Os) : World :=
 { World.holding Tryd.prog os ⟨#[.cells #[.int .i64 0, .int .i64 1, .int .i64 0, .int .i64 1, .int .i64 0, .int .i64 0, .int .i64 0, .int .i64 1, .int .i64 0, .int .i64 0, .int .i64 0, .int .i64 0, .int .i64 0, .int .i64 0, .int .i64 1, .int .i64 0, .int .i64 2, .int .i64 0, .int .i64 0, .int .i64 0, .int .i64 0, .int .i64 0, .int .i64 0, .int .i64 0, .int .i64 0, .int .i64 0, .int .i64 0, .int .i64 0, .int .i64 0, .int .i64 0, .int .i64 0, .int .i64 1, .int .i64 0, .int .i64 0, .int .i64 0, .int .i64 0, .int .i64 2, .int .i64 0, .int .i64 0, .int .i64 0, .int .i64 0, .int .i64 0, .int .i64 0, .int .i64 1, .int .i64 0, .int .i64 0, .int .i64 0] 3], #[], []⟩ with heap := (World.holding Tryd.prog os ⟨#[.cells #[.int .i64 0, .int .i64 1, .int .i64 0, .int .i64 1, .int .i64 0, .int .i64 0, .int .i64 0, .int .i64 1, .int .i64 0, .int .i64 0, .int .i64 0, .int .i64 0, .int .i64 0, .int .i64 0, .int .i64 1, .int .i64 0, .int .i64 2, .int .i64 0, .int .i64 0, .int .i64 0, .int .i64 0, .int .i64 0, .int .i64 0, .int .i64 0, .int .i64 0, .int .i64 0, .int .i64 0, .int .i64 0, .int .i64 0, .int .i64 0, .int .i64 0, .int .i64 1, .int .i64 0, .int .i64 0, .int .i64 0, .int .i64 0, .int .i64 2, .int .i64 0, .int .i64 0, .int .i64 0, .int .i64 0, .int .i64 0, .int .i64 0, .int .i64 1, .int .i64 0, .int .i64 0, .int .i64 0] 3], #[], []⟩).heap.modify 0 fun
   | .cells _ t frozen => .cells #[.slice none 0 0, .bool true, .bool false, .bool false, .slice none 0 0, .bool false, .bool false, .bool true, .slice none 0 0, .bool true, .bool false, .bool false, .slice (some ⟨6, 0, none⟩) 2 2, .bool true, .bool false, .bool false, .slice (some ⟨6, 2, none⟩) 2 2, .bool false, .bool false, .bool false, .slice (some ⟨6, 4, none⟩) 2 2, .bool false, .bool false, .bool false, .slice (some ⟨6, 6, none⟩) 2 2, .bool true, .bool false, .bool false, .slice (some ⟨6, 8, none⟩) 3 3, .bool false, .bool false, .bool false, .slice (some ⟨6, 11, none⟩) 1 1, .bool false, .bool false, .bool false, .slice (some ⟨6, 12, none⟩) 1 1, .bool false, .bool false, .bool false, .slice none 0 0, .bool false, .bool false, .bool false, .slice none 0 0, .bool false, .bool false, .bool false, .slice (some ⟨6, 13, none⟩) 1 1, .bool false, .bool false, .bool false, .slice (some ⟨6, 14, none⟩) 4 4, .bool false, .bool false, .bool false, .slice none 0 0, .bool false, .bool false, .bool false, .slice (some ⟨6, 18, none⟩) 2 2, .bool false, .bool false, .bool false, .slice none 0 0, .bool false, .bool false, .bool false, .slice none 0 0, .bool false, .bool false, .bool false, .slice (some ⟨6, 20, none⟩) 3 3, .bool false, .bool false, .bool false, .slice (some ⟨6, 23, none⟩) 2 2, .bool false, .bool false, .bool false, .slice (some ⟨6, 25, none⟩) 4 4, .bool false, .bool false, .bool false, .slice (some ⟨6, 29, none⟩) 6 6, .bool false, .bool false, .bool false, .slice (some ⟨6, 35, none⟩) 5 5, .bool false, .bool false, .bool false, .slice (some ⟨6, 40, none⟩) 2 2, .bool false, .bool false, .bool false, .slice (some ⟨6, 42, none⟩) 4 4, .bool false, .bool false, .bool false, .slice none 0 0, .bool false, .bool false, .bool true, .slice none 0 0, .bool true, .bool true, .bool true, .slice none 0 0, .bool false, .bool true, .bool true, .slice (some ⟨6, 46, none⟩) 1 1, .bool false, .bool false, .bool false, .slice none 0 0, .bool false, .bool false, .bool false] t frozen
   | o => o }
end Go.Proofs.YtcfponnkfhkbdaaDoor
/- The law UnfoldKinds: it returns true, whatever its arguments are, and they read as they did; the table of shapes holds what the program's text lays. -/
namespace Go.Proofs.YtcfponnkfhkbdaaDoor.lawUnfoldKinds
open Go Go.RowKit Go.WideShapes Go.ChangeShapes Go.Proofs.YtcfponnkfhkbdaaDoor
set_option maxRecDepth 100000
set_option linter.unusedSimpArgs false
set_option linter.unusedVariables false
theorem contract (H : Type) (enc : TypeId × Value → H) (W : World) (base : Nat) (args : Array Value) (ds gs : List (DataW H)) (before : List MemPlace)
  (hval : ∀ (j : Nat) t v, Tryd.f8.params[j]? = some t → args[j]? = some v → Value.okWide Tryd.prog W .any base t v)
  (hW : DataW.Whole enc Tryd.prog Tryd.f8.params.toList Rows.unfoldKindsSpec.vars false W args.toList ds gs before) (hL : laidMetH Tryd.prog Rows.unfoldKindsRow.laid W) :
  Calls Tryd.prog 8 args W fun e W' => ∃ v, e = .returned v ∧ Rows.unfoldKindsSpec.post enc Tryd.prog Tryd.f8 false true false false W args v W' := by
 have hW' := hW
 obtain ⟨p, q, hA0, hV, rfl, hfz, hnd⟩ := hW
 have hA := hA0
 rw [Tryd.params8] at hA hval
 obtain ⟨v0, vs0, d0, ds0, p0, q0, hargs, rfl, rfl, h0, r0⟩ := trodAll_cons hA
 obtain ⟨v1, vs1, d1, ds1, p1, q1, rfl, rfl, rfl, h1, r1⟩ := trodAll_cons r0
 obtain ⟨v2, vs2, d2, ds2, p2, q2, rfl, rfl, rfl, h2, r2⟩ := trodAll_cons r1
 obtain ⟨v3, vs3, d3, ds3, p3, q3, rfl, rfl, rfl, h3, r3⟩ := trodAll_cons r2
 obtain ⟨rfl, rfl, rfl⟩ := trodAll_nil r3
 obtain rfl : args = #[v0, v1, v2, v3] := by cases args; simp_all
 obtain ⟨rfl, rfl⟩ := trodVars_none hV
 obtain ⟨b0, rfl, hb0⟩ := open_str (hval 0 _ _ rfl rfl)
 obtain ⟨b1, rfl, hb1⟩ := open_str (hval 1 _ _ rfl rfl)
 obtain ⟨A2, c2, t2, rfl, g2⟩ := open_nodes (hval 2 _ _ rfl rfl) h2
 obtain ⟨b3, rfl, hb3⟩ := open_byte (hval 3 _ _ rfl rfl)
 refine (unfoldKinds_calls W (fun k => k < W.heap.size) (fun _ h => h) b0 b1 A2 c2 t2 b3 (shapes_of_laid hL) g2 hb0 hb1 hb3).mono fun e W' ⟨he, hf⟩ => ?_
 subst he
 exact ⟨_, rfl, post_true kids slicesFull (by rw [Tryd.params8]; decide) rfl hW' rfl Tryd.underlying4 ⟨rfl, rfl, rfl⟩ hf.below⟩
theorem laid_met (os : Os) : laidMet Tryd.prog Rows.unfoldKindsRow.laid ((laidWorld os).forCall (fun _ _ => 0) ⟨#[], #[Value.string ⟨#[]⟩, Value.string ⟨#[]⟩, Value.slice none 0 0, Value.int .u8 0], []⟩).memory :=
 laidMet_of_run' 8 (by kernel_rfl) (by kernel_rfl)
theorem reads (os : Os) {H : Type} (enc : TypeId × Value → H) : ∃ places, DataW.whole enc Tryd.prog ((laidWorld os).forCall (fun _ _ => 0) ⟨#[], #[Value.string ⟨#[]⟩, Value.string ⟨#[]⟩, Value.slice none 0 0, Value.int .u8 0], []⟩).memory Tryd.f8.params.toList Rows.unfoldKindsSpec.vars false #[Value.string ⟨#[]⟩, Value.string ⟨#[]⟩, Value.slice none 0 0, Value.int .u8 0].toList 8 = some ([.lit (.string []), .lit (.string []), .nil, .lit (.int .u8 0)], [], places) :=
 ⟨[], by kernel_rfl⟩
theorem lifted (os : Os) (started : os.Started) (H : Type) (enc : TypeId × Value → H) (F : Stop.Interp) :
  ReturnsInHanded {} Tryd.checked os 8 .any ((OpenSpec.ofChange Rows.unfoldKindsSpec).preRow enc Tryd.prog Tryd.f8 Rows.unfoldKindsRow.domain false Rows.unfoldKindsRow.laid) (((OpenSpec.ofChange Rows.unfoldKindsSpec).at F).post enc Tryd.prog Tryd.f8 false true false false) := by
 obtain ⟨places, hx⟩ := reads os enc
 refine returnsInHanded_of_row (C := Tryd.checked) (s := OpenSpec.ofChange Rows.unfoldKindsSpec) ownKnobNone started (by kernel_rfl) Tryd.func8
  (witness_row_atRef (enc := enc) (C := Tryd.checked) false (laidWorld os) #[Value.string ⟨#[]⟩, Value.string ⟨#[]⟩, Value.slice none 0 0, Value.int .u8 0] rfl (by kernel_rfl) (by kernel_rfl) (by kernel_rfl)
   (OpenSpec.preRow_of_cond 8 hx (by kernel_rfl) (fun k hk => by cases hk) (by kernel_rfl) (laid_met os))) ?_
 intro W base args ds gs before hval hW _ _ _ hL _ _
 exact contract H enc W base args ds gs before hval hW hL
theorem said : Rows.UnfoldKindsSaid :=
 OpenClaim.holds_of_cond 8 Tryd.f8 rfl rfl rfl rfl rfl rfl rfl ⟨rfl, rfl, rfl, rfl, rfl⟩ rfl rfl rfl rfl rfl (by kernel_rfl) Tryd.func8 (by kernel_rfl)
  (of_decide_eq_true (by kernel_rfl)) (by unfold Func.isWrapper; first | (rw [if_pos (by decide +kernel)]; kernel_rfl) | (rw [if_neg (by decide +kernel)]; exact ⟨rfl, rfl⟩))
  (fun os started H enc _ F => by rw [OpenClaim.pre_eq_preRow]; exact lifted os started H enc F)
theorem plain (f : FuncId) (fn : Func) (hf : Tryd.pinned.checked.prog.funcNamed "cornice/cornicelaw14.UnfoldKinds" = some f) (hfn : Tryd.pinned.checked.prog.funcs[f]? = some fn) :
  false = Tryd.pinned.checked.prog.looks [] ∧ ∀ (j : Nat) t, fn.params[j]? = some t → Tryd.pinned.checked.prog.wantsStandIn t = false := by
 obtain rfl : f = 8 := Option.some.inj ((show Tryd.prog.funcNamed "cornice/cornicelaw14.UnfoldKinds" = some 8 by kernel_rfl).symm.trans hf) |>.symm
 obtain rfl : fn = Tryd.f8 := (Option.some.inj (Tryd.func8.symm.trans hfn)).symm
 refine ⟨by kernel_rfl, fun j t ht => ?_⟩
 rw [Tryd.params8] at ht
 have hm := Array.mem_of_getElem? ht
 simp only [List.mem_toArray, List.mem_cons, List.not_mem_nil, or_false] at hm
 rcases hm with rfl | rfl | rfl | rfl
 · exact (show Tryd.prog.wantsStandIn 9 = false by kernel_rfl)
 · exact (show Tryd.prog.wantsStandIn 9 = false by kernel_rfl)
 · exact (show Tryd.prog.wantsStandIn 22 = false by kernel_rfl)
 · exact (show Tryd.prog.wantsStandIn 5 = false by kernel_rfl)
theorem proved : Rows.UnfoldKindsCardSaid :=
 Claim7.holds_tied_plain_at .later [] _ _ _ _ said (fun _ h => by cases h) (by kernel_rfl) (fun _ h => by cases h) unfoldKinds_row_tie rfl ⟨rfl, rfl⟩ (by kernel_rfl) rfl plain (by kernel_rfl)
end Go.Proofs.YtcfponnkfhkbdaaDoor.lawUnfoldKinds
