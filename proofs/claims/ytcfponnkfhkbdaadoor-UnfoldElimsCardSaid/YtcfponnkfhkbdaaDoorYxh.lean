import Derived.Test.YtcfponnkfhkbdaaDoorYxg
import Derived.Test.YtcfponnkfhkbdaaDoorCards
import Derived.Test.YtcfponnkfhkbdaaDoorTie
import Derived.ProofKit
import Derived.OpenShut
import Derived.ReadAgain
import Derived.Deep.DeepHandedRow
import Derived.Deep.Slices
import Derived.Lib.LaidTab
import Derived.Deep.DeepWitnessRowRef
/- Contracts of functions, one theorem each: what the call returns, and that nothing old is changed. Printed by gen.py. -/
namespace Go.Proofs.YtcfponnkfhkbdaaDoor
open Go Go.RowKit
set_option linter.unusedSimpArgs false
set_option linter.unusedVariables false
set_option maxRecDepth 100000 in
set_option maxHeartbeats 1000000 in
theorem unfoldElims_calls (w0 : World) (Z : Nat → Prop) (hZ : ∀ k, Z k → k < w0.heap.size) (mA : Option Addr) (mc : Nat) (m : List Nd) (cA : Option Addr) (cc : Nat) (c : List Nd) (argsA : Option Addr) (argsc : Nat) (args : List Sl) (data : ByteArray) (hShp : Shapes w0 Z) (hm : (dRow 4 mA m.length mc (encNs m)).φ w0 Z) (hc : (dRow 4 cA c.length cc (encNs c)).φ w0 Z) (hargs : (dRow 1 argsA args.length argsc (encSs args)).φ w0 Z) (hargss : (dAll args).φ w0 Z) (hzd : data.size ≤ 9223372036854775807 := by first | assumption | omega | (simp; done) | (simp; omega)) :
    Calls Tryd.prog 7 [.slice mA m.length mc, .slice cA c.length cc, .slice argsA args.length argsc, .string data].toArray w0 (fun e w' => e = .returned (.bool (true)) ∧ Fr none_ w0 w') := by
 have b0 := s0 (M := none_) hZ (zc (d := dShapes) hShp (zc hm (zc hc (zc hargs (zc hargss zn)))))
 refine c_enter Tryd.func7 rfl Tryd.ntmps7 rfl (fun c0 d0 => ?_)
 refine wsc (fun c0 f0 => ?_)
 refine asg d0 (fun c0 h0 => ?_)
 refine wpList_nil (x_then_n (f0 _ _ ?_))
 refine wp_seq_k (fun f0 c0 => ?_)
 refine wsc (fun f0 d0 => ?_)
 refine mv h0 (fun f0 i0 => ?_)
 have f0 := b0.nf
 refine k_call (xs := [.tmp 20]) se i0 rfl rfl rfl (by decide) ok10 (heavy14_calls _ _ f0.il _ _ _ (f0.g 1)) ?_
 rintro i0 b0 ⟨rfl, h0⟩
 have b0 := f0.below h0.below
 refine ⟨_, rfl, fun h0 f0 => ?_⟩
 refine mv f0 (fun h0 i0 => ?_)
 refine l_join (fun ga gw => Reg ga 145 [(0, .slice mA m.length mc), (1, .slice cA c.length cc), (2, .slice argsA args.length argsc), (3, .string data), (8, .bool false), (25, .bool ((heavyB 120 m) || (heavyB 120 c))), (1000000, .bool false)] ∧ St w0 Z none_ gw [] [dShapes, dRow 4 mA m.length mc (encNs m), dRow 4 cA c.length cc (encNs c), dRow 1 argsA args.length argsc (encSs args), dAll args]) 3 ?_ ?_
 ·
  rcases Bool.eq_false_or_eq_true (heavyB 120 m) with h0 | h0
  ·
   have f0 := i0.setb (d := 22) (b := true) rfl h0
   refine sps f0 (wff f0) (fun j0 k0 => ?_)
   refine sps k0 (wff k0) (fun j0 f0 => ?_)
   refine r_pick_t sv f0 rfl rfl rfl rfl (by decide) (fun j0 k0 => ?_)
   refine wpList_nil ?_
   exact x_then_n ⟨(k0.sub (rc rfl (rc rfl (rc rfl (rc rfl (rc rfl (rc (rb rfl (by first | rfl | (simp only [h0, bl]; done) | (simp [h0]; done) | (simp [h0]; omega))) (rc rfl rnl)))))))), b0⟩
  ·
   obtain ⟨hlm, hsm⟩ := heavy_false h0
   obtain ⟨hlm, hsm⟩ := heavy_false h0
   have k0 := i0.setb (d := 22) (b := false) rfl h0
   refine r_move (st_listV_w (wt k0)) k0 rfl rfl rfl (by decide) (fun i0 j0 => ?_)
   have i0 := b0.nf
   refine k_call (xs := [.tmp 23]) (st_list_w (wt j0)) j0 rfl rfl rfl (by decide) ok10 (heavy14_calls _ _ i0.il _ _ _ (i0.g 2)) ?_
   rintro j0 b0 ⟨rfl, k0⟩
   have b0 := i0.below k0.below
   refine ⟨_, rfl, fun k0 i0 => ?_⟩
   refine r_pick_f sv i0 rfl rfl rfl rfl (by decide) (fun k0 j0 => ?_)
   refine wpList_nil ?_
   exact x_then_n ⟨(j0.sub (rc rfl (rc rfl (rc rfl (rc rfl (rc rfl (rc (rb rfl (by first | rfl | (simp only [h0, bl]; done) | (simp [h0]; done) | (simp [h0]; omega))) (rc rfl rnl)))))))), b0⟩
 rintro j0 b0 ⟨h0, k0⟩
 refine mv h0 (fun b0 j0 => ?_)
 refine l_join (fun ga gw => Reg ga 145 [(0, .slice mA m.length mc), (1, .slice cA c.length cc), (2, .slice argsA args.length argsc), (3, .string data), (8, .bool false), (30, .bool (((heavyB 120 m) || (heavyB 120 c)) || (decide (6 < ((args.length : Nat) : Int))))), (1000000, .bool false)] ∧ St w0 Z none_ gw [] [dShapes, dRow 4 mA m.length mc (encNs m), dRow 4 cA c.length cc (encNs c), dRow 1 argsA args.length argsc (encSs args), dAll args]) 4 ?_ ?_
 ·
  rcases Bool.eq_false_or_eq_true (((heavyB 120 m) || (heavyB 120 c))) with b0 | b0
  ·
   have h0 := b0
   try simp only [Bool.or_eq_true, Bool.and_eq_true, Bool.not_eq_true', Bool.not_eq_false', decide_eq_true_eq, decide_eq_false_iff_not, Bool.or_eq_false_iff, Bool.and_eq_false_iff] at h0
   have h0 := j0.setb (d := 26) (b := true) rfl b0
   refine sps h0 (wff h0) (fun i0 f0 => ?_)
   refine sps f0 (wff f0) (fun i0 h0 => ?_)
   refine sps h0 (wff h0) (fun i0 f0 => ?_)
   refine r_pick_t sv f0 rfl rfl rfl rfl (by decide) (fun i0 h0 => ?_)
   refine wpList_nil ?_
   exact x_then_n ⟨(h0.sub (rc rfl (rc rfl (rc rfl (rc rfl (rc rfl (rc (rb rfl (by first | rfl | (simp only [b0, bl]; done) | (simp [b0]; done) | (simp [b0]; omega))) (rc rfl rnl)))))))), k0⟩
  ·
   have h0 := or_fl b0
   obtain ⟨hlm, hsm⟩ := heavy_false h0
   have h0 := or_fr b0
   obtain ⟨hlc, hsc⟩ := heavy_false h0
   have h0 := j0.setb (d := 26) (b := false) rfl b0
   refine r_move (st_listV_w (wt h0)) h0 rfl rfl rfl (by decide) (fun j0 i0 => ?_)
   refine r_len (st_listV_w (wt i0)) i0 rfl rfl rfl rfl Tryd.underlying42 (by decide) (fun j0 h0 => ?_)
   refine r_gtr (st_listV_w (wt h0)) h0 rfl rfl rfl rfl (by decide) (fun j0 i0 => ?_)
   refine r_pick_f sv i0 rfl rfl rfl rfl (by decide) (fun j0 h0 => ?_)
   refine wpList_nil ?_
   exact x_then_n ⟨(h0.sub (rc rfl (rc rfl (rc rfl (rc rfl (rc rfl (rc (rb rfl (by first | rfl | (simp only [b0, bl]; done) | (simp [b0]; done) | (simp [b0]; omega))) (rc rfl rnl)))))))), k0⟩
 rintro h0 b0 ⟨k0, j0⟩
 refine mv k0 (fun b0 h0 => ?_)
 refine l_join (fun ga gw => Reg ga 145 [(0, .slice mA m.length mc), (1, .slice cA c.length cc), (2, .slice argsA args.length argsc), (3, .string data), (8, .bool false), (35, .bool ((((heavyB 120 m) || (heavyB 120 c)) || (decide (6 < ((args.length : Nat) : Int)))) || (!(nameOk data)))), (1000000, .bool false)] ∧ St w0 Z none_ gw [] [dShapes, dRow 4 mA m.length mc (encNs m), dRow 4 cA c.length cc (encNs c), dRow 1 argsA args.length argsc (encSs args), dAll args]) 4 ?_ ?_
 ·
  rcases Bool.eq_false_or_eq_true ((((heavyB 120 m) || (heavyB 120 c)) || (decide (6 < ((args.length : Nat) : Int))))) with b0 | b0
  ·
   have k0 := b0
   try simp only [Bool.or_eq_true, Bool.and_eq_true, Bool.not_eq_true', Bool.not_eq_false', decide_eq_true_eq, decide_eq_false_iff_not, Bool.or_eq_false_iff, Bool.and_eq_false_iff] at k0
   have k0 := h0.setb (d := 31) (b := true) rfl b0
   refine sps k0 (wff k0) (fun i0 f0 => ?_)
   refine sps f0 (wff f0) (fun i0 k0 => ?_)
   refine sps k0 (wff k0) (fun i0 f0 => ?_)
   refine r_pick_t sv f0 rfl rfl rfl rfl (by decide) (fun i0 k0 => ?_)
   refine wpList_nil ?_
   exact x_then_n ⟨(k0.sub (rc rfl (rc rfl (rc rfl (rc rfl (rc rfl (rc (rb rfl (by first | rfl | (simp only [b0, bl]; done) | (simp [b0]; done) | (simp [b0]; omega))) (rc rfl rnl)))))))), j0⟩
  ·
   have k0 := or_fl b0
   have i0 := or_fl k0
   obtain ⟨hlm, hsm⟩ := heavy_false i0
   have i0 := or_fr k0
   obtain ⟨hlc, hsc⟩ := heavy_false i0
   have i0 := or_fr b0
   have k0 := of_decide_eq_false i0
   have k0 := h0.setb (d := 31) (b := false) rfl b0
   refine r_move (st_listV_w (wt k0)) k0 rfl rfl rfl (by decide) (fun h0 i0 => ?_)
   have h0 := j0.nf
   refine k_call (xs := [.tmp 32]) (st_list_w (wt i0)) i0 rfl rfl rfl (by decide) ok28 (rname_calls _ _ h0.il data (hs := (by assumption))) ?_
   rintro i0 j0 ⟨rfl, k0⟩
   have j0 := h0.below k0.below
   refine ⟨_, rfl, fun k0 h0 => ?_⟩
   refine r_not (st_listV_w (wt h0)) h0 rfl rfl rfl (by decide) (fun k0 i0 => ?_)
   refine r_pick_f sv i0 rfl rfl rfl rfl (by decide) (fun k0 h0 => ?_)
   refine wpList_nil ?_
   exact x_then_n ⟨(h0.sub (rc rfl (rc rfl (rc rfl (rc rfl (rc rfl (rc (rb rfl (by first | rfl | (simp only [b0, bl]; done) | (simp [b0]; done) | (simp [b0]; omega))) (rc rfl rnl)))))))), j0⟩
 rintro h0 j0 ⟨b0, k0⟩
 refine mv b0 (fun j0 h0 => ?_)
 refine l_join (fun ga gw => Reg ga 145 [(0, .slice mA m.length mc), (1, .slice cA c.length cc), (2, .slice argsA args.length argsc), (3, .string data), (8, .bool false), (40, .bool (((((heavyB 120 m) || (heavyB 120 c)) || (decide (6 < ((args.length : Nat) : Int)))) || (!(nameOk data))) || (!(decide (((chk m)) = 0))))), (1000000, .bool false)] ∧ St w0 Z none_ gw [] [dShapes, dRow 4 mA m.length mc (encNs m), dRow 4 cA c.length cc (encNs c), dRow 1 argsA args.length argsc (encSs args), dAll args]) 4 ?_ ?_
 ·
  rcases Bool.eq_false_or_eq_true (((((heavyB 120 m) || (heavyB 120 c)) || (decide (6 < ((args.length : Nat) : Int)))) || (!(nameOk data)))) with j0 | j0
  ·
   have b0 := j0
   try simp only [Bool.or_eq_true, Bool.and_eq_true, Bool.not_eq_true', Bool.not_eq_false', decide_eq_true_eq, decide_eq_false_iff_not, Bool.or_eq_false_iff, Bool.and_eq_false_iff] at b0
   have b0 := h0.setb (d := 36) (b := true) rfl j0
   refine sps b0 (wff b0) (fun i0 f0 => ?_)
   refine sps f0 (wff f0) (fun i0 b0 => ?_)
   refine sps b0 (wff b0) (fun i0 f0 => ?_)
   refine r_pick_t sv f0 rfl rfl rfl rfl (by decide) (fun i0 b0 => ?_)
   refine wpList_nil ?_
   exact x_then_n ⟨(b0.sub (rc rfl (rc rfl (rc rfl (rc rfl (rc rfl (rc (rb rfl (by first | rfl | (simp only [j0, bl]; done) | (simp [j0]; done) | (simp [j0]; omega))) (rc rfl rnl)))))))), k0⟩
  ·
   have b0 := or_fl j0
   have i0 := or_fl b0
   have f0 := or_fl i0
   obtain ⟨hlm, hsm⟩ := heavy_false f0
   have f0 := or_fr i0
   obtain ⟨hlc, hsc⟩ := heavy_false f0
   have f0 := or_fr b0
   have b0 := of_decide_eq_false f0
   have b0 := or_fr j0
   have f0 := not_f b0
   have hnd := f0
   have hsd := name_size hnd
   have f0 := h0.setb (d := 36) (b := false) rfl j0
   refine r_move (st_listV_w (wt f0)) f0 rfl rfl rfl (by decide) (fun h0 b0 => ?_)
   have h0 := k0.nf
   refine k_call (xs := [.tmp 37]) (st_list_w (wt b0)) b0 rfl rfl rfl (by decide) ok24 (rcheck_calls _ _ h0.il _ _ _ (h0.g 1) (hl := (by omega)) (hsm := (by assumption))) ?_
   rintro b0 k0 ⟨rfl, f0⟩
   have k0 := h0.below f0.below
   refine ⟨_, rfl, fun f0 h0 => ?_⟩
   refine r_neq (st_listV_w (wt h0)) h0 rfl rfl rfl rfl (by decide) (fun f0 b0 => ?_)
   refine r_pick_f sv b0 rfl rfl rfl rfl (by decide) (fun f0 h0 => ?_)
   refine wpList_nil ?_
   exact x_then_n ⟨(h0.sub (rc rfl (rc rfl (rc rfl (rc rfl (rc rfl (rc (rb rfl (by first | rfl | (simp only [j0, bl]; done) | (simp [j0]; done) | (simp [j0]; omega))) (rc rfl rnl)))))))), k0⟩
 rintro h0 k0 ⟨j0, f0⟩
 refine mv j0 (fun k0 h0 => ?_)
 refine l_join (fun ga gw => Reg ga 145 [(0, .slice mA m.length mc), (1, .slice cA c.length cc), (2, .slice argsA args.length argsc), (3, .string data), (8, .bool false), (45, .bool ((((((heavyB 120 m) || (heavyB 120 c)) || (decide (6 < ((args.length : Nat) : Int)))) || (!(nameOk data))) || (!(decide (((chk m)) = 0)))) || (!(decide (((chk c)) = 0))))), (1000000, .bool false)] ∧ St w0 Z none_ gw [] [dShapes, dRow 4 mA m.length mc (encNs m), dRow 4 cA c.length cc (encNs c), dRow 1 argsA args.length argsc (encSs args), dAll args]) 4 ?_ ?_
 ·
  rcases Bool.eq_false_or_eq_true ((((((heavyB 120 m) || (heavyB 120 c)) || (decide (6 < ((args.length : Nat) : Int)))) || (!(nameOk data))) || (!(decide (((chk m)) = 0))))) with k0 | k0
  ·
   have j0 := k0
   try simp only [Bool.or_eq_true, Bool.and_eq_true, Bool.not_eq_true', Bool.not_eq_false', decide_eq_true_eq, decide_eq_false_iff_not, Bool.or_eq_false_iff, Bool.and_eq_false_iff] at j0
   have j0 := h0.setb (d := 41) (b := true) rfl k0
   refine sps j0 (wff j0) (fun b0 i0 => ?_)
   refine sps i0 (wff i0) (fun b0 j0 => ?_)
   refine sps j0 (wff j0) (fun b0 i0 => ?_)
   refine r_pick_t sv i0 rfl rfl rfl rfl (by decide) (fun b0 j0 => ?_)
   refine wpList_nil ?_
   exact x_then_n ⟨(j0.sub (rc rfl (rc rfl (rc rfl (rc rfl (rc rfl (rc (rb rfl (by first | rfl | (simp only [k0, bl]; done) | (simp [k0]; done) | (simp [k0]; omega))) (rc rfl rnl)))))))), f0⟩
  ·
   have j0 := or_fl k0
   have b0 := or_fl j0
   have i0 := or_fl b0
   have m0 := or_fl i0
   obtain ⟨hlm, hsm⟩ := heavy_false m0
   have m0 := or_fr i0
   obtain ⟨hlc, hsc⟩ := heavy_false m0
   have m0 := or_fr b0
   have b0 := of_decide_eq_false m0
   have b0 := or_fr j0
   have j0 := not_f b0
   have hnd := j0
   have hsd := name_size hnd
   have j0 := or_fr k0
   have b0 := not_f j0
   have j0 := of_decide_eq_true b0
   have hcm := j0
   have hmm := meas_chk hcm
   have j0 := h0.setb (d := 41) (b := false) rfl k0
   refine r_move (st_listV_w (wt j0)) j0 rfl rfl rfl (by decide) (fun h0 b0 => ?_)
   have h0 := f0.nf
   refine k_call (xs := [.tmp 42]) (st_list_w (wt b0)) b0 rfl rfl rfl (by decide) ok24 (rcheck_calls _ _ h0.il _ _ _ (h0.g 2) (hl := (by omega)) (hsm := (by assumption))) ?_
   rintro b0 f0 ⟨rfl, j0⟩
   have f0 := h0.below j0.below
   refine ⟨_, rfl, fun j0 h0 => ?_⟩
   refine r_neq (st_listV_w (wt h0)) h0 rfl rfl rfl rfl (by decide) (fun j0 b0 => ?_)
   refine r_pick_f sv b0 rfl rfl rfl rfl (by decide) (fun j0 h0 => ?_)
   refine wpList_nil ?_
   exact x_then_n ⟨(h0.sub (rc rfl (rc rfl (rc rfl (rc rfl (rc rfl (rc (rb rfl (by first | rfl | (simp only [k0, bl]; done) | (simp [k0]; done) | (simp [k0]; omega))) (rc rfl rnl)))))))), f0⟩
 rintro h0 f0 ⟨k0, j0⟩
 refine mv k0 (fun f0 h0 => ?_)
 refine l_join (fun ga gw => Reg ga 145 [(0, .slice mA m.length mc), (1, .slice cA c.length cc), (2, .slice argsA args.length argsc), (3, .string data), (8, .bool false), (50, .bool (((((((heavyB 120 m) || (heavyB 120 c)) || (decide (6 < ((args.length : Nat) : Int)))) || (!(nameOk data))) || (!(decide (((chk m)) = 0)))) || (!(decide (((chk c)) = 0)))) || (decide (30 < ((dpL m : Nat) : Int))))), (1000000, .bool false)] ∧ St w0 Z none_ gw [] [dShapes, dRow 4 mA m.length mc (encNs m), dRow 4 cA c.length cc (encNs c), dRow 1 argsA args.length argsc (encSs args), dAll args]) 4 ?_ ?_
 ·
  rcases Bool.eq_false_or_eq_true (((((((heavyB 120 m) || (heavyB 120 c)) || (decide (6 < ((args.length : Nat) : Int)))) || (!(nameOk data))) || (!(decide (((chk m)) = 0)))) || (!(decide (((chk c)) = 0))))) with f0 | f0
  ·
   have k0 := f0
   try simp only [Bool.or_eq_true, Bool.and_eq_true, Bool.not_eq_true', Bool.not_eq_false', decide_eq_true_eq, decide_eq_false_iff_not, Bool.or_eq_false_iff, Bool.and_eq_false_iff] at k0
   have k0 := h0.setb (d := 46) (b := true) rfl f0
   refine sps k0 (wff k0) (fun b0 m0 => ?_)
   refine sps m0 (wff m0) (fun b0 k0 => ?_)
   refine sps k0 (wff k0) (fun b0 m0 => ?_)
   refine r_pick_t sv m0 rfl rfl rfl rfl (by decide) (fun b0 k0 => ?_)
   refine wpList_nil ?_
   exact x_then_n ⟨(k0.sub (rc rfl (rc rfl (rc rfl (rc rfl (rc rfl (rc (rb rfl (by first | rfl | (simp only [f0, bl]; done) | (simp [f0]; done) | (simp [f0]; omega))) (rc rfl rnl)))))))), j0⟩
  ·
   have k0 := or_fl f0
   have b0 := or_fl k0
   have m0 := or_fl b0
   have i0 := or_fl m0
   have n0 := or_fl i0
   obtain ⟨hlm, hsm⟩ := heavy_false n0
   have n0 := or_fr i0
   obtain ⟨hlc, hsc⟩ := heavy_false n0
   have n0 := or_fr m0
   have m0 := of_decide_eq_false n0
   have m0 := or_fr b0
   have b0 := not_f m0
   have hnd := b0
   have hsd := name_size hnd
   have b0 := or_fr k0
   have k0 := not_f b0
   have b0 := of_decide_eq_true k0
   have hcm := b0
   have hmm := meas_chk hcm
   have b0 := or_fr f0
   have k0 := not_f b0
   have b0 := of_decide_eq_true k0
   have hcc := b0
   have hmc := meas_chk hcc
   have b0 := h0.setb (d := 46) (b := false) rfl f0
   refine r_move (st_listV_w (wt b0)) b0 rfl rfl rfl (by decide) (fun h0 k0 => ?_)
   have h0 := j0.nf
   refine k_call (xs := [.tmp 47]) (st_list_w (wt k0)) k0 rfl rfl rfl (by decide) ok25 (rdeep_calls _ _ h0.il _ _ _ (h0.g 1) (hl := (by omega)) (hsm := (by assumption)) (hb := (by assumption))) ?_
   rintro k0 j0 ⟨rfl, b0⟩
   have j0 := h0.below b0.below
   refine ⟨_, rfl, fun b0 h0 => ?_⟩
   refine r_gtr (st_listV_w (wt h0)) h0 rfl rfl rfl rfl (by decide) (fun b0 k0 => ?_)
   refine r_pick_f sv k0 rfl rfl rfl rfl (by decide) (fun b0 h0 => ?_)
   refine wpList_nil ?_
   exact x_then_n ⟨(h0.sub (rc rfl (rc rfl (rc rfl (rc rfl (rc rfl (rc (rb rfl (by first | rfl | (simp only [f0, bl]; done) | (simp [f0]; done) | (simp [f0]; omega))) (rc rfl rnl)))))))), j0⟩
 rintro h0 j0 ⟨f0, b0⟩
 refine mv f0 (fun j0 h0 => ?_)
 refine l_join (fun ga gw => Reg ga 145 [(0, .slice mA m.length mc), (1, .slice cA c.length cc), (2, .slice argsA args.length argsc), (3, .string data), (8, .bool false), (55, .bool ((((((((heavyB 120 m) || (heavyB 120 c)) || (decide (6 < ((args.length : Nat) : Int)))) || (!(nameOk data))) || (!(decide (((chk m)) = 0)))) || (!(decide (((chk c)) = 0)))) || (decide (30 < ((dpL m : Nat) : Int)))) || (decide (30 < ((dpL c : Nat) : Int))))), (1000000, .bool false)] ∧ St w0 Z none_ gw [] [dShapes, dRow 4 mA m.length mc (encNs m), dRow 4 cA c.length cc (encNs c), dRow 1 argsA args.length argsc (encSs args), dAll args]) 4 ?_ ?_
 ·
  rcases Bool.eq_false_or_eq_true ((((((((heavyB 120 m) || (heavyB 120 c)) || (decide (6 < ((args.length : Nat) : Int)))) || (!(nameOk data))) || (!(decide (((chk m)) = 0)))) || (!(decide (((chk c)) = 0)))) || (decide (30 < ((dpL m : Nat) : Int))))) with j0 | j0
  ·
   have f0 := j0
   try simp only [Bool.or_eq_true, Bool.and_eq_true, Bool.not_eq_true', Bool.not_eq_false', decide_eq_true_eq, decide_eq_false_iff_not, Bool.or_eq_false_iff, Bool.and_eq_false_iff] at f0
   have f0 := h0.setb (d := 51) (b := true) rfl j0
   refine sps f0 (wff f0) (fun k0 m0 => ?_)
   refine sps m0 (wff m0) (fun k0 f0 => ?_)
   refine sps f0 (wff f0) (fun k0 m0 => ?_)
   refine r_pick_t sv m0 rfl rfl rfl rfl (by decide) (fun k0 f0 => ?_)
   refine wpList_nil ?_
   exact x_then_n ⟨(f0.sub (rc rfl (rc rfl (rc rfl (rc rfl (rc rfl (rc (rb rfl (by first | rfl | (simp only [j0, bl]; done) | (simp [j0]; done) | (simp [j0]; omega))) (rc rfl rnl)))))))), b0⟩
  ·
   have f0 := or_fl j0
   have k0 := or_fl f0
   have m0 := or_fl k0
   have n0 := or_fl m0
   have i0 := or_fl n0
   have o0 := or_fl i0
   obtain ⟨hlm, hsm⟩ := heavy_false o0
   have o0 := or_fr i0
   obtain ⟨hlc, hsc⟩ := heavy_false o0
   have o0 := or_fr n0
   have n0 := of_decide_eq_false o0
   have n0 := or_fr m0
   have m0 := not_f n0
   have hnd := m0
   have hsd := name_size hnd
   have m0 := or_fr k0
   have k0 := not_f m0
   have m0 := of_decide_eq_true k0
   have hcm := m0
   have hmm := meas_chk hcm
   have m0 := or_fr f0
   have f0 := not_f m0
   have m0 := of_decide_eq_true f0
   have hcc := m0
   have hmc := meas_chk hcc
   have m0 := or_fr j0
   have f0 := of_decide_eq_false m0
   have f0 := h0.setb (d := 51) (b := false) rfl j0
   refine r_move (st_listV_w (wt f0)) f0 rfl rfl rfl (by decide) (fun h0 m0 => ?_)
   have h0 := b0.nf
   refine k_call (xs := [.tmp 52]) (st_list_w (wt m0)) m0 rfl rfl rfl (by decide) ok25 (rdeep_calls _ _ h0.il _ _ _ (h0.g 2) (hl := (by omega)) (hsm := (by assumption)) (hb := (by assumption))) ?_
   rintro m0 b0 ⟨rfl, f0⟩
   have b0 := h0.below f0.below
   refine ⟨_, rfl, fun f0 h0 => ?_⟩
   refine r_gtr (st_listV_w (wt h0)) h0 rfl rfl rfl rfl (by decide) (fun f0 m0 => ?_)
   refine r_pick_f sv m0 rfl rfl rfl rfl (by decide) (fun f0 h0 => ?_)
   refine wpList_nil ?_
   exact x_then_n ⟨(h0.sub (rc rfl (rc rfl (rc rfl (rc rfl (rc rfl (rc (rb rfl (by first | rfl | (simp only [j0, bl]; done) | (simp [j0]; done) | (simp [j0]; omega))) (rc rfl rnl)))))))), b0⟩
 rintro h0 b0 ⟨j0, f0⟩
 refine mv j0 (fun b0 h0 => ?_)
 refine l_join (fun ga gw => Reg ga 145 [(0, .slice mA m.length mc), (1, .slice cA c.length cc), (2, .slice argsA args.length argsc), (3, .string data), (8, .bool false), (59, .bool (((((((((heavyB 120 m) || (heavyB 120 c)) || (decide (6 < ((args.length : Nat) : Int)))) || (!(nameOk data))) || (!(decide (((chk m)) = 0)))) || (!(decide (((chk c)) = 0)))) || (decide (30 < ((dpL m : Nat) : Int)))) || (decide (30 < ((dpL c : Nat) : Int)))) || (!true))), (1000000, .bool false)] ∧ St w0 Z none_ gw [] [dShapes, dRow 4 mA m.length mc (encNs m), dRow 4 cA c.length cc (encNs c), dRow 1 argsA args.length argsc (encSs args), dAll args]) 3 ?_ ?_
 ·
  rcases Bool.eq_false_or_eq_true (((((((((heavyB 120 m) || (heavyB 120 c)) || (decide (6 < ((args.length : Nat) : Int)))) || (!(nameOk data))) || (!(decide (((chk m)) = 0)))) || (!(decide (((chk c)) = 0)))) || (decide (30 < ((dpL m : Nat) : Int)))) || (decide (30 < ((dpL c : Nat) : Int))))) with b0 | b0
  ·
   have j0 := b0
   try simp only [Bool.or_eq_true, Bool.and_eq_true, Bool.not_eq_true', Bool.not_eq_false', decide_eq_true_eq, decide_eq_false_iff_not, Bool.or_eq_false_iff, Bool.and_eq_false_iff] at j0
   have j0 := h0.setb (d := 56) (b := true) rfl b0
   refine sps j0 (wff j0) (fun m0 k0 => ?_)
   refine sps k0 (wff k0) (fun m0 j0 => ?_)
   refine r_pick_t sv j0 rfl rfl rfl rfl (by decide) (fun m0 k0 => ?_)
   refine wpList_nil ?_
   exact x_then_n ⟨(k0.sub (rc rfl (rc rfl (rc rfl (rc rfl (rc rfl (rc (rb rfl (by first | rfl | (simp only [b0, bl]; done) | (simp [b0]; done) | (simp [b0]; omega))) (rc rfl rnl)))))))), f0⟩
  ·
   have k0 := or_fl b0
   have m0 := or_fl k0
   have j0 := or_fl m0
   have n0 := or_fl j0
   have o0 := or_fl n0
   have i0 := or_fl o0
   have p0 := or_fl i0
   obtain ⟨hlm, hsm⟩ := heavy_false p0
   have p0 := or_fr i0
   obtain ⟨hlc, hsc⟩ := heavy_false p0
   have p0 := or_fr o0
   have o0 := of_decide_eq_false p0
   have o0 := or_fr n0
   have n0 := not_f o0
   have hnd := n0
   have hsd := name_size hnd
   have n0 := or_fr j0
   have j0 := not_f n0
   have n0 := of_decide_eq_true j0
   have hcm := n0
   have hmm := meas_chk hcm
   have n0 := or_fr m0
   have m0 := not_f n0
   have n0 := of_decide_eq_true m0
   have hcc := n0
   have hmc := meas_chk hcc
   have n0 := or_fr k0
   have k0 := of_decide_eq_false n0
   have k0 := or_fr b0
   have n0 := of_decide_eq_false k0
   have n0 := h0.setb (d := 56) (b := false) rfl b0
   have h0 := f0.nf
   refine k_call (xs := []) (st_list_w (wt n0)) n0 rfl rfl rfl (by decide) ok12 (shown14_calls _ _ h0.il (h0.g 0)) ?_
   rintro n0 f0 ⟨rfl, k0⟩
   have f0 := h0.below k0.below
   refine ⟨_, rfl, fun k0 h0 => ?_⟩
   refine r_not (st_listV_w (wt h0)) h0 rfl rfl rfl (by decide) (fun k0 n0 => ?_)
   refine r_pick_f sv n0 rfl rfl rfl rfl (by decide) (fun k0 h0 => ?_)
   refine wpList_nil ?_
   exact x_then_n ⟨(h0.sub (rc rfl (rc rfl (rc rfl (rc rfl (rc rfl (rc (rb rfl (by first | rfl | (simp only [b0, bl]; done) | (simp [b0]; done) | (simp [b0]; omega))) (rc rfl rnl)))))))), f0⟩
 rintro h0 f0 ⟨b0, k0⟩
 refine wpList_nil (x_then_n (d0 _ _ ?_))
 rcases Bool.eq_false_or_eq_true ((((((((((heavyB 120 m) || (heavyB 120 c)) || (decide (6 < ((args.length : Nat) : Int)))) || (!(nameOk data))) || (!(decide (((chk m)) = 0)))) || (!(decide (((chk c)) = 0)))) || (decide (30 < ((dpL m : Nat) : Int)))) || (decide (30 < ((dpL c : Nat) : Int)))) || (!true))) with d0 | d0
 ·
  have f0 := d0
  try simp only [Bool.or_eq_true, Bool.and_eq_true, Bool.not_eq_true', Bool.not_eq_false', decide_eq_true_eq, decide_eq_false_iff_not, Bool.or_eq_false_iff, Bool.and_eq_false_iff] at f0
  have f0 := b0.setb (d := 59) (b := true) rfl d0
  refine wp_cond_true (f0.ev rfl) ?_
  refine wsc (fun h0 n0 => ?_)
  have h0 := k0.nf
  refine k_call (xs := []) se f0 rfl rfl rfl (by decide) ok12 (shown14_calls _ _ h0.il (h0.g 0)) ?_
  rintro f0 m0 ⟨rfl, j0⟩
  have m0 := h0.below j0.below
  refine ⟨_, rfl, fun j0 h0 => ?_⟩
  refine asg h0 (fun j0 f0 => ?_)
  refine wpList_nil (x_then_n (n0 _ _ ?_))
  refine wp_ret ?_
  refine x_then_r ?_
  refine e_ret1 f0 rfl rfl rfl ?_
  refine ⟨?_, m0.fr⟩
  exact congrArg Ending.returned (ret_b (by first | rfl | omega | assumption | exact decide_eq_true (by assumption) | (have m0 := d0; (try simp at m0);  omega) | (simp [d0]; done) | (simp [] at *; done) | (simp [d0] <;> omega) | (rw [Bool.eq_iff_iff]; simp [d0] <;> omega) | (rw [Bool.eq_iff_iff]; simp [d0] at * <;> omega)))
 ·
  have f0 := or_fl d0
  have n0 := or_fl f0
  have j0 := or_fl n0
  have h0 := or_fl j0
  have o0 := or_fl h0
  have p0 := or_fl o0
  have i0 := or_fl p0
  have t0 := or_fl i0
  obtain ⟨hlm, hsm⟩ := heavy_false t0
  have u0 := or_fr i0
  obtain ⟨hlc, hsc⟩ := heavy_false u0
  have i0 := or_fr p0
  have p0 := of_decide_eq_false i0
  have i0 := or_fr o0
  have o0 := not_f i0
  have hnd := o0
  have hsd := name_size hnd
  have i0 := or_fr h0
  have h0 := not_f i0
  have i0 := of_decide_eq_true h0
  have hcm := i0
  have hmm := meas_chk hcm
  have h0 := or_fr j0
  have j0 := not_f h0
  have h0 := of_decide_eq_true j0
  have hcc := h0
  have hmc := meas_chk hcc
  have j0 := or_fr n0
  have n0 := of_decide_eq_false j0
  have j0 := or_fr f0
  have f0 := of_decide_eq_false j0
  have j0 := or_fr d0
  have v0 := not_f j0
  have j0 := b0.setb (d := 59) (b := false) rfl d0
  refine wp_cond_false (j0.ev rfl) ?_
  refine wp_skip ?_
  refine x_then_n (c0 _ _ ?_)
  refine wsc (fun c0 b0 => ?_)
  have c0 := k0.data (dAll []) all_nil
  refine mbs [] [] sv j0 c0 Tryd.underlying42 zi22 (fun k0 x0 y0 z0 b1 => ?_)
  refine asg z0 (fun x0 k0 => ?_)
  refine wpList_nil (x_then_n (b0 _ _ ?_))
  refine wsc (fun b0 x0 => ?_)
  refine mv k0 (fun b0 z0 => ?_)
  refine asg z0 (fun b0 k0 => ?_)
  refine wpList_nil (x_then_n (x0 _ _ ?_))
  refine wp_seq_k (fun x0 b0 => ?_)
  refine wsc (fun x0 z0 => ?_)
  refine asg k0 (fun x0 c0 => ?_)
  refine wpList_nil (x_then_n (z0 _ _ ?_))
  refine wp_block ?_
  have z0 := b1.data (dRow 4 cA ((apK c (lsts args) 0).length) cc (encNs (apK c (lsts args) 0))) (b1.get (i := 2) rfl)
  refine wp_loop_ghost (fun gn ga gw => ∃ k : Nat, ∃ Ys : List Sl, ∃ oA : Option Addr, ∃ oc : Nat, ∃ yA : Option Addr, ∃ yc : Nat, (Reg ga 145 [(0, .slice mA m.length mc), (1, .slice cA c.length cc), (2, .slice argsA args.length argsc), (3, .string data), (1000000, .bool false), (11, .int .i64 ((k : Nat) : Int)), (10, .slice oA ((apK c (lsts args) k).length) oc), (9, .slice yA ((Ys).length) yc)]) ∧ (St w0 Z none_ gw [.row yA ((Ys).length) yc 22 1 (encSs Ys)] [dShapes, dRow 4 mA m.length mc (encNs m), dRow 4 cA c.length cc (encNs c), dRow 1 argsA args.length argsc (encSs args), dAll args, dAll Ys, dRow 4 oA ((apK c (lsts args) k).length) oc (encNs (apK c (lsts args) k))]) ∧ (k ≤ args.length) ∧ (lsts Ys = List.replicate k natQ) ∧ (∀ i, i < k → (PE (nthS args i).2.2 ∧ (nthS args i).2.2.length ≤ 120) ∧ sml (nthS args i).2.2) ∧ (args.length - k) = gn) _ ⟨0, [], cA, cc, (some ⟨y0, 0, none⟩), 0, (c0.sub (rc rfl (rc rfl (rc rfl (rc rfl (rc rfl (rc rfl (rc rfl (rc rfl rnl))))))))), z0, by omega, rfl, (fun _ h => by omega), rfl⟩ ?_
  rintro z0 c0 y0 ⟨k, Ys, oA, oc, yA, yc, b1, x0, hk, hYs, hq, k0⟩
  have hyl : Ys.length = k := by rw [← lsts_len, hYs, List.length_replicate]
  have hol := fun k0 => apK_bd (c := c) (args := args) k0 hlc hq hk
  refine wp_seq_k (fun k0 y0 => ?_)
  refine wsc (fun k0 c0 => ?_)
  refine mv b1 (fun k0 z0 => ?_)
  refine mv z0 (fun k0 b1 => ?_)
  refine r_len sv b1 rfl rfl rfl rfl Tryd.underlying42 (by decide) (fun k0 z0 => ?_)
  refine r_lss sv z0 rfl rfl rfl rfl (by decide) (fun k0 b1 => ?_)
  refine wpList_nil (x_then_n (c0 _ _ ?_))
  rcases Decidable.em (((k : Nat) : Int) < ((args.length : Nat) : Int)) with c0 | c0
  ·
   have hkb : k < args.length := by omega
   have k0 := b1.setb (d := 66) (b := true) rfl (decide_eq_true c0)
   refine wp_cond_true (k0.ev rfl) ?_
   refine wp_skip ?_
   refine x_then_n (y0 _ _ ?_)
   refine wp_seq_k (fun y0 z0 => ?_)
   refine wp_block ?_
   refine wp_seq_k (fun y0 j0 => ?_)
   refine wsc (fun y0 c1 => ?_)
   refine mv k0 (fun y0 d1 => ?_)
   refine mv d1 (fun y0 k0 => ?_)
   refine m_index (i := k) (j := k * 1) sv k0 rfl rfl rfl rfl Tryd.underlying42 sz22 (by omega) (by omega) (ss_elem (t := args) (k := k) (x0.row (i := 3) rfl).2 (by omega)).some_ rfl (by decide) (fun y0 d1 => ?_)
   refine m_loadE sv d1 rfl rfl rfl 0 (k * 1) (ss_elem (t := args) (k := k) (x0.row (i := 3) rfl).2 (by omega)) rfl rfl Tryd.underlying22 rfl (by decide) (fun y0 k0 => ?_)
   have y0 := x0.data (dRow 4 ((nthS args k).1) ((nthS args k).2.2.length) ((nthS args k).2.1) (encNs ((nthS args k).2.2))) (all_at (t := args) (k := k) (x0.get (i := 4) rfl) (by omega))
   have d1 := y0.nf
   refine k_call (xs := [.tmp 72]) se k0 rfl rfl rfl (by decide) ok10 (heavy14_calls _ _ d1.il _ _ ((nthS args k).2.2) (d1.g 7)) ?_
   rintro k0 y0 ⟨rfl, f1⟩
   have y0 := d1.below f1.below
   refine ⟨_, rfl, fun f1 d1 => ?_⟩
   refine mv d1 (fun f1 k0 => ?_)
   refine l_join (fun ga gw => Reg ga 145 [(0, .slice mA m.length mc), (1, .slice cA c.length cc), (2, .slice argsA args.length argsc), (3, .string data), (9, .slice yA ((Ys).length) yc), (10, .slice oA ((apK c (lsts args) k).length) oc), (11, .int .i64 ((k : Nat) : Int)), (81, .bool ((heavyB 120 ((nthS args k).2.2)) || (!(decide (((chk ((nthS args k).2.2))) = 0))))), (1000000, .bool false)] ∧ St w0 Z none_ gw [.row yA ((Ys).length) yc 22 1 (encSs Ys)] [dShapes, dRow 4 mA m.length mc (encNs m), dRow 4 cA c.length cc (encNs c), dRow 1 argsA args.length argsc (encSs args), dAll args, dAll Ys, dRow 4 oA ((apK c (lsts args) k).length) oc (encNs (apK c (lsts args) k)), dRow 4 ((nthS args k).1) ((nthS args k).2.2.length) ((nthS args k).2.1) (encNs ((nthS args k).2.2))]) 7 ?_ ?_
   ·
    rcases Bool.eq_false_or_eq_true (heavyB 120 ((nthS args k).2.2)) with f1 | f1
    ·
     have d1 := k0.setb (d := 74) (b := true) rfl f1
     refine sps d1 (wff d1) (fun h1 i1 => ?_)
     refine sps i1 (wff i1) (fun h1 d1 => ?_)
     refine sps d1 (wff d1) (fun h1 i1 => ?_)
     refine sps i1 (wff i1) (fun h1 d1 => ?_)
     refine sps d1 (wff d1) (fun h1 i1 => ?_)
     refine sps i1 (wff i1) (fun h1 d1 => ?_)
     refine r_pick_t sv d1 rfl rfl rfl rfl (by decide) (fun h1 i1 => ?_)
     refine wpList_nil ?_
     exact x_then_n ⟨(i1.sub (rc rfl (rc rfl (rc rfl (rc rfl (rc rfl (rc rfl (rc rfl (rc (rb rfl (by first | rfl | (simp only [f1, bl]; done) | (simp [f1]; done) | (simp [f1]; omega))) (rc rfl rnl)))))))))), y0⟩
    ·
     obtain ⟨hlx, hsx⟩ := heavy_false f1
     obtain ⟨hlx, hsx⟩ := heavy_false f1
     have i1 := k0.setb (d := 74) (b := false) rfl f1
     refine r_move (st_listV_w (wt i1)) i1 rfl rfl rfl (by decide) (fun k0 h1 => ?_)
     refine r_move (st_listV_w (wt h1)) h1 rfl rfl rfl (by decide) (fun k0 i1 => ?_)
     refine m_index (i := k) (j := k * 1) (st_listV_w (wt i1)) i1 rfl rfl rfl rfl Tryd.underlying42 sz22 (by omega) (by omega) (ss_elem (t := args) (k := k) (y0.row (i := 3) rfl).2 (by omega)).some_ rfl (by decide) (fun k0 h1 => ?_)
     refine m_loadE (st_listV_w (wt h1)) h1 rfl rfl rfl 0 (k * 1) (ss_elem (t := args) (k := k) (y0.row (i := 3) rfl).2 (by omega)) rfl rfl Tryd.underlying22 rfl (by decide) (fun k0 i1 => ?_)
     have k0 := y0.data (dRow 4 ((nthS args k).1) ((nthS args k).2.2.length) ((nthS args k).2.1) (encNs ((nthS args k).2.2))) (all_at (t := args) (k := k) (y0.get (i := 4) rfl) (by omega))
     have y0 := k0.nf
     refine k_call (xs := [.tmp 78]) (st_list_w (wt i1)) i1 rfl rfl rfl (by decide) ok24 (rcheck_calls _ _ y0.il _ _ ((nthS args k).2.2) (y0.g 8) (hl := (by omega)) (hsm := (by assumption))) ?_
     rintro i1 k0 ⟨rfl, h1⟩
     have k0 := y0.below h1.below
     refine ⟨_, rfl, fun h1 y0 => ?_⟩
     refine r_neq (st_listV_w (wt y0)) y0 rfl rfl rfl rfl (by decide) (fun h1 i1 => ?_)
     refine r_pick_f sv i1 rfl rfl rfl rfl (by decide) (fun h1 y0 => ?_)
     refine wpList_nil ?_
     exact x_then_n ⟨(y0.sub (rc rfl (rc rfl (rc rfl (rc rfl (rc rfl (rc rfl (rc rfl (rc (rb rfl (by first | rfl | (simp only [f1, bl]; done) | (simp [f1]; done) | (simp [f1]; omega))) (rc rfl rnl)))))))))), (k0.forget 8)⟩
   rintro y0 k0 ⟨f1, h1⟩
   refine mv f1 (fun k0 y0 => ?_)
   refine l_join (fun ga gw => Reg ga 145 [(0, .slice mA m.length mc), (1, .slice cA c.length cc), (2, .slice argsA args.length argsc), (3, .string data), (9, .slice yA ((Ys).length) yc), (10, .slice oA ((apK c (lsts args) k).length) oc), (11, .int .i64 ((k : Nat) : Int)), (89, .bool (((heavyB 120 ((nthS args k).2.2)) || (!(decide (((chk ((nthS args k).2.2))) = 0)))) || (decide (30 < ((dpL ((nthS args k).2.2) : Nat) : Int))))), (1000000, .bool false)] ∧ St w0 Z none_ gw [.row yA ((Ys).length) yc 22 1 (encSs Ys)] [dShapes, dRow 4 mA m.length mc (encNs m), dRow 4 cA c.length cc (encNs c), dRow 1 argsA args.length argsc (encSs args), dAll args, dAll Ys, dRow 4 oA ((apK c (lsts args) k).length) oc (encNs (apK c (lsts args) k)), dRow 4 ((nthS args k).1) ((nthS args k).2.2.length) ((nthS args k).2.1) (encNs ((nthS args k).2.2))]) 7 ?_ ?_
   ·
    rcases Bool.eq_false_or_eq_true (((heavyB 120 ((nthS args k).2.2)) || (!(decide (((chk ((nthS args k).2.2))) = 0))))) with k0 | k0
    ·
     have f1 := k0
     try simp only [Bool.or_eq_true, Bool.and_eq_true, Bool.not_eq_true', Bool.not_eq_false', decide_eq_true_eq, decide_eq_false_iff_not, Bool.or_eq_false_iff, Bool.and_eq_false_iff] at f1
     have f1 := y0.setb (d := 82) (b := true) rfl k0
     refine sps f1 (wff f1) (fun i1 d1 => ?_)
     refine sps d1 (wff d1) (fun i1 f1 => ?_)
     refine sps f1 (wff f1) (fun i1 d1 => ?_)
     refine sps d1 (wff d1) (fun i1 f1 => ?_)
     refine sps f1 (wff f1) (fun i1 d1 => ?_)
     refine sps d1 (wff d1) (fun i1 f1 => ?_)
     refine r_pick_t sv f1 rfl rfl rfl rfl (by decide) (fun i1 d1 => ?_)
     refine wpList_nil ?_
     exact x_then_n ⟨(d1.sub (rc rfl (rc rfl (rc rfl (rc rfl (rc rfl (rc rfl (rc rfl (rc (rb rfl (by first | rfl | (simp only [k0, bl]; done) | (simp [k0]; done) | (simp [k0]; omega))) (rc rfl rnl)))))))))), h1⟩
    ·
     have d1 := or_fl k0
     obtain ⟨hlx, hsx⟩ := heavy_false d1
     have d1 := or_fr k0
     have i1 := not_f d1
     have d1 := of_decide_eq_true i1
     have hcx := d1
     have hmx := meas_chk hcx
     have d1 := y0.setb (d := 82) (b := false) rfl k0
     refine r_move (st_listV_w (wt d1)) d1 rfl rfl rfl (by decide) (fun y0 i1 => ?_)
     refine r_move (st_listV_w (wt i1)) i1 rfl rfl rfl (by decide) (fun y0 d1 => ?_)
     refine m_index (i := k) (j := k * 1) (st_listV_w (wt d1)) d1 rfl rfl rfl rfl Tryd.underlying42 sz22 (by omega) (by omega) (ss_elem (t := args) (k := k) (h1.row (i := 3) rfl).2 (by omega)).some_ rfl (by decide) (fun y0 i1 => ?_)
     refine m_loadE (st_listV_w (wt i1)) i1 rfl rfl rfl 0 (k * 1) (ss_elem (t := args) (k := k) (h1.row (i := 3) rfl).2 (by omega)) rfl rfl Tryd.underlying22 rfl (by decide) (fun y0 d1 => ?_)
     have y0 := h1.data (dRow 4 ((nthS args k).1) ((nthS args k).2.2.length) ((nthS args k).2.1) (encNs ((nthS args k).2.2))) (all_at (t := args) (k := k) (h1.get (i := 4) rfl) (by omega))
     have h1 := y0.nf
     refine k_call (xs := [.tmp 86]) (st_list_w (wt d1)) d1 rfl rfl rfl (by decide) ok25 (rdeep_calls _ _ h1.il _ _ ((nthS args k).2.2) (h1.g 8) (hl := (by omega)) (hsm := (by assumption)) (hb := (by assumption))) ?_
     rintro d1 y0 ⟨rfl, i1⟩
     have y0 := h1.below i1.below
     refine ⟨_, rfl, fun i1 h1 => ?_⟩
     refine r_gtr (st_listV_w (wt h1)) h1 rfl rfl rfl rfl (by decide) (fun i1 d1 => ?_)
     refine r_pick_f sv d1 rfl rfl rfl rfl (by decide) (fun i1 h1 => ?_)
     refine wpList_nil ?_
     exact x_then_n ⟨(h1.sub (rc rfl (rc rfl (rc rfl (rc rfl (rc rfl (rc rfl (rc rfl (rc (rb rfl (by first | rfl | (simp only [k0, bl]; done) | (simp [k0]; done) | (simp [k0]; omega))) (rc rfl rnl)))))))))), (y0.forget 8)⟩
   rintro h1 y0 ⟨k0, i1⟩
   refine wpList_nil (x_then_n (c1 _ _ ?_))
   rcases Bool.eq_false_or_eq_true ((((heavyB 120 ((nthS args k).2.2)) || (!(decide (((chk ((nthS args k).2.2))) = 0)))) || (decide (30 < ((dpL ((nthS args k).2.2) : Nat) : Int))))) with c1 | c1
   ·
    have y0 := c1
    try simp only [Bool.or_eq_true, Bool.and_eq_true, Bool.not_eq_true', Bool.not_eq_false', decide_eq_true_eq, decide_eq_false_iff_not, Bool.or_eq_false_iff, Bool.and_eq_false_iff] at y0
    have y0 := k0.setb (d := 89) (b := true) rfl c1
    refine wp_cond_true (y0.ev rfl) ?_
    refine wsc (fun h1 d1 => ?_)
    have h1 := i1.nf
    refine k_call (xs := []) se y0 rfl rfl rfl (by decide) ok12 (shown14_calls _ _ h1.il (h1.g 0)) ?_
    rintro y0 f1 ⟨rfl, j1⟩
    have f1 := h1.below j1.below
    refine ⟨_, rfl, fun j1 h1 => ?_⟩
    refine asg h1 (fun j1 y0 => ?_)
    refine wpList_nil (x_then_n (d1 _ _ ?_))
    refine wp_ret ?_
    refine x_then_r ?_
    refine x_block_r ?_
    refine x_then_r ?_
    refine x_then_r ?_
    refine x_block_r ?_
    refine x_then_r ?_
    refine e_ret1 y0 rfl rfl rfl ?_
    refine ⟨?_, f1.fr⟩
    exact congrArg Ending.returned (ret_b (by first | rfl | omega | assumption | exact decide_eq_true (by assumption) | (have m0 := d0; (try simp at m0); have f1 := t0; (try simp at f1); have y0 := u0; (try simp at y0); have d1 := p0; (try simp at d1); have j1 := o0; (try simp at j1); have h1 := i0; (try simp at h1); have k1 := h0; (try simp at k1); have m1 := n0; (try simp at m1); have n1 := f0; (try simp at n1); have o1 := v0; (try simp at o1); have p1 := c0; (try simp at p1); have s1 := c1; (try simp at s1);  omega) | (simp [d0, t0, u0, p0, o0, i0, h0, n0, f0, v0, c0, c1]; done) | (simp [] at *; done) | (simp [d0, t0, u0, p0, o0, i0, h0, n0, f0, v0, c0, c1] <;> omega) | (rw [Bool.eq_iff_iff]; simp [d0, t0, u0, p0, o0, i0, h0, n0, f0, v0, c0, c1] <;> omega) | (rw [Bool.eq_iff_iff]; simp [d0, t0, u0, p0, o0, i0, h0, n0, f0, v0, c0, c1] at * <;> omega)))
   ·
    have t1 := or_fl c1
    have u1 := or_fl t1
    obtain ⟨hlx, hsx⟩ := heavy_false u1
    have u1 := or_fr t1
    have t1 := not_f u1
    have u1 := of_decide_eq_true t1
    have hcx := u1
    have hmx := meas_chk hcx
    have u1 := or_fr c1
    have t1 := of_decide_eq_false u1
    have t1 := k0.setb (d := 89) (b := false) rfl c1
    refine wp_cond_false (t1.ev rfl) ?_
    refine wp_skip ?_
    refine x_then_n (j0 _ _ ?_)
    refine wsc (fun j0 c1 => ?_)
    refine m_build (ps := [(0, .const (.int .i64 10))]) (v := .agg #[.int .i64 10, .int .i64 0, .int .i64 0, .string (⟨#[]⟩ : ByteArray)]) sv t1 rfl rfl rfl (fun _ => by kernel_rfl) (by decide) (fun j0 k0 => ?_)
    refine mbs [(0, .tmp 91)] [.int .i64 10, .int .i64 0, .int .i64 0, .string (⟨#[]⟩ : ByteArray)] sv k0 i1 Tryd.underlying22 zi39 (fun j0 t1 u1 v1 x1 => ?_)
    refine asg v1 (fun t1 j0 => ?_)
    refine wpList_nil (x_then_n (c1 _ _ ?_))
    refine wsc (fun c1 t1 => ?_)
    refine mv j0 (fun c1 v1 => ?_)
    refine mv v1 (fun c1 j0 => ?_)
    have c1 := own_cap (x1.res (i := 1) rfl)
    obtain ⟨v1, k0⟩ := x1.row_data (i := 1) rfl (fun _ h => h)
    have x1 := v1.data (dRow 4 (some ⟨u1, 0, none⟩) 1 1 (encNs ([(⟨10, 0, 0, (⟨#[]⟩ : ByteArray)⟩ : Nd)]))) ⟨c1, k0⟩
    have k0 := x1.data (dAll [(((some ⟨u1, 0, none⟩), 1, [(⟨10, 0, 0, (⟨#[]⟩ : ByteArray)⟩ : Nd)]) : Sl)]) (all_cons (x1.get (i := 8) rfl) all_nil)
    refine mbs [(0, .tmp 94)] [.slice (some ⟨u1, 0, none⟩) 1 1] sv j0 k0 Tryd.underlying42 zi22 (fun x1 v1 c1 i1 y1 => ?_)
    refine m_appendF (f := encS) (i := 0) (Ys) ([(((some ⟨u1, 0, none⟩), 1, [(⟨10, 0, 0, (⟨#[]⟩ : ByteArray)⟩ : Nd)]) : Sl)]) sv i1 y1 rfl rfl rfl rfl rfl encS_len (encS_one _) Tryd.underlying42 zi22 rfl rfl (own_lnews (f := encS) (y1.res (i := 1) rfl)) rfl (by first | omega | (simp only [List.length_cons, List.length_nil]; omega)) (by decide) (fun c1 v1 x1 k0 j0 z1 b2 => ?_)
    have j0 : (Ys ++ ([(((some ⟨u1, 0, none⟩), 1, [(⟨10, 0, 0, (⟨#[]⟩ : ByteArray)⟩ : Nd)]) : Sl)]) : List Sl).length = (Ys).length + 1 := by first | (simp only [List.length_append, List.length_take, List.length_cons, List.length_nil]; done) | (simp only [List.length_append, List.length_take, List.length_cons, List.length_nil]; omega)
    have j0 := b2.erase 1
    have b2 := j0.data (dAll (Ys ++ ([(((some ⟨u1, 0, none⟩), 1, [(⟨10, 0, 0, (⟨#[]⟩ : ByteArray)⟩ : Nd)]) : Sl)]))) (all_append (j0.get (i := 5) rfl) (j0.get (i := 9) rfl))
    refine asg z1 (fun j0 v1 => ?_)
    refine wpList_nil (x_then_n (t1 _ _ ?_))
    refine wsc (fun t1 j0 => ?_)
    refine mv v1 (fun t1 z1 => ?_)
    refine mv z1 (fun t1 v1 => ?_)
    refine mv v1 (fun t1 z1 => ?_)
    refine m_index (i := k) (j := k * 1) sv z1 rfl rfl rfl rfl Tryd.underlying42 sz22 (by omega) (by omega) (ss_elem (t := args) (k := k) (b2.row (i := 3) rfl).2 (by omega)).some_ rfl (by decide) (fun t1 v1 => ?_)
    refine m_loadE sv v1 rfl rfl rfl 0 (k * 1) (ss_elem (t := args) (k := k) (b2.row (i := 3) rfl).2 (by omega)) rfl rfl Tryd.underlying22 rfl (by decide) (fun t1 z1 => ?_)
    have t1 := b2.data (dRow 4 ((nthS args k).1) ((nthS args k).2.2.length) ((nthS args k).2.1) (encNs ((nthS args k).2.2))) (all_at (t := args) (k := k) (b2.get (i := 4) rfl) (by omega))
    have b2 := t1.data (dAll [((oA, oc, apK c (lsts args) k) : Sl), (((nthS args k).1, (nthS args k).2.1, (nthS args k).2.2) : Sl)]) (all_cons (t1.get (i := 6) rfl) (all_cons (t1.get (i := 11) rfl) all_nil))
    refine mbs [(0, .tmp 97), (1, .tmp 101)] [.slice oA ((apK c (lsts args) k).length) oc, .slice ((nthS args k).1) ((nthS args k).2.2.length) ((nthS args k).2.1)] sv z1 b2 Tryd.underlying42 zi22 (fun t1 v1 c1 y1 i1 => ?_)
    refine asg y1 (fun v1 t1 => ?_)
    refine wpList_nil (x_then_n (j0 _ _ (c_region ?_)))
    refine m_build (ps := [(0, .const (.int .i64 5))]) (v := .agg #[.int .i64 5, .int .i64 0, .int .i64 0, .string (⟨#[]⟩ : ByteArray)]) sv t1 rfl rfl rfl (fun _ => by kernel_rfl) (by decide) (fun j0 v1 => ?_)
    refine mv v1 (fun j0 t1 => ?_)
    have j0 := i1.nf
    have i1 := own_cap (j0.res (i := 1) rfl)
    obtain ⟨v1, y1⟩ := j0.row_data (i := 1) rfl (fun _ h => h)
    have j0 := v1.data (dRow 1 (some ⟨c1, 0, none⟩) 2 2 (encSs ([((oA, oc, apK c (lsts args) k) : Sl), (((nthS args k).1, (nthS args k).2.1, (nthS args k).2.2) : Sl)]))) ⟨i1, y1⟩
    refine k_call (xs := [.tmp 103, .tmp 104]) se t1 rfl rfl rfl (by decide) ok26 (rof_calls _ _ j0.il (⟨5, 0, 0, (⟨#[]⟩ : ByteArray)⟩ : Nd) _ _ ([((oA, oc, apK c (lsts args) k) : Sl), (((nthS args k).1, (nthS args k).2.1, (nthS args k).2.2) : Sl)]) (j0.g 13) (j0.g 12) (hl := (by first | (simp; done) | omega)) (hb := (by first | exact Nat.le_trans hz8 (by decide) | ((try have := hol (by omega)); simp only [lsts_cons1, lsts_nil1, List.flatten_cons, List.flatten_nil, List.length_append, List.length_nil, List.length_cons]; omega)))) ?_
    rintro t1 y1 ⟨v1, i1, rfl, c1, b2⟩
    have y1 := j0.below c1.below
    have c1 := j0.dN y1 b2
    refine ⟨_, rfl, fun y1 b2 => ?_⟩
    refine asg b2 (fun y1 j0 => ?_)
    refine wpList_nil ?_
    refine x_block_n ?_
    refine x_then_n (z0 _ _ ?_)
    refine c_region ?_
    refine mv j0 (fun z0 y1 => ?_)
    refine r_add (z := ((k + 1 : Nat) : Int)) sv y1 rfl rfl rfl rfl (by decide) (by omega) (by omega) (by omega) (fun z0 j0 => ?_)
    refine asg j0 (fun z0 y1 => ?_)
    refine wpList_nil ?_
    have z0 : (lsts ([((oA, oc, apK c (lsts args) k) : Sl), (((nthS args k).1, (nthS args k).2.1, (nthS args k).2.2) : Sl)])).flatten ++ [(⟨5, 0, 0, (⟨#[]⟩ : ByteArray)⟩ : Nd)] = apK c (lsts args) (k + 1) := by rw [apK_succ (by rw [lsts_len]; omega)]; simp [noL, lsts_cons1, lsts_nil1, lsts_nth]
    have j0 := y1
    have y1 := c1
    rw [z0] at j0 y1
    have z0 := y1.forget 13
    have y1 := z0.forget 12
    have z0 := y1.forget 11
    have y1 := z0.forget 9
    have z0 := y1.forget 8
    have y1 := z0.forget 7
    have z0 := y1.forget 6
    have y1 := z0.forget 5
    exact ⟨_, by omega, k + 1, Ys ++ ([(((some ⟨u1, 0, none⟩), 1, [(⟨10, 0, 0, (⟨#[]⟩ : ByteArray)⟩ : Nd)]) : Sl)]), v1, i1, x1, k0, (j0.sub (rc rfl (rc rfl (rc rfl (rc rfl (rc rfl (rc rfl (rc rfl (rc rfl rnl))))))))), y1, by omega, by rw [lsts_app, hYs]; exact List.replicate_succ'.symm, el_step (Q := fun x => (PE x ∧ x.length ≤ 120) ∧ sml x) hq ⟨⟨⟨hcx, by omega⟩, hlx⟩, hsx⟩, rfl⟩
  ·
   have hkn : k = args.length := by omega
   obtain ⟨hz1, hz2, hz3, hz4, hz5, hz6, hz7⟩ := el_facts (yA := yA) (yc := yc) (Ys := Ys) hcm (by omega) hlm hsm hcc (by omega) hlc hsc hq hkn (by omega) hnd hYs
   have hz8 : (lsts args).flatten.length ≤ 720 := hz7.1
   have hz9 := hz7.2
   have y1 := b1.setb (d := 66) (b := false) rfl (decide_eq_false c0)
   refine wp_cond_false (y1.ev rfl) ?_
   refine wp_exit ?_
   refine x_then_e ?_
   refine x_then_e ?_
   refine x_block_eq ?_
   refine x_then_n (b0 _ _ ?_)
   refine wsc (fun b0 b1 => ?_)
   refine mv y1 (fun b0 j0 => ?_)
   have b0 := own_cap (x0.res (i := 0) rfl)
   obtain ⟨y1, i1⟩ := x0.row_data (i := 0) rfl (fun _ h => h)
   have x0 := y1.data (dRow 1 yA ((Ys).length) yc (encSs Ys)) ⟨b0, i1⟩
   have i1 := x0.data (dAllT [((yA, yc, Ys) : Tl)]) (allT_cons (x0.get (i := 7) rfl) (x0.get (i := 5) rfl) allT_nil)
   refine mbs [(0, .tmp 106)] [.slice yA ((Ys).length) yc] sv j0 i1 Tryd.underlying23 zi42 (fun x0 y1 b0 v1 k0 => ?_)
   refine asg v1 (fun y1 x0 => ?_)
   refine wpList_nil (x_then_n (b1 _ _ ?_))
   refine wsc (fun b1 y1 => ?_)
   refine mv x0 (fun b1 v1 => ?_)
   refine mv v1 (fun b1 x0 => ?_)
   refine mv x0 (fun b1 v1 => ?_)
   refine mv v1 (fun b1 x0 => ?_)
   refine r_len sv x0 rfl rfl rfl rfl Tryd.underlying42 (by decide) (fun b1 v1 => ?_)
   refine m_build (ps := [(0, .const (.int .i64 26)), (3, .tmp 110), (2, .tmp 112)]) (v := .agg #[.int .i64 26, .int .i64 0, .int .i64 ((args.length : Nat) : Int), .string data]) sv v1 rfl rfl rfl (fun _ => by kernel_rfl) (by decide) (fun b1 x0 => ?_)
   refine mv x0 (fun b1 v1 => ?_)
   have b1 := k0.nf
   refine k_call (xs := [.tmp 113, .tmp 114]) se v1 rfl rfl rfl (by decide) ok26 (rof_calls _ _ b1.il (⟨26, 0, ((args.length : Nat) : Int), data⟩ : Nd) _ _ _ (b1.g 3) (b1.g 4) (hl := (by first | (simp; done) | omega)) (hb := (by first | exact Nat.le_trans hz8 (by decide) | ((try have := hol (by omega)); simp only [lsts_cons1, lsts_nil1, List.flatten_cons, List.flatten_nil, List.length_append, List.length_nil, List.length_cons]; omega)))) ?_
   rintro v1 k0 ⟨x0, i1, rfl, j0, x1⟩
   have k0 := b1.below j0.below
   have j0 := b1.dN k0 x1
   refine ⟨_, rfl, fun k0 x1 => ?_⟩
   have k0 := j0.data (dAll [((mA, mc, m) : Sl), ((cA, cc, c) : Sl), ((x0, i1, (lsts args).flatten ++ [(⟨26, 0, ((args.length : Nat) : Int), data⟩ : Nd)]) : Sl)]) (all_cons (j0.get (i := 1) rfl) (all_cons (j0.get (i := 2) rfl) (all_cons (j0.get (i := 9) rfl) all_nil)))
   refine mbs [(0, .tmp 108), (1, .tmp 109), (2, .tmp 115)] [.slice mA m.length mc, .slice cA c.length cc, .slice x0 (((lsts args).flatten ++ [(⟨26, 0, ((args.length : Nat) : Int), data⟩ : Nd)]).length) i1] sv x1 k0 Tryd.underlying42 zi22 (fun j0 b1 v1 u1 z0 => ?_)
   refine asg u1 (fun b1 j0 => ?_)
   refine wpList_nil (x_then_n (y1 _ _ ?_))
   refine wsc (fun y1 b1 => ?_)
   refine mv j0 (fun y1 u1 => ?_)
   refine m_build (ps := [(0, .const (.int .i64 27)), (3, .tmp 118), (2, .const (.int .i64 1))]) (v := .agg #[.int .i64 27, .int .i64 0, .int .i64 1, .string data]) sv u1 rfl rfl rfl (fun _ => by kernel_rfl) (by decide) (fun y1 j0 => ?_)
   refine mv j0 (fun y1 u1 => ?_)
   have y1 := z0.nf
   have z0 := own_cap (y1.res (i := 1) rfl)
   obtain ⟨j0, k0⟩ := y1.row_data (i := 1) rfl (fun _ h => h)
   have y1 := j0.data (dRow 1 (some ⟨v1, 0, none⟩) 3 3 (encSs ([((mA, mc, m) : Sl), ((cA, cc, c) : Sl), ((x0, i1, (lsts args).flatten ++ [(⟨26, 0, ((args.length : Nat) : Int), data⟩ : Nd)]) : Sl)]))) ⟨z0, k0⟩
   refine k_call (xs := [.tmp 119, .tmp 120]) se u1 rfl rfl rfl (by decide) ok26 (rof_calls _ _ y1.il (⟨27, 0, 1, data⟩ : Nd) _ _ ([((mA, mc, m) : Sl), ((cA, cc, c) : Sl), ((x0, i1, (lsts args).flatten ++ [(⟨26, 0, ((args.length : Nat) : Int), data⟩ : Nd)]) : Sl)]) (y1.g 11) (y1.g 10) (hl := (by first | (simp; done) | omega)) (hb := (by first | exact Nat.le_trans hz8 (by decide) | ((try have := hol (by omega)); simp only [lsts_cons1, lsts_nil1, List.flatten_cons, List.flatten_nil, List.length_append, List.length_nil, List.length_cons]; omega)))) ?_
   rintro u1 k0 ⟨j0, z0, rfl, v1, x1⟩
   have z0 := y1.below v1.below
   have v1 := y1.dN z0 x1
   refine ⟨_, rfl, fun z0 x1 => ?_⟩
   refine mv x1 (fun z0 y1 => ?_)
   have z0 := v1.nf
   have v1 := own_cap (z0.res (i := 0) rfl)
   obtain ⟨x1, j0⟩ := z0.row_data (i := 0) rfl (fun _ h => h)
   have z0 := x1.data (dRow 1 (some ⟨b0, 0, none⟩) 1 1 (encTs ([((yA, yc, Ys) : Tl)]))) ⟨v1, j0⟩
   refine k_call (xs := [.tmp 121, .tmp 122]) se y1 rfl rfl rfl (by decide) ok13 (urule_calls _ _ z0.il _ _ ((lsts ([((mA, mc, m) : Sl), ((cA, cc, c) : Sl), ((x0, i1, (lsts args).flatten ++ [(⟨26, 0, ((args.length : Nat) : Int), data⟩ : Nd)]) : Sl)])).flatten ++ [(⟨27, 0, 1, data⟩ : Nd)]) _ _ ([((yA, yc, Ys) : Tl)]) (z0.g 0) (z0.g 12) (z0.g 13) (z0.g 8) (hsm := hz1) (hl := (Nat.le_trans hz2 (by decide))) (hcs := (by first | exact el_plain1 hYs | exact el_plain0)) (hc4 := (by simp))) ?_
   rintro y1 j0 ⟨x1, v1, rfl, b0, k0⟩
   have v1 := z0.below b0.below
   have b0 := z0.dN v1 k0
   refine ⟨_, rfl, fun v1 k0 => ?_⟩
   refine mv k0 (fun v1 z0 => ?_)
   refine r_extract sv z0 rfl rfl rfl rfl (by decide) (fun v1 k0 => ?_)
   refine r_extract sv k0 rfl rfl rfl rfl (by decide) (fun v1 z0 => ?_)
   refine asg z0 (fun v1 k0 => ?_)
   refine asg k0 (fun v1 z0 => ?_)
   refine wpList_nil (x_then_n (b1 _ _ ?_))
   refine wsc (fun b1 v1 => ?_)
   refine mv z0 (fun b1 k0 => ?_)
   refine m_build (ps := [(0, .const (.int .i64 27)), (3, .tmp 127), (2, .const (.int .i64 1))]) (v := .agg #[.int .i64 27, .int .i64 0, .int .i64 1, .string data]) sv k0 rfl rfl rfl (fun _ => by kernel_rfl) (by decide) (fun b1 z0 => ?_)
   refine mv z0 (fun b1 k0 => ?_)
   have b1 := b0.nf
   refine k_call (xs := [.tmp 128, .tmp 129]) se k0 rfl rfl rfl (by decide) ok26 (rof_calls _ _ b1.il (⟨27, 0, 1, data⟩ : Nd) _ _ ([((mA, mc, m) : Sl), ((cA, cc, c) : Sl), ((x0, i1, (lsts args).flatten ++ [(⟨26, 0, ((args.length : Nat) : Int), data⟩ : Nd)]) : Sl)]) (b1.g 11) (b1.g 10) (hl := (by first | (simp; done) | omega)) (hb := (by first | exact Nat.le_trans hz8 (by decide) | ((try have := hol (by omega)); simp only [lsts_cons1, lsts_nil1, List.flatten_cons, List.flatten_nil, List.length_append, List.length_nil, List.length_cons]; omega)))) ?_
   rintro k0 b0 ⟨z0, x1, rfl, j0, y1⟩
   have x1 := b1.below j0.below
   have j0 := b1.dN x1 y1
   refine ⟨_, rfl, fun x1 y1 => ?_⟩
   have x1 := j0.nf
   refine k_call (xs := [.tmp 130, .const (.slice none 0 0)]) se y1 rfl rfl rfl (by decide) ok13 (urule_calls _ _ x1.il _ _ ((lsts ([((mA, mc, m) : Sl), ((cA, cc, c) : Sl), ((x0, i1, (lsts args).flatten ++ [(⟨26, 0, ((args.length : Nat) : Int), data⟩ : Nd)]) : Sl)])).flatten ++ [(⟨27, 0, 1, data⟩ : Nd)]) none 0 [] (x1.g 0) (x1.g 15) ⟨Nat.le_refl _, RowI.nil _ _ _ _⟩ allT_nil (hsm := hz1) (hl := (Nat.le_trans hz2 (by decide))) (hcs := (by first | exact el_plain1 hYs | exact el_plain0)) (hc4 := (by simp))) ?_
   rintro y1 j0 ⟨b1, z0, rfl, b0, k0⟩
   have z0 := x1.below b0.below
   have b0 := x1.dN z0 k0
   refine ⟨_, rfl, fun z0 k0 => ?_⟩
   refine mv k0 (fun z0 x1 => ?_)
   refine r_extract sv x1 rfl rfl rfl rfl (by decide) (fun z0 k0 => ?_)
   refine r_extract sv k0 rfl rfl rfl rfl (by decide) (fun z0 x1 => ?_)
   refine asg x1 (fun z0 k0 => ?_)
   refine asg k0 (fun z0 x1 => ?_)
   refine wpList_nil (x_then_n (v1 _ _ ?_))
   refine wsc (fun v1 z0 => ?_)
   refine mv x1 (fun v1 k0 => ?_)
   refine r_eql sv k0 rfl rfl rfl rfl (by decide) (fun v1 x1 => ?_)
   refine mv x1 (fun v1 k0 => ?_)
   have v1 : ((utE ((lsts ([((mA, mc, m) : Sl), ((cA, cc, c) : Sl), ((x0, i1, (lsts args).flatten ++ [(⟨26, 0, ((args.length : Nat) : Int), data⟩ : Nd)]) : Sl)])).flatten ++ [(⟨27, 0, 1, data⟩ : Nd)]) (lstsT ([((yA, yc, Ys) : Tl)])))) = 0 := hz3
   have x1 := k0.setb (d := 136) (b := true) rfl (decide_eq_true v1)
   refine r_move (st_listV_w (wt x1)) x1 rfl rfl rfl (by decide) (fun k0 b1 => ?_)
   refine r_move (st_listV_w (wt b1)) b1 rfl rfl rfl (by decide) (fun k0 x1 => ?_)
   have k0 := b0.nf
   refine k_call (xs := [.tmp 137, .tmp 138]) (st_list_w (wt x1)) x1 rfl rfl rfl (by decide) ok16 (rsame_calls _ _ k0.il _ _ (utA ((lsts ([((mA, mc, m) : Sl), ((cA, cc, c) : Sl), ((x0, i1, (lsts args).flatten ++ [(⟨26, 0, ((args.length : Nat) : Int), data⟩ : Nd)]) : Sl)])).flatten ++ [(⟨27, 0, 1, data⟩ : Nd)]) (lstsT ([((yA, yc, Ys) : Tl)]))) _ _ (apK c (lsts args) k) (k0.g 14) (k0.g 6) (hl := (by exact (congrArg List.length hz4 ▸ hz9)))) ?_
   rintro x1 b0 ⟨rfl, b1⟩
   have b0 := k0.below b1.below
   refine ⟨_, rfl, fun b1 k0 => ?_⟩
   refine r_pick_t sv k0 rfl rfl rfl rfl (by decide) (fun b1 x1 => ?_)
   refine mv x1 (fun b1 k0 => ?_)
   have b1 : (decide ((utA ((lsts ([((mA, mc, m) : Sl), ((cA, cc, c) : Sl), ((x0, i1, (lsts args).flatten ++ [(⟨26, 0, ((args.length : Nat) : Int), data⟩ : Nd)]) : Sl)])).flatten ++ [(⟨27, 0, 1, data⟩ : Nd)]) (lstsT ([((yA, yc, Ys) : Tl)]))) = (apK c (lsts args) k))) = true := decide_eq_true hz4
   have x1 := of_decide_eq_true b1
   have j0 := k0.setb (d := 141) (b := true) rfl b1
   refine r_move (st_listV_w (wt j0)) j0 rfl rfl rfl (by decide) (fun k0 y1 => ?_)
   refine r_eql (st_listV_w (wt y1)) y1 rfl rfl rfl rfl (by decide) (fun k0 j0 => ?_)
   refine r_pick_t sv j0 rfl rfl rfl rfl (by decide) (fun k0 y1 => ?_)
   refine asg y1 (fun k0 j0 => ?_)
   refine wpList_nil (x_then_n (z0 _ _ ?_))
   refine wp_ret ?_
   refine e_ret1 j0 rfl rfl rfl ?_
   have j0 : ((utE ((lsts ([((mA, mc, m) : Sl), ((cA, cc, c) : Sl), ((x0, i1, (lsts args).flatten ++ [(⟨26, 0, ((args.length : Nat) : Int), data⟩ : Nd)]) : Sl)])).flatten ++ [(⟨27, 0, 1, data⟩ : Nd)]) (lstsT []))) = 120 := hz5
   refine ⟨?_, b0.fr⟩
   exact congrArg Ending.returned (ret_b (by first | rfl | omega | assumption | exact decide_eq_true (by assumption) | (have m0 := d0; (try simp at m0); have f1 := t0; (try simp at f1); have y0 := u0; (try simp at y0); have d1 := p0; (try simp at d1); have j1 := o0; (try simp at j1); have h1 := i0; (try simp at h1); have k1 := h0; (try simp at k1); have m1 := n0; (try simp at m1); have n1 := f0; (try simp at n1); have o1 := v0; (try simp at o1); have p1 := c0; (try simp at p1); have s1 := v1; (try simp at s1); have b0 := b1; (try simp at b0); have i1 := x1; (try simp at i1); have x0 := j0; (try simp at x0);  omega) | (simp [d0, t0, u0, p0, o0, i0, h0, n0, f0, v0, c0, v1, b1, x1, j0]; done) | (simp [] at *; done) | (simp [d0, t0, u0, p0, o0, i0, h0, n0, f0, v0, c0, v1, b1, x1, j0] <;> omega) | (rw [Bool.eq_iff_iff]; simp [d0, t0, u0, p0, o0, i0, h0, n0, f0, v0, c0, v1, b1, x1, j0] <;> omega) | (rw [Bool.eq_iff_iff]; simp [d0, t0, u0, p0, o0, i0, h0, n0, f0, v0, c0, v1, b1, x1, j0] at * <;> omega)))
end Go.Proofs.YtcfponnkfhkbdaaDoor
/- From a row's reading to cells, and back: slices of nodes, the table of shapes, arguments that nobody changed. -/
namespace Go.Proofs.YtcfponnkfhkbdaaDoor
set_option linter.unusedSimpArgs false
set_option linter.unusedVariables false
open Go Go.RowKit Go.WideShapes Go.ChangeShapes
theorem kids : Kids Tryd.prog (· < Tryd.prog.types.size) := kids_rows (by kernel_rfl) (by kernel_rfl)
theorem slicesFull : ∀ t e, t < Tryd.prog.types.size → Tryd.prog.underlying t = some (.slice e) → 0 < Tryd.prog.cellsOf e := slices_full_of Tryd.prog (by kernel_rfl)
theorem ownKnobNone : ownKnob Tryd.prog.godebug = none := by kernel_rfl
section
variable {H : Type} {enc : TypeId × Value → H} {P : Program} {w W W' : World}
theorem trodAll_carry {base : Nat} {sp : Nat → Bool} {held : Bool} : ∀ {ts : List TypeId} {vs : List Value} {ds : List (DataW H)} {ps : List MemPlace},
  DataW.TrodAll enc P W base sp held ts vs ds ps → (∀ p ∈ ps, W.sameAt W' p) → DataW.TrodAll enc P W' base sp held ts vs ds ps
 | [], [], [], _, h, _ => h
 | _ :: _, _ :: _, _ :: _, _, ⟨p, q, ⟨n, h1⟩, h2, e⟩, hs =>
  ⟨p, q, ⟨n, DataW.trod_carry n _ _ _ h1 (fun x hx => hs x (by rw [e]; exact List.mem_append_left _ hx))⟩,
   trodAll_carry h2 (fun x hx => hs x (by rw [e]; exact List.mem_append_right _ hx)), e⟩
 | [], [], _ :: _, _, h, _ => h.elim
 | [], _ :: _, _, _, h, _ => h.elim
 | _ :: _, [], _, _, h, _ => h.elim
 | _ :: _, _ :: _, [], _, h, _ => h.elim
theorem sameAt_below (hb : Below W.heap.size W W') {p : MemPlace} (hp : p.block < W.heap.size) : W.sameAt W' p := by
 cases p with
 | cell b off => exact hb.cell (p := ⟨b, off, none⟩) hp
 | map b => exact hb.block b hp
theorem post_true {f : Func} {s : ChangeSpec} {apart fresh handsOn again : Bool} {args : Array Value} {ds : List (DataW H)} {before : List MemPlace}
  (K : Kids P (· < P.types.size)) (hz : ∀ t e, t < P.types.size → P.underlying t = some (.slice e) → 0 < P.cellsOf e) (hts : ∀ t ∈ f.params.toList, t < P.types.size)
  (hvars : s.vars = []) (hW : DataW.Whole enc P f.params.toList s.vars apart W args.toList ds [] before)
  {tb : TypeId} (hrt : f.resultTypes = #[tb]) (htb : P.underlying tb = some .bool)
  (hfn : (s.fn H ds).results = [.lit (.bool true)] ∧ (s.fn H ds).args = ds ∧ (s.fn H ds).vars = []) (hb : Below W.heap.size W W') :
  s.post enc P f apart fresh handsOn again W args (.bool true) W' := by
 have hlt : ∀ p ∈ before, p.block < W.heap.size := fun p hp => hW.lt p hp
 have hold : ∀ p ∈ before, (fun b => decide (b < W.heap.size)) p.block = true := fun p hp => by simpa using hlt p hp
 have hW0 := hW
 obtain ⟨p, q, hA, hV, he, hzf, hn⟩ := hW0
 rw [hvars] at hV
 have hq : q = [] := hV
 subst hq
 rw [List.append_nil] at he
 subst he
 have hA' := trodAll_carry (W' := W') hA (fun x hx => sameAt_below hb (hlt x hx))
 have hres : ∀ (b : Nat) (sp : Nat → Bool) (hd : Bool), DataW.TrodAll enc P W' b sp hd f.resultTypes.toList ((Value.bool true).resultList f.resultTypes.size) (s.fn H ds).results [] := fun b sp hd => by
  rw [hfn.1, hrt]
  exact trodAll_mk1 (shut_bool htb true)
 refine ⟨ds, [], before, [], before, [], hW, ?_, ?_, ?_, World.keptBut_mono (fun p hp => ⟨hp, .inr (.inl hp)⟩) (hb.frame (· ∈ before)), fun _ => ⟨?_, ?_⟩⟩
 · rw [List.append_nil]; exact hres _ _ _
 ·
  rw [List.append_nil, hfn.2.1]
  exact DataW.TrodAll.respare K hz hts hA' hold
 ·
  rw [List.append_nil, hfn.2.2, hvars]
  exact rfl
 · exact ok_one hrt rfl (okWide_bool_mk htb true)
 ·
  refine ⟨[.lit (.bool true)] ++ ds, [], [] ++ before, ⟨[] ++ before, [], ?_, ?_, by simp, ?_, ?_⟩, ?_⟩
  ·
   rw [hrt]
   exact trodAll_append hA' (trodAll_mk1 (shut_bool htb true))
  ·
   rw [hvars]
   exact rfl
  ·
   intro b off hp
   have hin : MemPlace.cell b off ∈ before := by simpa using hp
   rw [hb.frozen (hlt _ hin)]
   exact hzf b off hin
  ·
   intro ha
   simpa using hn ha
  ·
   intro x hx _
   simpa using hx
end
section
variable {H : Type} {enc : TypeId × Value → H} {w : World}
theorem lt_of_cell {p : Addr} {v : Value} (h : w.cell? p = some v) : p.block < w.heap.size := by
 unfold World.cell? at h
 cases ho : w.heap[p.block]? with
 | none => simp [ho] at h
 | some o => exact (Array.getElem?_eq_some_iff.1 ho).1
set_option maxRecDepth 100000 in
theorem node_cells {base : Nat} {sp : Nat → Bool} {held : Bool} {n : Nat} {cs : List Value} {x : DataW H × List MemPlace} (h : DataW.trod enc Tryd.prog w base sp held n 39 cs = some x) : ∃ nd : Nd, cs = encN nd := by
 have hu : Tryd.prog.underlying 39 = some (.struct (Tryd.prog.fieldsOf 39)) := by kernel_rfl
 have hf : (Tryd.prog.fieldsOf 39).toList.map (fun f => (f.type, f.offset)) = [(3, 0), (3, 1), (3, 2), (9, 3)] := by kernel_rfl
 have hci : Tryd.prog.cellsOf 3 = 1 := by kernel_rfl
 have hcs : Tryd.prog.cellsOf 9 = 1 := by kernel_rfl
 have hcn : Tryd.prog.cellsOf 39 = 4 := by kernel_rfl
 obtain ⟨xs, m, _, _, hl, _, hg⟩ := DataW.trod_struct hu h
 rw [hcn] at hl
 have fld : ∀ (j : Nat) (t : TypeId) (off : Nat), ((Tryd.prog.fieldsOf 39).toList.map (fun f => (f.type, f.offset)))[j]? = some (t, off) → ∃ y, DataW.trod enc Tryd.prog w base sp held m t ((cs.drop off).take (Tryd.prog.cellsOf t)) = some y := by
  intro j t off hj
  rw [List.getElem?_map] at hj
  cases hfj : (Tryd.prog.fieldsOf 39).toList[j]? with
  | none => rw [hfj] at hj; cases hj
  | some f =>
   rw [hfj] at hj
   simp only [Option.map_some, Option.some.injEq, Prod.mk.injEq] at hj
   obtain ⟨rfl, rfl⟩ := hj
   have h1 := hg j f (by rw [← Array.getElem?_toList]; exact hfj)
   have hjl : j < (Tryd.prog.fieldsOf 39).size := by
    have := (List.getElem?_eq_some_iff.1 hfj).1
    simpa using this
   have hxl : j < xs.length := by omega
   exact ⟨xs[j], by rw [h1]; exact List.getElem?_eq_getElem hxl⟩
 rw [hf] at fld
 match cs, hl with
 | [c0, c1, c2, c3], _ =>
  obtain ⟨y0, h0⟩ := fld 0 _ _ rfl
  obtain ⟨y1, h1⟩ := fld 1 _ _ rfl
  obtain ⟨y2, h2⟩ := fld 2 _ _ rfl
  obtain ⟨y3, h3⟩ := fld 3 _ _ rfl
  rw [hci] at h0 h1 h2
  rw [hcs] at h3
  obtain ⟨a, ha, _⟩ := DataW.trod_int Tryd.underlying3 h0
  obtain ⟨b, hb, _⟩ := DataW.trod_int Tryd.underlying3 h1
  obtain ⟨c, hc, _⟩ := DataW.trod_int Tryd.underlying3 h2
  obtain ⟨s, hs, _⟩ := DataW.trod_string Tryd.underlying9 h3
  simp at ha hb hc hs
  exact ⟨⟨a, b, c, s⟩, by simp [encN, ha, hb, hc, hs]⟩
set_option maxRecDepth 100000 in
theorem open_nodes {r : Reach} {base b0 : Nat} {sp : Nat → Bool} {held : Bool} {v : Value} {d : DataW H} {ps : List MemPlace} (hval : Value.okWide Tryd.prog w r b0 22 v) (hd : DataW.Trod enc Tryd.prog w base sp held 22 v d ps) :
  ∃ (A : Option Addr) (c : Nat) (t : List Nd), v = .slice A t.length c ∧ (dRow 4 A t.length c (encNs t)).φ w (fun k => k < w.heap.size) := by
 obtain ⟨A, len, cap, rfl⟩ := okWide_slice Tryd.underlying22 hval
 obtain ⟨fuel, hf⟩ := hd
 have hcn : Tryd.prog.cellsOf 39 = 4 := by kernel_rfl
 rcases Deep.open_slice Tryd.underlying22 hf with ⟨hcs, _⟩ | ⟨a, len', cap', m, n, D, Pl, hcs, _, hl, _, hm, _, hi⟩
 ·
  simp [Value.cells] at hcs
  obtain ⟨rfl, rfl, rfl⟩ := hcs
  exact ⟨none, 0, [], rfl, Nat.le_refl _, rfl, fun h => absurd h (by simp)⟩
 ·
  simp [Value.cells] at hcs
  obtain ⟨rfl, rfl, rfl⟩ := hcs
  have hmm : len ≤ m := by rw [hm]; split <;> omega
  have hnd : ∀ i, ∃ nd : Nd, i < len → w.cells? base (a.add (i * 4)) 4 = some (encN nd) := by
   intro i
   by_cases hil : i < len
   ·
    obtain ⟨cs', hc, ht⟩ := hi i (by omega)
    obtain ⟨nd, rfl⟩ := node_cells ht
    rw [hcn] at hc
    exact ⟨nd, fun _ => hc⟩
   · exact ⟨ndz, fun h => absurd h hil⟩
  obtain ⟨f, hf'⟩ := Classical.axiomOfChoice hnd
  refine ⟨some a, cap, (List.range len).map f, by simp, ?_, ?_, fun hpos => ⟨a, rfl, ?_, ?_⟩⟩
  · simpa using hl
  · exact encNs_length _
  ·
   have hp0 : 0 < len := by simpa using hpos
   obtain ⟨_, _, hat⟩ := World.cells?_some (hf' 0 hp0)
   have h0 := hat 0 (by omega)
   rw [add_of_add] at h0
   have := lt_of_cell (w := w) (p := a.add (0 * 4 + 0)) (by rw [h0]; rfl)
   rwa [block_of_add] at this
  ·
   intro j u hu
   have hjl : j < len * 4 := by
    have h1 := (List.getElem?_eq_some_iff.1 hu).1
    rw [encNs_length] at h1
    simpa using h1
   have hi4 : j / 4 < len := by omega
   obtain ⟨_, hcl, hat⟩ := World.cells?_some (hf' (j / 4) hi4)
   have h1 := hat (j % 4) (by omega)
   rw [add_of_add, show j / 4 * 4 + j % 4 = j by omega] at h1
   rw [h1, ← hu]
   have h2 := enc_at encN_len ((List.range len).map f) (j / 4) (by simpa using hi4) ndz
   have h3 : (((List.range len).map f).getD (j / 4) ndz) = f (j / 4) := by simp [hi4]
   rw [h3] at h2
   have h4 : (encNs ((List.range len).map f))[j]? = (((((List.range len).map f).flatMap encN).drop (j / 4 * 4)).take 4)[j % 4]? := by
    rw [List.getElem?_take_of_lt (by omega), List.getElem?_drop, show j / 4 * 4 + j % 4 = j by omega]
    rfl
   rw [h4, h2]
end
end Go.Proofs.YtcfponnkfhkbdaaDoor
/- An argument that is a string. -/
namespace Go.Proofs.YtcfponnkfhkbdaaDoor
set_option linter.unusedSimpArgs false
set_option linter.unusedVariables false
open Go Go.RowKit Go.WideShapes Go.ChangeShapes
set_option maxRecDepth 100000 in
theorem open_str {w : World} {r : Reach} {b0 : Nat} {v : Value} (hval : Value.okWide Tryd.prog w r b0 9 v) : ∃ s : ByteArray, v = .string s ∧ s.size ≤ 9223372036854775807 := by
 have ht : Tryd.prog.underlying 9 = some .string := Tryd.underlying9
 obtain ⟨s, rfl⟩ := okWide_string ht hval
 refine ⟨s, rfl, ?_⟩
 simp only [Value.okWide, ht, Cell.okWide] at hval
 have h1 : (s.size : Int) ≤ IntKind.i64.max := by simpa [Cell.ok, ht] using hval
 have h2 : IntKind.i64.max = 9223372036854775807 := rfl
 omega
end Go.Proofs.YtcfponnkfhkbdaaDoor
/- An argument that is a slice of slices of nodes; one that is a slice of these. -/
namespace Go.Proofs.YtcfponnkfhkbdaaDoor
set_option linter.unusedSimpArgs false
set_option linter.unusedVariables false
open Go Go.RowKit Go.WideShapes Go.ChangeShapes
section
variable {H : Type} {enc : TypeId × Value → H} {w : World}
set_option maxRecDepth 100000 in
theorem nodes_cell {base : Nat} {sp : Nat → Bool} {held : Bool} {n : Nat} {cs : List Value} {x : DataW H × List MemPlace} (hf : DataW.trod enc Tryd.prog w base sp held n 22 cs = some x) :
  ∃ s : Sl, cs = encS s ∧ (dRow 4 s.1 s.2.2.length s.2.1 (encNs s.2.2)).φ w (fun k => k < w.heap.size) := by
 have hcn : Tryd.prog.cellsOf 39 = 4 := by kernel_rfl
 rcases Deep.open_slice Tryd.underlying22 hf with ⟨hcs, _⟩ | ⟨a, len, cap, m, _, D, Pl, hcs, _, hl, _, hm, _, hi⟩
 · exact ⟨slz, hcs, Nat.le_refl _, rfl, fun h => absurd h (by simp [slz])⟩
 ·
  have hmm : len ≤ m := by rw [hm]; split <;> omega
  have hnd : ∀ i, ∃ nd : Nd, i < len → w.cells? base (a.add (i * 4)) 4 = some (encN nd) := by
   intro i
   by_cases hil : i < len
   ·
    obtain ⟨cs', hc, ht⟩ := hi i (by omega)
    obtain ⟨nd, rfl⟩ := node_cells ht
    rw [hcn] at hc
    exact ⟨nd, fun _ => hc⟩
   · exact ⟨ndz, fun h => absurd h hil⟩
  obtain ⟨f, hf'⟩ := Classical.axiomOfChoice hnd
  refine ⟨(some a, cap, (List.range len).map f), by rw [hcs]; simp [encS], ?_, ?_, fun hpos => ⟨a, rfl, ?_, ?_⟩⟩
  · simpa using hl
  · exact encNs_length _
  ·
   have hp0 : 0 < len := by simpa using hpos
   obtain ⟨_, _, hat⟩ := World.cells?_some (hf' 0 hp0)
   have h0 := hat 0 (by omega)
   rw [add_of_add] at h0
   have := lt_of_cell (w := w) (p := a.add (0 * 4 + 0)) (by rw [h0]; rfl)
   rwa [block_of_add] at this
  ·
   intro j u hu
   have hjl : j < len * 4 := by
    have h1 := (List.getElem?_eq_some_iff.1 hu).1
    rw [encNs_length] at h1
    simpa using h1
   have hi4 : j / 4 < len := by omega
   obtain ⟨_, hcl, hat⟩ := World.cells?_some (hf' (j / 4) hi4)
   have h1 := hat (j % 4) (by omega)
   rw [add_of_add, show j / 4 * 4 + j % 4 = j by omega] at h1
   rw [h1, ← hu]
   have h2 := enc_at encN_len ((List.range len).map f) (j / 4) (by simpa using hi4) ndz
   have h3 : (((List.range len).map f).getD (j / 4) ndz) = f (j / 4) := by simp [hi4]
   rw [h3] at h2
   have h4 : (encNs ((List.range len).map f))[j]? = (((((List.range len).map f).flatMap encN).drop (j / 4 * 4)).take 4)[j % 4]? := by
    rw [List.getElem?_take_of_lt (by omega), List.getElem?_drop, show j / 4 * 4 + j % 4 = j by omega]
    rfl
   rw [h4, h2]
theorem cells_all {α : Type} {f : α → List Value} {z : α} {Q : α → Prop} (hf1 : ∀ x, (f x).length = 1) {len base : Nat} {a : Addr} (hi : ∀ i, i < len → ∃ x : α, w.cells? base (a.add (i * 1)) 1 = some (f x) ∧ Q x) :
  ∃ L : List α, L.length = len ∧ (∀ x ∈ L, Q x) ∧ RowI w (fun k => k < w.heap.size) 1 (some a) len (L.flatMap f) := by
 have hnd : ∀ i, ∃ x : α, i < len → w.cells? base (a.add (i * 1)) 1 = some (f x) ∧ Q x := by
  intro i
  by_cases hil : i < len
  ·
   obtain ⟨x, h1, h2⟩ := hi i hil
   exact ⟨x, fun _ => ⟨h1, h2⟩⟩
  · exact ⟨z, fun h => absurd h hil⟩
 obtain ⟨g, hg⟩ := Classical.axiomOfChoice hnd
 refine ⟨(List.range len).map g, by simp, ?_, ?_, fun hpos => ⟨a, rfl, ?_, ?_⟩⟩
 ·
  intro x hx
  obtain ⟨i, hi', rfl⟩ := List.mem_map.1 hx
  exact (hg i (List.mem_range.1 hi')).2
 · rw [enc_length hf1]; simp
 ·
  obtain ⟨_, _, hat⟩ := World.cells?_some (hg 0 hpos).1
  have h0 := hat 0 (by omega)
  rw [add_of_add] at h0
  have hl := hf1 (g 0)
  cases hgo : f (g 0) with
  | nil => rw [hgo] at hl; simp at hl
  | cons v r =>
   have := lt_of_cell (w := w) (p := a.add (0 * 1 + 0)) (by rw [h0, hgo]; rfl)
   rwa [block_of_add] at this
 ·
  intro j u hu
  have hjl : j < len := by
   have h1 := (List.getElem?_eq_some_iff.1 hu).1
   rw [enc_length hf1] at h1
   simpa using h1
  obtain ⟨_, hcl, hat⟩ := World.cells?_some (hg j hjl).1
  have h1 := hat 0 (by omega)
  rw [add_of_add, show j * 1 + 0 = j by omega] at h1
  rw [h1, ← hu]
  have h2 := enc_at hf1 ((List.range len).map g) j (by simpa using hjl) z
  have h3 : (((List.range len).map g).getD j z) = g j := by simp [hjl]
  rw [h3] at h2
  have h4 : ((List.range len).map g |>.flatMap f)[j]? = (((((List.range len).map g).flatMap f).drop (j * 1)).take 1)[0]? := by
   rw [List.getElem?_take_of_lt (by omega), List.getElem?_drop, show j * 1 + 0 = j by omega]
  rw [h4, h2]
set_option maxRecDepth 100000 in
theorem lists_cell {base : Nat} {sp : Nat → Bool} {held : Bool} {n : Nat} {cs : List Value} {x : DataW H × List MemPlace} (hf : DataW.trod enc Tryd.prog w base sp held n 42 cs = some x) :
  ∃ s : Tl, cs = encT s ∧ (dRow 1 s.1 s.2.2.length s.2.1 (encSs s.2.2)).φ w (fun k => k < w.heap.size) ∧ (dAll s.2.2).φ w (fun k => k < w.heap.size) := by
 have hcn : Tryd.prog.cellsOf 22 = 1 := by kernel_rfl
 rcases Deep.open_slice Tryd.underlying42 hf with ⟨hcs, _⟩ | ⟨a, len, cap, m, _, D, Pl, hcs, _, hl, _, hm, _, hi⟩
 · exact ⟨tlz, hcs, ⟨Nat.le_refl _, rfl, fun h => absurd h (by simp [tlz])⟩, all_nil⟩
 ·
  have hmm : len ≤ m := by rw [hm]; split <;> omega
  obtain ⟨L, h1, h2, h3⟩ := cells_all (w := w) (f := encS) (z := slz) (Q := fun s => (dRow 4 s.1 s.2.2.length s.2.1 (encNs s.2.2)).φ w (fun k => k < w.heap.size)) encS_len (len := len) (base := base) (a := a) (fun i hil => by
   obtain ⟨cs', hc, ht⟩ := hi i (by omega)
   obtain ⟨s, rfl, hd⟩ := nodes_cell ht
   rw [hcn] at hc
   exact ⟨s, hc, hd⟩)
  subst h1
  exact ⟨(some a, cap, L), by rw [hcs]; rfl, ⟨hl, h3⟩, fun s hs => h2 s hs⟩
set_option maxRecDepth 100000 in
theorem open_lists {r : Reach} {base b0 : Nat} {sp : Nat → Bool} {held : Bool} {v : Value} {d : DataW H} {ps : List MemPlace} (hval : Value.okWide Tryd.prog w r b0 42 v) (hd : DataW.Trod enc Tryd.prog w base sp held 42 v d ps) :
  ∃ (A : Option Addr) (c : Nat) (t : List Sl), v = .slice A t.length c ∧ (dRow 1 A t.length c (encSs t)).φ w (fun k => k < w.heap.size) ∧ (dAll t).φ w (fun k => k < w.heap.size) := by
 obtain ⟨A, len, cap, rfl⟩ := okWide_slice Tryd.underlying42 hval
 obtain ⟨fuel, hf⟩ := hd
 obtain ⟨⟨B, c, t⟩, h1, h2, h3⟩ := lists_cell hf
 simp [Value.cells, encT] at h1
 obtain ⟨rfl, rfl, rfl⟩ := h1
 exact ⟨_, _, t, rfl, h2, h3⟩
end
end Go.Proofs.YtcfponnkfhkbdaaDoor
/- The table of shapes: from the row's list to cells; a world that holds it. -/
namespace Go.Proofs.YtcfponnkfhkbdaaDoor
set_option linter.unusedSimpArgs false
set_option linter.unusedVariables false
open Go Go.RowKit Go.WideShapes Go.ChangeShapes
set_option maxRecDepth 100000
def shapeD (k : Nat) : DataW Unit := .agg [(match (shp k).b with | [] => .nil | b => .slice (lits .i64 b) []), .lit (.bool (shp k).n), .lit (.bool (shp k).m), .lit (.bool (shp k).s)]
theorem laid_eq : (Rows.laid_cornice_term_shapes : DataW Unit) = .agg ((List.range 30).map shapeD) := by kernel_rfl
theorem encIs_map (l : List Int) : encIs l = l.map (fun n => Value.int .i64 n) := by
 induction l with
 | nil => rfl
 | cons x t ih => rw [List.map_cons, ← ih]; rfl
theorem shape_cells {w : World} {base : Nat} {sp : Nat → Bool} {held : Bool} {n : Nat} {cs : List Value} {k : Nat} {p : List MemPlace}
  (h : DataW.trod (fun _ => ()) Tryd.prog w base sp held n 113 cs = some (shapeD k, p)) :
  ∃ (A : Option Addr) (cap : Nat), cs = [.slice A (shp k).b.length cap, .bool (shp k).n, .bool (shp k).m, .bool (shp k).s] ∧ (shp k).b.length ≤ cap ∧ RowI w (fun k => k < w.heap.size) 1 A (shp k).b.length (encIs (shp k).b) := by
 have hu : Tryd.prog.underlying 113 = some (.struct (Tryd.prog.fieldsOf 113)) := by kernel_rfl
 have hf : (Tryd.prog.fieldsOf 113).toList.map (fun f => (f.type, f.offset)) = [(79, 0), (4, 1), (4, 2), (4, 3)] := by kernel_rfl
 have hci : Tryd.prog.cellsOf 79 = 1 := by kernel_rfl
 have hci1 : Tryd.prog.cellsOf 3 = 1 := by kernel_rfl
 have hcs : Tryd.prog.cellsOf 4 = 1 := by kernel_rfl
 have hcn : Tryd.prog.cellsOf 113 = 4 := by kernel_rfl
 obtain ⟨xs, m, _, hx, hl, hxl, hg⟩ := DataW.trod_struct hu h
 rw [hcn] at hl
 have hd : xs.map (·.1) = [(match (shp k).b with | [] => .nil | b => .slice (lits .i64 b) []), .lit (.bool (shp k).n), .lit (.bool (shp k).m), .lit (.bool (shp k).s)] := by
  have := congrArg Prod.fst hx
  simp only [shapeD] at this
  injection this with h1
  exact h1.symm
 have fld : ∀ (j : Nat) (t : TypeId) (off : Nat), ((Tryd.prog.fieldsOf 113).toList.map (fun f => (f.type, f.offset)))[j]? = some (t, off) → DataW.trod (fun _ => ()) Tryd.prog w base sp held m t ((cs.drop off).take (Tryd.prog.cellsOf t)) = xs[j]? := by
  intro j t off hj
  rw [List.getElem?_map] at hj
  cases hfj : (Tryd.prog.fieldsOf 113).toList[j]? with
  | none => rw [hfj] at hj; cases hj
  | some f =>
   rw [hfj] at hj
   simp only [Option.map_some, Option.some.injEq, Prod.mk.injEq] at hj
   obtain ⟨rfl, rfl⟩ := hj
   exact hg j f (by rw [← Array.getElem?_toList]; exact hfj)
 rw [hf] at fld
 match cs, hl, xs, hd with
 | [c0, c1, c2, c3], _, [y0, y1, y2, y3], hd =>
  simp only [List.map_cons, List.map_nil, List.cons.injEq, and_true] at hd
  obtain ⟨d0, d1, d2, d3⟩ := hd
  have h0 := fld 0 _ _ rfl
  have h1 := fld 1 _ _ rfl
  have h2 := fld 2 _ _ rfl
  have h3 := fld 3 _ _ rfl
  rw [hci] at h0
  rw [hcs] at h1 h2 h3
  obtain ⟨b1, e1, f1⟩ := DataW.trod_bool Tryd.underlying4 h1
  obtain ⟨b2, e2, f2⟩ := DataW.trod_bool Tryd.underlying4 h2
  obtain ⟨b3, e3, f3⟩ := DataW.trod_bool Tryd.underlying4 h3
  simp at e1 e2 e3
  simp [f1] at d1
  simp [f2] at d2
  simp [f3] at d3
  subst e1 e2 e3 d1 d2 d3
  rcases open_ints Tryd.underlying79 Tryd.underlying3 hci1 h0 with ⟨hcs0, hy⟩ | ⟨a, len, cap, zs, hcs0, _, hle, _, hzl, hy, hcell, _⟩
  ·
   simp at hcs0
   subst hcs0
   rw [hy] at d0
   cases hb : (shp k).b with
   | nil => exact ⟨none, 0, by simp, by simp, by simp [encIs], fun h => absurd h (by simp)⟩
   | cons z zs => rw [hb] at d0; simp at d0
  ·
   simp at hcs0
   subst hcs0
   rw [hy] at d0
   cases hb : (shp k).b with
   | nil => rw [hb] at d0; simp at d0
   | cons z l =>
    rw [hb] at d0
    simp only [DataW.slice.injEq] at d0
    obtain ⟨d4, d5⟩ := d0
    have hinj : ∀ a b : List Int, (lits .i64 a : List (DataW Unit)) = lits .i64 b → a = b := by
     intro a
     induction a with
     | nil => intro b hb; cases b with
      | nil => rfl
      | cons _ _ => simp [lits] at hb
     | cons x a ih => intro b hb; cases b with
      | nil => simp [lits] at hb
      | cons y b =>
       simp only [lits, List.map_cons, List.cons.injEq, DataW.lit.injEq, Lit.int.injEq, true_and] at hb
       rw [hb.1, ih b hb.2]
    have d6 := hinj _ _ d4
    have hll : len = (z :: l).length := by
     have := congrArg List.length d6
     rw [List.length_take] at this
     have hz : len ≤ zs.length := by rw [hzl]; split <;> omega
     omega
    subst hll
    refine ⟨some a, cap, rfl, hle, by simp [encIs_length], fun _ => ⟨a, rfl, ?_, ?_⟩⟩
    ·
     have h9 := hcell 0 (by have hz2 : (z :: l).length ≤ zs.length := (by rw [hzl]; split <;> omega); rw [List.length_cons] at hz2; omega)
     have := lt_of_cell h9
     rwa [block_of_add] at this
    ·
     intro j u hu
     have hjl : j < (z :: l).length := by
      have := (List.getElem?_eq_some_iff.1 hu).1
      rw [encIs_length] at this
      simpa using this
     have hzz : (z :: l).length ≤ zs.length := by rw [hzl]; split <;> omega
     rw [hcell j (by omega)]
     have h8 : (z :: l)[j]? = zs[j]? := by rw [← d6, List.getElem?_take_of_lt hjl]
     have h7 := encIs_map (z :: l)
     rw [h7, List.getElem?_map, h8] at hu
     cases hq : zs[j]? with
     | none => rw [hq] at hu; simp at hu
     | some q =>
      rw [hq] at hu
      simp only [Option.map_some, Option.some.injEq] at hu
      rw [← hu, List.getD_eq_getElem?_getD, hq]
      rfl
theorem shapes_of_laid {W : World} (h : laidMetH Tryd.prog [("cornice/term.shapes", Rows.laid_cornice_term_shapes)] W) : Shapes W (fun k => k < W.heap.size) := by
 have h' : laidMet Tryd.prog [("cornice/term.shapes", Rows.laid_cornice_term_shapes)] W := h
 obtain ⟨ps, ⟨g, t, cs, fuel, p, q, hg, ht, hvar, hd, _, _⟩, _⟩ := h'
 have hg0 : Tryd.prog.globalNamed "cornice/term.shapes" = some 0 := by kernel_rfl
 have ht0 : (Tryd.prog.globals[0]?).map (·.type) = some 114 := by kernel_rfl
 obtain rfl : 0 = g := Option.some.inj (hg0.symm.trans hg)
 obtain rfl : 114 = t := Option.some.inj (ht0.symm.trans ht)
 have hcn : Tryd.prog.cellsOf 113 = 4 := by kernel_rfl
 have hct : Tryd.prog.cellsOf 114 = 120 := by kernel_rfl
 obtain ⟨xs, m, _, hx, hl, hxl, hi⟩ := DataW.trod_array Tryd.underlying114 hd
 rw [hct] at hl
 have hxd : xs.map (·.1) = (List.range 30).map shapeD := by
  have := congrArg Prod.fst hx
  simp only [laid_eq] at this
  injection this with h1
  exact h1.symm
 intro k hk
 have h1 := hi k hk
 rw [hcn] at h1
 have hkx : k < xs.length := by omega
 have h2 : xs[k]? = some (shapeD k, (xs[k]).2) := by
  rw [List.getElem?_eq_getElem hkx]
  have h3 : (xs.map (·.1))[k]? = some (shapeD k) := by rw [hxd]; simp [hk]
  rw [List.getElem?_map, List.getElem?_eq_getElem hkx] at h3
  simp only [Option.map_some, Option.some.injEq] at h3
  rw [← h3]
 rw [h2] at h1
 obtain ⟨A, cap, hcs, hle, hrow⟩ := shape_cells h1
 refine ⟨A, cap, ⟨hle, hrow⟩, ?_, ?_⟩
 ·
  have h4 := World.var?_cell hg hvar 0
  have h5 : cs[0]? ≠ none := by
   intro e
   rw [← Array.getElem?_toList, List.getElem?_eq_none_iff] at e
   omega
  cases h6 : cs[0]? with
  | none => exact absurd h6 h5
  | some v => rw [h6] at h4; exact lt_of_cell h4
 ·
  intro j u hu
  have hj : j < 4 := by
   have := (List.getElem?_eq_some_iff.1 hu).1
   simpa using this
  have h4 := World.var?_cell hg hvar (k * 4 + j)
  rw [← hcs, List.getElem?_take_of_lt hj, List.getElem?_drop, Array.getElem?_toList] at hu
  rw [hu] at h4
  rw [add_of_add]
  have : (⟨0, 0, none⟩ : Addr).add (k * 4 + j) = ⟨0, k * 4 + j, none⟩ := by unfold Addr.add; split <;> simp_all
  rw [this]
  exact h4
noncomputable def laidWorld (os : Os) : World :=
 { World.holding Tryd.prog os ⟨#[.cells #[.int .i64 0, .int .i64 1, .int .i64 0, .int .i64 1, .int .i64 0, .int .i64 0, .int .i64 0, .int .i64 1, .int .i64 0, .int .i64 0, .int .i64 0, .int .i64 0, .int .i64 0, .int .i64 0, .int .i64 1, .int .i64 0, .int .i64 2, .int .i64 0, .int .i64 0, .int .i64 0, .int .i64 0, .int .i64 0, .int .i64 0, .int .i64 0, .int .i64 0, .int .i64 0, .int .i64 0, .int .i64 0, .int .i64 0, .int .i64 0, .int .i64 0, .int .i64 1, .int .i64 0, .int .i64 0, .int .i64 0, .int .i64 0, .int .i64 2, .int .i64 0, .int .i64 0, .int .i64 0, .int .i64 0, .int .i64 0, .int .i64 0, .int .i64 1, .int .i64 0, .int .i64 0, .int .i64 0] 3], #[], []⟩ with heap := (World.holding Tryd.prog os ⟨#[.cells #[.int .i64 0, .int .i64 1, .int .i64 0, .int .i64 1, .int .i64 0, .int .i64 0, .int .i64 0, .int .i64 1, .int .i64 0, .int .i64 0, .int .i64 0, .int .i64 0, .int .i64 0, .int .i64 0, .int .i64 1, .int .i64 0, .int .i64 2, .int .i64 0, .int .i64 0, .int .i64 0, .int .i64 0, .int .i64 0, .int .i64 0, .int .i64 0, .int .i64 0, .int .i64 0, .int .i64 0, .int .i64 0, .int .i64 0, .int .i64 0, .int .i64 0, .int .i64 1, .int .i64 0, .int .i64 0, .int .i64 0, .int .i64 0, .int .i64 2, .int .i64 0, .int .i64 0, .int .i64 0, .int .i64 0, .int .i64 0, .int .i64 0, .int .i64 1, .int .i64 0, .int .i64 0, .int .i64 0] 3], #[], []⟩).heap.modify 0 fun
   | .cells _ t frozen => .cells #[.slice none 0 0, .bool true, .bool false, .bool false, .slice none 0 0, .bool false, .bool false, .bool true, .slice none 0 0, .bool true, .bool false, .bool false, .slice (some ⟨6, 0, none⟩) 2 2, .bool true, .bool false, .bool false, .slice (some ⟨6, 2, none⟩) 2 2, .bool false, .bool false, .bool false, .slice (some ⟨6, 4, none⟩) 2 2, .bool false, .bool false, .bool false, .slice (some ⟨6, 6, none⟩) 2 2, .bool true, .bool false, .bool false, .slice (some ⟨6, 8, none⟩) 3 3, .bool false, .bool false, .bool false, .slice (some ⟨6, 11, none⟩) 1 1, .bool false, .bool false, .bool false, .slice (some ⟨6, 12, none⟩) 1 1, .bool false, .bool false, .bool false, .slice none 0 0, .bool false, .bool false, .bool false, .slice none 0 0, .bool false, .bool false, .bool false, .slice (some ⟨6, 13, none⟩) 1 1, .bool false, .bool false, .bool false, .slice (some ⟨6, 14, none⟩) 4 4, .bool false, .bool false, .bool false, .slice none 0 0, .bool false, .bool false, .bool false, .slice (some ⟨6, 18, none⟩) 2 2, .bool false, .bool false, .bool false, .slice none 0 0, .bool false, .bool false, .bool false, .slice none 0 0, .bool false, .bool false, .bool false, .slice (some ⟨6, 20, none⟩) 3 3, .bool false, .bool false, .bool false, .slice (some ⟨6, 23, none⟩) 2 2, .bool false, .bool false, .bool false, .slice (some ⟨6, 25, none⟩) 4 4, .bool false, .bool false, .bool false, .slice (some ⟨6, 29, none⟩) 6 6, .bool false, .bool false, .bool false, .slice (some ⟨6, 35, none⟩) 5 5, .bool false, .bool false, .bool false, .slice (some ⟨6, 40, none⟩) 2 2, .bool false, .bool false, .bool false, .slice (some ⟨6, 42, none⟩) 4 4, .bool false, .bool false, .bool false, .slice none 0 0, .bool false, .bool false, .bool true, .slice none 0 0, .bool true, .bool true, .bool true, .slice none 0 0, .bool false, .bool true, .bool true, .slice (some ⟨6, 46, none⟩) 1 1, .bool false, .bool false, .bool false, .slice none 0 0, .bool false, .bool false, .bool false] t frozen
   | o => o }
end Go.Proofs.YtcfponnkfhkbdaaDoor
/- The law UnfoldElims: it returns true, whatever its arguments are, and they read as they did; the table of shapes holds what the program's text lays. -/
namespace Go.Proofs.YtcfponnkfhkbdaaDoor.lawUnfoldElims
open Go Go.RowKit Go.WideShapes Go.ChangeShapes Go.Proofs.YtcfponnkfhkbdaaDoor
set_option maxRecDepth 100000
set_option linter.unusedSimpArgs false
set_option linter.unusedVariables false
theorem contract (H : Type) (enc : TypeId × Value → H) (W : World) (base : Nat) (args : Array Value) (ds gs : List (DataW H)) (before : List MemPlace)
  (hval : ∀ (j : Nat) t v, Tryd.f7.params[j]? = some t → args[j]? = some v → Value.okWide Tryd.prog W .any base t v)
  (hW : DataW.Whole enc Tryd.prog Tryd.f7.params.toList Rows.unfoldElimsSpec.vars false W args.toList ds gs before) (hL : laidMetH Tryd.prog Rows.unfoldElimsRow.laid W) :
  Calls Tryd.prog 7 args W fun e W' => ∃ v, e = .returned v ∧ Rows.unfoldElimsSpec.post enc Tryd.prog Tryd.f7 false true false false W args v W' := by
 have hW' := hW
 obtain ⟨p, q, hA0, hV, rfl, hfz, hnd⟩ := hW
 have hA := hA0
 rw [Tryd.params7] at hA hval
 obtain ⟨v0, vs0, d0, ds0, p0, q0, hargs, rfl, rfl, h0, r0⟩ := trodAll_cons hA
 obtain ⟨v1, vs1, d1, ds1, p1, q1, rfl, rfl, rfl, h1, r1⟩ := trodAll_cons r0
 obtain ⟨v2, vs2, d2, ds2, p2, q2, rfl, rfl, rfl, h2, r2⟩ := trodAll_cons r1
 obtain ⟨v3, vs3, d3, ds3, p3, q3, rfl, rfl, rfl, h3, r3⟩ := trodAll_cons r2
 obtain ⟨rfl, rfl, rfl⟩ := trodAll_nil r3
 obtain rfl : args = #[v0, v1, v2, v3] := by cases args; simp_all
 obtain ⟨rfl, rfl⟩ := trodVars_none hV
 obtain ⟨A0, c0, t0, rfl, g0⟩ := open_nodes (hval 0 _ _ rfl rfl) h0
 obtain ⟨A1, c1, t1, rfl, g1⟩ := open_nodes (hval 1 _ _ rfl rfl) h1
 obtain ⟨A2, c2, t2, rfl, g2, gg2⟩ := open_lists (hval 2 _ _ rfl rfl) h2
 obtain ⟨b3, rfl, hb3⟩ := open_str (hval 3 _ _ rfl rfl)
 refine (unfoldElims_calls W (fun k => k < W.heap.size) (fun _ h => h) A0 c0 t0 A1 c1 t1 A2 c2 t2 b3 (shapes_of_laid hL) g0 g1 g2 gg2 hb3).mono fun e W' ⟨he, hf⟩ => ?_
 subst he
 exact ⟨_, rfl, post_true kids slicesFull (by rw [Tryd.params7]; decide) rfl hW' rfl Tryd.underlying4 ⟨rfl, rfl, rfl⟩ hf.below⟩
theorem laid_met (os : Os) : laidMet Tryd.prog Rows.unfoldElimsRow.laid ((laidWorld os).forCall (fun _ _ => 0) ⟨#[], #[Value.slice none 0 0, Value.slice none 0 0, Value.slice none 0 0, Value.string ⟨#[]⟩], []⟩).memory :=
 laidMet_of_run' 8 (by kernel_rfl) (by kernel_rfl)
theorem reads (os : Os) {H : Type} (enc : TypeId × Value → H) : ∃ places, DataW.whole enc Tryd.prog ((laidWorld os).forCall (fun _ _ => 0) ⟨#[], #[Value.slice none 0 0, Value.slice none 0 0, Value.slice none 0 0, Value.string ⟨#[]⟩], []⟩).memory Tryd.f7.params.toList Rows.unfoldElimsSpec.vars false #[Value.slice none 0 0, Value.slice none 0 0, Value.slice none 0 0, Value.string ⟨#[]⟩].toList 8 = some ([.nil, .nil, .nil, .lit (.string [])], [], places) :=
 ⟨[], by kernel_rfl⟩
theorem lifted (os : Os) (started : os.Started) (H : Type) (enc : TypeId × Value → H) (F : Stop.Interp) :
  ReturnsInHanded {} Tryd.checked os 7 .any ((OpenSpec.ofChange Rows.unfoldElimsSpec).preRow enc Tryd.prog Tryd.f7 Rows.unfoldElimsRow.domain false Rows.unfoldElimsRow.laid) (((OpenSpec.ofChange Rows.unfoldElimsSpec).at F).post enc Tryd.prog Tryd.f7 false true false false) := by
 obtain ⟨places, hx⟩ := reads os enc
 refine returnsInHanded_of_row (C := Tryd.checked) (s := OpenSpec.ofChange Rows.unfoldElimsSpec) ownKnobNone started (by kernel_rfl) Tryd.func7
  (witness_row_atRef (enc := enc) (C := Tryd.checked) false (laidWorld os) #[Value.slice none 0 0, Value.slice none 0 0, Value.slice none 0 0, Value.string ⟨#[]⟩] rfl (by kernel_rfl) (by kernel_rfl) (by kernel_rfl)
   (OpenSpec.preRow_of_cond 8 hx (by kernel_rfl) (fun k hk => by cases hk) (by kernel_rfl) (laid_met os))) ?_
 intro W base args ds gs before hval hW _ _ _ hL _ _
 exact contract H enc W base args ds gs before hval hW hL
theorem said : Rows.UnfoldElimsSaid :=
 OpenClaim.holds_of_cond 7 Tryd.f7 rfl rfl rfl rfl rfl rfl rfl ⟨rfl, rfl, rfl, rfl, rfl⟩ rfl rfl rfl rfl rfl (by kernel_rfl) Tryd.func7 (by kernel_rfl)
  (of_decide_eq_true (by kernel_rfl)) (by unfold Func.isWrapper; first | (rw [if_pos (by decide +kernel)]; kernel_rfl) | (rw [if_neg (by decide +kernel)]; exact ⟨rfl, rfl⟩))
  (fun os started H enc _ F => by rw [OpenClaim.pre_eq_preRow]; exact lifted os started H enc F)
theorem plain (f : FuncId) (fn : Func) (hf : Tryd.pinned.checked.prog.funcNamed "cornice/cornicelaw14.UnfoldElims" = some f) (hfn : Tryd.pinned.checked.prog.funcs[f]? = some fn) :
  false = Tryd.pinned.checked.prog.looks [] ∧ ∀ (j : Nat) t, fn.params[j]? = some t → Tryd.pinned.checked.prog.wantsStandIn t = false := by
 obtain rfl : f = 7 := Option.some.inj ((show Tryd.prog.funcNamed "cornice/cornicelaw14.UnfoldElims" = some 7 by kernel_rfl).symm.trans hf) |>.symm
 obtain rfl : fn = Tryd.f7 := (Option.some.inj (Tryd.func7.symm.trans hfn)).symm
 refine ⟨by kernel_rfl, fun j t ht => ?_⟩
 rw [Tryd.params7] at ht
 have hm := Array.mem_of_getElem? ht
 simp only [List.mem_toArray, List.mem_cons, List.not_mem_nil, or_false] at hm
 rcases hm with rfl | rfl | rfl | rfl
 · exact (show Tryd.prog.wantsStandIn 22 = false by kernel_rfl)
 · exact (show Tryd.prog.wantsStandIn 22 = false by kernel_rfl)
 · exact (show Tryd.prog.wantsStandIn 42 = false by kernel_rfl)
 · exact (show Tryd.prog.wantsStandIn 9 = false by kernel_rfl)
theorem proved : Rows.UnfoldElimsCardSaid :=
 Claim7.holds_tied_plain_at .later [] _ _ _ _ said (fun _ h => by cases h) (by kernel_rfl) (fun _ h => by cases h) unfoldElims_row_tie rfl ⟨rfl, rfl⟩ (by kernel_rfl) rfl plain (by kernel_rfl)
end Go.Proofs.YtcfponnkfhkbdaaDoor.lawUnfoldElims
