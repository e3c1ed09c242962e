import Derived.Test.YtobgdeffhdefeaaDoorZsh
import Derived.Test.YtobgdeffhdefeaaDoorCards
import Derived.Test.YtobgdeffhdefeaaDoorTie
import Derived.ProofKit
import Derived.OpenShut
import Derived.ReadAgain
import Derived.Deep.DeepHandedRow
import Derived.Deep.Slices
import Derived.Lib.LaidTab
import Derived.Deep.DeepWitnessRowRef
/- Contracts of functions, one theorem each: what the call returns, and that nothing old is changed. Printed by gen.py. -/
namespace Go.Proofs.YtobgdeffhdefeaaDoor
open Go Go.RowKit
set_option linter.unusedSimpArgs false
set_option linter.unusedVariables false
set_option maxRecDepth 100000 in
set_option maxHeartbeats 1000000 in
theorem great13_calls (w0 : World) (Z : Nat → Prop) (hZ : ∀ k, Z k → k < w0.heap.size) (er : Int)  :
    Calls Tryd.prog 39 [.int .i64 er].toArray w0 (fun e w' => e = .returned (.bool (grB er)) ∧ Fr none_ w0 w') := by
 have b0 := s0 (M := none_) hZ zn
 refine c_enter Tryd.func39 rfl Tryd.ntmps39 rfl (fun c0 d0 => ?_)
 refine wsc (fun c0 f0 => ?_)
 refine asg d0 (fun c0 h0 => ?_)
 refine wpList_nil (x_then_n (f0 _ _ ?_))
 refine wsc (fun f0 c0 => ?_)
 refine mv h0 (fun f0 d0 => ?_)
 refine r_eql sv d0 rfl rfl rfl rfl (by decide) (fun f0 h0 => ?_)
 refine mv h0 (fun f0 d0 => ?_)
 refine l_join (fun ga gw => Reg ga 13 [(0, .int .i64 (er)), (2, .bool false), (8, .bool ((decide ((er) = 2)) || (decide ((er) = 21)))), (1000000, .bool false)] ∧ St w0 Z none_ gw [] []) 3 ?_ ?_
 ·
  rcases Decidable.em ((er) = 2) with f0 | f0
  ·
   have h0 := d0.setb (d := 5) (b := true) rfl (decide_eq_true f0)
   refine sps h0 (wff h0) (fun i0 j0 => ?_)
   refine sps j0 (wff j0) (fun i0 h0 => ?_)
   refine r_pick_t sv h0 rfl rfl rfl rfl (by decide) (fun i0 j0 => ?_)
   refine wpList_nil ?_
   exact x_then_n ⟨(j0.sub (rc rfl (rc rfl (rc (rb rfl (by (simp only [decide_eq_true f0, if_pos f0, bl]; done))) (rc rfl rnl))))), b0⟩
  ·
   have j0 := d0.setb (d := 5) (b := false) rfl (decide_eq_false f0)
   refine r_move (st_listV_w (wt j0)) j0 rfl rfl rfl (by decide) (fun d0 i0 => ?_)
   refine r_eql (st_listV_w (wt i0)) i0 rfl rfl rfl rfl (by decide) (fun d0 j0 => ?_)
   refine r_pick_f sv j0 rfl rfl rfl rfl (by decide) (fun d0 i0 => ?_)
   refine wpList_nil ?_
   exact x_then_n ⟨(i0.sub (rc rfl (rc rfl (rc (rb rfl (by (simp only [decide_eq_false f0, if_neg f0, bl]; done))) (rc rfl rnl))))), b0⟩
 rintro i0 f0 ⟨b0, d0⟩
 refine mv b0 (fun f0 i0 => ?_)
 refine l_join (fun ga gw => Reg ga 13 [(2, .bool false), (12, .bool (((decide ((er) = 2)) || (decide ((er) = 21))) || (decide ((er) = 22)))), (1000000, .bool false)] ∧ St w0 Z none_ gw [] []) 3 ?_ ?_
 ·
  rcases Bool.eq_false_or_eq_true (((decide ((er) = 2)) || (decide ((er) = 21)))) with f0 | f0
  ·
   have b0 := f0
   try simp only [Bool.or_eq_true, Bool.and_eq_true, Bool.not_eq_true', Bool.not_eq_false', decide_eq_true_eq, decide_eq_false_iff_not, Bool.or_eq_false_iff, Bool.and_eq_false_iff] at b0
   have b0 := i0.setb (d := 9) (b := true) rfl f0
   refine sps b0 (wff b0) (fun j0 h0 => ?_)
   refine sps h0 (wff h0) (fun j0 b0 => ?_)
   refine r_pick_t sv b0 rfl rfl rfl rfl (by decide) (fun j0 h0 => ?_)
   refine wpList_nil ?_
   exact x_then_n ⟨(h0.sub (rc rfl (rc (rb rfl (by (simp only [f0, bl]; done))) (rc rfl rnl)))), d0⟩
  ·
   have h0 := or_fl f0
   have j0 := of_decide_eq_false h0
   have j0 := or_fr f0
   have h0 := of_decide_eq_false j0
   have h0 := i0.setb (d := 9) (b := false) rfl f0
   refine r_move (st_listV_w (wt h0)) h0 rfl rfl rfl (by decide) (fun i0 j0 => ?_)
   refine r_eql (st_listV_w (wt j0)) j0 rfl rfl rfl rfl (by decide) (fun i0 h0 => ?_)
   refine r_pick_f sv h0 rfl rfl rfl rfl (by decide) (fun i0 j0 => ?_)
   refine wpList_nil ?_
   exact x_then_n ⟨(j0.sub (rc rfl (rc (rb rfl (by (simp only [f0, bl]; done))) (rc rfl rnl)))), d0⟩
 rintro j0 f0 ⟨d0, i0⟩
 refine asg d0 (fun f0 j0 => ?_)
 refine wpList_nil (x_then_n (c0 _ _ ?_))
 refine wp_ret ?_
 refine e_ret1 j0 rfl rfl rfl ?_
 refine ⟨?_, i0.fr⟩
 exact congrArg Ending.returned (ret_b (by rfl))
set_option maxRecDepth 100000 in
set_option maxHeartbeats 1000000 in
theorem shown13_calls (w0 : World) (Z : Nat → Prop) (hZ : ∀ k, Z k → k < w0.heap.size)  (hShp : Shapes w0 Z) :
    Calls Tryd.prog 35 [].toArray w0 (fun e w' => e = .returned (.bool (true)) ∧ Fr none_ w0 w') := by
 have b0 := s0 (M := none_) hZ (zc (d := dShapes) hShp zn)
 refine c_enter Tryd.func35 rfl Tryd.ntmps35 rfl (fun c0 d0 => ?_)
 refine wsc (fun c0 f0 => ?_)
 refine asg d0 (fun c0 h0 => ?_)
 refine wpList_nil (x_then_n (f0 _ _ ?_))
 refine wsc (fun f0 c0 => ?_)
 refine m_build (ps := [(0, .const (.int .i64 10))]) (v := .agg #[.int .i64 10, .int .i64 0, .int .i64 0, .string (⟨#[]⟩ : ByteArray)]) sv h0 rfl rfl rfl (fun _ => by kernel_rfl) (by decide) (fun f0 d0 => ?_)
 refine mbs [(0, .tmp 5)] [.int .i64 10, .int .i64 0, .int .i64 0, .string (⟨#[]⟩ : ByteArray)] sv d0 b0 Tryd.underlying22 zi32 (fun f0 h0 i0 j0 k0 => ?_)
 refine asg j0 (fun h0 f0 => ?_)
 refine wpList_nil (x_then_n (c0 _ _ ?_))
 refine wsc (fun c0 h0 => ?_)
 refine m_build (ps := [(0, .const (.int .i64 0)), (1, .const (.int .i64 3))]) (v := .agg #[.int .i64 0, .int .i64 3, .int .i64 0, .string (⟨#[]⟩ : ByteArray)]) sv f0 rfl rfl rfl (fun _ => by kernel_rfl) (by decide) (fun c0 j0 => ?_)
 refine mbs [(0, .tmp 7)] [.int .i64 0, .int .i64 3, .int .i64 0, .string (⟨#[]⟩ : ByteArray)] sv j0 k0 Tryd.underlying22 zi32 (fun c0 f0 d0 b0 m0 => ?_)
 refine asg b0 (fun f0 c0 => ?_)
 refine wpList_nil (x_then_n (h0 _ _ ?_))
 refine wsc (fun h0 f0 => ?_)
 refine mv c0 (fun h0 b0 => ?_)
 refine mv b0 (fun h0 c0 => ?_)
 refine mv c0 (fun h0 b0 => ?_)
 have h0 := m0.nf
 have m0 := own_cap (h0.res (i := 0) rfl)
 obtain ⟨c0, j0⟩ := h0.row_data (i := 0) rfl (fun _ h => h)
 have h0 := c0.data (dRow 4 (some ⟨i0, 0, none⟩) 1 1 (encNs ([(⟨10, 0, 0, (⟨#[]⟩ : ByteArray)⟩ : Nd)]))) ⟨m0, j0⟩
 have j0 := own_cap (h0.res (i := 0) rfl)
 obtain ⟨c0, m0⟩ := h0.row_data (i := 0) rfl (fun _ h => h)
 have h0 := c0.data (dRow 4 (some ⟨d0, 0, none⟩) 1 1 (encNs ([(⟨0, 3, 0, (⟨#[]⟩ : ByteArray)⟩ : Nd)]))) ⟨j0, m0⟩
 refine k_call (xs := [.tmp 10, .tmp 11, .tmp 12]) se b0 rfl rfl rfl (by decide) ok36 (crule_calls _ _ h0.il _ _ ([(⟨10, 0, 0, (⟨#[]⟩ : ByteArray)⟩ : Nd)]) _ _ ([(⟨10, 0, 0, (⟨#[]⟩ : ByteArray)⟩ : Nd)]) _ _ ([(⟨0, 3, 0, (⟨#[]⟩ : ByteArray)⟩ : Nd)]) (h0.g 0) (h0.g 1) (h0.g 1) (h0.g 2) (hsa := sml_nat) (hsb := sml_nat) (hst := sml_v3) (hla := (by simp)) (hlb := (by simp)) (hlt := (by simp))) ?_
 rintro b0 m0 ⟨c0, j0, rfl, k0, n0⟩
 have m0 := h0.below k0.below
 have k0 := h0.dN m0 n0
 refine ⟨_, rfl, fun m0 n0 => ?_⟩
 refine mv n0 (fun m0 h0 => ?_)
 refine r_extract sv h0 rfl rfl rfl rfl (by decide) (fun m0 n0 => ?_)
 refine r_extract sv n0 rfl rfl rfl rfl (by decide) (fun m0 h0 => ?_)
 refine asg h0 (fun m0 n0 => ?_)
 refine asg n0 (fun m0 h0 => ?_)
 refine wpList_nil (x_then_n (f0 _ _ ?_))
 refine wsc (fun f0 m0 => ?_)
 refine mv h0 (fun f0 n0 => ?_)
 refine r_eql sv n0 rfl rfl rfl rfl (by decide) (fun f0 h0 => ?_)
 refine mv h0 (fun f0 n0 => ?_)
 refine l_join (fun ga gw => Reg ga 23 [(0, .bool false), (22, .bool ((decide (((crE ([(⟨10, 0, 0, (⟨#[]⟩ : ByteArray)⟩ : Nd)]) ([(⟨10, 0, 0, (⟨#[]⟩ : ByteArray)⟩ : Nd)]) ([(⟨0, 3, 0, (⟨#[]⟩ : ByteArray)⟩ : Nd)]))) = 0)) && (decide ((crA ([(⟨10, 0, 0, (⟨#[]⟩ : ByteArray)⟩ : Nd)]) ([(⟨10, 0, 0, (⟨#[]⟩ : ByteArray)⟩ : Nd)]) ([(⟨0, 3, 0, (⟨#[]⟩ : ByteArray)⟩ : Nd)])) = ([(⟨0, 3, 0, (⟨#[]⟩ : ByteArray)⟩ : Nd)]))))), (1000000, .bool false)] ∧ St w0 Z none_ gw [] [dShapes, dRow 4 (some ⟨i0, 0, none⟩) 1 1 (encNs ([(⟨10, 0, 0, (⟨#[]⟩ : ByteArray)⟩ : Nd)])), dRow 4 (some ⟨d0, 0, none⟩) 1 1 (encNs ([(⟨0, 3, 0, (⟨#[]⟩ : ByteArray)⟩ : Nd)])), dRow 4 c0 ((crA ([(⟨10, 0, 0, (⟨#[]⟩ : ByteArray)⟩ : Nd)]) ([(⟨10, 0, 0, (⟨#[]⟩ : ByteArray)⟩ : Nd)]) ([(⟨0, 3, 0, (⟨#[]⟩ : ByteArray)⟩ : Nd)])).length) j0 (encNs (crA ([(⟨10, 0, 0, (⟨#[]⟩ : ByteArray)⟩ : Nd)]) ([(⟨10, 0, 0, (⟨#[]⟩ : ByteArray)⟩ : Nd)]) ([(⟨0, 3, 0, (⟨#[]⟩ : ByteArray)⟩ : Nd)])))]) 4 ?_ ?_
 ·
  rcases Decidable.em (((crE ([(⟨10, 0, 0, (⟨#[]⟩ : ByteArray)⟩ : Nd)]) ([(⟨10, 0, 0, (⟨#[]⟩ : ByteArray)⟩ : Nd)]) ([(⟨0, 3, 0, (⟨#[]⟩ : ByteArray)⟩ : Nd)]))) = 0) with j0 | j0
  ·
   have c0 := n0.setb (d := 18) (b := true) rfl (decide_eq_true j0)
   refine r_move (st_listV_w (wt c0)) c0 rfl rfl rfl (by decide) (fun d0 i0 => ?_)
   refine r_move (st_listV_w (wt i0)) i0 rfl rfl rfl (by decide) (fun d0 c0 => ?_)
   have d0 := k0.nf
   refine k_call (xs := [.tmp 19, .tmp 20]) (st_list_w (wt c0)) c0 rfl rfl rfl (by decide) ok30 (rsame_calls _ _ d0.il _ _ (crA ([(⟨10, 0, 0, (⟨#[]⟩ : ByteArray)⟩ : Nd)]) ([(⟨10, 0, 0, (⟨#[]⟩ : ByteArray)⟩ : Nd)]) ([(⟨0, 3, 0, (⟨#[]⟩ : ByteArray)⟩ : Nd)])) _ _ ([(⟨0, 3, 0, (⟨#[]⟩ : ByteArray)⟩ : Nd)]) (d0.g 3) (d0.g 2) (hl := (by rw [cr_nat.2]; simp))) ?_
   rintro c0 i0 ⟨rfl, f0⟩
   have i0 := d0.below f0.below
   refine ⟨_, rfl, fun f0 d0 => ?_⟩
   refine r_pick_t sv d0 rfl rfl rfl rfl (by decide) (fun f0 c0 => ?_)
   refine wpList_nil ?_
   exact x_then_n ⟨(c0.sub (rc rfl (rc (rb rfl (by rfl)) (rc rfl rnl)))), i0⟩
  ·
   have c0 := n0.setb (d := 18) (b := false) rfl (decide_eq_false j0)
   refine sps c0 (wff c0) (fun n0 i0 => ?_)
   refine sps i0 (wff i0) (fun n0 c0 => ?_)
   refine sps c0 (wff c0) (fun n0 i0 => ?_)
   refine r_pick_f sv i0 rfl rfl rfl rfl (by decide) (fun n0 c0 => ?_)
   refine wpList_nil ?_
   exact x_then_n ⟨(c0.sub (rc rfl (rc (rb rfl (by (simp only [decide_eq_false j0, if_neg j0, bl]; done))) (rc rfl rnl)))), k0⟩
 rintro c0 j0 ⟨k0, n0⟩
 refine asg k0 (fun j0 c0 => ?_)
 refine wpList_nil (x_then_n (m0 _ _ ?_))
 refine wp_ret ?_
 refine e_ret1 c0 rfl rfl rfl ?_
 refine ⟨?_, n0.fr⟩
 exact congrArg Ending.returned (ret_b (by simp [chk_tick, chk_nat, chk_v3, root_tick, root_nat, root_v3, cr_nat.1, cr_nat.2]))
set_option maxRecDepth 100000 in
set_option maxHeartbeats 1000000 in
theorem castrHeads_calls (w0 : World) (Z : Nat → Prop) (hZ : ∀ k, Z k → k < w0.heap.size) (aA : Option Addr) (ac : Nat) (a : List Nd) (bA : Option Addr) (bc : Nat) (b : List Nd) (tA : Option Addr) (tc : Nat) (t : List Nd) (hShp : Shapes w0 Z) (ha : (dRow 4 aA a.length ac (encNs a)).φ w0 Z) (hb : (dRow 4 bA b.length bc (encNs b)).φ w0 Z) (ht : (dRow 4 tA t.length tc (encNs t)).φ w0 Z) :
    Calls Tryd.prog 11 [.slice aA a.length ac, .slice bA b.length bc, .slice tA t.length tc].toArray w0 (fun e w' => e = .returned (.bool (true)) ∧ Fr none_ w0 w') := by
 have b0 := s0 (M := none_) hZ (zc (d := dShapes) hShp (zc ha (zc hb (zc ht zn))))
 refine c_enter Tryd.func11 rfl Tryd.ntmps11 rfl (fun c0 d0 => ?_)
 refine wsc (fun c0 f0 => ?_)
 refine asg d0 (fun c0 i0 => ?_)
 refine wpList_nil (x_then_n (f0 _ _ ?_))
 refine wp_seq_k (fun f0 c0 => ?_)
 refine wsc (fun f0 d0 => ?_)
 refine mv i0 (fun f0 j0 => ?_)
 have f0 := b0.nf
 refine k_call (xs := [.tmp 13]) se j0 rfl rfl rfl (by decide) ok34 (heavy13_calls _ _ f0.il _ _ _ (f0.g 1)) ?_
 rintro j0 b0 ⟨rfl, i0⟩
 have b0 := f0.below i0.below
 refine ⟨_, rfl, fun i0 f0 => ?_⟩
 refine mv f0 (fun i0 j0 => ?_)
 refine l_join (fun ga gw => Reg ga 183 [(0, .slice aA a.length ac), (1, .slice bA b.length bc), (2, .slice tA t.length tc), (6, .bool false), (18, .bool ((heavyB 100 a) || (heavyB 100 b))), (1000000, .bool false)] ∧ St w0 Z none_ gw [] [dShapes, dRow 4 aA a.length ac (encNs a), dRow 4 bA b.length bc (encNs b), dRow 4 tA t.length tc (encNs t)]) 3 ?_ ?_
 ·
  rcases Bool.eq_false_or_eq_true (heavyB 100 a) with i0 | i0
  ·
   have f0 := j0.setb (d := 15) (b := true) rfl i0
   refine sps f0 (wff f0) (fun k0 m0 => ?_)
   refine sps m0 (wff m0) (fun k0 f0 => ?_)
   refine r_pick_t sv f0 rfl rfl rfl rfl (by decide) (fun k0 m0 => ?_)
   refine wpList_nil ?_
   exact x_then_n ⟨(m0.sub (rc rfl (rc rfl (rc rfl (rc rfl (rc (rb rfl (by (simp only [i0, bl]; done))) (rc rfl rnl))))))), b0⟩
  ·
   obtain ⟨hla, hsa⟩ := heavy_false i0
   obtain ⟨hla, hsa⟩ := heavy_false i0
   have m0 := j0.setb (d := 15) (b := false) rfl i0
   refine r_move (st_listV_w (wt m0)) m0 rfl rfl rfl (by decide) (fun j0 k0 => ?_)
   have j0 := b0.nf
   refine k_call (xs := [.tmp 16]) (st_list_w (wt k0)) k0 rfl rfl rfl (by decide) ok34 (heavy13_calls _ _ j0.il _ _ _ (j0.g 2)) ?_
   rintro k0 b0 ⟨rfl, m0⟩
   have b0 := j0.below m0.below
   refine ⟨_, rfl, fun m0 j0 => ?_⟩
   refine r_pick_f sv j0 rfl rfl rfl rfl (by decide) (fun m0 k0 => ?_)
   refine wpList_nil ?_
   exact x_then_n ⟨(k0.sub (rc rfl (rc rfl (rc rfl (rc rfl (rc (rb rfl (by (simp only [i0, bl]; done))) (rc rfl rnl))))))), b0⟩
 rintro k0 b0 ⟨i0, m0⟩
 refine mv i0 (fun b0 k0 => ?_)
 refine l_join (fun ga gw => Reg ga 183 [(0, .slice aA a.length ac), (1, .slice bA b.length bc), (2, .slice tA t.length tc), (6, .bool false), (22, .bool (((heavyB 100 a) || (heavyB 100 b)) || (heavyB 100 t))), (1000000, .bool false)] ∧ St w0 Z none_ gw [] [dShapes, dRow 4 aA a.length ac (encNs a), dRow 4 bA b.length bc (encNs b), dRow 4 tA t.length tc (encNs t)]) 3 ?_ ?_
 ·
  rcases Bool.eq_false_or_eq_true (((heavyB 100 a) || (heavyB 100 b))) with b0 | b0
  ·
   have i0 := b0
   try simp only [Bool.or_eq_true, Bool.and_eq_true, Bool.not_eq_true', Bool.not_eq_false', decide_eq_true_eq, decide_eq_false_iff_not, Bool.or_eq_false_iff, Bool.and_eq_false_iff] at i0
   have i0 := k0.setb (d := 19) (b := true) rfl b0
   refine sps i0 (wff i0) (fun j0 f0 => ?_)
   refine sps f0 (wff f0) (fun j0 i0 => ?_)
   refine r_pick_t sv i0 rfl rfl rfl rfl (by decide) (fun j0 f0 => ?_)
   refine wpList_nil ?_
   exact x_then_n ⟨(f0.sub (rc rfl (rc rfl (rc rfl (rc rfl (rc (rb rfl (by (simp only [b0, bl]; done))) (rc rfl rnl))))))), m0⟩
  ·
   have f0 := or_fl b0
   obtain ⟨hla, hsa⟩ := heavy_false f0
   have f0 := or_fr b0
   obtain ⟨hlb, hsb⟩ := heavy_false f0
   have f0 := k0.setb (d := 19) (b := false) rfl b0
   refine r_move (st_listV_w (wt f0)) f0 rfl rfl rfl (by decide) (fun k0 j0 => ?_)
   have k0 := m0.nf
   refine k_call (xs := [.tmp 20]) (st_list_w (wt j0)) j0 rfl rfl rfl (by decide) ok34 (heavy13_calls _ _ k0.il _ _ _ (k0.g 3)) ?_
   rintro j0 m0 ⟨rfl, f0⟩
   have m0 := k0.below f0.below
   refine ⟨_, rfl, fun f0 k0 => ?_⟩
   refine r_pick_f sv k0 rfl rfl rfl rfl (by decide) (fun f0 j0 => ?_)
   refine wpList_nil ?_
   exact x_then_n ⟨(j0.sub (rc rfl (rc rfl (rc rfl (rc rfl (rc (rb rfl (by (simp only [b0, bl]; done))) (rc rfl rnl))))))), m0⟩
 rintro j0 m0 ⟨b0, f0⟩
 refine mv b0 (fun m0 j0 => ?_)
 refine l_join (fun ga gw => Reg ga 183 [(0, .slice aA a.length ac), (1, .slice bA b.length bc), (2, .slice tA t.length tc), (6, .bool false), (27, .bool ((((heavyB 100 a) || (heavyB 100 b)) || (heavyB 100 t)) || (!(decide (((chk a)) = 0))))), (1000000, .bool false)] ∧ St w0 Z none_ gw [] [dShapes, dRow 4 aA a.length ac (encNs a), dRow 4 bA b.length bc (encNs b), dRow 4 tA t.length tc (encNs t)]) 4 ?_ ?_
 ·
  rcases Bool.eq_false_or_eq_true ((((heavyB 100 a) || (heavyB 100 b)) || (heavyB 100 t))) with m0 | m0
  ·
   have b0 := m0
   try simp only [Bool.or_eq_true, Bool.and_eq_true, Bool.not_eq_true', Bool.not_eq_false', decide_eq_true_eq, decide_eq_false_iff_not, Bool.or_eq_false_iff, Bool.and_eq_false_iff] at b0
   have b0 := j0.setb (d := 23) (b := true) rfl m0
   refine sps b0 (wff b0) (fun k0 i0 => ?_)
   refine sps i0 (wff i0) (fun k0 b0 => ?_)
   refine sps b0 (wff b0) (fun k0 i0 => ?_)
   refine r_pick_t sv i0 rfl rfl rfl rfl (by decide) (fun k0 b0 => ?_)
   refine wpList_nil ?_
   exact x_then_n ⟨(b0.sub (rc rfl (rc rfl (rc rfl (rc rfl (rc (rb rfl (by (simp only [m0, bl]; done))) (rc rfl rnl))))))), f0⟩
  ·
   have b0 := or_fl m0
   have k0 := or_fl b0
   obtain ⟨hla, hsa⟩ := heavy_false k0
   have k0 := or_fr b0
   obtain ⟨hlb, hsb⟩ := heavy_false k0
   have k0 := or_fr m0
   obtain ⟨hlt, hst⟩ := heavy_false k0
   have k0 := j0.setb (d := 23) (b := false) rfl m0
   refine r_move (st_listV_w (wt k0)) k0 rfl rfl rfl (by decide) (fun j0 b0 => ?_)
   have j0 := f0.nf
   refine k_call (xs := [.tmp 24]) (st_list_w (wt b0)) b0 rfl rfl rfl (by decide) ok19 (rcheck_calls _ _ j0.il _ _ _ (j0.g 1)) ?_
   rintro b0 f0 ⟨rfl, k0⟩
   have f0 := j0.below k0.below
   refine ⟨_, rfl, fun k0 j0 => ?_⟩
   refine r_neq (st_listV_w (wt j0)) j0 rfl rfl rfl rfl (by decide) (fun k0 b0 => ?_)
   refine r_pick_f sv b0 rfl rfl rfl rfl (by decide) (fun k0 j0 => ?_)
   refine wpList_nil ?_
   exact x_then_n ⟨(j0.sub (rc rfl (rc rfl (rc rfl (rc rfl (rc (rb rfl (by (simp only [m0, bl]; done))) (rc rfl rnl))))))), f0⟩
 rintro j0 f0 ⟨m0, k0⟩
 refine mv m0 (fun f0 j0 => ?_)
 refine l_join (fun ga gw => Reg ga 183 [(0, .slice aA a.length ac), (1, .slice bA b.length bc), (2, .slice tA t.length tc), (6, .bool false), (32, .bool (((((heavyB 100 a) || (heavyB 100 b)) || (heavyB 100 t)) || (!(decide (((chk a)) = 0)))) || (!(decide (((chk b)) = 0))))), (1000000, .bool false)] ∧ St w0 Z none_ gw [] [dShapes, dRow 4 aA a.length ac (encNs a), dRow 4 bA b.length bc (encNs b), dRow 4 tA t.length tc (encNs t)]) 4 ?_ ?_
 ·
  rcases Bool.eq_false_or_eq_true (((((heavyB 100 a) || (heavyB 100 b)) || (heavyB 100 t)) || (!(decide (((chk a)) = 0))))) with f0 | f0
  ·
   have m0 := f0
   try simp only [Bool.or_eq_true, Bool.and_eq_true, Bool.not_eq_true', Bool.not_eq_false', decide_eq_true_eq, decide_eq_false_iff_not, Bool.or_eq_false_iff, Bool.and_eq_false_iff] at m0
   have m0 := j0.setb (d := 28) (b := true) rfl f0
   refine sps m0 (wff m0) (fun b0 i0 => ?_)
   refine sps i0 (wff i0) (fun b0 m0 => ?_)
   refine sps m0 (wff m0) (fun b0 i0 => ?_)
   refine r_pick_t sv i0 rfl rfl rfl rfl (by decide) (fun b0 m0 => ?_)
   refine wpList_nil ?_
   exact x_then_n ⟨(m0.sub (rc rfl (rc rfl (rc rfl (rc rfl (rc (rb rfl (by (simp only [f0, bl]; done))) (rc rfl rnl))))))), k0⟩
  ·
   have m0 := or_fl f0
   have b0 := or_fl m0
   have i0 := or_fl b0
   obtain ⟨hla, hsa⟩ := heavy_false i0
   have i0 := or_fr b0
   obtain ⟨hlb, hsb⟩ := heavy_false i0
   have i0 := or_fr m0
   obtain ⟨hlt, hst⟩ := heavy_false i0
   have i0 := or_fr f0
   have m0 := not_f i0
   have i0 := of_decide_eq_true m0
   have hpa := chk_pos i0
   have hca := i0
   have i0 := j0.setb (d := 28) (b := false) rfl f0
   refine r_move (st_listV_w (wt i0)) i0 rfl rfl rfl (by decide) (fun j0 m0 => ?_)
   have j0 := k0.nf
   refine k_call (xs := [.tmp 29]) (st_list_w (wt m0)) m0 rfl rfl rfl (by decide) ok19 (rcheck_calls _ _ j0.il _ _ _ (j0.g 2)) ?_
   rintro m0 k0 ⟨rfl, i0⟩
   have k0 := j0.below i0.below
   refine ⟨_, rfl, fun i0 j0 => ?_⟩
   refine r_neq (st_listV_w (wt j0)) j0 rfl rfl rfl rfl (by decide) (fun i0 m0 => ?_)
   refine r_pick_f sv m0 rfl rfl rfl rfl (by decide) (fun i0 j0 => ?_)
   refine wpList_nil ?_
   exact x_then_n ⟨(j0.sub (rc rfl (rc rfl (rc rfl (rc rfl (rc (rb rfl (by (simp only [f0, bl]; done))) (rc rfl rnl))))))), k0⟩
 rintro j0 k0 ⟨f0, i0⟩
 refine mv f0 (fun k0 j0 => ?_)
 refine l_join (fun ga gw => Reg ga 183 [(0, .slice aA a.length ac), (1, .slice bA b.length bc), (2, .slice tA t.length tc), (6, .bool false), (37, .bool ((((((heavyB 100 a) || (heavyB 100 b)) || (heavyB 100 t)) || (!(decide (((chk a)) = 0)))) || (!(decide (((chk b)) = 0)))) || (!(decide (((chk t)) = 0))))), (1000000, .bool false)] ∧ St w0 Z none_ gw [] [dShapes, dRow 4 aA a.length ac (encNs a), dRow 4 bA b.length bc (encNs b), dRow 4 tA t.length tc (encNs t)]) 4 ?_ ?_
 ·
  rcases Bool.eq_false_or_eq_true ((((((heavyB 100 a) || (heavyB 100 b)) || (heavyB 100 t)) || (!(decide (((chk a)) = 0)))) || (!(decide (((chk b)) = 0))))) with k0 | k0
  ·
   have f0 := k0
   try simp only [Bool.or_eq_true, Bool.and_eq_true, Bool.not_eq_true', Bool.not_eq_false', decide_eq_true_eq, decide_eq_false_iff_not, Bool.or_eq_false_iff, Bool.and_eq_false_iff] at f0
   have f0 := j0.setb (d := 33) (b := true) rfl k0
   refine sps f0 (wff f0) (fun m0 b0 => ?_)
   refine sps b0 (wff b0) (fun m0 f0 => ?_)
   refine sps f0 (wff f0) (fun m0 b0 => ?_)
   refine r_pick_t sv b0 rfl rfl rfl rfl (by decide) (fun m0 f0 => ?_)
   refine wpList_nil ?_
   exact x_then_n ⟨(f0.sub (rc rfl (rc rfl (rc rfl (rc rfl (rc (rb rfl (by (simp only [k0, bl]; done))) (rc rfl rnl))))))), i0⟩
  ·
   have f0 := or_fl k0
   have m0 := or_fl f0
   have b0 := or_fl m0
   have n0 := or_fl b0
   obtain ⟨hla, hsa⟩ := heavy_false n0
   have n0 := or_fr b0
   obtain ⟨hlb, hsb⟩ := heavy_false n0
   have n0 := or_fr m0
   obtain ⟨hlt, hst⟩ := heavy_false n0
   have n0 := or_fr f0
   have f0 := not_f n0
   have n0 := of_decide_eq_true f0
   have hpa := chk_pos n0
   have hca := n0
   have n0 := or_fr k0
   have f0 := not_f n0
   have n0 := of_decide_eq_true f0
   have hpb := chk_pos n0
   have hcb := n0
   have n0 := j0.setb (d := 33) (b := false) rfl k0
   refine r_move (st_listV_w (wt n0)) n0 rfl rfl rfl (by decide) (fun j0 f0 => ?_)
   have j0 := i0.nf
   refine k_call (xs := [.tmp 34]) (st_list_w (wt f0)) f0 rfl rfl rfl (by decide) ok19 (rcheck_calls _ _ j0.il _ _ _ (j0.g 3)) ?_
   rintro f0 i0 ⟨rfl, n0⟩
   have i0 := j0.below n0.below
   refine ⟨_, rfl, fun n0 j0 => ?_⟩
   refine r_neq (st_listV_w (wt j0)) j0 rfl rfl rfl rfl (by decide) (fun n0 f0 => ?_)
   refine r_pick_f sv f0 rfl rfl rfl rfl (by decide) (fun n0 j0 => ?_)
   refine wpList_nil ?_
   exact x_then_n ⟨(j0.sub (rc rfl (rc rfl (rc rfl (rc rfl (rc (rb rfl (by (simp only [k0, bl]; done))) (rc rfl rnl))))))), i0⟩
 rintro j0 i0 ⟨k0, n0⟩
 refine mv k0 (fun i0 j0 => ?_)
 refine l_join (fun ga gw => Reg ga 183 [(0, .slice aA a.length ac), (1, .slice bA b.length bc), (2, .slice tA t.length tc), (6, .bool false), (41, .bool (((((((heavyB 100 a) || (heavyB 100 b)) || (heavyB 100 t)) || (!(decide (((chk a)) = 0)))) || (!(decide (((chk b)) = 0)))) || (!(decide (((chk t)) = 0)))) || (!true))), (1000000, .bool false)] ∧ St w0 Z none_ gw [] [dShapes, dRow 4 aA a.length ac (encNs a), dRow 4 bA b.length bc (encNs b), dRow 4 tA t.length tc (encNs t)]) 3 ?_ ?_
 ·
  rcases Bool.eq_false_or_eq_true (((((((heavyB 100 a) || (heavyB 100 b)) || (heavyB 100 t)) || (!(decide (((chk a)) = 0)))) || (!(decide (((chk b)) = 0)))) || (!(decide (((chk t)) = 0))))) with i0 | i0
  ·
   have k0 := i0
   try simp only [Bool.or_eq_true, Bool.and_eq_true, Bool.not_eq_true', Bool.not_eq_false', decide_eq_true_eq, decide_eq_false_iff_not, Bool.or_eq_false_iff, Bool.and_eq_false_iff] at k0
   have k0 := j0.setb (d := 38) (b := true) rfl i0
   refine sps k0 (wff k0) (fun f0 m0 => ?_)
   refine sps m0 (wff m0) (fun f0 k0 => ?_)
   refine r_pick_t sv k0 rfl rfl rfl rfl (by decide) (fun f0 m0 => ?_)
   refine wpList_nil ?_
   exact x_then_n ⟨(m0.sub (rc rfl (rc rfl (rc rfl (rc rfl (rc (rb rfl (by (simp only [i0, bl]; done))) (rc rfl rnl))))))), n0⟩
  ·
   have m0 := or_fl i0
   have f0 := or_fl m0
   have k0 := or_fl f0
   have b0 := or_fl k0
   have o0 := or_fl b0
   obtain ⟨hla, hsa⟩ := heavy_false o0
   have o0 := or_fr b0
   obtain ⟨hlb, hsb⟩ := heavy_false o0
   have o0 := or_fr k0
   obtain ⟨hlt, hst⟩ := heavy_false o0
   have o0 := or_fr f0
   have f0 := not_f o0
   have o0 := of_decide_eq_true f0
   have hpa := chk_pos o0
   have hca := o0
   have o0 := or_fr m0
   have m0 := not_f o0
   have o0 := of_decide_eq_true m0
   have hpb := chk_pos o0
   have hcb := o0
   have o0 := or_fr i0
   have m0 := not_f o0
   have o0 := of_decide_eq_true m0
   have hpt := chk_pos o0
   have hct := o0
   have o0 := j0.setb (d := 38) (b := false) rfl i0
   have j0 := n0.nf
   refine k_call (xs := []) (st_list_w (wt o0)) o0 rfl rfl rfl (by decide) ok35 (shown13_calls _ _ j0.il (j0.g 0)) ?_
   rintro o0 n0 ⟨rfl, m0⟩
   have n0 := j0.below m0.below
   refine ⟨_, rfl, fun m0 j0 => ?_⟩
   refine r_not (st_listV_w (wt j0)) j0 rfl rfl rfl (by decide) (fun m0 o0 => ?_)
   refine r_pick_f sv o0 rfl rfl rfl rfl (by decide) (fun m0 j0 => ?_)
   refine wpList_nil ?_
   exact x_then_n ⟨(j0.sub (rc rfl (rc rfl (rc rfl (rc rfl (rc (rb rfl (by (simp only [i0, bl]; done))) (rc rfl rnl))))))), n0⟩
 rintro j0 n0 ⟨i0, m0⟩
 refine wpList_nil (x_then_n (d0 _ _ ?_))
 rcases Bool.eq_false_or_eq_true ((((((((heavyB 100 a) || (heavyB 100 b)) || (heavyB 100 t)) || (!(decide (((chk a)) = 0)))) || (!(decide (((chk b)) = 0)))) || (!(decide (((chk t)) = 0)))) || (!true))) with d0 | d0
 ·
  have n0 := d0
  try simp only [Bool.or_eq_true, Bool.and_eq_true, Bool.not_eq_true', Bool.not_eq_false', decide_eq_true_eq, decide_eq_false_iff_not, Bool.or_eq_false_iff, Bool.and_eq_false_iff] at n0
  have n0 := i0.setb (d := 41) (b := true) rfl d0
  refine wp_cond_true (n0.ev rfl) ?_
  refine wsc (fun j0 o0 => ?_)
  have j0 := m0.nf
  refine k_call (xs := []) se n0 rfl rfl rfl (by decide) ok35 (shown13_calls _ _ j0.il (j0.g 0)) ?_
  rintro n0 f0 ⟨rfl, k0⟩
  have f0 := j0.below k0.below
  refine ⟨_, rfl, fun k0 j0 => ?_⟩
  refine asg j0 (fun k0 n0 => ?_)
  refine wpList_nil (x_then_n (o0 _ _ ?_))
  refine wp_ret ?_
  refine x_then_r ?_
  refine e_ret1 n0 rfl rfl rfl ?_
  refine ⟨?_, f0.fr⟩
  exact congrArg Ending.returned (ret_b (by rfl))
 ·
  have f0 := or_fl d0
  have n0 := or_fl f0
  have o0 := or_fl n0
  have k0 := or_fl o0
  have j0 := or_fl k0
  have b0 := or_fl j0
  obtain ⟨hla, hsa⟩ := heavy_false b0
  have b0 := or_fr j0
  obtain ⟨hlb, hsb⟩ := heavy_false b0
  have b0 := or_fr k0
  obtain ⟨hlt, hst⟩ := heavy_false b0
  have b0 := or_fr o0
  have o0 := not_f b0
  have b0 := of_decide_eq_true o0
  have hpa := chk_pos b0
  have hca := b0
  have b0 := or_fr n0
  have n0 := not_f b0
  have b0 := of_decide_eq_true n0
  have hpb := chk_pos b0
  have hcb := b0
  have b0 := or_fr f0
  have f0 := not_f b0
  have b0 := of_decide_eq_true f0
  have hpt := chk_pos b0
  have hct := b0
  have b0 := or_fr d0
  have f0 := not_f b0
  have f0 := i0.setb (d := 41) (b := false) rfl d0
  refine wp_cond_false (f0.ev rfl) ?_
  refine wp_skip ?_
  refine x_then_n (c0 _ _ ?_)
  refine wsc (fun c0 d0 => ?_)
  refine mv f0 (fun c0 i0 => ?_)
  have c0 := m0.nf
  refine k_call (xs := [.tmp 43]) se i0 rfl rfl rfl (by decide) ok23 (rroot_calls _ _ c0.il _ _ _ (c0.g 1) (hl := (by omega)) (h0 := (by omega))) ?_
  rintro i0 m0 ⟨rfl, f0⟩
  have m0 := c0.below f0.below
  refine ⟨_, rfl, fun f0 c0 => ?_⟩
  refine m_alloc (cs := [.int .i64 0, .int .i64 0, .int .i64 0, .string (⟨#[]⟩ : ByteArray)]) sv c0 m0 rfl rfl ze32 rfl (by decide) (fun f0 i0 b0 n0 o0 => ?_)
  refine m_store (i := 0) (cs' := [.int .i64 (((nth a (a.length - 1)).K)), .int .i64 (((nth a (a.length - 1)).N)), .int .i64 (((nth a (a.length - 1)).M)), .string ((nth a (a.length - 1)).S)]) se n0 o0 rfl rfl rfl rfl rfl sz32 rfl rfl rfl (fun i0 f0 c0 m0 => ?_)
  refine wpList_nil (x_then_n (d0 _ _ ?_))
  refine wsc (fun d0 f0 => ?_)
  refine mv c0 (fun d0 i0 => ?_)
  have d0 := m0.nf
  refine k_call (xs := [.tmp 45]) se i0 rfl rfl rfl (by decide) ok23 (rroot_calls _ _ d0.il _ _ _ (d0.g 2) (hl := (by omega)) (h0 := (by omega))) ?_
  rintro i0 m0 ⟨rfl, c0⟩
  have m0 := d0.below c0.below
  refine ⟨_, rfl, fun c0 d0 => ?_⟩
  refine m_alloc (cs := [.int .i64 0, .int .i64 0, .int .i64 0, .string (⟨#[]⟩ : ByteArray)]) sv d0 m0 rfl rfl ze32 rfl (by decide) (fun c0 i0 o0 n0 k0 => ?_)
  refine m_store (i := 1) (cs' := [.int .i64 (((nth b (b.length - 1)).K)), .int .i64 (((nth b (b.length - 1)).N)), .int .i64 (((nth b (b.length - 1)).M)), .string ((nth b (b.length - 1)).S)]) se n0 k0 rfl rfl rfl rfl rfl sz32 rfl rfl rfl (fun i0 c0 d0 m0 => ?_)
  refine wpList_nil (x_then_n (f0 _ _ ?_))
  refine wp_seq_k (fun f0 c0 => ?_)
  refine wsc (fun f0 i0 => ?_)
  refine mv d0 (fun f0 k0 => ?_)
  have f0 := m0.nf
  refine k_call (xs := [.tmp 47]) se k0 rfl rfl rfl (by decide) ok23 (rroot_calls _ _ f0.il _ _ _ (f0.g 3) (hl := (by omega)) (h0 := (by omega))) ?_
  rintro k0 m0 ⟨rfl, d0⟩
  have m0 := f0.below d0.below
  refine ⟨_, rfl, fun d0 f0 => ?_⟩
  refine m_fieldV (v := .int .i64 (((nth t (t.length - 1)).K))) sv f0 rfl rfl rfl (fun _ => by kernel_rfl) (by decide) (fun d0 k0 => ?_)
  refine r_eql sv k0 rfl rfl rfl rfl (by decide) (fun d0 f0 => ?_)
  refine wpList_nil (x_then_n (i0 _ _ ?_))
  rcases Decidable.em ((((nth t (t.length - 1)).K)) = 29) with i0 | i0
  ·
   have d0 := f0.setb (d := 50) (b := true) rfl (decide_eq_true i0)
   refine wp_cond_true (d0.ev rfl) ?_
   refine wsc (fun k0 n0 => ?_)
   have k0 := m0.nf
   refine k_call (xs := []) se d0 rfl rfl rfl (by decide) ok35 (shown13_calls _ _ k0.il (k0.g 0)) ?_
   rintro d0 j0 ⟨rfl, p0⟩
   have j0 := k0.below p0.below
   refine ⟨_, rfl, fun p0 k0 => ?_⟩
   refine asg k0 (fun p0 d0 => ?_)
   refine wpList_nil (x_then_n (n0 _ _ ?_))
   refine wp_ret ?_
   refine x_then_r ?_
   refine e_ret1 d0 rfl rfl rfl ?_
   refine ⟨?_, j0.fr⟩
   exact congrArg Ending.returned (ret_b (by rfl))
  ·
   have j0 := f0.setb (d := 50) (b := false) rfl (decide_eq_false i0)
   refine wp_cond_false (j0.ev rfl) ?_
   refine wp_skip ?_
   refine x_then_n (c0 _ _ ?_)
   refine wsc (fun c0 f0 => ?_)
   refine mv j0 (fun c0 d0 => ?_)
   refine mv d0 (fun c0 j0 => ?_)
   refine mv j0 (fun c0 d0 => ?_)
   have c0 := m0.nf
   refine k_call (xs := [.tmp 53, .tmp 54, .tmp 55]) se d0 rfl rfl rfl (by decide) ok36 (crule_calls _ _ c0.il _ _ _ _ _ _ _ _ _ (c0.g 0) (c0.g 1) (c0.g 2) (c0.g 3) (hsa := (by assumption)) (hsb := (by assumption)) (hst := (by assumption)) (hla := (by omega)) (hlb := (by omega)) (hlt := (by omega))) ?_
   rintro d0 m0 ⟨j0, n0, rfl, p0, k0⟩
   have m0 := c0.below p0.below
   have p0 := c0.dN m0 k0
   refine ⟨_, rfl, fun m0 k0 => ?_⟩
   refine mv k0 (fun m0 c0 => ?_)
   refine r_extract sv c0 rfl rfl rfl rfl (by decide) (fun m0 k0 => ?_)
   refine r_extract sv k0 rfl rfl rfl rfl (by decide) (fun m0 c0 => ?_)
   refine asg c0 (fun m0 k0 => ?_)
   refine asg k0 (fun m0 c0 => ?_)
   refine wpList_nil (x_then_n (f0 _ _ ?_))
   refine wsc (fun f0 m0 => ?_)
   refine m_field (j' := 0) sv c0 rfl rfl rfl Tryd.underlying32 rfl sz3 rfl rfl (by decide) (fun f0 k0 => ?_)
   refine m_load (i := 0) sv k0 p0 rfl rfl rfl rfl rfl Tryd.underlying3 rfl (by decide) (fun f0 c0 => ?_)
   refine r_eql sv c0 rfl rfl rfl rfl (by decide) (fun f0 k0 => ?_)
   refine mv k0 (fun f0 c0 => ?_)
   refine l_join (fun ga gw => Reg ga 183 [(1, .slice bA b.length bc), (2, .slice tA t.length tc), (6, .bool false), (7, .pointer (some ⟨b0, 0, none⟩)), (8, .pointer (some ⟨o0, 0, none⟩)), (9, .slice j0 ((crA a b t).length) n0), (10, .int .i64 ((crE a b t))), (67, .bool ((decide ((((nth a (a.length - 1)).K)) = 3)) && (decide (((Int.tmod (((nth a (a.length - 1)).N)) 2)) = 1)))), (1000000, .bool false)] ∧ St w0 Z none_ gw [.box b0 32 [.int .i64 (((nth a (a.length - 1)).K)), .int .i64 (((nth a (a.length - 1)).N)), .int .i64 (((nth a (a.length - 1)).M)), .string ((nth a (a.length - 1)).S)], .box o0 32 [.int .i64 (((nth b (b.length - 1)).K)), .int .i64 (((nth b (b.length - 1)).N)), .int .i64 (((nth b (b.length - 1)).M)), .string ((nth b (b.length - 1)).S)]] [dShapes, dRow 4 aA a.length ac (encNs a), dRow 4 bA b.length bc (encNs b), dRow 4 tA t.length tc (encNs t), dRow 4 j0 ((crA a b t).length) n0 (encNs (crA a b t))]) 5 ?_ ?_
   ·
    rcases Decidable.em ((((nth a (a.length - 1)).K)) = 3) with f0 | f0
    ·
     have k0 := c0.setb (d := 62) (b := true) rfl (decide_eq_true f0)
     refine m_field (j' := 1) (st_listV_w (wt k0)) k0 rfl rfl rfl Tryd.underlying32 rfl sz3 rfl rfl (by decide) (fun d0 q0 => ?_)
     refine m_load (i := 0) (st_listV_w (wt q0)) q0 p0 rfl rfl rfl rfl rfl Tryd.underlying3 rfl (by decide) (fun d0 k0 => ?_)
     refine r_rem (z := ((Int.tmod (((nth a (a.length - 1)).N)) 2))) (st_listV_w (wt k0)) k0 rfl rfl rfl rfl (by decide) rfl (by decide) (fun d0 q0 => ?_)
     refine r_eql (st_listV_w (wt q0)) q0 rfl rfl rfl rfl (by decide) (fun d0 k0 => ?_)
     refine r_pick_t sv k0 rfl rfl rfl rfl (by decide) (fun d0 q0 => ?_)
     refine wpList_nil ?_
     exact x_then_n ⟨(q0.sub (rc rfl (rc rfl (rc rfl (rc rfl (rc rfl (rc rfl (rc rfl (rc (rb rfl (by (simp only [decide_eq_true f0, if_pos f0, bl]; done))) (rc rfl rnl)))))))))), p0⟩
    ·
     have q0 := c0.setb (d := 62) (b := false) rfl (decide_eq_false f0)
     refine sps q0 (wff q0) (fun c0 d0 => ?_)
     refine sps d0 (wff d0) (fun c0 q0 => ?_)
     refine sps q0 (wff q0) (fun c0 d0 => ?_)
     refine sps d0 (wff d0) (fun c0 q0 => ?_)
     refine r_pick_f sv q0 rfl rfl rfl rfl (by decide) (fun c0 d0 => ?_)
     refine wpList_nil ?_
     exact x_then_n ⟨(d0.sub (rc rfl (rc rfl (rc rfl (rc rfl (rc rfl (rc rfl (rc rfl (rc (rb rfl (by (simp only [decide_eq_false f0, if_neg f0, bl]; done))) (rc rfl rnl)))))))))), p0⟩
   rintro d0 f0 ⟨p0, c0⟩
   refine mv p0 (fun f0 d0 => ?_)
   refine l_join (fun ga gw => Reg ga 183 [(1, .slice bA b.length bc), (2, .slice tA t.length tc), (6, .bool false), (7, .pointer (some ⟨b0, 0, none⟩)), (8, .pointer (some ⟨o0, 0, none⟩)), (9, .slice j0 ((crA a b t).length) n0), (10, .int .i64 ((crE a b t))), (77, .bool (((decide ((((nth a (a.length - 1)).K)) = 3)) && (decide (((Int.tmod (((nth a (a.length - 1)).N)) 2)) = 1))) || ((decide ((((nth a (a.length - 1)).K)) = 6)) && (decide ((((nth a (a.length - 1)).N)) = 3))))), (1000000, .bool false)] ∧ St w0 Z none_ gw [.box b0 32 [.int .i64 (((nth a (a.length - 1)).K)), .int .i64 (((nth a (a.length - 1)).N)), .int .i64 (((nth a (a.length - 1)).M)), .string ((nth a (a.length - 1)).S)], .box o0 32 [.int .i64 (((nth b (b.length - 1)).K)), .int .i64 (((nth b (b.length - 1)).N)), .int .i64 (((nth b (b.length - 1)).M)), .string ((nth b (b.length - 1)).S)]] [dShapes, dRow 4 aA a.length ac (encNs a), dRow 4 bA b.length bc (encNs b), dRow 4 tA t.length tc (encNs t), dRow 4 j0 ((crA a b t).length) n0 (encNs (crA a b t))]) 9 ?_ ?_
   ·
    rcases Bool.eq_false_or_eq_true (((decide ((((nth a (a.length - 1)).K)) = 3)) && (decide (((Int.tmod (((nth a (a.length - 1)).N)) 2)) = 1)))) with f0 | f0
    ·
     have p0 := and_tl f0
     have q0 := of_decide_eq_true p0
     have q0 := and_tr f0
     have p0 := of_decide_eq_true q0
     have p0 := d0.setb (d := 68) (b := true) rfl f0
     refine sps p0 (wff p0) (fun q0 k0 => ?_)
     refine sps k0 (wff k0) (fun q0 p0 => ?_)
     refine sps p0 (wff p0) (fun q0 k0 => ?_)
     refine sps k0 (wff k0) (fun q0 p0 => ?_)
     refine sps p0 (wu p0) (fun q0 k0 => ?_)
     refine sps k0 (wu k0) (fun q0 p0 => ?_)
     refine sps p0 (wu p0) (fun q0 k0 => ?_)
     refine sps k0 (wff k0) (fun q0 p0 => ?_)
     refine r_pick_t sv p0 rfl rfl rfl rfl (by decide) (fun q0 k0 => ?_)
     refine wpList_nil ?_
     exact x_then_n ⟨(k0.sub (rc rfl (rc rfl (rc rfl (rc rfl (rc rfl (rc rfl (rc rfl (rc (rb rfl (by (simp only [f0, bl]; done))) (rc rfl rnl)))))))))), c0⟩
    ·
     have k0 := f0
     try simp only [Bool.or_eq_true, Bool.and_eq_true, Bool.not_eq_true', Bool.not_eq_false', decide_eq_true_eq, decide_eq_false_iff_not, Bool.or_eq_false_iff, Bool.and_eq_false_iff] at k0
     have k0 := d0.setb (d := 68) (b := false) rfl f0
     refine m_field (j' := 0) (st_listV_w (wt k0)) k0 rfl rfl rfl Tryd.underlying32 rfl sz3 rfl rfl (by decide) (fun d0 q0 => ?_)
     refine m_load (i := 0) (st_listV_w (wt q0)) q0 c0 rfl rfl rfl rfl rfl Tryd.underlying3 rfl (by decide) (fun d0 k0 => ?_)
     refine r_eql (st_listV_w (wt k0)) k0 rfl rfl rfl rfl (by decide) (fun d0 q0 => ?_)
     refine r_move (st_listV_w (wt q0)) q0 rfl rfl rfl (by decide) (fun d0 k0 => ?_)
     rcases Decidable.em ((((nth a (a.length - 1)).K)) = 6) with d0 | d0
     ·
      have q0 := k0.setb (d := 72) (b := true) rfl (decide_eq_true d0)
      refine m_field (j' := 1) (st_listV_w (wt q0)) q0 rfl rfl rfl Tryd.underlying32 rfl sz3 rfl rfl (by decide) (fun p0 t0 => ?_)
      refine m_load (i := 0) (st_listV_w (wt t0)) t0 c0 rfl rfl rfl rfl rfl Tryd.underlying3 rfl (by decide) (fun p0 q0 => ?_)
      refine r_eql (st_listV_w (wt q0)) q0 rfl rfl rfl rfl (by decide) (fun p0 t0 => ?_)
      refine r_pick_t (st_listV_w (wt t0)) t0 rfl rfl rfl rfl (by decide) (fun p0 q0 => ?_)
      refine r_pick_f sv q0 rfl rfl rfl rfl (by decide) (fun p0 t0 => ?_)
      refine wpList_nil ?_
      exact x_then_n ⟨(t0.sub (rc rfl (rc rfl (rc rfl (rc rfl (rc rfl (rc rfl (rc rfl (rc (rb rfl (by (simp only [f0, decide_eq_true d0, if_pos d0, bl]; done))) (rc rfl rnl)))))))))), c0⟩
     ·
      have t0 := k0.setb (d := 72) (b := false) rfl (decide_eq_false d0)
      refine sps t0 (wff t0) (fun k0 p0 => ?_)
      refine sps p0 (wff p0) (fun k0 t0 => ?_)
      refine sps t0 (wff t0) (fun k0 p0 => ?_)
      refine r_pick_f (st_listV_w (wt p0)) p0 rfl rfl rfl rfl (by decide) (fun k0 t0 => ?_)
      refine r_pick_f sv t0 rfl rfl rfl rfl (by decide) (fun k0 p0 => ?_)
      refine wpList_nil ?_
      exact x_then_n ⟨(p0.sub (rc rfl (rc rfl (rc rfl (rc rfl (rc rfl (rc rfl (rc rfl (rc (rb rfl (by (simp only [f0, decide_eq_false d0, if_neg d0, bl]; done))) (rc rfl rnl)))))))))), c0⟩
   rintro p0 d0 ⟨f0, c0⟩
   refine asg f0 (fun d0 p0 => ?_)
   refine wpList_nil (x_then_n (m0 _ _ ?_))
   refine wsc (fun m0 d0 => ?_)
   refine m_field (j' := 0) sv p0 rfl rfl rfl Tryd.underlying32 rfl sz3 rfl rfl (by decide) (fun m0 f0 => ?_)
   refine m_load (i := 0) sv f0 c0 rfl rfl rfl rfl rfl Tryd.underlying3 rfl (by decide) (fun m0 p0 => ?_)
   refine r_eql sv p0 rfl rfl rfl rfl (by decide) (fun m0 f0 => ?_)
   refine mv f0 (fun m0 p0 => ?_)
   refine l_join (fun ga gw => Reg ga 183 [(1, .slice bA b.length bc), (2, .slice tA t.length tc), (6, .bool false), (7, .pointer (some ⟨b0, 0, none⟩)), (8, .pointer (some ⟨o0, 0, none⟩)), (9, .slice j0 ((crA a b t).length) n0), (10, .int .i64 ((crE a b t))), (11, .bool (((decide ((((nth a (a.length - 1)).K)) = 3)) && (decide (((Int.tmod (((nth a (a.length - 1)).N)) 2)) = 1))) || ((decide ((((nth a (a.length - 1)).K)) = 6)) && (decide ((((nth a (a.length - 1)).N)) = 3))))), (85, .bool ((decide ((((nth a (a.length - 1)).K)) = 10)) || (decide ((((nth a (a.length - 1)).K)) = 2)))), (1000000, .bool false)] ∧ St w0 Z none_ gw [.box b0 32 [.int .i64 (((nth a (a.length - 1)).K)), .int .i64 (((nth a (a.length - 1)).N)), .int .i64 (((nth a (a.length - 1)).M)), .string ((nth a (a.length - 1)).S)], .box o0 32 [.int .i64 (((nth b (b.length - 1)).K)), .int .i64 (((nth b (b.length - 1)).N)), .int .i64 (((nth b (b.length - 1)).M)), .string ((nth b (b.length - 1)).S)]] [dShapes, dRow 4 aA a.length ac (encNs a), dRow 4 bA b.length bc (encNs b), dRow 4 tA t.length tc (encNs t), dRow 4 j0 ((crA a b t).length) n0 (encNs (crA a b t))]) 4 ?_ ?_
   ·
    rcases Decidable.em ((((nth a (a.length - 1)).K)) = 10) with m0 | m0
    ·
     have f0 := p0.setb (d := 81) (b := true) rfl (decide_eq_true m0)
     refine sps f0 (wff f0) (fun k0 t0 => ?_)
     refine sps t0 (wff t0) (fun k0 f0 => ?_)
     refine sps f0 (wff f0) (fun k0 t0 => ?_)
     refine r_pick_t sv t0 rfl rfl rfl rfl (by decide) (fun k0 f0 => ?_)
     refine wpList_nil ?_
     exact x_then_n ⟨(f0.sub (rc rfl (rc rfl (rc rfl (rc rfl (rc rfl (rc rfl (rc rfl (rc rfl (rc (rb rfl (by (simp only [decide_eq_true m0, if_pos m0, bl]; done))) (rc rfl rnl))))))))))), c0⟩
    ·
     have f0 := p0.setb (d := 81) (b := false) rfl (decide_eq_false m0)
     refine m_field (j' := 0) (st_listV_w (wt f0)) f0 rfl rfl rfl Tryd.underlying32 rfl sz3 rfl rfl (by decide) (fun p0 k0 => ?_)
     refine m_load (i := 0) (st_listV_w (wt k0)) k0 c0 rfl rfl rfl rfl rfl Tryd.underlying3 rfl (by decide) (fun p0 f0 => ?_)
     refine r_eql (st_listV_w (wt f0)) f0 rfl rfl rfl rfl (by decide) (fun p0 k0 => ?_)
     refine r_pick_f sv k0 rfl rfl rfl rfl (by decide) (fun p0 f0 => ?_)
     refine wpList_nil ?_
     exact x_then_n ⟨(f0.sub (rc rfl (rc rfl (rc rfl (rc rfl (rc rfl (rc rfl (rc rfl (rc rfl (rc (rb rfl (by (simp only [decide_eq_false m0, if_neg m0, bl]; done))) (rc rfl rnl))))))))))), c0⟩
   rintro f0 m0 ⟨c0, p0⟩
   refine mv c0 (fun m0 f0 => ?_)
   refine l_join (fun ga gw => Reg ga 183 [(1, .slice bA b.length bc), (2, .slice tA t.length tc), (6, .bool false), (7, .pointer (some ⟨b0, 0, none⟩)), (8, .pointer (some ⟨o0, 0, none⟩)), (9, .slice j0 ((crA a b t).length) n0), (10, .int .i64 ((crE a b t))), (11, .bool (((decide ((((nth a (a.length - 1)).K)) = 3)) && (decide (((Int.tmod (((nth a (a.length - 1)).N)) 2)) = 1))) || ((decide ((((nth a (a.length - 1)).K)) = 6)) && (decide ((((nth a (a.length - 1)).N)) = 3))))), (90, .bool (((decide ((((nth a (a.length - 1)).K)) = 10)) || (decide ((((nth a (a.length - 1)).K)) = 2))) || (decide ((((nth a (a.length - 1)).K)) = 25)))), (1000000, .bool false)] ∧ St w0 Z none_ gw [.box b0 32 [.int .i64 (((nth a (a.length - 1)).K)), .int .i64 (((nth a (a.length - 1)).N)), .int .i64 (((nth a (a.length - 1)).M)), .string ((nth a (a.length - 1)).S)], .box o0 32 [.int .i64 (((nth b (b.length - 1)).K)), .int .i64 (((nth b (b.length - 1)).N)), .int .i64 (((nth b (b.length - 1)).M)), .string ((nth b (b.length - 1)).S)]] [dShapes, dRow 4 aA a.length ac (encNs a), dRow 4 bA b.length bc (encNs b), dRow 4 tA t.length tc (encNs t), dRow 4 j0 ((crA a b t).length) n0 (encNs (crA a b t))]) 4 ?_ ?_
   ·
    rcases Bool.eq_false_or_eq_true (((decide ((((nth a (a.length - 1)).K)) = 10)) || (decide ((((nth a (a.length - 1)).K)) = 2)))) with m0 | m0
    ·
     have c0 := m0
     try simp only [Bool.or_eq_true, Bool.and_eq_true, Bool.not_eq_true', Bool.not_eq_false', decide_eq_true_eq, decide_eq_false_iff_not, Bool.or_eq_false_iff, Bool.and_eq_false_iff] at c0
     have c0 := f0.setb (d := 86) (b := true) rfl m0
     refine sps c0 (wff c0) (fun k0 t0 => ?_)
     refine sps t0 (wff t0) (fun k0 c0 => ?_)
     refine sps c0 (wff c0) (fun k0 t0 => ?_)
     refine r_pick_t sv t0 rfl rfl rfl rfl (by decide) (fun k0 c0 => ?_)
     refine wpList_nil ?_
     exact x_then_n ⟨(c0.sub (rc rfl (rc rfl (rc rfl (rc rfl (rc rfl (rc rfl (rc rfl (rc rfl (rc (rb rfl (by (simp only [m0, bl]; done))) (rc rfl rnl))))))))))), p0⟩
    ·
     have c0 := or_fl m0
     have k0 := of_decide_eq_false c0
     have k0 := or_fr m0
     have c0 := of_decide_eq_false k0
     have c0 := f0.setb (d := 86) (b := false) rfl m0
     refine m_field (j' := 0) (st_listV_w (wt c0)) c0 rfl rfl rfl Tryd.underlying32 rfl sz3 rfl rfl (by decide) (fun f0 k0 => ?_)
     refine m_load (i := 0) (st_listV_w (wt k0)) k0 p0 rfl rfl rfl rfl rfl Tryd.underlying3 rfl (by decide) (fun f0 c0 => ?_)
     refine r_eql (st_listV_w (wt c0)) c0 rfl rfl rfl rfl (by decide) (fun f0 k0 => ?_)
     refine r_pick_f sv k0 rfl rfl rfl rfl (by decide) (fun f0 c0 => ?_)
     refine wpList_nil ?_
     exact x_then_n ⟨(c0.sub (rc rfl (rc rfl (rc rfl (rc rfl (rc rfl (rc rfl (rc rfl (rc rfl (rc (rb rfl (by (simp only [m0, bl]; done))) (rc rfl rnl))))))))))), p0⟩
   rintro c0 m0 ⟨p0, f0⟩
   refine mv p0 (fun m0 c0 => ?_)
   refine l_join (fun ga gw => Reg ga 183 [(1, .slice bA b.length bc), (2, .slice tA t.length tc), (6, .bool false), (7, .pointer (some ⟨b0, 0, none⟩)), (8, .pointer (some ⟨o0, 0, none⟩)), (9, .slice j0 ((crA a b t).length) n0), (10, .int .i64 ((crE a b t))), (11, .bool (((decide ((((nth a (a.length - 1)).K)) = 3)) && (decide (((Int.tmod (((nth a (a.length - 1)).N)) 2)) = 1))) || ((decide ((((nth a (a.length - 1)).K)) = 6)) && (decide ((((nth a (a.length - 1)).N)) = 3))))), (95, .bool ((((decide ((((nth a (a.length - 1)).K)) = 10)) || (decide ((((nth a (a.length - 1)).K)) = 2))) || (decide ((((nth a (a.length - 1)).K)) = 25))) || (decide ((((nth a (a.length - 1)).K)) = 3)))), (1000000, .bool false)] ∧ St w0 Z none_ gw [.box b0 32 [.int .i64 (((nth a (a.length - 1)).K)), .int .i64 (((nth a (a.length - 1)).N)), .int .i64 (((nth a (a.length - 1)).M)), .string ((nth a (a.length - 1)).S)], .box o0 32 [.int .i64 (((nth b (b.length - 1)).K)), .int .i64 (((nth b (b.length - 1)).N)), .int .i64 (((nth b (b.length - 1)).M)), .string ((nth b (b.length - 1)).S)]] [dShapes, dRow 4 aA a.length ac (encNs a), dRow 4 bA b.length bc (encNs b), dRow 4 tA t.length tc (encNs t), dRow 4 j0 ((crA a b t).length) n0 (encNs (crA a b t))]) 4 ?_ ?_
   ·
    rcases Bool.eq_false_or_eq_true ((((decide ((((nth a (a.length - 1)).K)) = 10)) || (decide ((((nth a (a.length - 1)).K)) = 2))) || (decide ((((nth a (a.length - 1)).K)) = 25)))) with m0 | m0
    ·
     have p0 := m0
     try simp only [Bool.or_eq_true, Bool.and_eq_true, Bool.not_eq_true', Bool.not_eq_false', decide_eq_true_eq, decide_eq_false_iff_not, Bool.or_eq_false_iff, Bool.and_eq_false_iff] at p0
     have p0 := c0.setb (d := 91) (b := true) rfl m0
     refine sps p0 (wff p0) (fun k0 t0 => ?_)
     refine sps t0 (wff t0) (fun k0 p0 => ?_)
     refine sps p0 (wff p0) (fun k0 t0 => ?_)
     refine r_pick_t sv t0 rfl rfl rfl rfl (by decide) (fun k0 p0 => ?_)
     refine wpList_nil ?_
     exact x_then_n ⟨(p0.sub (rc rfl (rc rfl (rc rfl (rc rfl (rc rfl (rc rfl (rc rfl (rc rfl (rc (rb rfl (by (simp only [m0, bl]; done))) (rc rfl rnl))))))))))), f0⟩
    ·
     have p0 := or_fl m0
     have k0 := or_fl p0
     have t0 := of_decide_eq_false k0
     have t0 := or_fr p0
     have p0 := of_decide_eq_false t0
     have p0 := or_fr m0
     have t0 := of_decide_eq_false p0
     have t0 := c0.setb (d := 91) (b := false) rfl m0
     refine m_field (j' := 0) (st_listV_w (wt t0)) t0 rfl rfl rfl Tryd.underlying32 rfl sz3 rfl rfl (by decide) (fun c0 p0 => ?_)
     refine m_load (i := 0) (st_listV_w (wt p0)) p0 f0 rfl rfl rfl rfl rfl Tryd.underlying3 rfl (by decide) (fun c0 t0 => ?_)
     refine r_eql (st_listV_w (wt t0)) t0 rfl rfl rfl rfl (by decide) (fun c0 p0 => ?_)
     refine r_pick_f sv p0 rfl rfl rfl rfl (by decide) (fun c0 t0 => ?_)
     refine wpList_nil ?_
     exact x_then_n ⟨(t0.sub (rc rfl (rc rfl (rc rfl (rc rfl (rc rfl (rc rfl (rc rfl (rc rfl (rc (rb rfl (by (simp only [m0, bl]; done))) (rc rfl rnl))))))))))), f0⟩
   rintro t0 m0 ⟨f0, c0⟩
   refine mv f0 (fun m0 t0 => ?_)
   refine l_join (fun ga gw => Reg ga 183 [(1, .slice bA b.length bc), (2, .slice tA t.length tc), (6, .bool false), (7, .pointer (some ⟨b0, 0, none⟩)), (8, .pointer (some ⟨o0, 0, none⟩)), (9, .slice j0 ((crA a b t).length) n0), (10, .int .i64 ((crE a b t))), (11, .bool (((decide ((((nth a (a.length - 1)).K)) = 3)) && (decide (((Int.tmod (((nth a (a.length - 1)).N)) 2)) = 1))) || ((decide ((((nth a (a.length - 1)).K)) = 6)) && (decide ((((nth a (a.length - 1)).N)) = 3))))), (100, .bool (((((decide ((((nth a (a.length - 1)).K)) = 10)) || (decide ((((nth a (a.length - 1)).K)) = 2))) || (decide ((((nth a (a.length - 1)).K)) = 25))) || (decide ((((nth a (a.length - 1)).K)) = 3))) || (decide ((((nth a (a.length - 1)).K)) = 6)))), (1000000, .bool false)] ∧ St w0 Z none_ gw [.box b0 32 [.int .i64 (((nth a (a.length - 1)).K)), .int .i64 (((nth a (a.length - 1)).N)), .int .i64 (((nth a (a.length - 1)).M)), .string ((nth a (a.length - 1)).S)], .box o0 32 [.int .i64 (((nth b (b.length - 1)).K)), .int .i64 (((nth b (b.length - 1)).N)), .int .i64 (((nth b (b.length - 1)).M)), .string ((nth b (b.length - 1)).S)]] [dShapes, dRow 4 aA a.length ac (encNs a), dRow 4 bA b.length bc (encNs b), dRow 4 tA t.length tc (encNs t), dRow 4 j0 ((crA a b t).length) n0 (encNs (crA a b t))]) 4 ?_ ?_
   ·
    rcases Bool.eq_false_or_eq_true (((((decide ((((nth a (a.length - 1)).K)) = 10)) || (decide ((((nth a (a.length - 1)).K)) = 2))) || (decide ((((nth a (a.length - 1)).K)) = 25))) || (decide ((((nth a (a.length - 1)).K)) = 3)))) with m0 | m0
    ·
     have f0 := m0
     try simp only [Bool.or_eq_true, Bool.and_eq_true, Bool.not_eq_true', Bool.not_eq_false', decide_eq_true_eq, decide_eq_false_iff_not, Bool.or_eq_false_iff, Bool.and_eq_false_iff] at f0
     have f0 := t0.setb (d := 96) (b := true) rfl m0
     refine sps f0 (wff f0) (fun p0 k0 => ?_)
     refine sps k0 (wff k0) (fun p0 f0 => ?_)
     refine sps f0 (wff f0) (fun p0 k0 => ?_)
     refine r_pick_t sv k0 rfl rfl rfl rfl (by decide) (fun p0 f0 => ?_)
     refine wpList_nil ?_
     exact x_then_n ⟨(f0.sub (rc rfl (rc rfl (rc rfl (rc rfl (rc rfl (rc rfl (rc rfl (rc rfl (rc (rb rfl (by (simp only [m0, bl]; done))) (rc rfl rnl))))))))))), c0⟩
    ·
     have f0 := or_fl m0
     have p0 := or_fl f0
     have k0 := or_fl p0
     have q0 := of_decide_eq_false k0
     have q0 := or_fr p0
     have p0 := of_decide_eq_false q0
     have p0 := or_fr f0
     have f0 := of_decide_eq_false p0
     have f0 := or_fr m0
     have p0 := of_decide_eq_false f0
     have p0 := t0.setb (d := 96) (b := false) rfl m0
     refine m_field (j' := 0) (st_listV_w (wt p0)) p0 rfl rfl rfl Tryd.underlying32 rfl sz3 rfl rfl (by decide) (fun t0 f0 => ?_)
     refine m_load (i := 0) (st_listV_w (wt f0)) f0 c0 rfl rfl rfl rfl rfl Tryd.underlying3 rfl (by decide) (fun t0 p0 => ?_)
     refine r_eql (st_listV_w (wt p0)) p0 rfl rfl rfl rfl (by decide) (fun t0 f0 => ?_)
     refine r_pick_f sv f0 rfl rfl rfl rfl (by decide) (fun t0 p0 => ?_)
     refine wpList_nil ?_
     exact x_then_n ⟨(p0.sub (rc rfl (rc rfl (rc rfl (rc rfl (rc rfl (rc rfl (rc rfl (rc rfl (rc (rb rfl (by (simp only [m0, bl]; done))) (rc rfl rnl))))))))))), c0⟩
   rintro p0 m0 ⟨c0, t0⟩
   refine mv c0 (fun m0 p0 => ?_)
   refine l_join (fun ga gw => Reg ga 183 [(1, .slice bA b.length bc), (2, .slice tA t.length tc), (6, .bool false), (7, .pointer (some ⟨b0, 0, none⟩)), (8, .pointer (some ⟨o0, 0, none⟩)), (9, .slice j0 ((crA a b t).length) n0), (10, .int .i64 ((crE a b t))), (11, .bool (((decide ((((nth a (a.length - 1)).K)) = 3)) && (decide (((Int.tmod (((nth a (a.length - 1)).N)) 2)) = 1))) || ((decide ((((nth a (a.length - 1)).K)) = 6)) && (decide ((((nth a (a.length - 1)).N)) = 3))))), (111, .bool ((((((decide ((((nth a (a.length - 1)).K)) = 10)) || (decide ((((nth a (a.length - 1)).K)) = 2))) || (decide ((((nth a (a.length - 1)).K)) = 25))) || (decide ((((nth a (a.length - 1)).K)) = 3))) || (decide ((((nth a (a.length - 1)).K)) = 6))) || ((decide ((((nth a (a.length - 1)).K)) = 22)) && (decide ((((nth t (t.length - 1)).K)) = 23))))), (1000000, .bool false)] ∧ St w0 Z none_ gw [.box b0 32 [.int .i64 (((nth a (a.length - 1)).K)), .int .i64 (((nth a (a.length - 1)).N)), .int .i64 (((nth a (a.length - 1)).M)), .string ((nth a (a.length - 1)).S)], .box o0 32 [.int .i64 (((nth b (b.length - 1)).K)), .int .i64 (((nth b (b.length - 1)).N)), .int .i64 (((nth b (b.length - 1)).M)), .string ((nth b (b.length - 1)).S)]] [dShapes, dRow 4 aA a.length ac (encNs a), dRow 4 bA b.length bc (encNs b), dRow 4 tA t.length tc (encNs t), dRow 4 j0 ((crA a b t).length) n0 (encNs (crA a b t))]) 10 ?_ ?_
   ·
    rcases Bool.eq_false_or_eq_true ((((((decide ((((nth a (a.length - 1)).K)) = 10)) || (decide ((((nth a (a.length - 1)).K)) = 2))) || (decide ((((nth a (a.length - 1)).K)) = 25))) || (decide ((((nth a (a.length - 1)).K)) = 3))) || (decide ((((nth a (a.length - 1)).K)) = 6)))) with m0 | m0
    ·
     have c0 := m0
     try simp only [Bool.or_eq_true, Bool.and_eq_true, Bool.not_eq_true', Bool.not_eq_false', decide_eq_true_eq, decide_eq_false_iff_not, Bool.or_eq_false_iff, Bool.and_eq_false_iff] at c0
     have c0 := p0.setb (d := 101) (b := true) rfl m0
     refine sps c0 (wff c0) (fun f0 q0 => ?_)
     refine sps q0 (wff q0) (fun f0 c0 => ?_)
     refine sps c0 (wff c0) (fun f0 q0 => ?_)
     refine sps q0 (wff q0) (fun f0 c0 => ?_)
     refine sps c0 (wu c0) (fun f0 q0 => ?_)
     refine sps q0 (wu q0) (fun f0 c0 => ?_)
     refine sps c0 (wu c0) (fun f0 q0 => ?_)
     refine sps q0 (wu q0) (fun f0 c0 => ?_)
     refine sps c0 (wff c0) (fun f0 q0 => ?_)
     refine r_pick_t sv q0 rfl rfl rfl rfl (by decide) (fun f0 c0 => ?_)
     refine wpList_nil ?_
     exact x_then_n ⟨(c0.sub (rc rfl (rc rfl (rc rfl (rc rfl (rc rfl (rc rfl (rc rfl (rc rfl (rc (rb rfl (by (simp only [m0, bl]; done))) (rc rfl rnl))))))))))), t0⟩
    ·
     have c0 := or_fl m0
     have f0 := or_fl c0
     have q0 := or_fl f0
     have k0 := or_fl q0
     have u0 := of_decide_eq_false k0
     have u0 := or_fr q0
     have q0 := of_decide_eq_false u0
     have q0 := or_fr f0
     have f0 := of_decide_eq_false q0
     have f0 := or_fr c0
     have c0 := of_decide_eq_false f0
     have c0 := or_fr m0
     have f0 := of_decide_eq_false c0
     have f0 := p0.setb (d := 101) (b := false) rfl m0
     refine m_field (j' := 0) (st_listV_w (wt f0)) f0 rfl rfl rfl Tryd.underlying32 rfl sz3 rfl rfl (by decide) (fun p0 c0 => ?_)
     refine m_load (i := 0) (st_listV_w (wt c0)) c0 t0 rfl rfl rfl rfl rfl Tryd.underlying3 rfl (by decide) (fun p0 f0 => ?_)
     refine r_eql (st_listV_w (wt f0)) f0 rfl rfl rfl rfl (by decide) (fun p0 c0 => ?_)
     refine r_move (st_listV_w (wt c0)) c0 rfl rfl rfl (by decide) (fun p0 f0 => ?_)
     rcases Decidable.em ((((nth a (a.length - 1)).K)) = 22) with p0 | p0
     ·
      have c0 := f0.setb (d := 105) (b := true) rfl (decide_eq_true p0)
      refine r_move (st_listV_w (wt c0)) c0 rfl rfl rfl (by decide) (fun q0 u0 => ?_)
      have q0 := t0.nf
      refine k_call (xs := [.tmp 106]) (st_list_w (wt u0)) u0 rfl rfl rfl (by decide) ok23 (rroot_calls _ _ q0.il _ _ _ (q0.g 3) (hl := (by omega)) (h0 := (by omega))) ?_
      rintro u0 c0 ⟨rfl, k0⟩
      have c0 := q0.below k0.below
      refine ⟨_, rfl, fun k0 q0 => ?_⟩
      refine m_fieldV (v := .int .i64 (((nth t (t.length - 1)).K))) (st_listV_w (wt q0)) q0 rfl rfl rfl (fun _ => by kernel_rfl) (by decide) (fun k0 u0 => ?_)
      refine r_eql (st_listV_w (wt u0)) u0 rfl rfl rfl rfl (by decide) (fun k0 q0 => ?_)
      refine r_pick_t (st_listV_w (wt q0)) q0 rfl rfl rfl rfl (by decide) (fun k0 u0 => ?_)
      refine r_pick_f sv u0 rfl rfl rfl rfl (by decide) (fun k0 q0 => ?_)
      refine wpList_nil ?_
      exact x_then_n ⟨(q0.sub (rc rfl (rc rfl (rc rfl (rc rfl (rc rfl (rc rfl (rc rfl (rc rfl (rc (rb rfl (by (simp only [m0, decide_eq_true p0, if_pos p0, bl]; done))) (rc rfl rnl))))))))))), c0⟩
     ·
      have q0 := f0.setb (d := 105) (b := false) rfl (decide_eq_false p0)
      refine sps q0 (wff q0) (fun f0 c0 => ?_)
      refine sps c0 (wff c0) (fun f0 q0 => ?_)
      refine sps q0 (wff q0) (fun f0 c0 => ?_)
      refine sps c0 (wff c0) (fun f0 q0 => ?_)
      refine r_pick_f (st_listV_w (wt q0)) q0 rfl rfl rfl rfl (by decide) (fun f0 c0 => ?_)
      refine r_pick_f sv c0 rfl rfl rfl rfl (by decide) (fun f0 q0 => ?_)
      refine wpList_nil ?_
      exact x_then_n ⟨(q0.sub (rc rfl (rc rfl (rc rfl (rc rfl (rc rfl (rc rfl (rc rfl (rc rfl (rc (rb rfl (by (simp only [m0, decide_eq_false p0, if_neg p0, bl]; done))) (rc rfl rnl))))))))))), t0⟩
   rintro q0 p0 ⟨m0, t0⟩
   refine asg m0 (fun p0 q0 => ?_)
   refine wpList_nil (x_then_n (d0 _ _ ?_))
   refine wp_seq_k (fun d0 p0 => ?_)
   refine wsc (fun d0 m0 => ?_)
   refine m_loadN (i := 0) (vs := [.int .i64 (((nth a (a.length - 1)).K)), .int .i64 (((nth a (a.length - 1)).N)), .int .i64 (((nth a (a.length - 1)).M)), .string ((nth a (a.length - 1)).S)]) sv q0 t0 rfl rfl rfl rfl rfl Tryd.underlying32 rfl sz32 (by decide) (fun d0 f0 => ?_)
   refine m_loadN (i := 1) (vs := [.int .i64 (((nth b (b.length - 1)).K)), .int .i64 (((nth b (b.length - 1)).N)), .int .i64 (((nth b (b.length - 1)).M)), .string ((nth b (b.length - 1)).S)]) sv f0 t0 rfl rfl rfl rfl rfl Tryd.underlying32 rfl sz32 (by decide) (fun d0 q0 => ?_)
   refine r_neqN (m := (nth a (a.length - 1))) (n := (nth b (b.length - 1))) sv q0 rfl rfl rfl rfl (by decide) (fun d0 f0 => ?_)
   refine mv f0 (fun d0 q0 => ?_)
   refine l_join (fun ga gw => Reg ga 183 [(1, .slice bA b.length bc), (2, .slice tA t.length tc), (6, .bool false), (7, .pointer (some ⟨b0, 0, none⟩)), (9, .slice j0 ((crA a b t).length) n0), (10, .int .i64 ((crE a b t))), (12, .bool ((((((decide ((((nth a (a.length - 1)).K)) = 10)) || (decide ((((nth a (a.length - 1)).K)) = 2))) || (decide ((((nth a (a.length - 1)).K)) = 25))) || (decide ((((nth a (a.length - 1)).K)) = 3))) || (decide ((((nth a (a.length - 1)).K)) = 6))) || ((decide ((((nth a (a.length - 1)).K)) = 22)) && (decide ((((nth t (t.length - 1)).K)) = 23))))), (117, .bool ((!(decide ((nth a (a.length - 1)) = (nth b (b.length - 1))))) || (((decide ((((nth a (a.length - 1)).K)) = 3)) && (decide (((Int.tmod (((nth a (a.length - 1)).N)) 2)) = 1))) || ((decide ((((nth a (a.length - 1)).K)) = 6)) && (decide ((((nth a (a.length - 1)).N)) = 3)))))), (1000000, .bool false)] ∧ St w0 Z none_ gw [.box b0 32 [.int .i64 (((nth a (a.length - 1)).K)), .int .i64 (((nth a (a.length - 1)).N)), .int .i64 (((nth a (a.length - 1)).M)), .string ((nth a (a.length - 1)).S)], .box o0 32 [.int .i64 (((nth b (b.length - 1)).K)), .int .i64 (((nth b (b.length - 1)).N)), .int .i64 (((nth b (b.length - 1)).M)), .string ((nth b (b.length - 1)).S)]] [dShapes, dRow 4 aA a.length ac (encNs a), dRow 4 bA b.length bc (encNs b), dRow 4 tA t.length tc (encNs t), dRow 4 j0 ((crA a b t).length) n0 (encNs (crA a b t))]) 2 ?_ ?_
   ·
    rcases Decidable.em ((nth a (a.length - 1)) = (nth b (b.length - 1))) with d0 | d0
    ·
     have f0 := q0.setb (d := 115) (b := false) rfl (by rw [(decide_eq_true d0)]; rfl)
     refine r_move (st_listV_w (wt f0)) f0 rfl rfl rfl (by decide) (fun c0 k0 => ?_)
     refine r_pick_f sv k0 rfl rfl rfl rfl (by decide) (fun c0 f0 => ?_)
     refine wpList_nil ?_
     exact x_then_n ⟨(f0.sub (rc rfl (rc rfl (rc rfl (rc rfl (rc rfl (rc rfl (rc rfl (rc (rb rfl (by (simp only [decide_eq_true d0, if_pos d0, bl]; done))) (rc rfl rnl)))))))))), t0⟩
    ·
     have f0 := q0.setb (d := 115) (b := true) rfl (by rw [(decide_eq_false d0)]; rfl)
     refine sps f0 (wff f0) (fun q0 c0 => ?_)
     refine r_pick_t sv c0 rfl rfl rfl rfl (by decide) (fun q0 f0 => ?_)
     refine wpList_nil ?_
     exact x_then_n ⟨(f0.sub (rc rfl (rc rfl (rc rfl (rc rfl (rc rfl (rc rfl (rc rfl (rc (rb rfl (by (simp only [decide_eq_false d0, if_neg d0, bl]; done))) (rc rfl rnl)))))))))), t0⟩
   rintro f0 d0 ⟨t0, q0⟩
   refine mv t0 (fun d0 f0 => ?_)
   refine l_join (fun ga gw => Reg ga 183 [(1, .slice bA b.length bc), (2, .slice tA t.length tc), (6, .bool false), (7, .pointer (some ⟨b0, 0, none⟩)), (9, .slice j0 ((crA a b t).length) n0), (10, .int .i64 ((crE a b t))), (121, .bool (((!(decide ((nth a (a.length - 1)) = (nth b (b.length - 1))))) || (((decide ((((nth a (a.length - 1)).K)) = 3)) && (decide (((Int.tmod (((nth a (a.length - 1)).N)) 2)) = 1))) || ((decide ((((nth a (a.length - 1)).K)) = 6)) && (decide ((((nth a (a.length - 1)).N)) = 3))))) || (!((((((decide ((((nth a (a.length - 1)).K)) = 10)) || (decide ((((nth a (a.length - 1)).K)) = 2))) || (decide ((((nth a (a.length - 1)).K)) = 25))) || (decide ((((nth a (a.length - 1)).K)) = 3))) || (decide ((((nth a (a.length - 1)).K)) = 6))) || ((decide ((((nth a (a.length - 1)).K)) = 22)) && (decide ((((nth t (t.length - 1)).K)) = 23))))))), (1000000, .bool false)] ∧ St w0 Z none_ gw [.box b0 32 [.int .i64 (((nth a (a.length - 1)).K)), .int .i64 (((nth a (a.length - 1)).N)), .int .i64 (((nth a (a.length - 1)).M)), .string ((nth a (a.length - 1)).S)], .box o0 32 [.int .i64 (((nth b (b.length - 1)).K)), .int .i64 (((nth b (b.length - 1)).N)), .int .i64 (((nth b (b.length - 1)).M)), .string ((nth b (b.length - 1)).S)]] [dShapes, dRow 4 aA a.length ac (encNs a), dRow 4 bA b.length bc (encNs b), dRow 4 tA t.length tc (encNs t), dRow 4 j0 ((crA a b t).length) n0 (encNs (crA a b t))]) 3 ?_ ?_
   ·
    rcases Bool.eq_false_or_eq_true (((!(decide ((nth a (a.length - 1)) = (nth b (b.length - 1))))) || (((decide ((((nth a (a.length - 1)).K)) = 3)) && (decide (((Int.tmod (((nth a (a.length - 1)).N)) 2)) = 1))) || ((decide ((((nth a (a.length - 1)).K)) = 6)) && (decide ((((nth a (a.length - 1)).N)) = 3)))))) with n0 | n0
    ·
     have j0 := n0
     try simp only [Bool.or_eq_true, Bool.and_eq_true, Bool.not_eq_true', Bool.not_eq_false', decide_eq_true_eq, decide_eq_false_iff_not, Bool.or_eq_false_iff, Bool.and_eq_false_iff] at j0
     have j0 := f0.setb (d := 118) (b := true) rfl n0
     refine sps j0 (wff j0) (fun o0 b0 => ?_)
     refine sps b0 (wff b0) (fun o0 j0 => ?_)
     refine r_pick_t sv j0 rfl rfl rfl rfl (by decide) (fun o0 b0 => ?_)
     refine wpList_nil ?_
     exact x_then_n ⟨(b0.sub (rc rfl (rc rfl (rc rfl (rc rfl (rc rfl (rc rfl (rc (rb rfl (by (simp only [n0, bl]; done))) (rc rfl rnl))))))))), q0⟩
    ·
     have b0 := or_fl n0
     have o0 := not_f b0
     have b0 := of_decide_eq_true o0
     have b0 := or_fr n0
     have o0 := or_fl b0
     have j0 := o0
     try simp only [Bool.or_eq_true, Bool.and_eq_true, Bool.not_eq_true', Bool.not_eq_false', decide_eq_true_eq, decide_eq_false_iff_not, Bool.or_eq_false_iff, Bool.and_eq_false_iff] at j0
     have j0 := or_fr b0
     have b0 := j0
     try simp only [Bool.or_eq_true, Bool.and_eq_true, Bool.not_eq_true', Bool.not_eq_false', decide_eq_true_eq, decide_eq_false_iff_not, Bool.or_eq_false_iff, Bool.and_eq_false_iff] at b0
     have b0 := f0.setb (d := 118) (b := false) rfl n0
     refine r_move (st_listV_w (wt b0)) b0 rfl rfl rfl (by decide) (fun f0 j0 => ?_)
     refine r_not (st_listV_w (wt j0)) j0 rfl rfl rfl (by decide) (fun f0 b0 => ?_)
     refine r_pick_f sv b0 rfl rfl rfl rfl (by decide) (fun f0 j0 => ?_)
     refine wpList_nil ?_
     exact x_then_n ⟨(j0.sub (rc rfl (rc rfl (rc rfl (rc rfl (rc rfl (rc rfl (rc (rb rfl (by (simp only [n0, bl]; done))) (rc rfl rnl))))))))), q0⟩
   rintro j0 n0 ⟨q0, f0⟩
   refine wpList_nil (x_then_n (m0 _ _ ?_))
   rcases Bool.eq_false_or_eq_true ((((!(decide ((nth a (a.length - 1)) = (nth b (b.length - 1))))) || (((decide ((((nth a (a.length - 1)).K)) = 3)) && (decide (((Int.tmod (((nth a (a.length - 1)).N)) 2)) = 1))) || ((decide ((((nth a (a.length - 1)).K)) = 6)) && (decide ((((nth a (a.length - 1)).N)) = 3))))) || (!((((((decide ((((nth a (a.length - 1)).K)) = 10)) || (decide ((((nth a (a.length - 1)).K)) = 2))) || (decide ((((nth a (a.length - 1)).K)) = 25))) || (decide ((((nth a (a.length - 1)).K)) = 3))) || (decide ((((nth a (a.length - 1)).K)) = 6))) || ((decide ((((nth a (a.length - 1)).K)) = 22)) && (decide ((((nth t (t.length - 1)).K)) = 23))))))) with m0 | m0
   ·
    have n0 := m0
    try simp only [Bool.or_eq_true, Bool.and_eq_true, Bool.not_eq_true', Bool.not_eq_false', decide_eq_true_eq, decide_eq_false_iff_not, Bool.or_eq_false_iff, Bool.and_eq_false_iff] at n0
    have hno : chNo a b t := ch_no1 m0
    obtain ⟨hz1, hz2⟩ := ch_stuck hca hcb hct i0 hno
    have n0 := q0.setb (d := 121) (b := true) rfl m0
    refine wp_cond_true (n0.ev rfl) ?_
    refine wsc (fun j0 b0 => ?_)
    refine mv n0 (fun j0 o0 => ?_)
    refine r_eql sv o0 rfl rfl rfl rfl (by decide) (fun j0 n0 => ?_)
    refine mv n0 (fun j0 o0 => ?_)
    have j0 : ((crE a b t)) = 120 := hz1
    have n0 := o0.setb (d := 124) (b := true) rfl (decide_eq_true j0)
    refine r_move (st_listV_w (wt n0)) n0 rfl rfl rfl (by decide) (fun j0 o0 => ?_)
    refine r_len (st_listV_w (wt o0)) o0 rfl rfl rfl rfl Tryd.underlying22 (by decide) (fun j0 n0 => ?_)
    refine r_eql (st_listV_w (wt n0)) n0 rfl rfl rfl rfl (by decide) (fun j0 o0 => ?_)
    refine r_pick_t sv o0 rfl rfl rfl rfl (by decide) (fun j0 n0 => ?_)
    refine asg n0 (fun j0 o0 => ?_)
    refine wpList_nil (x_then_n (b0 _ _ ?_))
    refine wp_ret ?_
    refine x_then_r ?_
    refine e_ret1 o0 rfl rfl rfl ?_
    have o0 : (((crA a b t).length : Nat) : Int) = 0 := by rw [hz2]; rfl
    refine ⟨?_, f0.fr⟩
    exact congrArg Ending.returned (ret_b (by exact decide_eq_true (by assumption)))
   ·
    have o0 := or_fl m0
    have b0 := or_fl o0
    have j0 := not_f b0
    have b0 := of_decide_eq_true j0
    have b0 := or_fr o0
    have o0 := or_fl b0
    have j0 := o0
    try simp only [Bool.or_eq_true, Bool.and_eq_true, Bool.not_eq_true', Bool.not_eq_false', decide_eq_true_eq, decide_eq_false_iff_not, Bool.or_eq_false_iff, Bool.and_eq_false_iff] at j0
    have j0 := or_fr b0
    have b0 := j0
    try simp only [Bool.or_eq_true, Bool.and_eq_true, Bool.not_eq_true', Bool.not_eq_false', decide_eq_true_eq, decide_eq_false_iff_not, Bool.or_eq_false_iff, Bool.and_eq_false_iff] at b0
    have b0 := or_fr m0
    have j0 := not_f b0
    have b0 := j0
    try simp only [Bool.or_eq_true, Bool.and_eq_true, Bool.not_eq_true', Bool.not_eq_false', decide_eq_true_eq, decide_eq_false_iff_not, Bool.or_eq_false_iff, Bool.and_eq_false_iff] at b0
    have hno : ¬ chNo a b t := ch_no2 m0
    have hge := ch_great hca hcb hct i0 hno
    have heq : nth a (a.length - 1) = nth b (b.length - 1) := Classical.not_not.1 (fun q => hno (.inl q))
    obtain ⟨hcs, hcl⟩ := crA_sz (by assumption : sml a) (by assumption : sml b) (by assumption : sml t) (by omega) (by omega) (by omega)
    have hmb := meas_chk hcb
    have b0 := q0.setb (d := 121) (b := false) rfl m0
    refine wp_cond_false (b0.ev rfl) ?_
    refine wp_skip ?_
    refine x_then_n (p0 _ _ ?_)
    refine wp_seq_k (fun p0 m0 => ?_)
    refine wsc (fun p0 q0 => ?_)
    refine mv b0 (fun p0 j0 => ?_)
    refine r_neq sv j0 rfl rfl rfl rfl (by decide) (fun p0 b0 => ?_)
    refine wpList_nil (x_then_n (q0 _ _ ?_))
    rcases Decidable.em (((crE a b t)) = 0) with q0 | q0
    ·
     have p0 := b0.setb (d := 130) (b := false) rfl (by rw [(decide_eq_true q0)]; rfl)
     refine wp_cond_false (p0.ev rfl) ?_
     refine wp_skip ?_
     refine x_then_n (m0 _ _ ?_)
     refine wp_seq_k (fun m0 j0 => ?_)
     refine wsc (fun m0 o0 => ?_)
     refine m_field (j' := 0) sv p0 rfl rfl rfl Tryd.underlying32 rfl sz3 rfl rfl (by decide) (fun m0 n0 => ?_)
     refine m_load (i := 0) sv n0 f0 rfl rfl rfl rfl rfl Tryd.underlying3 rfl (by decide) (fun m0 p0 => ?_)
     refine wpList_nil (x_then_n (o0 _ _ ?_))
     refine wp_block ?_
     refine wsc (fun o0 m0 => ?_)
     refine r_eql sv p0 rfl rfl rfl rfl (by decide) (fun o0 n0 => ?_)
     refine asg n0 (fun o0 p0 => ?_)
     refine wpList_nil (x_then_n (m0 _ _ ?_))
     rcases Decidable.em ((((nth a (a.length - 1)).K)) = 3) with m0 | m0
     ·
      obtain ⟨hp1, hp2, hp3⟩ := ch_pi hca hcb hct i0 hno q0 m0
      have hmy := many_4 hp2
      have hmx := many_3 (show (nth b (b.length - 1)).K = 3 by rw [← heq]; exact m0)
      have o0 := p0.setb (d := 135) (b := true) rfl (decide_eq_true m0)
      refine wp_cond_true (o0.ev rfl) ?_
      refine wp_seq_k (fun n0 d0 => ?_)
      obtain ⟨n0, t0, c0⟩ := f0.agree
      refine d_reg3 (n := 16) c0 5 pn (pan_then (pan_block (pan_then pan_body))) (fun t0 n0 k0 u0 v0 x0 => ?_)
      refine dtM 0 n0 o0 x0 (fun u0 t0 => ?_)
      refine d1 1 ?_
      have u0 := v0.nf
      refine k_call (xs := [.tmp 137]) (st_op rfl (want_n rfl)) t0 rfl rfl rfl (by decide) ok23 (rroot_calls _ _ u0.il _ _ (crA a b t) (u0.g 4) (hl := (by omega)) (h0 := (by exact chk_pos (crA_chk (by assumption))))) ?_
      rintro t0 v0 ⟨rfl, x0⟩
      have v0 := u0.below x0.below
      refine ⟨_, rfl, fun x0 u0 => ?_⟩
      have x0 := sWI v0 5 pn
      refine ⟨x0, ?_⟩
      refine dt 2 rfl n0 u0 (want_n rfl) (fun x hx => m_fieldV (v := .int .i64 (((nth (crA a b t) ((crA a b t).length - 1)).K))) (sy u0) u0 rfl rfl rfl (fun _ => by kernel_rfl) (by decide) gt) x0 (fun t0 o0 => ?_)
      refine dt 3 rfl n0 o0 (want_n rfl) (fun x hx => r_eql (sy o0) o0 rfl rfl rfl rfl (by decide) gt) x0 (fun t0 u0 => ?_)
      refine dtM 4 n0 u0 x0 (fun t0 o0 => ?_)
      have t0 : (((nth (crA a b t) ((crA a b t).length - 1)).K)) = 4 := hp2
      have u0 := o0.setb (d := 141) (b := true) rfl (decide_eq_true t0)
      refine dtM 5 n0 u0 x0 (fun t0 o0 => ?_) (hw := wt u0)
      refine dtM 9 n0 o0 x0 (fun t0 u0 => ?_) (hw := wt o0)
      refine d1 6 ?_
      have t0 := v0.nf
      refine k_call (xs := [.tmp 142]) (st_op rfl (wt u0)) u0 rfl rfl rfl (by decide) ok32 (rparts_calls _ _ t0.il _ _ (crA a b t) (t0.g 4) (hl := (by omega)) (hsm := (by assumption)) (hb := (by assumption))) ?_
      rintro u0 v0 ⟨o0, x0, c0, rfl, y0, z0, b1, c1⟩
      have x0 := t0.below y0.below
      have y0 := t0.dN x0 z0
      have x0 := t0.dN y0 b1
      refine ⟨_, rfl, fun y0 b1 => ?_⟩
      obtain ⟨y0, t0, z0, o0, v0, u0⟩ := part_at hp1 (by assumption) c1 (show 0 < c0.length by rw [← lsts_len, c1, ptL_length hp1]; omega)
      have u0 : 0 < c0.length := by rw [← lsts_len, c1, ptL_length hp1]; omega
      have u0 := sWI x0 5 pn
      refine ⟨u0, ?_⟩
      obtain ⟨u0, v0, o0⟩ := x0.agree
      refine d_more (v0 5 _ rfl) ?_
      have u0 := sWI o0 8 pn
      refine dt 7 rfl n0 b1 (wt b1) (fun x hx => m_index (i := 0) (j := 0 * 1) (sy b1) b1 rfl rfl rfl rfl Tryd.underlying39 sz22 (by omega) (by omega) (ss_elem (t := c0) (k := 0) (sdat (v0 6 _ rfl) hx.ag).2 (by omega)).some_ rfl (by decide) gt) u0 (fun x0 z0 => ?_)
      refine dt 8 rfl n0 z0 (wt z0) (fun x hx => m_loadE (sy z0) z0 rfl rfl rfl 0 (0 * 1) (ss_elem (t := c0) (k := 0) (sdat (v0 6 _ rfl) hx.ag).2 (by omega)) rfl rfl Tryd.underlying22 rfl (by decide) gt) u0 (fun x0 b1 => ?_)
      have x0 := o0.data (dRow 4 ((nthS c0 0).1) ((nthS c0 0).2.2.length) ((nthS c0 0).2.1) (encNs ((nthS c0 0).2.2))) (all_at (t := c0) (k := 0) (o0.get (i := 7) rfl) (by omega))
      refine d1 10 ?_
      have o0 := x0.nf
      refine k_call (xs := [.tmp 146]) (st_op rfl (wt b1)) b1 rfl rfl rfl (by decide) ok32 (rparts_calls _ _ o0.il _ _ _ (o0.g 2) (hl := (by omega)) (hsm := (by assumption)) (hb := (by assumption))) ?_
      rintro b1 x0 ⟨z0, u0, v0, rfl, t0, y0, f1, h1⟩
      have u0 := o0.below t0.below
      have t0 := o0.dN u0 y0
      have u0 := o0.dN t0 f1
      refine ⟨_, rfl, fun t0 f1 => ?_⟩
      obtain ⟨t0, o0, y0, z0, x0, b1⟩ := part_at hmb (by assumption) h1 (show 0 < v0.length by rw [← lsts_len, h1, ptL_length hmb]; omega)
      have b1 : 0 < v0.length := by rw [← lsts_len, h1, ptL_length hmb]; omega
      have b1 := sWI u0 8 pn
      refine ⟨b1, ?_⟩
      obtain ⟨b1, x0, z0⟩ := u0.agree
      refine d_more (x0 8 _ rfl) ?_
      have b1 := sWI z0 12 pn
      refine dt 11 rfl n0 f1 (wt f1) (fun x hx => m_index (i := 0) (j := 0 * 1) (sy f1) f1 rfl rfl rfl rfl Tryd.underlying39 sz22 (by omega) (by omega) (ss_elem (t := v0) (k := 0) (sdat (x0 10 _ rfl) hx.ag).2 (by omega)).some_ rfl (by decide) gt) b1 (fun u0 y0 => ?_)
      refine dt 12 rfl n0 y0 (wt y0) (fun x hx => m_loadE (sy y0) y0 rfl rfl rfl 0 (0 * 1) (ss_elem (t := v0) (k := 0) (sdat (x0 10 _ rfl) hx.ag).2 (by omega)) rfl rfl Tryd.underlying22 rfl (by decide) gt) b1 (fun u0 f1 => ?_)
      have u0 := z0.data (dRow 4 ((nthS v0 0).1) ((nthS v0 0).2.2.length) ((nthS v0 0).2.1) (encNs ((nthS v0 0).2.2))) (all_at (t := v0) (k := 0) (z0.get (i := 11) rfl) (by omega))
      refine d1 13 ?_
      have z0 := u0.nf
      refine k_call (xs := [.tmp 145, .tmp 149]) (st_op rfl (wt f1)) f1 rfl rfl rfl (by decide) ok30 (rsame_calls _ _ z0.il _ _ ((nthS c0 0).2.2) _ _ ((nthS v0 0).2.2) (z0.g 9) (z0.g 13) (hl := (by omega))) ?_
      rintro f1 u0 ⟨rfl, y0⟩
      have u0 := z0.below y0.below
      refine ⟨_, rfl, fun y0 z0 => ?_⟩
      have y0 := sWI u0 12 pn
      refine ⟨y0, ?_⟩
      refine dt 14 rfl n0 z0 (want_n rfl) (fun x hx => r_pick_t (sy z0) z0 rfl rfl rfl rfl (by decide) gt) y0 (fun f1 b1 => ?_)
      refine dtA 15 n0 b1 y0 (fun f1 z0 => ?_)
      refine wpAnyH_done (by kernel_rfl) (k0 _ _ ?_) _
      refine x_then_n (d0 _ _ ?_)
      refine wp_ret ?_
      refine x_block_r ?_
      refine x_then_r ?_
      refine e_ret1 z0 rfl rfl rfl ?_
      have z0 : (decide (((nthS c0 0).2.2) = ((nthS v0 0).2.2))) = true := decide_eq_true (by rw [lsts_nth, c1, lsts_nth, h1]; exact hp3)
      refine ⟨?_, u0.fr⟩
      exact congrArg Ending.returned (ret_b (by omega))
     ·
      have u0 := p0.setb (d := 135) (b := false) rfl (decide_eq_false m0)
      refine wp_cond_false (u0.ev rfl) ?_
      refine wsc (fun m0 p0 => ?_)
      refine r_eql sv u0 rfl rfl rfl rfl (by decide) (fun m0 z0 => ?_)
      refine asg z0 (fun m0 u0 => ?_)
      refine wpList_nil (x_then_n (p0 _ _ ?_))
      rcases Decidable.em ((((nth a (a.length - 1)).K)) = 6) with p0 | p0
      ·
       obtain ⟨hp1, hp2, hp3⟩ := ch_sig hca hcb hct i0 hno q0 p0
       have hmy := many_7 hp2
       have m0 := u0.setb (d := 152) (b := true) rfl (decide_eq_true p0)
       refine wp_cond_true (m0.ev rfl) ?_
       refine wsc (fun z0 h1 => ?_)
       refine mv m0 (fun z0 v0 => ?_)
       have z0 := f0.nf
       refine k_call (xs := [.tmp 154]) se v0 rfl rfl rfl (by decide) ok23 (rroot_calls _ _ z0.il _ _ (crA a b t) (z0.g 4) (hl := (by omega)) (h0 := (by exact chk_pos (crA_chk (by assumption))))) ?_
       rintro v0 m0 ⟨rfl, c1⟩
       have m0 := z0.below c1.below
       refine ⟨_, rfl, fun c1 z0 => ?_⟩
       refine m_fieldV (v := .int .i64 (((nth (crA a b t) ((crA a b t).length - 1)).K))) sv z0 rfl rfl rfl (fun _ => by kernel_rfl) (by decide) (fun c1 v0 => ?_)
       refine r_eql sv v0 rfl rfl rfl rfl (by decide) (fun c1 z0 => ?_)
       refine mv z0 (fun c1 v0 => ?_)
       have c1 : (((nth (crA a b t) ((crA a b t).length - 1)).K)) = 7 := hp2
       have z0 := v0.setb (d := 158) (b := true) rfl (decide_eq_true c1)
       refine r_move (st_listV_w (wt z0)) z0 rfl rfl rfl (by decide) (fun c1 v0 => ?_)
       have c1 := m0.nf
       refine k_call (xs := [.tmp 159]) (st_list_w (wt v0)) v0 rfl rfl rfl (by decide) ok32 (rparts_calls _ _ c1.il _ _ (crA a b t) (c1.g 4) (hl := (by omega)) (hsm := (by assumption)) (hb := (by assumption))) ?_
       rintro v0 m0 ⟨z0, c0, d0, rfl, k0, f1, b1, y0⟩
       have c0 := c1.below k0.below
       have k0 := c1.dN c0 f1
       have c0 := c1.dN k0 b1
       refine ⟨_, rfl, fun k0 b1 => ?_⟩
       obtain ⟨k0, c1, f1, z0, m0, v0⟩ := part_at hp1 (by assumption) y0 (show 0 < d0.length by rw [← lsts_len, y0, ptL_length hp1]; omega)
       have v0 : 0 < d0.length := by rw [← lsts_len, y0, ptL_length hp1]; omega
       refine m_index (i := 0) (j := 0 * 1) (st_listV_w (wt b1)) b1 rfl rfl rfl rfl Tryd.underlying39 sz22 (by omega) (by omega) (ss_elem (t := d0) (k := 0) (c0.row (i := 5) rfl).2 (by omega)).some_ rfl (by decide) (fun v0 m0 => ?_)
       refine m_loadE (st_listV_w (wt m0)) m0 rfl rfl rfl 0 (0 * 1) (ss_elem (t := d0) (k := 0) (c0.row (i := 5) rfl).2 (by omega)) rfl rfl Tryd.underlying22 rfl (by decide) (fun v0 b1 => ?_)
       have v0 := c0.data (dRow 4 ((nthS d0 0).1) ((nthS d0 0).2.2.length) ((nthS d0 0).2.1) (encNs ((nthS d0 0).2.2))) (all_at (t := d0) (k := 0) (c0.get (i := 6) rfl) (by omega))
       refine r_move (st_listV_w (wt b1)) b1 rfl rfl rfl (by decide) (fun c0 m0 => ?_)
       have c0 := v0.nf
       refine k_call (xs := [.tmp 162, .tmp 163]) (st_list_w (wt m0)) m0 rfl rfl rfl (by decide) ok30 (rsame_calls _ _ c0.il _ _ ((nthS d0 0).2.2) _ _ _ (c0.g 7) (c0.g 2) (hl := (by omega))) ?_
       rintro m0 v0 ⟨rfl, b1⟩
       have v0 := c0.below b1.below
       refine ⟨_, rfl, fun b1 c0 => ?_⟩
       refine r_pick_t sv c0 rfl rfl rfl rfl (by decide) (fun b1 m0 => ?_)
       refine asg m0 (fun b1 c0 => ?_)
       refine wpList_nil (x_then_n (h1 _ _ ?_))
       refine wp_ret ?_
       refine x_block_r ?_
       refine x_then_r ?_
       refine e_ret1 c0 rfl rfl rfl ?_
       have c0 : (decide (((nthS d0 0).2.2) = b)) = true := decide_eq_true (by rw [lsts_nth, y0]; exact hp3)
       refine ⟨?_, v0.fr⟩
       exact congrArg Ending.returned (ret_b (by omega))
      ·
       have v0 := u0.setb (d := 152) (b := false) rfl (decide_eq_false p0)
       refine wp_cond_false (v0.ev rfl) ?_
       refine wsc (fun p0 u0 => ?_)
       refine r_eql sv v0 rfl rfl rfl rfl (by decide) (fun p0 c0 => ?_)
       refine asg c0 (fun p0 v0 => ?_)
       refine wpList_nil (x_then_n (u0 _ _ ?_))
       rcases Decidable.em ((((nth a (a.length - 1)).K)) = 22) with u0 | u0
       ·
        obtain ⟨hp1, hp2, hp3⟩ := ch_quot hca hcb hct i0 hno q0 u0
        have hmy := many_23 hp2
        have p0 := v0.setb (d := 166) (b := true) rfl (decide_eq_true u0)
        refine wp_cond_true (p0.ev rfl) ?_
        refine wsc (fun c0 y0 => ?_)
        refine mv p0 (fun c0 d0 => ?_)
        have c0 := f0.nf
        refine k_call (xs := [.tmp 168]) se d0 rfl rfl rfl (by decide) ok23 (rroot_calls _ _ c0.il _ _ (crA a b t) (c0.g 4) (hl := (by omega)) (h0 := (by exact chk_pos (crA_chk (by assumption))))) ?_
        rintro d0 p0 ⟨rfl, h1⟩
        have p0 := c0.below h1.below
        refine ⟨_, rfl, fun h1 c0 => ?_⟩
        refine m_fieldV (v := .int .i64 (((nth (crA a b t) ((crA a b t).length - 1)).K))) sv c0 rfl rfl rfl (fun _ => by kernel_rfl) (by decide) (fun h1 d0 => ?_)
        refine r_eql sv d0 rfl rfl rfl rfl (by decide) (fun h1 c0 => ?_)
        refine mv c0 (fun h1 d0 => ?_)
        have h1 : (((nth (crA a b t) ((crA a b t).length - 1)).K)) = 23 := hp2
        have c0 := d0.setb (d := 172) (b := true) rfl (decide_eq_true h1)
        refine r_move (st_listV_w (wt c0)) c0 rfl rfl rfl (by decide) (fun h1 d0 => ?_)
        have h1 := p0.nf
        refine k_call (xs := [.tmp 173]) (st_list_w (wt d0)) d0 rfl rfl rfl (by decide) ok32 (rparts_calls _ _ h1.il _ _ (crA a b t) (h1.g 4) (hl := (by omega)) (hsm := (by assumption)) (hb := (by assumption))) ?_
        rintro d0 p0 ⟨c0, b1, m0, rfl, z0, f1, c1, k0⟩
        have b1 := h1.below z0.below
        have z0 := h1.dN b1 f1
        have b1 := h1.dN z0 c1
        refine ⟨_, rfl, fun z0 c1 => ?_⟩
        obtain ⟨z0, h1, f1, c0, p0, d0⟩ := part_at hp1 (by assumption) k0 (show 0 < m0.length by rw [← lsts_len, k0, ptL_length hp1]; omega)
        have d0 : 0 < m0.length := by rw [← lsts_len, k0, ptL_length hp1]; omega
        refine m_index (i := 0) (j := 0 * 1) (st_listV_w (wt c1)) c1 rfl rfl rfl rfl Tryd.underlying39 sz22 (by omega) (by omega) (ss_elem (t := m0) (k := 0) (b1.row (i := 5) rfl).2 (by omega)).some_ rfl (by decide) (fun d0 p0 => ?_)
        refine m_loadE (st_listV_w (wt p0)) p0 rfl rfl rfl 0 (0 * 1) (ss_elem (t := m0) (k := 0) (b1.row (i := 5) rfl).2 (by omega)) rfl rfl Tryd.underlying22 rfl (by decide) (fun d0 c1 => ?_)
        have d0 := b1.data (dRow 4 ((nthS m0 0).1) ((nthS m0 0).2.2.length) ((nthS m0 0).2.1) (encNs ((nthS m0 0).2.2))) (all_at (t := m0) (k := 0) (b1.get (i := 6) rfl) (by omega))
        refine r_move (st_listV_w (wt c1)) c1 rfl rfl rfl (by decide) (fun b1 p0 => ?_)
        have b1 := d0.nf
        refine k_call (xs := [.tmp 176, .tmp 177]) (st_list_w (wt p0)) p0 rfl rfl rfl (by decide) ok30 (rsame_calls _ _ b1.il _ _ ((nthS m0 0).2.2) _ _ _ (b1.g 7) (b1.g 2) (hl := (by omega))) ?_
        rintro p0 d0 ⟨rfl, c1⟩
        have d0 := b1.below c1.below
        refine ⟨_, rfl, fun c1 b1 => ?_⟩
        refine r_pick_t sv b1 rfl rfl rfl rfl (by decide) (fun c1 p0 => ?_)
        refine asg p0 (fun c1 b1 => ?_)
        refine wpList_nil (x_then_n (y0 _ _ ?_))
        refine wp_ret ?_
        refine x_block_r ?_
        refine x_then_r ?_
        refine e_ret1 b1 rfl rfl rfl ?_
        have b1 : (decide (((nthS m0 0).2.2) = b)) = true := decide_eq_true (by rw [lsts_nth, k0]; exact hp3)
        refine ⟨?_, d0.fr⟩
        exact congrArg Ending.returned (ret_b (by omega))
       ·
        have d0 := v0.setb (d := 166) (b := false) rfl (decide_eq_false u0)
        refine wp_cond_false (d0.ev rfl) ?_
        refine wp_skip ?_
        refine x_block_n ?_
        refine x_then_n (j0 _ _ ?_)
        refine wsc (fun j0 u0 => ?_)
        refine mv d0 (fun j0 v0 => ?_)
        refine mv v0 (fun j0 d0 => ?_)
        have j0 := f0.nf
        refine k_call (xs := [.tmp 180, .tmp 181]) se d0 rfl rfl rfl (by decide) ok30 (rsame_calls _ _ j0.il _ _ (crA a b t) _ _ _ (j0.g 4) (j0.g 3) (hl := (by omega))) ?_
        rintro d0 v0 ⟨rfl, b1⟩
        have v0 := j0.below b1.below
        refine ⟨_, rfl, fun b1 j0 => ?_⟩
        refine asg j0 (fun b1 d0 => ?_)
        refine wpList_nil (x_then_n (u0 _ _ ?_))
        refine wp_ret ?_
        refine e_ret1 d0 rfl rfl rfl ?_
        have d0 : (decide ((crA a b t) = t)) = true := decide_eq_true (ch_base hca hcb hct i0 heq q0 (by simp only [chNo, not_or, Classical.not_not] at hno; omega))
        refine ⟨?_, v0.fr⟩
        exact congrArg Ending.returned (ret_b (by omega))
    ·
     have v0 := b0.setb (d := 130) (b := true) rfl (by rw [(decide_eq_false q0)]; rfl)
     refine wp_cond_true (v0.ev rfl) ?_
     refine wsc (fun b0 d0 => ?_)
     refine mv v0 (fun b0 i0 => ?_)
     have b0 := f0.nf
     refine k_call (xs := [.tmp 131]) se i0 rfl rfl rfl (by decide) ok39 (great13_calls _ _ b0.il ((crE a b t))) ?_
     rintro i0 f0 ⟨rfl, v0⟩
     have f0 := b0.below v0.below
     refine ⟨_, rfl, fun v0 b0 => ?_⟩
     refine asg b0 (fun v0 i0 => ?_)
     refine wpList_nil (x_then_n (d0 _ _ ?_))
     refine wp_ret ?_
     refine x_then_r ?_
     refine e_ret1 i0 rfl rfl rfl ?_
     have i0 : (grB ((crE a b t))) = true := gr_of hge q0
     refine ⟨?_, f0.fr⟩
     exact congrArg Ending.returned (ret_b (by omega))
end Go.Proofs.YtobgdeffhdefeaaDoor
/- From a row's reading to cells, and back: slices of nodes, the table of shapes, arguments that nobody changed. -/
namespace Go.Proofs.YtobgdeffhdefeaaDoor
set_option linter.unusedSimpArgs false
set_option linter.unusedVariables false
open Go Go.RowKit Go.WideShapes Go.ChangeShapes
theorem kids : Kids Tryd.prog (· < Tryd.prog.types.size) := kids_rows (by kernel_rfl) (by kernel_rfl)
theorem slicesFull : ∀ t e, t < Tryd.prog.types.size → Tryd.prog.underlying t = some (.slice e) → 0 < Tryd.prog.cellsOf e := slices_full_of Tryd.prog (by kernel_rfl)
theorem ownKnobNone : ownKnob Tryd.prog.godebug = none := by kernel_rfl
section
variable {H : Type} {enc : TypeId × Value → H} {P : Program} {w W W' : World}
theorem trodAll_carry {base : Nat} {sp : Nat → Bool} {held : Bool} : ∀ {ts : List TypeId} {vs : List Value} {ds : List (DataW H)} {ps : List MemPlace},
  DataW.TrodAll enc P W base sp held ts vs ds ps → (∀ p ∈ ps, W.sameAt W' p) → DataW.TrodAll enc P W' base sp held ts vs ds ps
 | [], [], [], _, h, _ => h
 | _ :: _, _ :: _, _ :: _, _, ⟨p, q, ⟨n, h1⟩, h2, e⟩, hs =>
  ⟨p, q, ⟨n, DataW.trod_carry n _ _ _ h1 (fun x hx => hs x (by rw [e]; exact List.mem_append_left _ hx))⟩,
   trodAll_carry h2 (fun x hx => hs x (by rw [e]; exact List.mem_append_right _ hx)), e⟩
 | [], [], _ :: _, _, h, _ => h.elim
 | [], _ :: _, _, _, h, _ => h.elim
 | _ :: _, [], _, _, h, _ => h.elim
 | _ :: _, _ :: _, [], _, h, _ => h.elim
theorem sameAt_below (hb : Below W.heap.size W W') {p : MemPlace} (hp : p.block < W.heap.size) : W.sameAt W' p := by
 cases p with
 | cell b off => exact hb.cell (p := ⟨b, off, none⟩) hp
 | map b => exact hb.block b hp
theorem post_true {f : Func} {s : ChangeSpec} {apart fresh handsOn again : Bool} {args : Array Value} {ds : List (DataW H)} {before : List MemPlace}
  (K : Kids P (· < P.types.size)) (hz : ∀ t e, t < P.types.size → P.underlying t = some (.slice e) → 0 < P.cellsOf e) (hts : ∀ t ∈ f.params.toList, t < P.types.size)
  (hvars : s.vars = []) (hW : DataW.Whole enc P f.params.toList s.vars apart W args.toList ds [] before)
  {tb : TypeId} (hrt : f.resultTypes = #[tb]) (htb : P.underlying tb = some .bool)
  (hfn : (s.fn H ds).results = [.lit (.bool true)] ∧ (s.fn H ds).args = ds ∧ (s.fn H ds).vars = []) (hb : Below W.heap.size W W') :
  s.post enc P f apart fresh handsOn again W args (.bool true) W' := by
 have hlt : ∀ p ∈ before, p.block < W.heap.size := fun p hp => hW.lt p hp
 have hold : ∀ p ∈ before, (fun b => decide (b < W.heap.size)) p.block = true := fun p hp => by simpa using hlt p hp
 have hW0 := hW
 obtain ⟨p, q, hA, hV, he, hzf, hn⟩ := hW0
 rw [hvars] at hV
 have hq : q = [] := hV
 subst hq
 rw [List.append_nil] at he
 subst he
 have hA' := trodAll_carry (W' := W') hA (fun x hx => sameAt_below hb (hlt x hx))
 have hres : ∀ (b : Nat) (sp : Nat → Bool) (hd : Bool), DataW.TrodAll enc P W' b sp hd f.resultTypes.toList ((Value.bool true).resultList f.resultTypes.size) (s.fn H ds).results [] := fun b sp hd => by
  rw [hfn.1, hrt]
  exact trodAll_mk1 (shut_bool htb true)
 refine ⟨ds, [], before, [], before, [], hW, ?_, ?_, ?_, World.keptBut_mono (fun p hp => ⟨hp, .inr (.inl hp)⟩) (hb.frame (· ∈ before)), fun _ => ⟨?_, ?_⟩⟩
 · rw [List.append_nil]; exact hres _ _ _
 ·
  rw [List.append_nil, hfn.2.1]
  exact DataW.TrodAll.respare K hz hts hA' hold
 ·
  rw [List.append_nil, hfn.2.2, hvars]
  exact rfl
 · exact ok_one hrt rfl (okWide_bool_mk htb true)
 ·
  refine ⟨[.lit (.bool true)] ++ ds, [], [] ++ before, ⟨[] ++ before, [], ?_, ?_, by simp, ?_, ?_⟩, ?_⟩
  ·
   rw [hrt]
   exact trodAll_append hA' (trodAll_mk1 (shut_bool htb true))
  ·
   rw [hvars]
   exact rfl
  ·
   intro b off hp
   have hin : MemPlace.cell b off ∈ before := by simpa using hp
   rw [hb.frozen (hlt _ hin)]
   exact hzf b off hin
  ·
   intro ha
   simpa using hn ha
  ·
   intro x hx _
   simpa using hx
end
section
variable {H : Type} {enc : TypeId × Value → H} {w : World}
theorem lt_of_cell {p : Addr} {v : Value} (h : w.cell? p = some v) : p.block < w.heap.size := by
 unfold World.cell? at h
 cases ho : w.heap[p.block]? with
 | none => simp [ho] at h
 | some o => exact (Array.getElem?_eq_some_iff.1 ho).1
set_option maxRecDepth 100000 in
theorem node_cells {base : Nat} {sp : Nat → Bool} {held : Bool} {n : Nat} {cs : List Value} {x : DataW H × List MemPlace} (h : DataW.trod enc Tryd.prog w base sp held n 32 cs = some x) : ∃ nd : Nd, cs = encN nd := by
 have hu : Tryd.prog.underlying 32 = some (.struct (Tryd.prog.fieldsOf 32)) := by kernel_rfl
 have hf : (Tryd.prog.fieldsOf 32).toList.map (fun f => (f.type, f.offset)) = [(3, 0), (3, 1), (3, 2), (9, 3)] := by kernel_rfl
 have hci : Tryd.prog.cellsOf 3 = 1 := by kernel_rfl
 have hcs : Tryd.prog.cellsOf 9 = 1 := by kernel_rfl
 have hcn : Tryd.prog.cellsOf 32 = 4 := by kernel_rfl
 obtain ⟨xs, m, _, _, hl, _, hg⟩ := DataW.trod_struct hu h
 rw [hcn] at hl
 have fld : ∀ (j : Nat) (t : TypeId) (off : Nat), ((Tryd.prog.fieldsOf 32).toList.map (fun f => (f.type, f.offset)))[j]? = some (t, off) → ∃ y, DataW.trod enc Tryd.prog w base sp held m t ((cs.drop off).take (Tryd.prog.cellsOf t)) = some y := by
  intro j t off hj
  rw [List.getElem?_map] at hj
  cases hfj : (Tryd.prog.fieldsOf 32).toList[j]? with
  | none => rw [hfj] at hj; cases hj
  | some f =>
   rw [hfj] at hj
   simp only [Option.map_some, Option.some.injEq, Prod.mk.injEq] at hj
   obtain ⟨rfl, rfl⟩ := hj
   have h1 := hg j f (by rw [← Array.getElem?_toList]; exact hfj)
   have hjl : j < (Tryd.prog.fieldsOf 32).size := by
    have := (List.getElem?_eq_some_iff.1 hfj).1
    simpa using this
   have hxl : j < xs.length := by omega
   exact ⟨xs[j], by rw [h1]; exact List.getElem?_eq_getElem hxl⟩
 rw [hf] at fld
 match cs, hl with
 | [c0, c1, c2, c3], _ =>
  obtain ⟨y0, h0⟩ := fld 0 _ _ rfl
  obtain ⟨y1, h1⟩ := fld 1 _ _ rfl
  obtain ⟨y2, h2⟩ := fld 2 _ _ rfl
  obtain ⟨y3, h3⟩ := fld 3 _ _ rfl
  rw [hci] at h0 h1 h2
  rw [hcs] at h3
  obtain ⟨a, ha, _⟩ := DataW.trod_int Tryd.underlying3 h0
  obtain ⟨b, hb, _⟩ := DataW.trod_int Tryd.underlying3 h1
  obtain ⟨c, hc, _⟩ := DataW.trod_int Tryd.underlying3 h2
  obtain ⟨s, hs, _⟩ := DataW.trod_string Tryd.underlying9 h3
  simp at ha hb hc hs
  exact ⟨⟨a, b, c, s⟩, by simp [encN, ha, hb, hc, hs]⟩
set_option maxRecDepth 100000 in
theorem open_nodes {r : Reach} {base b0 : Nat} {sp : Nat → Bool} {held : Bool} {v : Value} {d : DataW H} {ps : List MemPlace} (hval : Value.okWide Tryd.prog w r b0 22 v) (hd : DataW.Trod enc Tryd.prog w base sp held 22 v d ps) :
  ∃ (A : Option Addr) (c : Nat) (t : List Nd), v = .slice A t.length c ∧ (dRow 4 A t.length c (encNs t)).φ w (fun k => k < w.heap.size) := by
 obtain ⟨A, len, cap, rfl⟩ := okWide_slice Tryd.underlying22 hval
 obtain ⟨fuel, hf⟩ := hd
 have hcn : Tryd.prog.cellsOf 32 = 4 := by kernel_rfl
 rcases Deep.open_slice Tryd.underlying22 hf with ⟨hcs, _⟩ | ⟨a, len', cap', m, n, D, Pl, hcs, _, hl, _, hm, _, hi⟩
 ·
  simp [Value.cells] at hcs
  obtain ⟨rfl, rfl, rfl⟩ := hcs
  exact ⟨none, 0, [], rfl, Nat.le_refl _, rfl, fun h => absurd h (by simp)⟩
 ·
  simp [Value.cells] at hcs
  obtain ⟨rfl, rfl, rfl⟩ := hcs
  have hmm : len ≤ m := by rw [hm]; split <;> omega
  have hnd : ∀ i, ∃ nd : Nd, i < len → w.cells? base (a.add (i * 4)) 4 = some (encN nd) := by
   intro i
   by_cases hil : i < len
   ·
    obtain ⟨cs', hc, ht⟩ := hi i (by omega)
    obtain ⟨nd, rfl⟩ := node_cells ht
    rw [hcn] at hc
    exact ⟨nd, fun _ => hc⟩
   · exact ⟨ndz, fun h => absurd h hil⟩
  obtain ⟨f, hf'⟩ := Classical.axiomOfChoice hnd
  refine ⟨some a, cap, (List.range len).map f, by simp, ?_, ?_, fun hpos => ⟨a, rfl, ?_, ?_⟩⟩
  · simpa using hl
  · exact encNs_length _
  ·
   have hp0 : 0 < len := by simpa using hpos
   obtain ⟨_, _, hat⟩ := World.cells?_some (hf' 0 hp0)
   have h0 := hat 0 (by omega)
   rw [add_of_add] at h0
   have := lt_of_cell (w := w) (p := a.add (0 * 4 + 0)) (by rw [h0]; rfl)
   rwa [block_of_add] at this
  ·
   intro j u hu
   have hjl : j < len * 4 := by
    have h1 := (List.getElem?_eq_some_iff.1 hu).1
    rw [encNs_length] at h1
    simpa using h1
   have hi4 : j / 4 < len := by omega
   obtain ⟨_, hcl, hat⟩ := World.cells?_some (hf' (j / 4) hi4)
   have h1 := hat (j % 4) (by omega)
   rw [add_of_add, show j / 4 * 4 + j % 4 = j by omega] at h1
   rw [h1, ← hu]
   have h2 := enc_at encN_len ((List.range len).map f) (j / 4) (by simpa using hi4) ndz
   have h3 : (((List.range len).map f).getD (j / 4) ndz) = f (j / 4) := by simp [hi4]
   rw [h3] at h2
   have h4 : (encNs ((List.range len).map f))[j]? = (((((List.range len).map f).flatMap encN).drop (j / 4 * 4)).take 4)[j % 4]? := by
    rw [List.getElem?_take_of_lt (by omega), List.getElem?_drop, show j / 4 * 4 + j % 4 = j by omega]
    rfl
   rw [h4, h2]
end
end Go.Proofs.YtobgdeffhdefeaaDoor
/- The table of shapes: from the row's list to cells; a world that holds it. -/
namespace Go.Proofs.YtobgdeffhdefeaaDoor
set_option linter.unusedSimpArgs false
set_option linter.unusedVariables false
open Go Go.RowKit Go.WideShapes Go.ChangeShapes
set_option maxRecDepth 100000
def shapeD (k : Nat) : DataW Unit := .agg [(match (shp k).b with | [] => .nil | b => .slice (lits .i64 b) []), .lit (.bool (shp k).n), .lit (.bool (shp k).m), .lit (.bool (shp k).s)]
theorem laid_eq : (Rows.laid_cornice_term_shapes : DataW Unit) = .agg ((List.range 30).map shapeD) := by kernel_rfl
theorem encIs_map (l : List Int) : encIs l = l.map (fun n => Value.int .i64 n) := by
 induction l with
 | nil => rfl
 | cons x t ih => rw [List.map_cons, ← ih]; rfl
theorem shape_cells {w : World} {base : Nat} {sp : Nat → Bool} {held : Bool} {n : Nat} {cs : List Value} {k : Nat} {p : List MemPlace}
  (h : DataW.trod (fun _ => ()) Tryd.prog w base sp held n 129 cs = some (shapeD k, p)) :
  ∃ (A : Option Addr) (cap : Nat), cs = [.slice A (shp k).b.length cap, .bool (shp k).n, .bool (shp k).m, .bool (shp k).s] ∧ (shp k).b.length ≤ cap ∧ RowI w (fun k => k < w.heap.size) 1 A (shp k).b.length (encIs (shp k).b) := by
 have hu : Tryd.prog.underlying 129 = some (.struct (Tryd.prog.fieldsOf 129)) := by kernel_rfl
 have hf : (Tryd.prog.fieldsOf 129).toList.map (fun f => (f.type, f.offset)) = [(66, 0), (4, 1), (4, 2), (4, 3)] := by kernel_rfl
 have hci : Tryd.prog.cellsOf 66 = 1 := by kernel_rfl
 have hci1 : Tryd.prog.cellsOf 3 = 1 := by kernel_rfl
 have hcs : Tryd.prog.cellsOf 4 = 1 := by kernel_rfl
 have hcn : Tryd.prog.cellsOf 129 = 4 := by kernel_rfl
 obtain ⟨xs, m, _, hx, hl, hxl, hg⟩ := DataW.trod_struct hu h
 rw [hcn] at hl
 have hd : xs.map (·.1) = [(match (shp k).b with | [] => .nil | b => .slice (lits .i64 b) []), .lit (.bool (shp k).n), .lit (.bool (shp k).m), .lit (.bool (shp k).s)] := by
  have := congrArg Prod.fst hx
  simp only [shapeD] at this
  injection this with h1
  exact h1.symm
 have fld : ∀ (j : Nat) (t : TypeId) (off : Nat), ((Tryd.prog.fieldsOf 129).toList.map (fun f => (f.type, f.offset)))[j]? = some (t, off) → DataW.trod (fun _ => ()) Tryd.prog w base sp held m t ((cs.drop off).take (Tryd.prog.cellsOf t)) = xs[j]? := by
  intro j t off hj
  rw [List.getElem?_map] at hj
  cases hfj : (Tryd.prog.fieldsOf 129).toList[j]? with
  | none => rw [hfj] at hj; cases hj
  | some f =>
   rw [hfj] at hj
   simp only [Option.map_some, Option.some.injEq, Prod.mk.injEq] at hj
   obtain ⟨rfl, rfl⟩ := hj
   exact hg j f (by rw [← Array.getElem?_toList]; exact hfj)
 rw [hf] at fld
 match cs, hl, xs, hd with
 | [c0, c1, c2, c3], _, [y0, y1, y2, y3], hd =>
  simp only [List.map_cons, List.map_nil, List.cons.injEq, and_true] at hd
  obtain ⟨d0, d1, d2, d3⟩ := hd
  have h0 := fld 0 _ _ rfl
  have h1 := fld 1 _ _ rfl
  have h2 := fld 2 _ _ rfl
  have h3 := fld 3 _ _ rfl
  rw [hci] at h0
  rw [hcs] at h1 h2 h3
  obtain ⟨b1, e1, f1⟩ := DataW.trod_bool Tryd.underlying4 h1
  obtain ⟨b2, e2, f2⟩ := DataW.trod_bool Tryd.underlying4 h2
  obtain ⟨b3, e3, f3⟩ := DataW.trod_bool Tryd.underlying4 h3
  simp at e1 e2 e3
  simp [f1] at d1
  simp [f2] at d2
  simp [f3] at d3
  subst e1 e2 e3 d1 d2 d3
  rcases open_ints Tryd.underlying66 Tryd.underlying3 hci1 h0 with ⟨hcs0, hy⟩ | ⟨a, len, cap, zs, hcs0, _, hle, _, hzl, hy, hcell, _⟩
  ·
   simp at hcs0
   subst hcs0
   rw [hy] at d0
   cases hb : (shp k).b with
   | nil => exact ⟨none, 0, by simp, by simp, by simp [encIs], fun h => absurd h (by simp)⟩
   | cons z zs => rw [hb] at d0; simp at d0
  ·
   simp at hcs0
   subst hcs0
   rw [hy] at d0
   cases hb : (shp k).b with
   | nil => rw [hb] at d0; simp at d0
   | cons z l =>
    rw [hb] at d0
    simp only [DataW.slice.injEq] at d0
    obtain ⟨d4, d5⟩ := d0
    have hinj : ∀ a b : List Int, (lits .i64 a : List (DataW Unit)) = lits .i64 b → a = b := by
     intro a
     induction a with
     | nil => intro b hb; cases b with
      | nil => rfl
      | cons _ _ => simp [lits] at hb
     | cons x a ih => intro b hb; cases b with
      | nil => simp [lits] at hb
      | cons y b =>
       simp only [lits, List.map_cons, List.cons.injEq, DataW.lit.injEq, Lit.int.injEq, true_and] at hb
       rw [hb.1, ih b hb.2]
    have d6 := hinj _ _ d4
    have hll : len = (z :: l).length := by
     have := congrArg List.length d6
     rw [List.length_take] at this
     have hz : len ≤ zs.length := by rw [hzl]; split <;> omega
     omega
    subst hll
    refine ⟨some a, cap, rfl, hle, by simp [encIs_length], fun _ => ⟨a, rfl, ?_, ?_⟩⟩
    ·
     have h9 := hcell 0 (by have hz2 : (z :: l).length ≤ zs.length := (by rw [hzl]; split <;> omega); rw [List.length_cons] at hz2; omega)
     have := lt_of_cell h9
     rwa [block_of_add] at this
    ·
     intro j u hu
     have hjl : j < (z :: l).length := by
      have := (List.getElem?_eq_some_iff.1 hu).1
      rw [encIs_length] at this
      simpa using this
     have hzz : (z :: l).length ≤ zs.length := by rw [hzl]; split <;> omega
     rw [hcell j (by omega)]
     have h8 : (z :: l)[j]? = zs[j]? := by rw [← d6, List.getElem?_take_of_lt hjl]
     have h7 := encIs_map (z :: l)
     rw [h7, List.getElem?_map, h8] at hu
     cases hq : zs[j]? with
     | none => rw [hq] at hu; simp at hu
     | some q =>
      rw [hq] at hu
      simp only [Option.map_some, Option.some.injEq] at hu
      rw [← hu, List.getD_eq_getElem?_getD, hq]
      rfl
theorem shapes_of_laid {W : World} (h : laidMetH Tryd.prog [("cornice/term.shapes", Rows.laid_cornice_term_shapes)] W) : Shapes W (fun k => k < W.heap.size) := by
 have h' : laidMet Tryd.prog [("cornice/term.shapes", Rows.laid_cornice_term_shapes)] W := h
 obtain ⟨ps, ⟨g, t, cs, fuel, p, q, hg, ht, hvar, hd, _, _⟩, _⟩ := h'
 have hg0 : Tryd.prog.globalNamed "cornice/term.shapes" = some 0 := by kernel_rfl
 have ht0 : (Tryd.prog.globals[0]?).map (·.type) = some 130 := by kernel_rfl
 obtain rfl : 0 = g := Option.some.inj (hg0.symm.trans hg)
 obtain rfl : 130 = t := Option.some.inj (ht0.symm.trans ht)
 have hcn : Tryd.prog.cellsOf 129 = 4 := by kernel_rfl
 have hct : Tryd.prog.cellsOf 130 = 120 := by kernel_rfl
 obtain ⟨xs, m, _, hx, hl, hxl, hi⟩ := DataW.trod_array Tryd.underlying130 hd
 rw [hct] at hl
 have hxd : xs.map (·.1) = (List.range 30).map shapeD := by
  have := congrArg Prod.fst hx
  simp only [laid_eq] at this
  injection this with h1
  exact h1.symm
 intro k hk
 have h1 := hi k hk
 rw [hcn] at h1
 have hkx : k < xs.length := by omega
 have h2 : xs[k]? = some (shapeD k, (xs[k]).2) := by
  rw [List.getElem?_eq_getElem hkx]
  have h3 : (xs.map (·.1))[k]? = some (shapeD k) := by rw [hxd]; simp [hk]
  rw [List.getElem?_map, List.getElem?_eq_getElem hkx] at h3
  simp only [Option.map_some, Option.some.injEq] at h3
  rw [← h3]
 rw [h2] at h1
 obtain ⟨A, cap, hcs, hle, hrow⟩ := shape_cells h1
 refine ⟨A, cap, ⟨hle, hrow⟩, ?_, ?_⟩
 ·
  have h4 := World.var?_cell hg hvar 0
  have h5 : cs[0]? ≠ none := by
   intro e
   rw [← Array.getElem?_toList, List.getElem?_eq_none_iff] at e
   omega
  cases h6 : cs[0]? with
  | none => exact absurd h6 h5
  | some v => rw [h6] at h4; exact lt_of_cell h4
 ·
  intro j u hu
  have hj : j < 4 := by
   have := (List.getElem?_eq_some_iff.1 hu).1
   simpa using this
  have h4 := World.var?_cell hg hvar (k * 4 + j)
  rw [← hcs, List.getElem?_take_of_lt hj, List.getElem?_drop, Array.getElem?_toList] at hu
  rw [hu] at h4
  rw [add_of_add]
  have : (⟨0, 0, none⟩ : Addr).add (k * 4 + j) = ⟨0, k * 4 + j, none⟩ := by unfold Addr.add; split <;> simp_all
  rw [this]
  exact h4
noncomputable def laidWorld (os : Os) : World :=
 { World.holding Tryd.prog os ⟨#[.cells #[.int .i64 0, .int .i64 1, .int .i64 0, .int .i64 1, .int .i64 0, .int .i64 0, .int .i64 0, .int .i64 1, .int .i64 0, .int .i64 0, .int .i64 0, .int .i64 0, .int .i64 0, .int .i64 0, .int .i64 1, .int .i64 0, .int .i64 2, .int .i64 0, .int .i64 0, .int .i64 0, .int .i64 0, .int .i64 0, .int .i64 0, .int .i64 0, .int .i64 0, .int .i64 0, .int .i64 0, .int .i64 0, .int .i64 0, .int .i64 0, .int .i64 0, .int .i64 1, .int .i64 0, .int .i64 0, .int .i64 0, .int .i64 0, .int .i64 2, .int .i64 0, .int .i64 0, .int .i64 0, .int .i64 0, .int .i64 0, .int .i64 0, .int .i64 1, .int .i64 0, .int .i64 0, .int .i64 0] 3], #[], []⟩ with heap := (World.holding Tryd.prog os ⟨#[.cells #[.int .i64 0, .int .i64 1, .int .i64 0, .int .i64 1, .int .i64 0, .int .i64 0, .int .i64 0, .int .i64 1, .int .i64 0, .int .i64 0, .int .i64 0, .int .i64 0, .int .i64 0, .int .i64 0, .int .i64 1, .int .i64 0, .int .i64 2, .int .i64 0, .int .i64 0, .int .i64 0, .int .i64 0, .int .i64 0, .int .i64 0, .int .i64 0, .int .i64 0, .int .i64 0, .int .i64 0, .int .i64 0, .int .i64 0, .int .i64 0, .int .i64 0, .int .i64 1, .int .i64 0, .int .i64 0, .int .i64 0, .int .i64 0, .int .i64 2, .int .i64 0, .int .i64 0, .int .i64 0, .int .i64 0, .int .i64 0, .int .i64 0, .int .i64 1, .int .i64 0, .int .i64 0, .int .i64 0] 3], #[], []⟩).heap.modify 0 fun
   | .cells _ t frozen => .cells #[.slice none 0 0, .bool true, .bool false, .bool false, .slice none 0 0, .bool false, .bool false, .bool true, .slice none 0 0, .bool true, .bool false, .bool false, .slice (some ⟨6, 0, none⟩) 2 2, .bool true, .bool false, .bool false, .slice (some ⟨6, 2, none⟩) 2 2, .bool false, .bool false, .bool false, .slice (some ⟨6, 4, none⟩) 2 2, .bool false, .bool false, .bool false, .slice (some ⟨6, 6, none⟩) 2 2, .bool true, .bool false, .bool false, .slice (some ⟨6, 8, none⟩) 3 3, .bool false, .bool false, .bool false, .slice (some ⟨6, 11, none⟩) 1 1, .bool false, .bool false, .bool false, .slice (some ⟨6, 12, none⟩) 1 1, .bool false, .bool false, .bool false, .slice none 0 0, .bool false, .bool false, .bool false, .slice none 0 0, .bool false, .bool false, .bool false, .slice (some ⟨6, 13, none⟩) 1 1, .bool false, .bool false, .bool false, .slice (some ⟨6, 14, none⟩) 4 4, .bool false, .bool false, .bool false, .slice none 0 0, .bool false, .bool false, .bool false, .slice (some ⟨6, 18, none⟩) 2 2, .bool false, .bool false, .bool false, .slice none 0 0, .bool false, .bool false, .bool false, .slice none 0 0, .bool false, .bool false, .bool false, .slice (some ⟨6, 20, none⟩) 3 3, .bool false, .bool false, .bool false, .slice (some ⟨6, 23, none⟩) 2 2, .bool false, .bool false, .bool false, .slice (some ⟨6, 25, none⟩) 4 4, .bool false, .bool false, .bool false, .slice (some ⟨6, 29, none⟩) 6 6, .bool false, .bool false, .bool false, .slice (some ⟨6, 35, none⟩) 5 5, .bool false, .bool false, .bool false, .slice (some ⟨6, 40, none⟩) 2 2, .bool false, .bool false, .bool false, .slice (some ⟨6, 42, none⟩) 4 4, .bool false, .bool false, .bool false, .slice none 0 0, .bool false, .bool false, .bool true, .slice none 0 0, .bool true, .bool true, .bool true, .slice none 0 0, .bool false, .bool true, .bool true, .slice (some ⟨6, 46, none⟩) 1 1, .bool false, .bool false, .bool false, .slice none 0 0, .bool false, .bool false, .bool false] t frozen
   | o => o }
end Go.Proofs.YtobgdeffhdefeaaDoor
/- The law CastrHeads: it returns true, whatever its arguments are, and they read as they did; the table of shapes holds what the program's text lays. -/
namespace Go.Proofs.YtobgdeffhdefeaaDoor.lawCastrHeads
open Go Go.RowKit Go.WideShapes Go.ChangeShapes Go.Proofs.YtobgdeffhdefeaaDoor
set_option maxRecDepth 100000
set_option linter.unusedSimpArgs false
set_option linter.unusedVariables false
theorem contract (H : Type) (enc : TypeId × Value → H) (W : World) (base : Nat) (args : Array Value) (ds gs : List (DataW H)) (before : List MemPlace)
  (hval : ∀ (j : Nat) t v, Tryd.f11.params[j]? = some t → args[j]? = some v → Value.okWide Tryd.prog W .any base t v)
  (hW : DataW.Whole enc Tryd.prog Tryd.f11.params.toList Rows.castrHeadsSpec.vars false W args.toList ds gs before) (hL : laidMetH Tryd.prog Rows.castrHeadsRow.laid W) :
  Calls Tryd.prog 11 args W fun e W' => ∃ v, e = .returned v ∧ Rows.castrHeadsSpec.post enc Tryd.prog Tryd.f11 false true false false W args v W' := by
 have hW' := hW
 obtain ⟨p, q, hA0, hV, rfl, hfz, hnd⟩ := hW
 have hA := hA0
 rw [Tryd.params11] at hA hval
 obtain ⟨v0, vs0, d0, ds0, p0, q0, hargs, rfl, rfl, h0, r0⟩ := trodAll_cons hA
 obtain ⟨v1, vs1, d1, ds1, p1, q1, rfl, rfl, rfl, h1, r1⟩ := trodAll_cons r0
 obtain ⟨v2, vs2, d2, ds2, p2, q2, rfl, rfl, rfl, h2, r2⟩ := trodAll_cons r1
 obtain ⟨rfl, rfl, rfl⟩ := trodAll_nil r2
 obtain rfl : args = #[v0, v1, v2] := by cases args; simp_all
 obtain ⟨rfl, rfl⟩ := trodVars_none hV
 obtain ⟨A0, c0, t0, rfl, g0⟩ := open_nodes (hval 0 _ _ rfl rfl) h0
 obtain ⟨A1, c1, t1, rfl, g1⟩ := open_nodes (hval 1 _ _ rfl rfl) h1
 obtain ⟨A2, c2, t2, rfl, g2⟩ := open_nodes (hval 2 _ _ rfl rfl) h2
 refine (castrHeads_calls W (fun k => k < W.heap.size) (fun _ h => h) A0 c0 t0 A1 c1 t1 A2 c2 t2 (shapes_of_laid hL) g0 g1 g2).mono fun e W' ⟨he, hf⟩ => ?_
 subst he
 exact ⟨_, rfl, post_true kids slicesFull (by rw [Tryd.params11]; decide) rfl hW' rfl Tryd.underlying4 ⟨rfl, rfl, rfl⟩ hf.below⟩
theorem laid_met (os : Os) : laidMet Tryd.prog Rows.castrHeadsRow.laid ((laidWorld os).forCall (fun _ _ => 0) ⟨#[], #[Value.slice none 0 0, Value.slice none 0 0, Value.slice none 0 0], []⟩).memory :=
 laidMet_of_run' 8 (by kernel_rfl) (by kernel_rfl)
theorem reads (os : Os) {H : Type} (enc : TypeId × Value → H) : ∃ places, DataW.whole enc Tryd.prog ((laidWorld os).forCall (fun _ _ => 0) ⟨#[], #[Value.slice none 0 0, Value.slice none 0 0, Value.slice none 0 0], []⟩).memory Tryd.f11.params.toList Rows.castrHeadsSpec.vars false #[Value.slice none 0 0, Value.slice none 0 0, Value.slice none 0 0].toList 8 = some ([.nil, .nil, .nil], [], places) :=
 ⟨[], by kernel_rfl⟩
theorem lifted (os : Os) (started : os.Started) (H : Type) (enc : TypeId × Value → H) (F : Stop.Interp) :
  ReturnsInHanded {} Tryd.checked os 11 .any ((OpenSpec.ofChange Rows.castrHeadsSpec).preRow enc Tryd.prog Tryd.f11 Rows.castrHeadsRow.domain false Rows.castrHeadsRow.laid) (((OpenSpec.ofChange Rows.castrHeadsSpec).at F).post enc Tryd.prog Tryd.f11 false true false false) := by
 obtain ⟨places, hx⟩ := reads os enc
 refine returnsInHanded_of_row (C := Tryd.checked) (s := OpenSpec.ofChange Rows.castrHeadsSpec) ownKnobNone started (by kernel_rfl) Tryd.func11
  (witness_row_atRef (enc := enc) (C := Tryd.checked) false (laidWorld os) #[Value.slice none 0 0, Value.slice none 0 0, Value.slice none 0 0] rfl (by kernel_rfl) (by kernel_rfl) (by kernel_rfl)
   (OpenSpec.preRow_of_cond 8 hx (by kernel_rfl) (fun k hk => by cases hk) (by kernel_rfl) (laid_met os))) ?_
 intro W base args ds gs before hval hW _ _ _ hL _ _
 exact contract H enc W base args ds gs before hval hW hL
theorem said : Rows.CastrHeadsSaid :=
 OpenClaim.holds_of_cond 11 Tryd.f11 rfl rfl rfl rfl rfl rfl rfl ⟨rfl, rfl, rfl, rfl, rfl⟩ rfl rfl rfl rfl rfl (by kernel_rfl) Tryd.func11 (by kernel_rfl)
  (of_decide_eq_true (by kernel_rfl)) (by unfold Func.isWrapper; first | (rw [if_pos (by decide +kernel)]; kernel_rfl) | (rw [if_neg (by decide +kernel)]; exact ⟨rfl, rfl⟩))
  (fun os started H enc _ F => by rw [OpenClaim.pre_eq_preRow]; exact lifted os started H enc F)
theorem plain (f : FuncId) (fn : Func) (hf : Tryd.pinned.checked.prog.funcNamed "cornice/cornicelaw13.CastrHeads" = some f) (hfn : Tryd.pinned.checked.prog.funcs[f]? = some fn) :
  false = Tryd.pinned.checked.prog.looks [] ∧ ∀ (j : Nat) t, fn.params[j]? = some t → Tryd.pinned.checked.prog.wantsStandIn t = false := by
 obtain rfl : f = 11 := Option.some.inj ((show Tryd.prog.funcNamed "cornice/cornicelaw13.CastrHeads" = some 11 by kernel_rfl).symm.trans hf) |>.symm
 obtain rfl : fn = Tryd.f11 := (Option.some.inj (Tryd.func11.symm.trans hfn)).symm
 refine ⟨by kernel_rfl, fun j t ht => ?_⟩
 rw [Tryd.params11] at ht
 have hm := Array.mem_of_getElem? ht
 simp only [List.mem_toArray, List.mem_cons, List.not_mem_nil, or_false] at hm
 rcases hm with rfl | rfl | rfl
 · exact (show Tryd.prog.wantsStandIn 22 = false by kernel_rfl)
 · exact (show Tryd.prog.wantsStandIn 22 = false by kernel_rfl)
 · exact (show Tryd.prog.wantsStandIn 22 = false by kernel_rfl)
theorem proved : Rows.CastrHeadsCardSaid :=
 Claim7.holds_tied_plain_at .later [] _ _ _ _ said (fun _ h => by cases h) (by kernel_rfl) (fun _ h => by cases h) castrHeads_row_tie rfl ⟨rfl, rfl⟩ (by kernel_rfl) rfl plain (by kernel_rfl)
end Go.Proofs.YtobgdeffhdefeaaDoor.lawCastrHeads
