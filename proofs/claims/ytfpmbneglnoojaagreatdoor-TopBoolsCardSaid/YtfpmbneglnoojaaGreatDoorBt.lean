/- The law TopBools: it returns true, whatever its argument is, and that reads as it did; the package variables that the row lists hold what the program text lays. -/
import Derived.Test.YtfpmbneglnoojaaGreatDoorBq
import Derived.Test.YtfpmbneglnoojaaGreatDoorBr
import Derived.Test.YtfpmbneglnoojaaGreatDoorBs
import Derived.Test.YtfpmbneglnoojaaGreatDoorBp
import Derived.Test.YtfpmbneglnoojaaGreatDoorCards
import Derived.Test.YtfpmbneglnoojaaGreatDoorTie
import Derived.Conc.LeavingOf
import Derived.Deep.DeepWitnessRowRef
import Derived.Lay
import Derived.SevenTiedAt
set_option linter.all false
/- Closed facts of the program that the row asks for, put together. -/
namespace Go.Proofs.YtfpmbneglnoojaaGreatDoor.lawTopBools
open Go Go.Proofs Go.Proofs.YtfpmbneglnoojaaGreatDoor
set_option maxRecDepth 100000
theorem and2 {a b : Bool} (h : a = true) (k : b = true) : (a && b) = true := by rw [h, k]; rfl
theorem facts : joinedFacts Tryz.pinned.checked.prog 3 Tryz.f3 Rows.topBoolsSpec Rows.topBoolsRow = true := by
  unfold joinedFacts
  exact (and2 (and2 (and2 (and2 (and2 (and2 (and2 (and2 (and2 (and2 (and2 (and2 (and2 (and2 (and2 (and2 (and2 (and2 (and2 (and2 (and2 (and2 (and2 (and2 (and2 (and2 (and2 (and2 (and2 (and2 (and2 j0 j1) j2) j3) j4) j5) j6) j7) j8) j9) j10) j11) j12) j13) j14) j15) j16) j17) j18) j19) j20) j21) j22) j23) j24) j25) j26) j27) j28) j29) j30) j31)
theorem named : Tryz.pinned.checked.prog.funcNamed Rows.topBoolsRow.func = some 3 := by kernel_rfl
end Go.Proofs.YtfpmbneglnoojaaGreatDoor.lawTopBools
/- The law TopBools: it returns true, whatever its argument is, and that reads as it did. -/
namespace Go.Proofs.YtfpmbneglnoojaaGreatDoor.lawTopBools
open Go Go.RowKit Go.WideShapes Go.ChangeShapes Go.Proofs Go.Proofs.YtfpmbneglnoojaaGreatDoor
set_option maxRecDepth 100000
theorem own : ownKnob Tryz.prog.godebug = none := by kernel_rfl
theorem u5 : Tryz.prog.underlying 5 = some (.int .u8) := by kernel_rfl
theorem u4 : Tryz.prog.underlying 4 = some .bool := by kernel_rfl
theorem hf3 : Tryz.prog.funcs[3]? = some Ab.topF := Ab.top1
theorem pr3 : Ab.topF.params = #[5] := by kernel_rfl
theorem rs3 : Ab.topF.resultTypes = #[4] := by kernel_rfl
theorem laid_met (os : Os) : laidMet Tryz.prog Rows.topBoolsRow.laid ((World.laidAll Tryz.prog os Rows.topBoolsRow.laid).forCall (fun _ _ => 0) ⟨#[], #[.int .u8 0], []⟩).memory :=
  laidMet_laidAll _ (by kernel_rfl) (by kernel_rfl)
theorem reads (os : Os) {H : Type} (enc : TypeId × Value → H) : ∃ places, DataW.whole enc Tryz.prog ((World.laidAll Tryz.prog os Rows.topBoolsRow.laid).forCall (fun _ _ => 0) ⟨#[], #[.int .u8 0], []⟩).memory Ab.topF.params.toList Rows.topBoolsSpec.vars false #[Value.int .u8 0].toList 8 = some ([.lit (.int .u8 0)], [], places) :=
  ⟨[], by kernel_rfl⟩
theorem lifted (os : Os) (started : os.Started) (H : Type) (enc : TypeId × Value → H) :
    ReturnsInLeavingWide {} Tryz.checked os 3 .any ((OpenSpec.ofChange Rows.topBoolsSpec).preRow enc Tryz.prog Ab.topF Rows.topBoolsRow.domain false Rows.topBoolsRow.laid) (Rows.topBoolsSpec.post enc Tryz.prog Ab.topF false true false false) := by
  obtain ⟨places, hx⟩ := reads os enc
  refine returnsInLeavingWide_of_good (C := Tryz.checked) own started
    (witness_row_atRef (enc := enc) (C := Tryz.checked) false (World.laidAll Tryz.prog os Rows.topBoolsRow.laid) #[.int .u8 0] (World.laidAll_os _ _ _) (by kernel_rfl) (by kernel_rfl) (by kernel_rfl)
      (OpenSpec.preRow_of_cond 8 hx (by kernel_rfl) (fun k hk => by cases hk) (by kernel_rfl) (laid_met os))) ?_
  intro w tape i _ hsh _ hok hpre _
  obtain ⟨_, _, _, fn', hfn', _, _, _, _, hval⟩ := hok
  have e : fn' = Ab.topF := Option.some.inj (hfn'.symm.trans hf3)
  subst e
  obtain ⟨⟨hp, hl⟩, _⟩ := hpre
  obtain ⟨ds, gs, before, hw, _, _⟩ := OpenSpec.pre_parts hp
  have hW := DataW.Whole.of_heap (w' := w.forCall tape i) (by rfl) hw
  have hL : laidMetH Tryz.prog Rows.topBoolsRow.laid (w.forCall tape i) := hl.of_heap (by rfl)
  generalize w.forCall tape i = W at hsh hval hW hL ⊢
  generalize i.args = args at hval hW ⊢
  have hW' := hW
  obtain ⟨p, q, hA0, hV, rfl, _, _⟩ := hW
  have hA := hA0
  rw [pr3] at hA hval
  obtain ⟨v0, vs0, d0, ds0, p0, q0, hargs, rfl, rfl, h0, r0⟩ := trodAll_cons hA
  obtain ⟨rfl, rfl, rfl⟩ := trodAll_nil r0
  obtain rfl : args = #[v0] := by cases args; simp_all
  obtain ⟨rfl, rfl⟩ := trodVars_none hV
  obtain ⟨a, rfl, rfl, rfl, wa⟩ := open_int u5 (hval 0 5 _ rfl rfl) h0
  obtain ⟨b1, b2⟩ := bounds_u8 wa
  obtain ⟨k, rfl⟩ : ∃ k : Nat, a = .ofNat k := ⟨a.toNat, (Int.toNat_of_nonneg b1).symm⟩
  have hk : k < 256 := by
    have h : ((k : Nat) : Int) ≤ 255 := b2
    omega
  obtain ⟨N, last, o, w', t', r1, r2, r3, r4⟩ := Ab.run_bools hsh hL hk
  refine ⟨N, last, o, w', t', r1, r2, r3, r4.mono fun v hF => ?_⟩
  obtain ⟨rfl, hb⟩ := hF
  refine ChangeSpec.post_blind ?_
  refine ⟨_, _, _, [], [], [], hW', ?_, ?_, rfl, hb.frame _, fun h => by cases h⟩
  · rw [rs3]
    exact trodAll_mk1 (shut_bool u4 _)
  · rw [pr3]
    exact trodAll_mk1 (shut_int u5 wa)
end Go.Proofs.YtfpmbneglnoojaaGreatDoor.lawTopBools
/- The card of TopBools. -/
namespace Go.Proofs.YtfpmbneglnoojaaGreatDoor.lawTopBools
open Go Go.RowKit Go.WideShapes Go.ChangeShapes Go.Proofs Go.Proofs.YtfpmbneglnoojaaGreatDoor
set_option maxRecDepth 100000
theorem fn_eq : Tryz.f3 = Ab.topF := Option.some.inj (Tryz.func3.symm.trans hf3)
theorem inst : Func.isInstance Tryz.pinned.checked.prog Tryz.f3 Rows.topBoolsRow.origin Rows.topBoolsRow.targs := of_decide_eq_true (by kernel_rfl)
theorem wrapped : Func.isWrapper Tryz.pinned.checked.prog Tryz.f3 Rows.topBoolsRow.wrapper Rows.topBoolsRow.mainSum := by
  unfold Func.isWrapper
  first | (rw [if_pos (by decide +kernel)]; kernel_rfl) | (rw [if_neg (by decide +kernel)]; exact ⟨rfl, rfl⟩)
theorem said : Rows.TopBoolsSaid :=
  OpenClaim.holds_of_wide_leaving 3 Tryz.f3 rfl rfl rfl rfl rfl rfl rfl ⟨rfl, rfl, rfl, rfl, rfl⟩ rfl rfl rfl rfl rfl named Tryz.func3 facts inst wrapped
    (fun os started H enc _ => by rw [OpenClaim.pre_eq_preRow, fn_eq]; exact lifted os started H enc)
theorem plain (f : FuncId) (fn : Func) (hf : Tryz.pinned.checked.prog.funcNamed "cornice/cornicetop.TopBools" = some f) (hfn : Tryz.pinned.checked.prog.funcs[f]? = some fn) :
    true = Tryz.pinned.checked.prog.looks [] ∧ ∀ (j : Nat) t, fn.params[j]? = some t → Tryz.pinned.checked.prog.wantsStandIn t = false := by
  obtain rfl : f = 3 := Option.some.inj ((show Tryz.prog.funcNamed "cornice/cornicetop.TopBools" = some 3 by kernel_rfl).symm.trans hf) |>.symm
  obtain rfl : fn = Ab.topF := (Option.some.inj (hf3.symm.trans hfn)).symm
  refine ⟨by kernel_rfl, fun j t ht => ?_⟩
  rw [pr3] at ht
  have hm := Array.mem_of_getElem? ht
  simp only [List.mem_toArray, List.mem_cons, List.not_mem_nil, or_false] at hm
  subst hm
  exact (show Tryz.prog.wantsStandIn 5 = false by kernel_rfl)
theorem holds_tied_goes (Lk : Looks) {p : Pinned} {s : OpenSpec} {c : OpenClaim} (kinds : List LaidKind) (tests : Bool) (har : Bool × String) (lk : Bool)
    (hc : c.holds p s) (hw : c.wfByText s = true) (htie : c.laidByTextAt Lk p kinds tests)
    (hst : c.start = .entering) (hnb : c.noBlocks = false ∧ c.again = false) (hm : p.checked.prog.mainIs = some (har.1, har.2.toList)) (hn : (!har.1 && har.2.isEmpty && !lk) = false)
    (hl : ∀ f fn, p.checked.prog.funcNamed c.func = some f → p.checked.prog.funcs[f]? = some fn → lk = p.checked.prog.looks [] ∧ ∀ (j : Nat) t, fn.params[j]? = some t → p.checked.prog.wantsStandIn t = false)
    (hg : true = c.goesBy p.checked.prog) :
    Claim7.holds p (.plain s) { stood := { row := c, standIns := [], harness := har, looks := lk }, kinds := [], alts := [], goes := true, laidByText := true, laidKinds := kinds, laidTests := tests, laidLooks := Lk } := by
  have h6 : Claim7.isSixth { stood := { row := c, standIns := [], harness := har, looks := lk }, kinds := [] } = false := by simpa [Claim7.isSixth] using hn
  exact ⟨Claim7.tied_new_at Lk kinds tests (Claim7.new_of_sixth hc har lk hst hnb hm h6 hl) hw, (fun D hD => by cases hD), htie, (fun h => by cases h), hg⟩
/-- The card. -/
theorem proved : Rows.TopBoolsCardSaid :=
  holds_tied_goes .later _ _ _ _ said (by kernel_rfl) topBools_row_tie rfl ⟨rfl, rfl⟩ (by kernel_rfl) rfl plain (by kernel_rfl)
end Go.Proofs.YtfpmbneglnoojaaGreatDoor.lawTopBools
