/- The pieces put together; the memory at the start; the law from whatever start. -/
import Derived.Test.YtfpmbneglnoojaaGreatDoorBf
import Derived.Test.YtfpmbneglnoojaaGreatDoorCaf
import Derived.Test.YtfpmbneglnoojaaGreatDoorCah
import Derived.Test.YtfpmbneglnoojaaGreatDoorCae
import Derived.Test.YtfpmbneglnoojaaGreatDoorCab
import Derived.Test.YtfpmbneglnoojaaGreatDoorCad
import Derived.Test.YtfpmbneglnoojaaGreatDoorCac
import Derived.Test.YtfpmbneglnoojaaGreatDoorCai
import Derived.Test.YtfpmbneglnoojaaGreatDoorCag
import Derived.Test.YtfpmbneglnoojaaGreatDoorCaa
import Derived.Test.YtfpmbneglnoojaaGreatDoorCbi
import Derived.Test.YtfpmbneglnoojaaGreatDoorCbd
import Derived.Test.YtfpmbneglnoojaaGreatDoorCbf
import Derived.Test.YtfpmbneglnoojaaGreatDoorCbh
import Derived.Test.YtfpmbneglnoojaaGreatDoorCbe
import Derived.Test.YtfpmbneglnoojaaGreatDoorCbc
import Derived.Test.YtfpmbneglnoojaaGreatDoorCba
import Derived.Test.YtfpmbneglnoojaaGreatDoorCbg
import Derived.Test.YtfpmbneglnoojaaGreatDoorCbb
import Derived.Test.YtfpmbneglnoojaaGreatDoorRows
import Derived.OpenShut
import Derived.ChangeSlices
set_option linter.all false
/- The pieces of TopBools put together, n even. -/
namespace Go.Proofs.YtfpmbneglnoojaaGreatDoor.Ab.B0
open Go Go.Proofs.YtfpmbneglnoojaaGreatDoor.Ab Go.Proofs.YtfpmbneglnoojaaGreatDoor.Ab.K
set_option maxRecDepth 100000
noncomputable section
variable {Z : Phs}
theorem x_ : loadC = .seq (cA loadC) (cB loadC) := by kernel_rfl
theorem xB_ : (cB loadC) = .seq (cA (cB loadC)) (cB (cB loadC)) := by kernel_rfl
theorem xBB_ : (cB (cB loadC)) = .seq (cA (cB (cB loadC))) (cB (cB (cB loadC))) := by kernel_rfl
theorem xBBB_ : (cB (cB (cB loadC))) = .seq (cA (cB (cB (cB loadC)))) (cB (cB (cB (cB loadC)))) := by kernel_rfl
theorem xBBBB_ : (cB (cB (cB (cB loadC)))) = .seq (cA (cB (cB (cB (cB loadC))))) (cB (cB (cB (cB (cB loadC))))) := by kernel_rfl
theorem xBBBBB_ : (cB (cB (cB (cB (cB loadC))))) = .seq (cA (cB (cB (cB (cB (cB loadC)))))) (cB (cB (cB (cB (cB (cB loadC)))))) := by kernel_rfl
theorem xBBBBBB_ : (cB (cB (cB (cB (cB (cB loadC)))))) = .seq (cA (cB (cB (cB (cB (cB (cB loadC))))))) (cB (cB (cB (cB (cB (cB (cB loadC))))))) := by kernel_rfl
theorem xBBBBBBB_ : (cB (cB (cB (cB (cB (cB (cB loadC))))))) = .seq (cA (cB (cB (cB (cB (cB (cB (cB loadC)))))))) (cB (cB (cB (cB (cB (cB (cB (cB loadC)))))))) := by kernel_rfl
theorem xBBBBBBBA_ : (cA (cB (cB (cB (cB (cB (cB (cB loadC)))))))) = .seq (cA (cA (cB (cB (cB (cB (cB (cB (cB loadC))))))))) (cB (cA (cB (cB (cB (cB (cB (cB (cB loadC))))))))) := by kernel_rfl
theorem xBBBBBBBAB_ : (cB (cA (cB (cB (cB (cB (cB (cB (cB loadC))))))))) = .block 0 (cK (cB (cA (cB (cB (cB (cB (cB (cB (cB loadC)))))))))) := by kernel_rfl
theorem xBBBBBBBABK_ : (cK (cB (cA (cB (cB (cB (cB (cB (cB (cB loadC)))))))))) = .loop (cL (cK (cB (cA (cB (cB (cB (cB (cB (cB (cB loadC))))))))))) := by kernel_rfl
theorem lf1 : PG.funcs[6]? = some loadF := by kernel_rfl
theorem lf2 : loadF.body = some loadC := by kernel_rfl
theorem tabS (hsp : ∀ o e s, ¬ isFail (hkM text Tk o e s) → SoundSp Z o e s (hkM text Tk o e s)) (hspd : ∀ d s, ¬ isFail (hdM d s) → SoundSpd Z d s (hdM d s)) (H : Nat → Tr AObj → Tr AObj) (l : List Ent) (hl : ∀ e ∈ l, EntOk Z e (H e.ix)) : SoundI Z (evT (tabT H l) (hkM text Tk) hdM 100000) := evT_sound (tabT_sound hl) hsp hspd _
/-- the calls that are cut out, then the call of Load -/
theorem load (hsp : ∀ o e s, ¬ isFail (hkM text Tk o e s) → SoundSp Z o e s (hkM text Tk o e s)) (hspd : ∀ d s, ¬ isFail (hdM d s) → SoundSpd Z d s (hdM d s)) : ∃ k, EntOk Z enL k := by
  have hT := tabS hsp hspd
  have hi : SoundI Z (ev (hkM text Tk) hdM 100000) := ev_sound hsp hspd 100000
  obtain ⟨k0, o0⟩ : ∃ k, EntOk Z en0 k := ent_run (hT (hlist []) [] (by simp)) fun t => runU (c0 _ t)
  obtain ⟨k1, o1⟩ : ∃ k, EntOk Z en1 k := ent_run (hT (hlist [k0]) [] (by simp)) fun t => runU (c1 _ t)
  obtain ⟨k2, o2⟩ : ∃ k, EntOk Z en2 k := ent_run (hT (hlist [k0, k1]) [] (by simp)) fun t => runU (c2 _ t)
  obtain ⟨k3, o3⟩ : ∃ k, EntOk Z en3 k := ent_run (hT (hlist [k0, k1, k2]) [] (by simp)) fun t => runU (c3 _ t)
  obtain ⟨k4, o4⟩ : ∃ k, EntOk Z en4 k := ent_run (hT (hlist [k0, k1, k2, k3]) [] (by simp)) fun t => runU (c4 _ t)
  obtain ⟨k5, o5⟩ : ∃ k, EntOk Z en5 k := ent_run (hT (hlist [k0, k1, k2, k3, k4]) [] (by simp)) fun t => runU (c5 _ t)
  obtain ⟨k6, o6⟩ : ∃ k, EntOk Z en6 k := ent_run (hT (hlist [k0, k1, k2, k3, k4, k5]) [] (by simp)) fun t => runU (c6 _ t)
  obtain ⟨k7, o7⟩ : ∃ k, EntOk Z en7 k := ent_run (hT (hlist [k0, k1, k2, k3, k4, k5, k6]) [] (by simp)) fun t => runU (c7 _ t)
  obtain ⟨k8, o8⟩ : ∃ k, EntOk Z en8 k := ent_run (hT (hlist [k0, k1, k2, k3, k4, k5, k6, k7]) [] (by simp)) fun t => runU (c8 _ t)
  obtain ⟨k9, o9⟩ : ∃ k, EntOk Z en9 k := ent_run (hT (hlist [k0, k1, k2, k3, k4, k5, k6, k7, k8]) [] (by simp)) fun t => runU (c9 _ t)
  obtain ⟨k10, o10⟩ : ∃ k, EntOk Z en10 k := ent_run (hT (hlist [k0, k1, k2, k3, k4, k5, k6, k7, k8, k9]) [en7, en8, en9] (by intro e he; simp only [List.mem_cons, List.not_mem_nil, or_false] at he; rcases he with rfl | rfl | rfl; exact o7; exact o8; exact o9)) fun t => runU (c10 _ t)
  obtain ⟨k11, o11⟩ : ∃ k, EntOk Z en11 k := ent_run (hT (hlist [k0, k1, k2, k3, k4, k5, k6, k7, k8, k9, k10]) [] (by simp)) fun t => runU (c11 _ t)
  obtain ⟨k12, o12⟩ : ∃ k, EntOk Z en12 k := ent_run (hT (hlist [k0, k1, k2, k3, k4, k5, k6, k7, k8, k9, k10, k11]) [en11] (by intro e he; simp only [List.mem_cons, List.not_mem_nil, or_false] at he; rcases he with rfl; exact o11)) fun t => runU (c12 _ t)
  obtain ⟨k13, o13⟩ : ∃ k, EntOk Z en13 k := ent_run (hT (hlist [k0, k1, k2, k3, k4, k5, k6, k7, k8, k9, k10, k11, k12]) [en5, en6, en10, en12] (by intro e he; simp only [List.mem_cons, List.not_mem_nil, or_false] at he; rcases he with rfl | rfl | rfl | rfl; exact o5; exact o6; exact o10; exact o12)) fun t => runU (c13 _ t)
  obtain ⟨k14, o14⟩ : ∃ k, EntOk Z en14 k := ent_run (hT (hlist [k0, k1, k2, k3, k4, k5, k6, k7, k8, k9, k10, k11, k12, k13]) [] (by simp)) fun t => runU (c14 _ t)
  obtain ⟨k15, o15⟩ : ∃ k, EntOk Z en15 k := ent_run (hT (hlist [k0, k1, k2, k3, k4, k5, k6, k7, k8, k9, k10, k11, k12, k13, k14]) [] (by simp)) fun t => runU (c15 _ t)
  obtain ⟨k16, o16⟩ : ∃ k, EntOk Z en16 k := ent_run (hT (hlist [k0, k1, k2, k3, k4, k5, k6, k7, k8, k9, k10, k11, k12, k13, k14, k15]) [] (by simp)) fun t => runU (c16 _ t)
  obtain ⟨k17, o17⟩ : ∃ k, EntOk Z en17 k := ent_run (hT (hlist [k0, k1, k2, k3, k4, k5, k6, k7, k8, k9, k10, k11, k12, k13, k14, k15, k16]) [en15, en16] (by intro e he; simp only [List.mem_cons, List.not_mem_nil, or_false] at he; rcases he with rfl | rfl; exact o15; exact o16)) fun t => runU (c17 _ t)
  obtain ⟨k18, o18⟩ : ∃ k, EntOk Z en18 k := ent_run (hT (hlist [k0, k1, k2, k3, k4, k5, k6, k7, k8, k9, k10, k11, k12, k13, k14, k15, k16, k17]) [] (by simp)) fun t => runU (c18 _ t)
  obtain ⟨k19, o19⟩ : ∃ k, EntOk Z en19 k := ent_run (hT (hlist [k0, k1, k2, k3, k4, k5, k6, k7, k8, k9, k10, k11, k12, k13, k14, k15, k16, k17, k18]) [] (by simp)) fun t => runU (c19 _ t)
  obtain ⟨k20, o20⟩ : ∃ k, EntOk Z en20 k := ent_run (hT (hlist [k0, k1, k2, k3, k4, k5, k6, k7, k8, k9, k10, k11, k12, k13, k14, k15, k16, k17, k18, k19]) [] (by simp)) fun t => runU (c20 _ t)
  obtain ⟨k21, o21⟩ : ∃ k, EntOk Z en21 k := ent_run (hT (hlist [k0, k1, k2, k3, k4, k5, k6, k7, k8, k9, k10, k11, k12, k13, k14, k15, k16, k17, k18, k19, k20]) [] (by simp)) fun t => runU (c21 _ t)
  obtain ⟨k22, o22⟩ : ∃ k, EntOk Z en22 k := ent_run (hT (hlist [k0, k1, k2, k3, k4, k5, k6, k7, k8, k9, k10, k11, k12, k13, k14, k15, k16, k17, k18, k19, k20, k21]) [] (by simp)) fun t => runU (c22 _ t)
  obtain ⟨k23, o23⟩ : ∃ k, EntOk Z en23 k := ent_run (hT (hlist [k0, k1, k2, k3, k4, k5, k6, k7, k8, k9, k10, k11, k12, k13, k14, k15, k16, k17, k18, k19, k20, k21, k22]) [en19, en20, en21, en22] (by intro e he; simp only [List.mem_cons, List.not_mem_nil, or_false] at he; rcases he with rfl | rfl | rfl | rfl; exact o19; exact o20; exact o21; exact o22)) fun t => runU (c23 _ t)
  obtain ⟨k24, o24⟩ : ∃ k, EntOk Z en24 k := ent_run (hT (hlist [k0, k1, k2, k3, k4, k5, k6, k7, k8, k9, k10, k11, k12, k13, k14, k15, k16, k17, k18, k19, k20, k21, k22, k23]) [] (by simp)) fun t => runU (c24 _ t)
  obtain ⟨k25, o25⟩ : ∃ k, EntOk Z en25 k := ent_run (hT (hlist [k0, k1, k2, k3, k4, k5, k6, k7, k8, k9, k10, k11, k12, k13, k14, k15, k16, k17, k18, k19, k20, k21, k22, k23, k24]) [] (by simp)) fun t => runU (c25 _ t)
  obtain ⟨k26, o26⟩ : ∃ k, EntOk Z en26 k := ent_run (hT (hlist [k0, k1, k2, k3, k4, k5, k6, k7, k8, k9, k10, k11, k12, k13, k14, k15, k16, k17, k18, k19, k20, k21, k22, k23, k24, k25]) [] (by simp)) fun t => runU (c26 _ t)
  obtain ⟨k27, o27⟩ : ∃ k, EntOk Z en27 k := ent_run (hT (hlist [k0, k1, k2, k3, k4, k5, k6, k7, k8, k9, k10, k11, k12, k13, k14, k15, k16, k17, k18, k19, k20, k21, k22, k23, k24, k25, k26]) [en25, en26] (by intro e he; simp only [List.mem_cons, List.not_mem_nil, or_false] at he; rcases he with rfl | rfl; exact o25; exact o26)) fun t => runU (c27 _ t)
  obtain ⟨k28, o28⟩ : ∃ k, EntOk Z en28 k := ent_run (hT (hlist [k0, k1, k2, k3, k4, k5, k6, k7, k8, k9, k10, k11, k12, k13, k14, k15, k16, k17, k18, k19, k20, k21, k22, k23, k24, k25, k26, k27]) [] (by simp)) fun t => runU (c28 _ t)
  obtain ⟨k29, o29⟩ : ∃ k, EntOk Z en29 k := ent_run (hT (hlist [k0, k1, k2, k3, k4, k5, k6, k7, k8, k9, k10, k11, k12, k13, k14, k15, k16, k17, k18, k19, k20, k21, k22, k23, k24, k25, k26, k27, k28]) [] (by simp)) fun t => runU (c29 _ t)
  obtain ⟨k30, o30⟩ : ∃ k, EntOk Z en30 k := ent_run (hT (hlist [k0, k1, k2, k3, k4, k5, k6, k7, k8, k9, k10, k11, k12, k13, k14, k15, k16, k17, k18, k19, k20, k21, k22, k23, k24, k25, k26, k27, k28, k29]) [] (by simp)) fun t => runU (c30 _ t)
  obtain ⟨k31, o31⟩ : ∃ k, EntOk Z en31 k := ent_run (hT (hlist [k0, k1, k2, k3, k4, k5, k6, k7, k8, k9, k10, k11, k12, k13, k14, k15, k16, k17, k18, k19, k20, k21, k22, k23, k24, k25, k26, k27, k28, k29, k30]) [] (by simp)) fun t => runU (c31 _ t)
  obtain ⟨k32, o32⟩ : ∃ k, EntOk Z en32 k := ent_run (hT (hlist [k0, k1, k2, k3, k4, k5, k6, k7, k8, k9, k10, k11, k12, k13, k14, k15, k16, k17, k18, k19, k20, k21, k22, k23, k24, k25, k26, k27, k28, k29, k30, k31]) [] (by simp)) fun t => runU (c32 _ t)
  obtain ⟨k33, o33⟩ : ∃ k, EntOk Z en33 k := ent_run (hT (hlist [k0, k1, k2, k3, k4, k5, k6, k7, k8, k9, k10, k11, k12, k13, k14, k15, k16, k17, k18, k19, k20, k21, k22, k23, k24, k25, k26, k27, k28, k29, k30, k31, k32]) [en32] (by intro e he; simp only [List.mem_cons, List.not_mem_nil, or_false] at he; rcases he with rfl; exact o32)) fun t => runU (c33 _ t)
  obtain ⟨k34, o34⟩ : ∃ k, EntOk Z en34 k := ent_run (hT (hlist [k0, k1, k2, k3, k4, k5, k6, k7, k8, k9, k10, k11, k12, k13, k14, k15, k16, k17, k18, k19, k20, k21, k22, k23, k24, k25, k26, k27, k28, k29, k30, k31, k32, k33]) [] (by simp)) fun t => runU (c34 _ t)
  obtain ⟨k35, o35⟩ : ∃ k, EntOk Z en35 k := ent_run (hT (hlist [k0, k1, k2, k3, k4, k5, k6, k7, k8, k9, k10, k11, k12, k13, k14, k15, k16, k17, k18, k19, k20, k21, k22, k23, k24, k25, k26, k27, k28, k29, k30, k31, k32, k33, k34]) [] (by simp)) fun t => runU (c35 _ t)
  obtain ⟨k36, o36⟩ : ∃ k, EntOk Z en36 k := ent_run (hT (hlist [k0, k1, k2, k3, k4, k5, k6, k7, k8, k9, k10, k11, k12, k13, k14, k15, k16, k17, k18, k19, k20, k21, k22, k23, k24, k25, k26, k27, k28, k29, k30, k31, k32, k33, k34, k35]) [] (by simp)) fun t => runU (c36 _ t)
  obtain ⟨k37, o37⟩ : ∃ k, EntOk Z en37 k := ent_run (hT (hlist [k0, k1, k2, k3, k4, k5, k6, k7, k8, k9, k10, k11, k12, k13, k14, k15, k16, k17, k18, k19, k20, k21, k22, k23, k24, k25, k26, k27, k28, k29, k30, k31, k32, k33, k34, k35, k36]) [] (by simp)) fun t => runU (c37 _ t)
  obtain ⟨k38, o38⟩ : ∃ k, EntOk Z en38 k := ent_run (hT (hlist [k0, k1, k2, k3, k4, k5, k6, k7, k8, k9, k10, k11, k12, k13, k14, k15, k16, k17, k18, k19, k20, k21, k22, k23, k24, k25, k26, k27, k28, k29, k30, k31, k32, k33, k34, k35, k36, k37]) [] (by simp)) fun t => runU (c38 _ t)
  obtain ⟨k39, o39⟩ : ∃ k, EntOk Z en39 k := ent_run (hT (hlist [k0, k1, k2, k3, k4, k5, k6, k7, k8, k9, k10, k11, k12, k13, k14, k15, k16, k17, k18, k19, k20, k21, k22, k23, k24, k25, k26, k27, k28, k29, k30, k31, k32, k33, k34, k35, k36, k37, k38]) [] (by simp)) fun t => runU (c39 _ t)
  obtain ⟨k40, o40⟩ : ∃ k, EntOk Z en40 k := ent_run (hT (hlist [k0, k1, k2, k3, k4, k5, k6, k7, k8, k9, k10, k11, k12, k13, k14, k15, k16, k17, k18, k19, k20, k21, k22, k23, k24, k25, k26, k27, k28, k29, k30, k31, k32, k33, k34, k35, k36, k37, k38, k39]) [] (by simp)) fun t => runU (c40 _ t)
  obtain ⟨k41, o41⟩ : ∃ k, EntOk Z en41 k := ent_run (hT (hlist [k0, k1, k2, k3, k4, k5, k6, k7, k8, k9, k10, k11, k12, k13, k14, k15, k16, k17, k18, k19, k20, k21, k22, k23, k24, k25, k26, k27, k28, k29, k30, k31, k32, k33, k34, k35, k36, k37, k38, k39, k40]) [en39, en40] (by intro e he; simp only [List.mem_cons, List.not_mem_nil, or_false] at he; rcases he with rfl | rfl; exact o39; exact o40)) fun t => runU (c41 _ t)
  obtain ⟨k42, o42⟩ : ∃ k, EntOk Z en42 k := ent_run (hT (hlist [k0, k1, k2, k3, k4, k5, k6, k7, k8, k9, k10, k11, k12, k13, k14, k15, k16, k17, k18, k19, k20, k21, k22, k23, k24, k25, k26, k27, k28, k29, k30, k31, k32, k33, k34, k35, k36, k37, k38, k39, k40, k41]) [] (by simp)) fun t => runU (c42 _ t)
  obtain ⟨k43, o43⟩ : ∃ k, EntOk Z en43 k := ent_run (hT (hlist [k0, k1, k2, k3, k4, k5, k6, k7, k8, k9, k10, k11, k12, k13, k14, k15, k16, k17, k18, k19, k20, k21, k22, k23, k24, k25, k26, k27, k28, k29, k30, k31, k32, k33, k34, k35, k36, k37, k38, k39, k40, k41, k42]) [en42] (by intro e he; simp only [List.mem_cons, List.not_mem_nil, or_false] at he; rcases he with rfl; exact o42)) fun t => runU (c43 _ t)
  obtain ⟨k44, o44⟩ : ∃ k, EntOk Z en44 k := ent_run (hT (hlist [k0, k1, k2, k3, k4, k5, k6, k7, k8, k9, k10, k11, k12, k13, k14, k15, k16, k17, k18, k19, k20, k21, k22, k23, k24, k25, k26, k27, k28, k29, k30, k31, k32, k33, k34, k35, k36, k37, k38, k39, k40, k41, k42, k43]) [en36, en37, en38, en41, en43] (by intro e he; simp only [List.mem_cons, List.not_mem_nil, or_false] at he; rcases he with rfl | rfl | rfl | rfl | rfl; exact o36; exact o37; exact o38; exact o41; exact o43)) fun t => runU (c44 _ t)
  obtain ⟨k45, o45⟩ : ∃ k, EntOk Z en45 k := ent_run (hT (hlist [k0, k1, k2, k3, k4, k5, k6, k7, k8, k9, k10, k11, k12, k13, k14, k15, k16, k17, k18, k19, k20, k21, k22, k23, k24, k25, k26, k27, k28, k29, k30, k31, k32, k33, k34, k35, k36, k37, k38, k39, k40, k41, k42, k43, k44]) [en34, en35, en44] (by intro e he; simp only [List.mem_cons, List.not_mem_nil, or_false] at he; rcases he with rfl | rfl | rfl; exact o34; exact o35; exact o44)) fun t => runU (c45 _ t)
  have key : ∀ t0, ∃ t, SoundCall Z 6 argL (stOf 34 M0 t0) (.val V (stOf 19548 M98 t)) := by
    intro t0
    obtain ⟨t1, h1⟩ := chkK_norm (runK (p1 t0))
    have g1 := hi.piece h1 nf_norm
    obtain ⟨t2, h2⟩ := chkK_norm (runK (p2 t1))
    have g2 := hi.piece h2 nf_norm
    obtain ⟨t3, h3⟩ := chkK_norm (runT (p3 (hlist [k0, k1, k2, k3, k4, k5, k6, k7, k8, k9, k10, k11, k12, k13, k14, k15, k16, k17, k18, k19, k20, k21, k22, k23, k24, k25, k26, k27, k28, k29, k30, k31, k32, k33, k34, k35, k36, k37, k38, k39, k40, k41, k42, k43, k44, k45]) t2))
    have g3 := (hT (hlist [k0, k1, k2, k3, k4, k5, k6, k7, k8, k9, k10, k11, k12, k13, k14, k15, k16, k17, k18, k19, k20, k21, k22, k23, k24, k25, k26, k27, k28, k29, k30, k31, k32, k33, k34, k35, k36, k37, k38, k39, k40, k41, k42, k43, k44, k45]) [en0] (by intro e he; simp only [List.mem_cons, List.not_mem_nil, or_false] at he; rcases he with rfl; exact o0)).piece h3 nf_norm
    obtain ⟨t4, h4⟩ := chkK_norm (runK (p4 t3))
    have g4 := hi.piece h4 nf_norm
    obtain ⟨t5, h5⟩ := chkK_norm (runK (p5 t4))
    have g5 := hi.piece h5 nf_norm
    obtain ⟨t6, h6⟩ := chkK_norm (runK (p6 t5))
    have g6 := hi.piece h6 nf_norm
    obtain ⟨t7, h7⟩ := chkK_norm (runK (p7 t6))
    have g7 := hi.piece h7 nf_norm
    obtain ⟨t8, h8⟩ := chkK_norm (runK (p8 t7))
    have g8 := hi.piece h8 nf_norm
    obtain ⟨t9, h9⟩ := chkK_norm (runK (p9 t8))
    have g9 := hi.piece h9 nf_norm
    obtain ⟨t10, h10⟩ := chkK_norm (runT (p10 (hlist [k0, k1, k2, k3, k4, k5, k6, k7, k8, k9, k10, k11, k12, k13, k14, k15, k16, k17, k18, k19, k20, k21, k22, k23, k24, k25, k26, k27, k28, k29, k30, k31, k32, k33, k34, k35, k36, k37, k38, k39, k40, k41, k42, k43, k44, k45]) t9))
    have g10 := (hT (hlist [k0, k1, k2, k3, k4, k5, k6, k7, k8, k9, k10, k11, k12, k13, k14, k15, k16, k17, k18, k19, k20, k21, k22, k23, k24, k25, k26, k27, k28, k29, k30, k31, k32, k33, k34, k35, k36, k37, k38, k39, k40, k41, k42, k43, k44, k45]) [en1, en2, en3, en4, en13] (by intro e he; simp only [List.mem_cons, List.not_mem_nil, or_false] at he; rcases he with rfl | rfl | rfl | rfl | rfl; exact o1; exact o2; exact o3; exact o4; exact o13)).piece h10 nf_norm
    obtain ⟨t11, h11⟩ := chkK_norm (runT (p11 (hlist [k0, k1, k2, k3, k4, k5, k6, k7, k8, k9, k10, k11, k12, k13, k14, k15, k16, k17, k18, k19, k20, k21, k22, k23, k24, k25, k26, k27, k28, k29, k30, k31, k32, k33, k34, k35, k36, k37, k38, k39, k40, k41, k42, k43, k44, k45]) t10))
    have g11 := (hT (hlist [k0, k1, k2, k3, k4, k5, k6, k7, k8, k9, k10, k11, k12, k13, k14, k15, k16, k17, k18, k19, k20, k21, k22, k23, k24, k25, k26, k27, k28, k29, k30, k31, k32, k33, k34, k35, k36, k37, k38, k39, k40, k41, k42, k43, k44, k45]) [en14, en17] (by intro e he; simp only [List.mem_cons, List.not_mem_nil, or_false] at he; rcases he with rfl | rfl; exact o14; exact o17)).piece h11 nf_norm
    obtain ⟨t12, h12⟩ := chkK_norm (runT (p12 (hlist [k0, k1, k2, k3, k4, k5, k6, k7, k8, k9, k10, k11, k12, k13, k14, k15, k16, k17, k18, k19, k20, k21, k22, k23, k24, k25, k26, k27, k28, k29, k30, k31, k32, k33, k34, k35, k36, k37, k38, k39, k40, k41, k42, k43, k44, k45]) t11))
    have g12 := (hT (hlist [k0, k1, k2, k3, k4, k5, k6, k7, k8, k9, k10, k11, k12, k13, k14, k15, k16, k17, k18, k19, k20, k21, k22, k23, k24, k25, k26, k27, k28, k29, k30, k31, k32, k33, k34, k35, k36, k37, k38, k39, k40, k41, k42, k43, k44, k45]) [en18, en23] (by intro e he; simp only [List.mem_cons, List.not_mem_nil, or_false] at he; rcases he with rfl | rfl; exact o18; exact o23)).piece h12 nf_norm
    obtain ⟨t13, h13⟩ := chkK_norm (runT (p13 (hlist [k0, k1, k2, k3, k4, k5, k6, k7, k8, k9, k10, k11, k12, k13, k14, k15, k16, k17, k18, k19, k20, k21, k22, k23, k24, k25, k26, k27, k28, k29, k30, k31, k32, k33, k34, k35, k36, k37, k38, k39, k40, k41, k42, k43, k44, k45]) t12))
    have g13 := (hT (hlist [k0, k1, k2, k3, k4, k5, k6, k7, k8, k9, k10, k11, k12, k13, k14, k15, k16, k17, k18, k19, k20, k21, k22, k23, k24, k25, k26, k27, k28, k29, k30, k31, k32, k33, k34, k35, k36, k37, k38, k39, k40, k41, k42, k43, k44, k45]) [en24, en27] (by intro e he; simp only [List.mem_cons, List.not_mem_nil, or_false] at he; rcases he with rfl | rfl; exact o24; exact o27)).piece h13 nf_norm
    obtain ⟨t14, h14⟩ := chkK_norm (runT (p14 (hlist [k0, k1, k2, k3, k4, k5, k6, k7, k8, k9, k10, k11, k12, k13, k14, k15, k16, k17, k18, k19, k20, k21, k22, k23, k24, k25, k26, k27, k28, k29, k30, k31, k32, k33, k34, k35, k36, k37, k38, k39, k40, k41, k42, k43, k44, k45]) t13))
    have g14 := (hT (hlist [k0, k1, k2, k3, k4, k5, k6, k7, k8, k9, k10, k11, k12, k13, k14, k15, k16, k17, k18, k19, k20, k21, k22, k23, k24, k25, k26, k27, k28, k29, k30, k31, k32, k33, k34, k35, k36, k37, k38, k39, k40, k41, k42, k43, k44, k45]) [en28] (by intro e he; simp only [List.mem_cons, List.not_mem_nil, or_false] at he; rcases he with rfl; exact o28)).piece h14 nf_norm
    obtain ⟨t15, h15⟩ := chkK_norm (runT (p15 (hlist [k0, k1, k2, k3, k4, k5, k6, k7, k8, k9, k10, k11, k12, k13, k14, k15, k16, k17, k18, k19, k20, k21, k22, k23, k24, k25, k26, k27, k28, k29, k30, k31, k32, k33, k34, k35, k36, k37, k38, k39, k40, k41, k42, k43, k44, k45]) t14))
    have g15 := (hT (hlist [k0, k1, k2, k3, k4, k5, k6, k7, k8, k9, k10, k11, k12, k13, k14, k15, k16, k17, k18, k19, k20, k21, k22, k23, k24, k25, k26, k27, k28, k29, k30, k31, k32, k33, k34, k35, k36, k37, k38, k39, k40, k41, k42, k43, k44, k45]) [en29, en30, en31, en33, en45] (by intro e he; simp only [List.mem_cons, List.not_mem_nil, or_false] at he; rcases he with rfl | rfl | rfl | rfl | rfl; exact o29; exact o30; exact o31; exact o33; exact o45)).piece h15 nf_norm
    obtain ⟨t16, h16⟩ := chkK_exit (runK (p16 t15))
    have g16 := hi.piece h16 nf_exit
    obtain ⟨t17, h17⟩ := chkK_ret (runK (p17 t16))
    have g17 := hi.piece h17 nf_ret
    obtain ⟨t98, h98⟩ := chkR_ok (runR (p98 t17))
    exact ⟨t98, call_of_body hi lf1 lf2 (nx x_ g1 (nx xB_ g2 (nx xBB_ g3 (nx xBBB_ g4 (nx xBBBB_ g5 (nx xBBBBB_ g6 (nx xBBBBBB_ g7 (nx xBBBBBBB_ (nx xBBBBBBBA_ g8 (bk xBBBBBBBAB_ (lp xBBBBBBBABK_ (ln g9 (ln g10 (ln g11 (ln g12 (ln g13 (ln g14 (ln g15 (lx g16))))))))))) g17)))))))) (fun c h => by have := x_.symm.trans h; cases this) h98⟩
  obtain ⟨k, hk⟩ := Classical.axiomOfChoice key
  exact ⟨k, hk⟩
theorem y0 : topC = .seq (cA topC) (cB topC) := by kernel_rfl
theorem y1 : (cB topC) = .seq (cA (cB topC)) (cB (cB topC)) := by kernel_rfl
theorem y2 : (cB (cB topC)) = .seq (cA (cB (cB topC))) (cB (cB (cB topC))) := by kernel_rfl
theorem y3 : (cB (cB (cB topC))) = .seq (cA (cB (cB (cB topC)))) (cB (cB (cB (cB topC)))) := by kernel_rfl
theorem y4 : (cB (cB (cB (cB topC)))) = .seq (cA (cB (cB (cB (cB topC))))) (cB (cB (cB (cB (cB topC))))) := by kernel_rfl
theorem y5 : (cB (cB (cB (cB (cB topC))))) = .seq (cA (cB (cB (cB (cB (cB topC)))))) (cB (cB (cB (cB (cB (cB topC)))))) := by kernel_rfl
/-- the whole of the body -/
theorem top (hsp : ∀ o e s, ¬ isFail (hkM text Tk o e s) → SoundSp Z o e s (hkM text Tk o e s)) (hspd : ∀ d s, ¬ isFail (hdM d s) → SoundSpd Z d s (hdM d s)) (i : Nat) (hi1 : i < 256) (hi2 : Nat.beq (Nat.mod i 2) 0 = true) :
    ∃ t, SoundC Z 3 topC (entry [Y i]) (stOf 33 (exM h0) .leaf) (.ret E99 (stOf 19548 M99 t)) := by
  have hi : SoundI Z (ev (hkM text Tk) hdM 100000) := ev_sound hsp hspd 100000
  obtain ⟨k, o⟩ := load hsp hspd
  have hT := tabS hsp hspd (fun _ => k) [enL] (by intro e he; simp only [List.mem_cons, List.not_mem_nil, or_false] at he; subst he; exact o)
  obtain ⟨t9, h9⟩ := chkK_ret (runT (p99 fun _ => k))
  have g9 := hT.piece h9 nf_ret
  have b0 := allN_ok (runX q0) i hi1
  simp only [hi2, cond_true] at b0
  obtain ⟨e0, t0, h0, w0⟩ := chkW_ok b0
  have g0 := hi.piece h0 nf_norm
  rw [show stOf 33 MT0 t0 = stOf 33 MT0 .leaf from stOf_ex _ _ _ _] at g0
  have b1 := allN_ok (runX q1) i hi1
  simp only [hi2, cond_true] at b1
  obtain ⟨e1, t1, h1, w1⟩ := chkW_ok b1
  have g1 := hi.piece h1 nf_norm
  rw [show stOf 33 MT1 t1 = stOf 33 MT1 .leaf from stOf_ex _ _ _ _] at g1
  have b2 := allN_ok (runX q2) i hi1
  simp only [hi2, cond_true] at b2
  obtain ⟨e2, t2, h2, w2⟩ := chkW_ok b2
  have g2 := hi.piece h2 nf_norm
  rw [show stOf 33 MT2 t2 = stOf 33 MT2 .leaf from stOf_ex _ _ _ _] at g2
  have b3 := allN_ok (runX q3) i hi1
  simp only [hi2, cond_true] at b3
  obtain ⟨e3, t3, h3, w3⟩ := chkW_ok b3
  have g3 := hi.piece h3 nf_norm
  rw [show stOf 33 MT3 t3 = stOf 33 MT3 .leaf from stOf_ex _ _ _ _] at g3
  have b4 := allN_ok (runX q4) i hi1
  simp only [hi2, cond_true] at b4
  obtain ⟨e4, t4, h4, w4⟩ := chkW_ok b4
  have g4 := hi.piece h4 nf_norm
  rw [show stOf 33 MT4 t4 = stOf 33 MT4 .leaf from stOf_ex _ _ _ _] at g4
  have b5 := allN_ok (runX q5) i hi1
  simp only [hi2, cond_true] at b5
  obtain ⟨e5, t5, h5, w5⟩ := chkW_ok b5
  have g5 := hi.piece h5 nf_norm
  rw [show stOf 33 MT5 t5 = stOf 33 MT5 .leaf from stOf_ex _ _ _ _] at g5
  have w9 : ∀ t v, EW.get t = some v → (ET5 i).get t = some v := weakE_ok (by kernel_rfl)
  exact ⟨t9, (nx y0 g0 (SoundC.weak w0 (nx y1 g1 (SoundC.weak w1 (nx y2 g2 (SoundC.weak w2 (nx y3 g3 (SoundC.weak w3 (nx y4 g4 (SoundC.weak w4 (nx y5 g5 (g9.weak fun t v h => w5 t v (w9 t v h)))))))))))))⟩
end
end Go.Proofs.YtfpmbneglnoojaaGreatDoor.Ab.B0
/- The pieces of TopBools put together, n odd. -/
namespace Go.Proofs.YtfpmbneglnoojaaGreatDoor.Ab.B1
open Go Go.Proofs.YtfpmbneglnoojaaGreatDoor.Ab Go.Proofs.YtfpmbneglnoojaaGreatDoor.Ab.K
set_option maxRecDepth 100000
noncomputable section
variable {Z : Phs}
theorem x_ : loadC = .seq (cA loadC) (cB loadC) := by kernel_rfl
theorem xB_ : (cB loadC) = .seq (cA (cB loadC)) (cB (cB loadC)) := by kernel_rfl
theorem xBB_ : (cB (cB loadC)) = .seq (cA (cB (cB loadC))) (cB (cB (cB loadC))) := by kernel_rfl
theorem xBBB_ : (cB (cB (cB loadC))) = .seq (cA (cB (cB (cB loadC)))) (cB (cB (cB (cB loadC)))) := by kernel_rfl
theorem xBBBB_ : (cB (cB (cB (cB loadC)))) = .seq (cA (cB (cB (cB (cB loadC))))) (cB (cB (cB (cB (cB loadC))))) := by kernel_rfl
theorem xBBBBB_ : (cB (cB (cB (cB (cB loadC))))) = .seq (cA (cB (cB (cB (cB (cB loadC)))))) (cB (cB (cB (cB (cB (cB loadC)))))) := by kernel_rfl
theorem xBBBBBB_ : (cB (cB (cB (cB (cB (cB loadC)))))) = .seq (cA (cB (cB (cB (cB (cB (cB loadC))))))) (cB (cB (cB (cB (cB (cB (cB loadC))))))) := by kernel_rfl
theorem xBBBBBBB_ : (cB (cB (cB (cB (cB (cB (cB loadC))))))) = .seq (cA (cB (cB (cB (cB (cB (cB (cB loadC)))))))) (cB (cB (cB (cB (cB (cB (cB (cB loadC)))))))) := by kernel_rfl
theorem xBBBBBBBA_ : (cA (cB (cB (cB (cB (cB (cB (cB loadC)))))))) = .seq (cA (cA (cB (cB (cB (cB (cB (cB (cB loadC))))))))) (cB (cA (cB (cB (cB (cB (cB (cB (cB loadC))))))))) := by kernel_rfl
theorem xBBBBBBBAB_ : (cB (cA (cB (cB (cB (cB (cB (cB (cB loadC))))))))) = .block 0 (cK (cB (cA (cB (cB (cB (cB (cB (cB (cB loadC)))))))))) := by kernel_rfl
theorem xBBBBBBBABK_ : (cK (cB (cA (cB (cB (cB (cB (cB (cB (cB loadC)))))))))) = .loop (cL (cK (cB (cA (cB (cB (cB (cB (cB (cB (cB loadC))))))))))) := by kernel_rfl
theorem lf1 : PG.funcs[6]? = some loadF := by kernel_rfl
theorem lf2 : loadF.body = some loadC := by kernel_rfl
theorem tabS (hsp : ∀ o e s, ¬ isFail (hkM text Tk o e s) → SoundSp Z o e s (hkM text Tk o e s)) (hspd : ∀ d s, ¬ isFail (hdM d s) → SoundSpd Z d s (hdM d s)) (H : Nat → Tr AObj → Tr AObj) (l : List Ent) (hl : ∀ e ∈ l, EntOk Z e (H e.ix)) : SoundI Z (evT (tabT H l) (hkM text Tk) hdM 100000) := evT_sound (tabT_sound hl) hsp hspd _
/-- the calls that are cut out, then the call of Load -/
theorem load (hsp : ∀ o e s, ¬ isFail (hkM text Tk o e s) → SoundSp Z o e s (hkM text Tk o e s)) (hspd : ∀ d s, ¬ isFail (hdM d s) → SoundSpd Z d s (hdM d s)) : ∃ k, EntOk Z enL k := by
  have hT := tabS hsp hspd
  have hi : SoundI Z (ev (hkM text Tk) hdM 100000) := ev_sound hsp hspd 100000
  obtain ⟨k0, o0⟩ : ∃ k, EntOk Z en0 k := ent_run (hT (hlist []) [] (by simp)) fun t => runU (c0 _ t)
  obtain ⟨k1, o1⟩ : ∃ k, EntOk Z en1 k := ent_run (hT (hlist [k0]) [] (by simp)) fun t => runU (c1 _ t)
  obtain ⟨k2, o2⟩ : ∃ k, EntOk Z en2 k := ent_run (hT (hlist [k0, k1]) [] (by simp)) fun t => runU (c2 _ t)
  obtain ⟨k3, o3⟩ : ∃ k, EntOk Z en3 k := ent_run (hT (hlist [k0, k1, k2]) [] (by simp)) fun t => runU (c3 _ t)
  obtain ⟨k4, o4⟩ : ∃ k, EntOk Z en4 k := ent_run (hT (hlist [k0, k1, k2, k3]) [] (by simp)) fun t => runU (c4 _ t)
  obtain ⟨k5, o5⟩ : ∃ k, EntOk Z en5 k := ent_run (hT (hlist [k0, k1, k2, k3, k4]) [] (by simp)) fun t => runU (c5 _ t)
  obtain ⟨k6, o6⟩ : ∃ k, EntOk Z en6 k := ent_run (hT (hlist [k0, k1, k2, k3, k4, k5]) [] (by simp)) fun t => runU (c6 _ t)
  obtain ⟨k7, o7⟩ : ∃ k, EntOk Z en7 k := ent_run (hT (hlist [k0, k1, k2, k3, k4, k5, k6]) [] (by simp)) fun t => runU (c7 _ t)
  obtain ⟨k8, o8⟩ : ∃ k, EntOk Z en8 k := ent_run (hT (hlist [k0, k1, k2, k3, k4, k5, k6, k7]) [] (by simp)) fun t => runU (c8 _ t)
  obtain ⟨k9, o9⟩ : ∃ k, EntOk Z en9 k := ent_run (hT (hlist [k0, k1, k2, k3, k4, k5, k6, k7, k8]) [] (by simp)) fun t => runU (c9 _ t)
  obtain ⟨k10, o10⟩ : ∃ k, EntOk Z en10 k := ent_run (hT (hlist [k0, k1, k2, k3, k4, k5, k6, k7, k8, k9]) [en7, en8, en9] (by intro e he; simp only [List.mem_cons, List.not_mem_nil, or_false] at he; rcases he with rfl | rfl | rfl; exact o7; exact o8; exact o9)) fun t => runU (c10 _ t)
  obtain ⟨k11, o11⟩ : ∃ k, EntOk Z en11 k := ent_run (hT (hlist [k0, k1, k2, k3, k4, k5, k6, k7, k8, k9, k10]) [] (by simp)) fun t => runU (c11 _ t)
  obtain ⟨k12, o12⟩ : ∃ k, EntOk Z en12 k := ent_run (hT (hlist [k0, k1, k2, k3, k4, k5, k6, k7, k8, k9, k10, k11]) [en11] (by intro e he; simp only [List.mem_cons, List.not_mem_nil, or_false] at he; rcases he with rfl; exact o11)) fun t => runU (c12 _ t)
  obtain ⟨k13, o13⟩ : ∃ k, EntOk Z en13 k := ent_run (hT (hlist [k0, k1, k2, k3, k4, k5, k6, k7, k8, k9, k10, k11, k12]) [en5, en6, en10, en12] (by intro e he; simp only [List.mem_cons, List.not_mem_nil, or_false] at he; rcases he with rfl | rfl | rfl | rfl; exact o5; exact o6; exact o10; exact o12)) fun t => runU (c13 _ t)
  obtain ⟨k14, o14⟩ : ∃ k, EntOk Z en14 k := ent_run (hT (hlist [k0, k1, k2, k3, k4, k5, k6, k7, k8, k9, k10, k11, k12, k13]) [] (by simp)) fun t => runU (c14 _ t)
  obtain ⟨k15, o15⟩ : ∃ k, EntOk Z en15 k := ent_run (hT (hlist [k0, k1, k2, k3, k4, k5, k6, k7, k8, k9, k10, k11, k12, k13, k14]) [] (by simp)) fun t => runU (c15 _ t)
  obtain ⟨k16, o16⟩ : ∃ k, EntOk Z en16 k := ent_run (hT (hlist [k0, k1, k2, k3, k4, k5, k6, k7, k8, k9, k10, k11, k12, k13, k14, k15]) [] (by simp)) fun t => runU (c16 _ t)
  obtain ⟨k17, o17⟩ : ∃ k, EntOk Z en17 k := ent_run (hT (hlist [k0, k1, k2, k3, k4, k5, k6, k7, k8, k9, k10, k11, k12, k13, k14, k15, k16]) [en15, en16] (by intro e he; simp only [List.mem_cons, List.not_mem_nil, or_false] at he; rcases he with rfl | rfl; exact o15; exact o16)) fun t => runU (c17 _ t)
  obtain ⟨k18, o18⟩ : ∃ k, EntOk Z en18 k := ent_run (hT (hlist [k0, k1, k2, k3, k4, k5, k6, k7, k8, k9, k10, k11, k12, k13, k14, k15, k16, k17]) [] (by simp)) fun t => runU (c18 _ t)
  obtain ⟨k19, o19⟩ : ∃ k, EntOk Z en19 k := ent_run (hT (hlist [k0, k1, k2, k3, k4, k5, k6, k7, k8, k9, k10, k11, k12, k13, k14, k15, k16, k17, k18]) [] (by simp)) fun t => runU (c19 _ t)
  obtain ⟨k20, o20⟩ : ∃ k, EntOk Z en20 k := ent_run (hT (hlist [k0, k1, k2, k3, k4, k5, k6, k7, k8, k9, k10, k11, k12, k13, k14, k15, k16, k17, k18, k19]) [] (by simp)) fun t => runU (c20 _ t)
  obtain ⟨k21, o21⟩ : ∃ k, EntOk Z en21 k := ent_run (hT (hlist [k0, k1, k2, k3, k4, k5, k6, k7, k8, k9, k10, k11, k12, k13, k14, k15, k16, k17, k18, k19, k20]) [] (by simp)) fun t => runU (c21 _ t)
  obtain ⟨k22, o22⟩ : ∃ k, EntOk Z en22 k := ent_run (hT (hlist [k0, k1, k2, k3, k4, k5, k6, k7, k8, k9, k10, k11, k12, k13, k14, k15, k16, k17, k18, k19, k20, k21]) [] (by simp)) fun t => runU (c22 _ t)
  obtain ⟨k23, o23⟩ : ∃ k, EntOk Z en23 k := ent_run (hT (hlist [k0, k1, k2, k3, k4, k5, k6, k7, k8, k9, k10, k11, k12, k13, k14, k15, k16, k17, k18, k19, k20, k21, k22]) [en19, en20, en21, en22] (by intro e he; simp only [List.mem_cons, List.not_mem_nil, or_false] at he; rcases he with rfl | rfl | rfl | rfl; exact o19; exact o20; exact o21; exact o22)) fun t => runU (c23 _ t)
  obtain ⟨k24, o24⟩ : ∃ k, EntOk Z en24 k := ent_run (hT (hlist [k0, k1, k2, k3, k4, k5, k6, k7, k8, k9, k10, k11, k12, k13, k14, k15, k16, k17, k18, k19, k20, k21, k22, k23]) [] (by simp)) fun t => runU (c24 _ t)
  obtain ⟨k25, o25⟩ : ∃ k, EntOk Z en25 k := ent_run (hT (hlist [k0, k1, k2, k3, k4, k5, k6, k7, k8, k9, k10, k11, k12, k13, k14, k15, k16, k17, k18, k19, k20, k21, k22, k23, k24]) [] (by simp)) fun t => runU (c25 _ t)
  obtain ⟨k26, o26⟩ : ∃ k, EntOk Z en26 k := ent_run (hT (hlist [k0, k1, k2, k3, k4, k5, k6, k7, k8, k9, k10, k11, k12, k13, k14, k15, k16, k17, k18, k19, k20, k21, k22, k23, k24, k25]) [] (by simp)) fun t => runU (c26 _ t)
  obtain ⟨k27, o27⟩ : ∃ k, EntOk Z en27 k := ent_run (hT (hlist [k0, k1, k2, k3, k4, k5, k6, k7, k8, k9, k10, k11, k12, k13, k14, k15, k16, k17, k18, k19, k20, k21, k22, k23, k24, k25, k26]) [en25, en26] (by intro e he; simp only [List.mem_cons, List.not_mem_nil, or_false] at he; rcases he with rfl | rfl; exact o25; exact o26)) fun t => runU (c27 _ t)
  obtain ⟨k28, o28⟩ : ∃ k, EntOk Z en28 k := ent_run (hT (hlist [k0, k1, k2, k3, k4, k5, k6, k7, k8, k9, k10, k11, k12, k13, k14, k15, k16, k17, k18, k19, k20, k21, k22, k23, k24, k25, k26, k27]) [] (by simp)) fun t => runU (c28 _ t)
  obtain ⟨k29, o29⟩ : ∃ k, EntOk Z en29 k := ent_run (hT (hlist [k0, k1, k2, k3, k4, k5, k6, k7, k8, k9, k10, k11, k12, k13, k14, k15, k16, k17, k18, k19, k20, k21, k22, k23, k24, k25, k26, k27, k28]) [] (by simp)) fun t => runU (c29 _ t)
  obtain ⟨k30, o30⟩ : ∃ k, EntOk Z en30 k := ent_run (hT (hlist [k0, k1, k2, k3, k4, k5, k6, k7, k8, k9, k10, k11, k12, k13, k14, k15, k16, k17, k18, k19, k20, k21, k22, k23, k24, k25, k26, k27, k28, k29]) [] (by simp)) fun t => runU (c30 _ t)
  obtain ⟨k31, o31⟩ : ∃ k, EntOk Z en31 k := ent_run (hT (hlist [k0, k1, k2, k3, k4, k5, k6, k7, k8, k9, k10, k11, k12, k13, k14, k15, k16, k17, k18, k19, k20, k21, k22, k23, k24, k25, k26, k27, k28, k29, k30]) [] (by simp)) fun t => runU (c31 _ t)
  obtain ⟨k32, o32⟩ : ∃ k, EntOk Z en32 k := ent_run (hT (hlist [k0, k1, k2, k3, k4, k5, k6, k7, k8, k9, k10, k11, k12, k13, k14, k15, k16, k17, k18, k19, k20, k21, k22, k23, k24, k25, k26, k27, k28, k29, k30, k31]) [] (by simp)) fun t => runU (c32 _ t)
  obtain ⟨k33, o33⟩ : ∃ k, EntOk Z en33 k := ent_run (hT (hlist [k0, k1, k2, k3, k4, k5, k6, k7, k8, k9, k10, k11, k12, k13, k14, k15, k16, k17, k18, k19, k20, k21, k22, k23, k24, k25, k26, k27, k28, k29, k30, k31, k32]) [en32] (by intro e he; simp only [List.mem_cons, List.not_mem_nil, or_false] at he; rcases he with rfl; exact o32)) fun t => runU (c33 _ t)
  obtain ⟨k34, o34⟩ : ∃ k, EntOk Z en34 k := ent_run (hT (hlist [k0, k1, k2, k3, k4, k5, k6, k7, k8, k9, k10, k11, k12, k13, k14, k15, k16, k17, k18, k19, k20, k21, k22, k23, k24, k25, k26, k27, k28, k29, k30, k31, k32, k33]) [] (by simp)) fun t => runU (c34 _ t)
  obtain ⟨k35, o35⟩ : ∃ k, EntOk Z en35 k := ent_run (hT (hlist [k0, k1, k2, k3, k4, k5, k6, k7, k8, k9, k10, k11, k12, k13, k14, k15, k16, k17, k18, k19, k20, k21, k22, k23, k24, k25, k26, k27, k28, k29, k30, k31, k32, k33, k34]) [] (by simp)) fun t => runU (c35 _ t)
  obtain ⟨k36, o36⟩ : ∃ k, EntOk Z en36 k := ent_run (hT (hlist [k0, k1, k2, k3, k4, k5, k6, k7, k8, k9, k10, k11, k12, k13, k14, k15, k16, k17, k18, k19, k20, k21, k22, k23, k24, k25, k26, k27, k28, k29, k30, k31, k32, k33, k34, k35]) [] (by simp)) fun t => runU (c36 _ t)
  obtain ⟨k37, o37⟩ : ∃ k, EntOk Z en37 k := ent_run (hT (hlist [k0, k1, k2, k3, k4, k5, k6, k7, k8, k9, k10, k11, k12, k13, k14, k15, k16, k17, k18, k19, k20, k21, k22, k23, k24, k25, k26, k27, k28, k29, k30, k31, k32, k33, k34, k35, k36]) [] (by simp)) fun t => runU (c37 _ t)
  obtain ⟨k38, o38⟩ : ∃ k, EntOk Z en38 k := ent_run (hT (hlist [k0, k1, k2, k3, k4, k5, k6, k7, k8, k9, k10, k11, k12, k13, k14, k15, k16, k17, k18, k19, k20, k21, k22, k23, k24, k25, k26, k27, k28, k29, k30, k31, k32, k33, k34, k35, k36, k37]) [] (by simp)) fun t => runU (c38 _ t)
  obtain ⟨k39, o39⟩ : ∃ k, EntOk Z en39 k := ent_run (hT (hlist [k0, k1, k2, k3, k4, k5, k6, k7, k8, k9, k10, k11, k12, k13, k14, k15, k16, k17, k18, k19, k20, k21, k22, k23, k24, k25, k26, k27, k28, k29, k30, k31, k32, k33, k34, k35, k36, k37, k38]) [] (by simp)) fun t => runU (c39 _ t)
  obtain ⟨k40, o40⟩ : ∃ k, EntOk Z en40 k := ent_run (hT (hlist [k0, k1, k2, k3, k4, k5, k6, k7, k8, k9, k10, k11, k12, k13, k14, k15, k16, k17, k18, k19, k20, k21, k22, k23, k24, k25, k26, k27, k28, k29, k30, k31, k32, k33, k34, k35, k36, k37, k38, k39]) [] (by simp)) fun t => runU (c40 _ t)
  obtain ⟨k41, o41⟩ : ∃ k, EntOk Z en41 k := ent_run (hT (hlist [k0, k1, k2, k3, k4, k5, k6, k7, k8, k9, k10, k11, k12, k13, k14, k15, k16, k17, k18, k19, k20, k21, k22, k23, k24, k25, k26, k27, k28, k29, k30, k31, k32, k33, k34, k35, k36, k37, k38, k39, k40]) [en39, en40] (by intro e he; simp only [List.mem_cons, List.not_mem_nil, or_false] at he; rcases he with rfl | rfl; exact o39; exact o40)) fun t => runU (c41 _ t)
  obtain ⟨k42, o42⟩ : ∃ k, EntOk Z en42 k := ent_run (hT (hlist [k0, k1, k2, k3, k4, k5, k6, k7, k8, k9, k10, k11, k12, k13, k14, k15, k16, k17, k18, k19, k20, k21, k22, k23, k24, k25, k26, k27, k28, k29, k30, k31, k32, k33, k34, k35, k36, k37, k38, k39, k40, k41]) [] (by simp)) fun t => runU (c42 _ t)
  obtain ⟨k43, o43⟩ : ∃ k, EntOk Z en43 k := ent_run (hT (hlist [k0, k1, k2, k3, k4, k5, k6, k7, k8, k9, k10, k11, k12, k13, k14, k15, k16, k17, k18, k19, k20, k21, k22, k23, k24, k25, k26, k27, k28, k29, k30, k31, k32, k33, k34, k35, k36, k37, k38, k39, k40, k41, k42]) [en42] (by intro e he; simp only [List.mem_cons, List.not_mem_nil, or_false] at he; rcases he with rfl; exact o42)) fun t => runU (c43 _ t)
  obtain ⟨k44, o44⟩ : ∃ k, EntOk Z en44 k := ent_run (hT (hlist [k0, k1, k2, k3, k4, k5, k6, k7, k8, k9, k10, k11, k12, k13, k14, k15, k16, k17, k18, k19, k20, k21, k22, k23, k24, k25, k26, k27, k28, k29, k30, k31, k32, k33, k34, k35, k36, k37, k38, k39, k40, k41, k42, k43]) [en36, en37, en38, en41, en43] (by intro e he; simp only [List.mem_cons, List.not_mem_nil, or_false] at he; rcases he with rfl | rfl | rfl | rfl | rfl; exact o36; exact o37; exact o38; exact o41; exact o43)) fun t => runU (c44 _ t)
  obtain ⟨k45, o45⟩ : ∃ k, EntOk Z en45 k := ent_run (hT (hlist [k0, k1, k2, k3, k4, k5, k6, k7, k8, k9, k10, k11, k12, k13, k14, k15, k16, k17, k18, k19, k20, k21, k22, k23, k24, k25, k26, k27, k28, k29, k30, k31, k32, k33, k34, k35, k36, k37, k38, k39, k40, k41, k42, k43, k44]) [en34, en35, en44] (by intro e he; simp only [List.mem_cons, List.not_mem_nil, or_false] at he; rcases he with rfl | rfl | rfl; exact o34; exact o35; exact o44)) fun t => runU (c45 _ t)
  have key : ∀ t0, ∃ t, SoundCall Z 6 argL (stOf 34 M0 t0) (.val V (stOf 19548 M98 t)) := by
    intro t0
    obtain ⟨t1, h1⟩ := chkK_norm (runK (p1 t0))
    have g1 := hi.piece h1 nf_norm
    obtain ⟨t2, h2⟩ := chkK_norm (runK (p2 t1))
    have g2 := hi.piece h2 nf_norm
    obtain ⟨t3, h3⟩ := chkK_norm (runT (p3 (hlist [k0, k1, k2, k3, k4, k5, k6, k7, k8, k9, k10, k11, k12, k13, k14, k15, k16, k17, k18, k19, k20, k21, k22, k23, k24, k25, k26, k27, k28, k29, k30, k31, k32, k33, k34, k35, k36, k37, k38, k39, k40, k41, k42, k43, k44, k45]) t2))
    have g3 := (hT (hlist [k0, k1, k2, k3, k4, k5, k6, k7, k8, k9, k10, k11, k12, k13, k14, k15, k16, k17, k18, k19, k20, k21, k22, k23, k24, k25, k26, k27, k28, k29, k30, k31, k32, k33, k34, k35, k36, k37, k38, k39, k40, k41, k42, k43, k44, k45]) [en0] (by intro e he; simp only [List.mem_cons, List.not_mem_nil, or_false] at he; rcases he with rfl; exact o0)).piece h3 nf_norm
    obtain ⟨t4, h4⟩ := chkK_norm (runK (p4 t3))
    have g4 := hi.piece h4 nf_norm
    obtain ⟨t5, h5⟩ := chkK_norm (runK (p5 t4))
    have g5 := hi.piece h5 nf_norm
    obtain ⟨t6, h6⟩ := chkK_norm (runK (p6 t5))
    have g6 := hi.piece h6 nf_norm
    obtain ⟨t7, h7⟩ := chkK_norm (runK (p7 t6))
    have g7 := hi.piece h7 nf_norm
    obtain ⟨t8, h8⟩ := chkK_norm (runK (p8 t7))
    have g8 := hi.piece h8 nf_norm
    obtain ⟨t9, h9⟩ := chkK_norm (runK (p9 t8))
    have g9 := hi.piece h9 nf_norm
    obtain ⟨t10, h10⟩ := chkK_norm (runT (p10 (hlist [k0, k1, k2, k3, k4, k5, k6, k7, k8, k9, k10, k11, k12, k13, k14, k15, k16, k17, k18, k19, k20, k21, k22, k23, k24, k25, k26, k27, k28, k29, k30, k31, k32, k33, k34, k35, k36, k37, k38, k39, k40, k41, k42, k43, k44, k45]) t9))
    have g10 := (hT (hlist [k0, k1, k2, k3, k4, k5, k6, k7, k8, k9, k10, k11, k12, k13, k14, k15, k16, k17, k18, k19, k20, k21, k22, k23, k24, k25, k26, k27, k28, k29, k30, k31, k32, k33, k34, k35, k36, k37, k38, k39, k40, k41, k42, k43, k44, k45]) [en1, en2, en3, en4, en13] (by intro e he; simp only [List.mem_cons, List.not_mem_nil, or_false] at he; rcases he with rfl | rfl | rfl | rfl | rfl; exact o1; exact o2; exact o3; exact o4; exact o13)).piece h10 nf_norm
    obtain ⟨t11, h11⟩ := chkK_norm (runT (p11 (hlist [k0, k1, k2, k3, k4, k5, k6, k7, k8, k9, k10, k11, k12, k13, k14, k15, k16, k17, k18, k19, k20, k21, k22, k23, k24, k25, k26, k27, k28, k29, k30, k31, k32, k33, k34, k35, k36, k37, k38, k39, k40, k41, k42, k43, k44, k45]) t10))
    have g11 := (hT (hlist [k0, k1, k2, k3, k4, k5, k6, k7, k8, k9, k10, k11, k12, k13, k14, k15, k16, k17, k18, k19, k20, k21, k22, k23, k24, k25, k26, k27, k28, k29, k30, k31, k32, k33, k34, k35, k36, k37, k38, k39, k40, k41, k42, k43, k44, k45]) [en14, en17] (by intro e he; simp only [List.mem_cons, List.not_mem_nil, or_false] at he; rcases he with rfl | rfl; exact o14; exact o17)).piece h11 nf_norm
    obtain ⟨t12, h12⟩ := chkK_norm (runT (p12 (hlist [k0, k1, k2, k3, k4, k5, k6, k7, k8, k9, k10, k11, k12, k13, k14, k15, k16, k17, k18, k19, k20, k21, k22, k23, k24, k25, k26, k27, k28, k29, k30, k31, k32, k33, k34, k35, k36, k37, k38, k39, k40, k41, k42, k43, k44, k45]) t11))
    have g12 := (hT (hlist [k0, k1, k2, k3, k4, k5, k6, k7, k8, k9, k10, k11, k12, k13, k14, k15, k16, k17, k18, k19, k20, k21, k22, k23, k24, k25, k26, k27, k28, k29, k30, k31, k32, k33, k34, k35, k36, k37, k38, k39, k40, k41, k42, k43, k44, k45]) [en18, en23] (by intro e he; simp only [List.mem_cons, List.not_mem_nil, or_false] at he; rcases he with rfl | rfl; exact o18; exact o23)).piece h12 nf_norm
    obtain ⟨t13, h13⟩ := chkK_norm (runT (p13 (hlist [k0, k1, k2, k3, k4, k5, k6, k7, k8, k9, k10, k11, k12, k13, k14, k15, k16, k17, k18, k19, k20, k21, k22, k23, k24, k25, k26, k27, k28, k29, k30, k31, k32, k33, k34, k35, k36, k37, k38, k39, k40, k41, k42, k43, k44, k45]) t12))
    have g13 := (hT (hlist [k0, k1, k2, k3, k4, k5, k6, k7, k8, k9, k10, k11, k12, k13, k14, k15, k16, k17, k18, k19, k20, k21, k22, k23, k24, k25, k26, k27, k28, k29, k30, k31, k32, k33, k34, k35, k36, k37, k38, k39, k40, k41, k42, k43, k44, k45]) [en24, en27] (by intro e he; simp only [List.mem_cons, List.not_mem_nil, or_false] at he; rcases he with rfl | rfl; exact o24; exact o27)).piece h13 nf_norm
    obtain ⟨t14, h14⟩ := chkK_norm (runT (p14 (hlist [k0, k1, k2, k3, k4, k5, k6, k7, k8, k9, k10, k11, k12, k13, k14, k15, k16, k17, k18, k19, k20, k21, k22, k23, k24, k25, k26, k27, k28, k29, k30, k31, k32, k33, k34, k35, k36, k37, k38, k39, k40, k41, k42, k43, k44, k45]) t13))
    have g14 := (hT (hlist [k0, k1, k2, k3, k4, k5, k6, k7, k8, k9, k10, k11, k12, k13, k14, k15, k16, k17, k18, k19, k20, k21, k22, k23, k24, k25, k26, k27, k28, k29, k30, k31, k32, k33, k34, k35, k36, k37, k38, k39, k40, k41, k42, k43, k44, k45]) [en28] (by intro e he; simp only [List.mem_cons, List.not_mem_nil, or_false] at he; rcases he with rfl; exact o28)).piece h14 nf_norm
    obtain ⟨t15, h15⟩ := chkK_norm (runT (p15 (hlist [k0, k1, k2, k3, k4, k5, k6, k7, k8, k9, k10, k11, k12, k13, k14, k15, k16, k17, k18, k19, k20, k21, k22, k23, k24, k25, k26, k27, k28, k29, k30, k31, k32, k33, k34, k35, k36, k37, k38, k39, k40, k41, k42, k43, k44, k45]) t14))
    have g15 := (hT (hlist [k0, k1, k2, k3, k4, k5, k6, k7, k8, k9, k10, k11, k12, k13, k14, k15, k16, k17, k18, k19, k20, k21, k22, k23, k24, k25, k26, k27, k28, k29, k30, k31, k32, k33, k34, k35, k36, k37, k38, k39, k40, k41, k42, k43, k44, k45]) [en29, en30, en31, en33, en45] (by intro e he; simp only [List.mem_cons, List.not_mem_nil, or_false] at he; rcases he with rfl | rfl | rfl | rfl | rfl; exact o29; exact o30; exact o31; exact o33; exact o45)).piece h15 nf_norm
    obtain ⟨t16, h16⟩ := chkK_exit (runK (p16 t15))
    have g16 := hi.piece h16 nf_exit
    obtain ⟨t17, h17⟩ := chkK_ret (runK (p17 t16))
    have g17 := hi.piece h17 nf_ret
    obtain ⟨t98, h98⟩ := chkR_ok (runR (p98 t17))
    exact ⟨t98, call_of_body hi lf1 lf2 (nx x_ g1 (nx xB_ g2 (nx xBB_ g3 (nx xBBB_ g4 (nx xBBBB_ g5 (nx xBBBBB_ g6 (nx xBBBBBB_ g7 (nx xBBBBBBB_ (nx xBBBBBBBA_ g8 (bk xBBBBBBBAB_ (lp xBBBBBBBABK_ (ln g9 (ln g10 (ln g11 (ln g12 (ln g13 (ln g14 (ln g15 (lx g16))))))))))) g17)))))))) (fun c h => by have := x_.symm.trans h; cases this) h98⟩
  obtain ⟨k, hk⟩ := Classical.axiomOfChoice key
  exact ⟨k, hk⟩
theorem y0 : topC = .seq (cA topC) (cB topC) := by kernel_rfl
theorem y1 : (cB topC) = .seq (cA (cB topC)) (cB (cB topC)) := by kernel_rfl
theorem y2 : (cB (cB topC)) = .seq (cA (cB (cB topC))) (cB (cB (cB topC))) := by kernel_rfl
theorem y3 : (cB (cB (cB topC))) = .seq (cA (cB (cB (cB topC)))) (cB (cB (cB (cB topC)))) := by kernel_rfl
theorem y4 : (cB (cB (cB (cB topC)))) = .seq (cA (cB (cB (cB (cB topC))))) (cB (cB (cB (cB (cB topC))))) := by kernel_rfl
theorem y5 : (cB (cB (cB (cB (cB topC))))) = .seq (cA (cB (cB (cB (cB (cB topC)))))) (cB (cB (cB (cB (cB (cB topC)))))) := by kernel_rfl
/-- the whole of the body -/
theorem top (hsp : ∀ o e s, ¬ isFail (hkM text Tk o e s) → SoundSp Z o e s (hkM text Tk o e s)) (hspd : ∀ d s, ¬ isFail (hdM d s) → SoundSpd Z d s (hdM d s)) (i : Nat) (hi1 : i < 256) (hi2 : Nat.beq (Nat.mod i 2) 1 = true) :
    ∃ t, SoundC Z 3 topC (entry [Y i]) (stOf 33 (exM h0) .leaf) (.ret E99 (stOf 19548 M99 t)) := by
  have hi : SoundI Z (ev (hkM text Tk) hdM 100000) := ev_sound hsp hspd 100000
  obtain ⟨k, o⟩ := load hsp hspd
  have hT := tabS hsp hspd (fun _ => k) [enL] (by intro e he; simp only [List.mem_cons, List.not_mem_nil, or_false] at he; subst he; exact o)
  obtain ⟨t9, h9⟩ := chkK_ret (runT (p99 fun _ => k))
  have g9 := hT.piece h9 nf_ret
  have b0 := allN_ok (runX q0) i hi1
  simp only [hi2, cond_true] at b0
  obtain ⟨e0, t0, h0, w0⟩ := chkW_ok b0
  have g0 := hi.piece h0 nf_norm
  rw [show stOf 33 MT0 t0 = stOf 33 MT0 .leaf from stOf_ex _ _ _ _] at g0
  have b1 := allN_ok (runX q1) i hi1
  simp only [hi2, cond_true] at b1
  obtain ⟨e1, t1, h1, w1⟩ := chkW_ok b1
  have g1 := hi.piece h1 nf_norm
  rw [show stOf 33 MT1 t1 = stOf 33 MT1 .leaf from stOf_ex _ _ _ _] at g1
  have b2 := allN_ok (runX q2) i hi1
  simp only [hi2, cond_true] at b2
  obtain ⟨e2, t2, h2, w2⟩ := chkW_ok b2
  have g2 := hi.piece h2 nf_norm
  rw [show stOf 33 MT2 t2 = stOf 33 MT2 .leaf from stOf_ex _ _ _ _] at g2
  have b3 := allN_ok (runX q3) i hi1
  simp only [hi2, cond_true] at b3
  obtain ⟨e3, t3, h3, w3⟩ := chkW_ok b3
  have g3 := hi.piece h3 nf_norm
  rw [show stOf 33 MT3 t3 = stOf 33 MT3 .leaf from stOf_ex _ _ _ _] at g3
  have b4 := allN_ok (runX q4) i hi1
  simp only [hi2, cond_true] at b4
  obtain ⟨e4, t4, h4, w4⟩ := chkW_ok b4
  have g4 := hi.piece h4 nf_norm
  rw [show stOf 33 MT4 t4 = stOf 33 MT4 .leaf from stOf_ex _ _ _ _] at g4
  have b5 := allN_ok (runX q5) i hi1
  simp only [hi2, cond_true] at b5
  obtain ⟨e5, t5, h5, w5⟩ := chkW_ok b5
  have g5 := hi.piece h5 nf_norm
  rw [show stOf 33 MT5 t5 = stOf 33 MT5 .leaf from stOf_ex _ _ _ _] at g5
  have w9 : ∀ t v, EW.get t = some v → (ET5 i).get t = some v := weakE_ok (by kernel_rfl)
  exact ⟨t9, (nx y0 g0 (SoundC.weak w0 (nx y1 g1 (SoundC.weak w1 (nx y2 g2 (SoundC.weak w2 (nx y3 g3 (SoundC.weak w3 (nx y4 g4 (SoundC.weak w4 (nx y5 g5 (g9.weak fun t v h => w5 t v (w9 t v h)))))))))))))⟩
end
end Go.Proofs.YtfpmbneglnoojaaGreatDoor.Ab.B1
/- What the row's list of variables says of the memory at the start. -/
namespace Go.Proofs.YtfpmbneglnoojaaGreatDoor.Ab
open Go Go.Conc Go.RowKit Go.ChangeShapes Go.Proofs Go.Proofs.YtfpmbneglnoojaaGreatDoor
set_option maxRecDepth 100000
noncomputable section
/-- one shape: its list of numbers, its three truths -/
def shT : List (List Int × Bool × Bool × Bool) := [([], true, false, false), ([], false, false, true), ([], true, false, false), ([0, 1], true, false, false), ([0, 1], false, false, false), ([0, 0], false, false, false), ([0, 1], true, false, false), ([0, 0, 0], false, false, false), ([0], false, false, false), ([0], false, false, false), ([], false, false, false), ([], false, false, false), ([0], false, false, false), ([1, 0, 2, 0], false, false, false), ([], false, false, false), ([0, 0], false, false, false), ([], false, false, false), ([], false, false, false), ([0, 0, 0], false, false, false), ([0, 0], false, false, false), ([0, 0, 0, 0], false, false, false), ([0, 0, 1, 0, 0, 0], false, false, false), ([0, 2, 0, 0, 0], false, false, false), ([0, 0], false, false, false), ([0, 1, 0, 0], false, false, false), ([], false, false, true), ([], true, true, true), ([], false, true, true), ([0], false, false, false), ([], false, false, false)]
def pwT : List Int := [1, 10, 100, 1000, 10000, 100000, 1000000, 10000000, 100000000, 1000000000, 10000000000, 100000000000, 1000000000000, 10000000000000, 100000000000000, 1000000000000000, 10000000000000000, 100000000000000000, 1000000000000000000, 10000000000000000000]
def shD (x : List Int × Bool × Bool × Bool) : DataW Unit := .agg [(match x.1 with | [] => .nil | b => .slice (lits .i64 b) []), .lit (.bool x.2.1), .lit (.bool x.2.2.1), .lit (.bool x.2.2.2)]
theorem shT_eq : (Rows.laid_cornice_term_shapes : DataW Unit) = .agg (shT.map shD) := by kernel_rfl
theorem pwT_eq : (Rows.laid_internal_strconv_uint64pow10 : DataW Unit) = .agg (pwT.map fun n => .lit (.int .u64 n)) := by kernel_rfl
theorem lits_inj : ∀ a b : List Int, (lits .i64 a : List (DataW Unit)) = lits .i64 b → a = b
  | [], [], _ => rfl
  | [], _ :: _, h => by simp [lits] at h
  | _ :: _, [], h => by simp [lits] at h
  | x :: a, y :: b, h => by
    simp only [lits, List.map_cons, List.cons.injEq, DataW.lit.injEq, Lit.int.injEq, true_and] at h
    rw [h.1, lits_inj a b h.2]
/-- a slice of the table, in memory -/
def SlAt (W : World) (l : List Int) (A : Option Addr) : Prop := match l with
  | [] => A = none
  | l => ∃ a, A = some a ∧ ∀ j, j < l.length → W.cell? (a.add j) = some (.int .i64 (l.getD j 0))
theorem shape_cells {W : World} {n : Nat} {cs : List Value} {x : List Int × Bool × Bool × Bool} {p : List MemPlace}
    (h : DataW.trod (fun _ => ()) PG W 0 (fun _ => true) false n 359 cs = some (shD x, p)) :
    ∃ A : Option Addr, cs = [.slice A x.1.length x.1.length, .bool x.2.1, .bool x.2.2.1, .bool x.2.2.2] ∧ SlAt W x.1 A := by
  have hu : PG.underlying 359 = some (.struct (PG.fieldsOf 359)) := by kernel_rfl
  have hf : (PG.fieldsOf 359).toList.map (fun f => (f.type, f.offset)) = [(65, 0), (4, 1), (4, 2), (4, 3)] := by kernel_rfl
  have hci : PG.cellsOf 65 = 1 := by kernel_rfl
  have hci1 : PG.cellsOf 3 = 1 := by kernel_rfl
  have hcs : PG.cellsOf 4 = 1 := by kernel_rfl
  have hcn : PG.cellsOf 359 = 4 := by kernel_rfl
  have u65 : PG.underlying 65 = some (.slice 3) := by kernel_rfl
  have u3 : PG.underlying 3 = some (.int .i64) := by kernel_rfl
  have u4 : PG.underlying 4 = some .bool := by kernel_rfl
  obtain ⟨xs, m, _, hx, hl, hxl, hg⟩ := DataW.trod_struct hu h
  rw [hcn] at hl
  have hd : xs.map (·.1) = [(match x.1 with | [] => .nil | b => .slice (lits .i64 b) []), .lit (.bool x.2.1), .lit (.bool x.2.2.1), .lit (.bool x.2.2.2)] := by
    have := congrArg Prod.fst hx
    simp only [shD] at this
    injection this with h1
    exact h1.symm
  have fld : ∀ (j : Nat) (t : TypeId) (off : Nat), ((PG.fieldsOf 359).toList.map (fun f => (f.type, f.offset)))[j]? = some (t, off) → DataW.trod (fun _ => ()) PG W 0 (fun _ => true) false m t ((cs.drop off).take (PG.cellsOf t)) = xs[j]? := by
    intro j t off hj
    rw [List.getElem?_map] at hj
    cases hfj : (PG.fieldsOf 359).toList[j]? with
    | none => rw [hfj] at hj; cases hj
    | some f =>
      rw [hfj] at hj
      simp only [Option.map_some, Option.some.injEq, Prod.mk.injEq] at hj
      obtain ⟨rfl, rfl⟩ := hj
      exact hg j f (by rw [← Array.getElem?_toList]; exact hfj)
  rw [hf] at fld
  match cs, hl, xs, hd with
  | [c0, c1, c2, c3], _, [y0, y1, y2, y3], hd =>
    simp only [List.map_cons, List.map_nil, List.cons.injEq, and_true] at hd
    obtain ⟨d0, d1, d2, d3⟩ := hd
    have h0 := fld 0 _ _ rfl
    have h1 := fld 1 _ _ rfl
    have h2 := fld 2 _ _ rfl
    have h3 := fld 3 _ _ rfl
    rw [hci] at h0
    rw [hcs] at h1 h2 h3
    obtain ⟨b1, e1, f1⟩ := DataW.trod_bool u4 h1
    obtain ⟨b2, e2, f2⟩ := DataW.trod_bool u4 h2
    obtain ⟨b3, e3, f3⟩ := DataW.trod_bool u4 h3
    simp at e1 e2 e3
    simp [f1] at d1
    simp [f2] at d2
    simp [f3] at d3
    subst e1 e2 e3 d1 d2 d3
    obtain ⟨l, q⟩ := x
    simp only [] at d0 ⊢
    rcases open_ints u65 u3 hci1 h0 with ⟨hcs0, hy⟩ | ⟨a, len, cap, zs, hcs0, _, hle, _, hzl, hy, hcell, _⟩
    · simp at hcs0
      subst hcs0
      rw [hy] at d0
      cases l with
      | nil => exact ⟨none, by simp, rfl⟩
      | cons z zs => simp at d0
    · simp at hcs0
      subst hcs0
      rw [hy] at d0
      simp only [if_true] at hzl
      cases l with
      | nil => simp at d0
      | cons z l =>
        simp only [DataW.slice.injEq] at d0
        obtain ⟨d4, d5⟩ := d0
        have d6 := lits_inj _ _ d4
        have d7 : (zs.drop len).length = 0 := by
          have := congrArg List.length d5
          simpa [lits] using this
        rw [List.length_drop] at d7
        have hcl : cap = len := by omega
        have d8 : zs = z :: l := by
          rw [List.take_of_length_le (by omega)] at d6
          exact d6
        have hll : len = (z :: l).length := by rw [← d8]; omega
        subst hcl
        subst hll
        refine ⟨some a, rfl, a, rfl, fun j hj => ?_⟩
        have := hcell j (by rw [hzl]; exact hj)
        rw [d8] at this
        exact this
end
end Go.Proofs.YtfpmbneglnoojaaGreatDoor.Ab
/- The memory at the start, as the evaluator knows it. -/
namespace Go.Proofs.YtfpmbneglnoojaaGreatDoor.Ab
open Go Go.Conc Go.RowKit Go.ChangeShapes Go.Proofs Go.Proofs.YtfpmbneglnoojaaGreatDoor
set_option maxRecDepth 100000
noncomputable section
def T (k : Nat) : List Int × Bool × Bool × Bool := shT.getD k ([], false, false, false)
theorem shaped_type {W : World} (h : W.ShapedOpen PG) {g : Nat} {t : TypeId} (hg : g < PG.globals.size) (h0 : ((begin PG (fun _ _ => 0) default).world.heap[g]?).bind (fun o => (Obj.row? o).map (·.2)) = some t) : ∃ cs, W.heap[g]? = some (.cells cs t) := by
  have h1 := h.1 g
  cases h2 : ((begin PG (fun _ _ => 0) default).world.heap[g]?).bind Obj.row? with
  | none =>
    cases h3 : (begin PG (fun _ _ => 0) default).world.heap[g]? with
    | none => rw [h3] at h0; cases h0
    | some o =>
      rw [h3] at h0 h2
      have h2' : Obj.row? o = none := h2
      have h0' : (Obj.row? o).map (·.2) = some t := h0
      rw [h2'] at h0'
      cases h0'
  | some x =>
    obtain ⟨z, t'⟩ := x
    obtain ⟨cs, h4, _⟩ := h1 z t' hg h2
    cases h3 : (begin PG (fun _ _ => 0) default).world.heap[g]? with
    | none => rw [h3] at h0; cases h0
    | some o =>
      rw [h3] at h0 h2
      have h2' : Obj.row? o = some (z, t') := h2
      have h0' : (Obj.row? o).map (·.2) = some t := h0
      rw [h2'] at h0'
      cases h0'
      exact ⟨cs, h4⟩
theorem var_heap {W : World} {n : String} {g : Nat} {t : TypeId} {cs cs' : Array Value} (hg : PG.globalNamed n = some g) (hv : W.var? PG n = some cs) (hh : W.heap[g]? = some (.cells cs' t)) : cs' = cs := by
  unfold World.var? at hv
  rw [hg] at hv
  have : (match W.heap[g]? with | some (.cells cs _ _) => some cs | _ => none) = some cs := hv
  rw [hh] at this
  exact Option.some.inj this
theorem laid_parts {W : World} (hL : laidMetH PG Rows.topBoolsRow.laid W) : ∃ ps, DataW.LaidVars PG W Rows.topBoolsRow.laid ps := by
  have h' : laidMet PG Rows.topBoolsRow.laid W := hL
  obtain ⟨ps, h, _⟩ := h'
  exact ⟨ps, h⟩
structure Start (W : World) (A : Nat → Option Addr) (c1 c2 : Array Value) : Prop where
  h1 : W.heap[1]? = some (.cells c1 275)
  h2 : W.heap[2]? = some (.cells c2 360)
  n1 : c1.size = 20
  n2 : c2.size = 120
  v1 : ∀ j, j < 20 → c1[j]? = some (.int .u64 (pwT.getD j 0))
  v2 : ∀ k, k < 30 → ∀ (i : Nat) (v : Value), [Value.slice (A k) (T k).1.length (T k).1.length, .bool (T k).2.1, .bool (T k).2.2.1, .bool (T k).2.2.2][i]? = some v → c2[k * 4 + i]? = some v
  sl : ∀ k, k < 30 → SlAt W (T k).1 (A k)
  big : 7 < W.heap.size
theorem start_of {W : World} (hs : W.ShapedOpen PG) (hL : laidMetH PG Rows.topBoolsRow.laid W) : ∃ A c1 c2, Start W A c1 c2 := by
  obtain ⟨ps, hV⟩ := laid_parts hL
  obtain ⟨_, _, _, _, _, q1, _, _, _, _, hV, _⟩ := hV
  obtain ⟨_, _, _, _, _, q2, _, _, _, _, hV, _⟩ := hV
  obtain ⟨g1, t1, cs1, f1, p1, q3, a1, a2, a3, a4, hV, _⟩ := hV
  obtain ⟨g2, t2, cs2, f2, p2, q4, b1, b2, b3, b4, _, _⟩ := hV
  have hg1 : PG.globalNamed "internal/strconv.uint64pow10" = some 1 := by kernel_rfl
  have hg2 : PG.globalNamed "cornice/term.shapes" = some 2 := by kernel_rfl
  have ht1 : (PG.globals[1]?).map (·.type) = some 275 := by kernel_rfl
  have ht2 : (PG.globals[2]?).map (·.type) = some 360 := by kernel_rfl
  obtain rfl : 1 = g1 := Option.some.inj (hg1.symm.trans a1)
  obtain rfl : 2 = g2 := Option.some.inj (hg2.symm.trans b1)
  obtain rfl : 275 = t1 := Option.some.inj (ht1.symm.trans a2)
  obtain rfl : 360 = t2 := Option.some.inj (ht2.symm.trans b2)
  have hgs : PG.globals.size = 7 := by kernel_rfl
  obtain ⟨c1, k1⟩ := shaped_type hs (g := 1) (t := 275) (by rw [hgs]; omega) (by kernel_rfl)
  obtain ⟨c2, k2⟩ := shaped_type hs (g := 2) (t := 360) (by rw [hgs]; omega) (by kernel_rfl)
  obtain rfl := var_heap hg1 a3 k1
  obtain rfl := var_heap hg2 b3 k2
  have u275 : PG.underlying 275 = some (.array 20 218) := by kernel_rfl
  have u218 : PG.underlying 218 = some (.int .u64) := by kernel_rfl
  have u360 : PG.underlying 360 = some (.array 30 359) := by kernel_rfl
  have n275 : PG.cellsOf 275 = 20 := by kernel_rfl
  have n218 : PG.cellsOf 218 = 1 := by kernel_rfl
  have n360 : PG.cellsOf 360 = 120 := by kernel_rfl
  have n359 : PG.cellsOf 359 = 4 := by kernel_rfl
  have hbig : 7 < W.heap.size := by
    obtain ⟨o, _, h, _⟩ := hs.2 7 (by rw [hgs]; omega) (of_decide_eq_true (by kernel_rfl))
    exact lt_size_of_getElem?' h
  have b4' : DataW.trod (fun _ => ()) PG W 0 (fun _ => true) false f2 360 c2.toList = some (.agg (shT.map shD), p2) := by rw [← shT_eq]; exact b4
  have a4' : DataW.trod (fun _ => ()) PG W 0 (fun _ => true) false f1 275 c1.toList = some (.agg (pwT.map fun n => .lit (.int .u64 n)), p1) := by rw [← pwT_eq]; exact a4
  obtain ⟨xs, m, _, hx, hl, hxl, hi⟩ := DataW.trod_array u360 b4'
  obtain ⟨ys, m', _, hy, hl', hyl, hi'⟩ := DataW.trod_array u275 a4'
  rw [n360] at hl
  rw [n275] at hl'
  have hxd : xs.map (·.1) = shT.map shD := by
    have := congrArg Prod.fst hx
    simp only [] at this
    injection this with h1
    exact h1.symm
  have hyd : ys.map (·.1) = pwT.map fun n => .lit (.int .u64 n) := by
    have := congrArg Prod.fst hy
    simp only [] at this
    injection this with h1
    exact h1.symm
  have hsl : shT.length = 30 := rfl
  have hpl : pwT.length = 20 := rfl
  have key : ∀ k, ∃ A : Option Addr, k < 30 → (∀ i v, [Value.slice A (T k).1.length (T k).1.length, .bool (T k).2.1, .bool (T k).2.2.1, .bool (T k).2.2.2][i]? = some v → c2[k * 4 + i]? = some v) ∧ SlAt W (T k).1 A := by
    intro k
    by_cases hk : k < 30
    · have h1 := hi k hk
      rw [n359] at h1
      have hkx : k < xs.length := by omega
      have hT : shT[k]? = some (T k) := by
        rw [List.getElem?_eq_getElem (by omega)]
        simp [T, List.getD_eq_getElem?_getD, List.getElem?_eq_getElem (show k < shT.length by omega)]
      have h2 : xs[k]? = some (shD (T k), (xs[k]).2) := by
        rw [List.getElem?_eq_getElem hkx]
        have h3 : (xs.map (·.1))[k]? = some (shD (T k)) := by rw [hxd, List.getElem?_map, hT]; rfl
        rw [List.getElem?_map, List.getElem?_eq_getElem hkx] at h3
        simp only [Option.map_some, Option.some.injEq] at h3
        rw [← h3]
      rw [h2] at h1
      obtain ⟨A, hcs, hsa⟩ := shape_cells h1
      refine ⟨A, fun _ => ⟨fun i v hv => ?_, hsa⟩⟩
      rw [← hcs] at hv
      have hi4 : i < 4 := by
        have := (List.getElem?_eq_some_iff.1 hv).1
        simp at this
        omega
      rw [List.getElem?_take_of_lt hi4, List.getElem?_drop, Array.getElem?_toList] at hv
      exact hv
    · exact ⟨none, fun h => absurd h hk⟩
  obtain ⟨A, hA⟩ := Classical.axiomOfChoice key
  refine ⟨A, c1, c2, k1, k2, by simpa using hl', by simpa using hl, fun j hj => ?_, fun k hk => (hA k hk).1, fun k hk => (hA k hk).2, hbig⟩
  have h1 := hi' j hj
  rw [n218] at h1
  have hjy : j < ys.length := by omega
  have h2 : ys[j]? = some (.lit (.int .u64 (pwT.getD j 0)), (ys[j]).2) := by
    rw [List.getElem?_eq_getElem hjy]
    have h3 : (ys.map (·.1))[j]? = some (.lit (.int .u64 (pwT.getD j 0))) := by
      rw [hyd, List.getElem?_map, List.getElem?_eq_getElem (show j < pwT.length by omega)]
      simp [List.getD_eq_getElem?_getD, List.getElem?_eq_getElem (show j < pwT.length by omega)]
    rw [List.getElem?_map, List.getElem?_eq_getElem hjy] at h3
    simp only [Option.map_some, Option.some.injEq] at h3
    rw [← h3]
  rw [h2] at h1
  obtain ⟨n, e1, e2⟩ := DataW.trod_int u218 h1
  simp at e2
  have hc : ((c1.toList.drop (j * 1)).take 1)[0]? = some (.int .u64 n) := by rw [e1]; rfl
  rw [List.getElem?_take_of_lt (by omega), List.getElem?_drop, Array.getElem?_toList] at hc
  have : j * 1 + 0 = j := by omega
  rw [this] at hc
  rw [hc]
  simp_all
end
end Go.Proofs.YtfpmbneglnoojaaGreatDoor.Ab
/- The two memories at the start are related. -/
namespace Go.Proofs.YtfpmbneglnoojaaGreatDoor.Ab
open Go Go.Conc Go.RowKit Go.ChangeShapes Go.Proofs Go.Proofs.YtfpmbneglnoojaaGreatDoor
set_option maxRecDepth 100000
noncomputable section
/-- the shapes that have a list -/
def kOf : List Nat := [3, 4, 5, 6, 7, 8, 9, 12, 13, 15, 18, 19, 20, 21, 22, 23, 24, 28]
def bOf (k : Nat) : Nat := 12 + kOf.idxOf k
def slV (k : Nat) : Value := match (T k).1 with | [] => .slice none 0 0 | l => .slice (some ⟨bOf k, 0, none⟩) l.length l.length
def shV (k : Nat) : List Value := [slV k, .bool (T k).2.1, .bool (T k).2.2.1, .bool (T k).2.2.2]
def pairs : List (Nat × AObj) := (1, .row (pwT.map fun n => .int .u64 n) 275) :: (2, .row ((List.range 30).flatMap shV) 360) :: kOf.map fun k => (bOf k, .row ((T k).1.map fun n => .int .i64 n) 3)
theorem h0_0 : B0.h0 = trOf pairs := by kernel_rfl
theorem h0_1 : B1.h0 = trOf pairs := by kernel_rfl
theorem trOf_get : ∀ {l : List (Nat × AObj)} {b : Nat} {o : AObj}, (∀ p ∈ l, p.1 < 2 ^ 39) → (trOf l).get b = some o → (b, o) ∈ l
  | [], _, _, _, h => by cases h
  | p :: l, b, o, hl, h => by
    have h' : (Tr.set p.2 40 p.1 (trOf l)).get b = some o := h
    rw [set_get (hl p (by simp))] at h'
    by_cases e : b = p.1
    · rw [if_pos e] at h'
      cases h'
      subst e
      simp
    · rw [if_neg e] at h'
      exact List.mem_cons_of_mem _ (trOf_get (fun q hq => hl q (List.mem_cons_of_mem _ hq)) h')
theorem pairs_small : ∀ p ∈ pairs, p.1 < 33 ∧ p.1 ≠ 32 ∧ p.1 ≠ 0 := by decide
def cellsN (W : World) (b : Nat) : Nat := match W.heap[b]? with | some (.cells c _ _) => c.size | _ => 0
def imgG (W : World) (g : Nat) : Img := ⟨g, 0, if g = 1 then size 275 else if g = 2 then size 360 else 0, cellsN W g⟩
def imgS (W : World) (a : Addr) : Img := ⟨a.block, a.off, size 3, cellsN W a.block⟩
def rho0 (W : World) (A : Nat → Option Addr) : Rho := fun b => if b < 7 then some (imgG W b) else if 12 ≤ b ∧ b < 30 then (A (kOf.getD (b - 12) 0)).map (imgS W) else none
theorem kOf_ok : ∀ k ∈ kOf, k < 30 ∧ (T k).1 ≠ [] ∧ 12 ≤ bOf k ∧ bOf k < 30 ∧ kOf.getD (bOf k - 12) 0 = k := by decide
theorem kOf_all : ∀ k, k < 30 → (T k).1 ≠ [] → k ∈ kOf := by decide
theorem kOf_get : ∀ j, j < 18 → kOf.getD j 0 ∈ kOf := by decide
theorem flat_get {α β : Type} (f : α → List β) (hf : ∀ x, (f x).length = 4) : ∀ (l : List α) (j : Nat), (l.flatMap f)[j]? = (l[j / 4]?).bind fun x => (f x)[j % 4]?
  | [], j => by simp
  | x :: l, j => by
    rw [List.flatMap_cons]
    by_cases h : j < 4
    · rw [List.getElem?_append_left (by rw [hf]; exact h)]
      have h1 : j / 4 = 0 := by omega
      have h2 : j % 4 = j := by omega
      rw [h1, h2]
      rfl
    · rw [List.getElem?_append_right (by rw [hf]; omega), hf, flat_get f hf l (j - 4)]
      have h1 : j / 4 = (j - 4) / 4 + 1 := by omega
      have h2 : j % 4 = (j - 4) % 4 := by omega
      rw [h1, h2, List.getElem?_cons_succ]
variable {W : World} {A : Nat → Option Addr} {c1 c2 : Array Value}
theorem spot_none {a : Addr} {v : Value} (h : W.cell? a = some v) : a.spot = none ∧ ∃ c t fz, W.heap[a.block]? = some (.cells c t fz) ∧ c[a.off]? = some v := by
  unfold World.cell? at h
  split at h
  · rename_i c t fz hh
    split at h
    · cases h
    · rename_i hs
      refine ⟨by simpa using hs, c, t, fz, hh, h⟩
  · cases h
/-- a slice of the table: where it lies -/
theorem sl_at (hS : Start W A c1 c2) {k : Nat} (hk : k ∈ kOf) : ∃ a c t fz, A k = some a ∧ a.spot = none ∧ W.heap[a.block]? = some (.cells c t fz) ∧ cellsN W a.block = c.size ∧ a.off + (T k).1.length ≤ c.size ∧ ∀ j v, ((T k).1.map fun n => Value.int .i64 n)[j]? = some v → c[a.off + j]? = some v := by
  obtain ⟨h1, h2, _⟩ := kOf_ok k hk
  have hs := hS.sl k h1
  generalize (T k).1 = l at hs h2 ⊢
  cases l with
  | nil => exact absurd rfl h2
  | cons z r =>
    obtain ⟨a, ha, hc⟩ := hs
    have hc0 := hc 0 (by simp)
    rw [show a.add 0 = a by simp [Addr.add]] at hc0
    obtain ⟨hsp, c, t, fz, hh, _⟩ := spot_none hc0
    have hall : ∀ j, j < (z :: r).length → c[a.off + j]? = some (.int .i64 ((z :: r).getD j 0)) := fun j hj => by
      have := hc j hj
      obtain ⟨_, c', t', fz', hh', hv⟩ := spot_none this
      have hb : (a.add j).block = a.block ∧ (a.add j).off = a.off + j := by unfold Addr.add; split <;> simp_all
      rw [hb.1, hh] at hh'
      cases hh'
      rw [hb.2] at hv
      exact hv
    refine ⟨a, c, t, fz, ha, hsp, hh, by unfold cellsN; rw [hh], ?_, fun j v hv => ?_⟩
    · have := hall r.length (by simp)
      have := (Array.getElem?_eq_some_iff.1 this).1
      simp only [List.length_cons]
      omega
    · rw [List.getElem?_map] at hv
      have hj : j < (z :: r).length := by
        cases h : (z :: r)[j]? with
        | none => rw [h] at hv; cases hv
        | some x => exact (List.getElem?_eq_some_iff.1 h).1
      rw [hall j hj, ← hv, List.getD_eq_getElem?_getD, List.getElem?_eq_getElem hj]
      rfl
theorem rho_g {b : Nat} (hb : b < 7) : rho0 W A b = some (imgG W b) := by unfold rho0; rw [if_pos hb]
theorem rho_s {k : Nat} (hk : k ∈ kOf) : rho0 W A (bOf k) = (A k).map (imgS W) := by
  obtain ⟨_, _, h3, h4, h5⟩ := kOf_ok k hk
  unfold rho0
  rw [if_neg (by omega), if_pos ⟨h3, h4⟩, h5]
theorem rho_cases (hS : Start W A c1 c2) {b : Nat} {i : Img} (h : rho0 W A b = some i) : b < 33 ∧ b ≠ 32 ∧ i.blk < W.heap.size := by
  unfold rho0 at h
  by_cases h1 : b < 7
  · rw [if_pos h1] at h
    cases h
    have := hS.big
    exact ⟨by omega, by omega, by show b < _; omega⟩
  · rw [if_neg h1] at h
    by_cases h2 : 12 ≤ b ∧ b < 30
    · rw [if_pos h2] at h
      obtain ⟨a, c, t, fz, h3, _, h4, _⟩ := sl_at hS (kOf_get (b - 12) (by omega))
      rw [h3] at h
      cases h
      exact ⟨by omega, by omega, lt_size_of_getElem?' h4⟩
    · rw [if_neg h2] at h
      cases h
theorem size3 : size 3 = 1 := by kernel_rfl
theorem start_wr (hS : Start W A c1 c2) : WR (cxA W.heap.size) (rho0 W A) 33 (trOf pairs) W := by
  have hmem : ∀ {b : Nat} {o : AObj}, (trOf pairs).get b = some o → (b, o) ∈ pairs := trOf_get fun p hp => by
    have := (pairs_small p hp).1
    omega
  refine ⟨fun b i hi => ?_, fun b i hi hb => ?_, fun b i o hi ho => ?_, fun b i hi hb => (rho_cases hS hi).2.2, fun b c i j hi hj hb _ => ?_, fun b hb => hb, fun b hb => hb.elim, Nat.le_refl _, by decide, fun b o ho => (pairs_small _ (hmem ho)).1, ?_, Nat.lt_succ_self 32, fun b k hk => hk.elim, ?_⟩
  · exact ⟨(rho_cases hS hi).1, (rho_cases hS hi).2.2, fun _ h => h.elim⟩
  · have h1 := (rho_cases hS hi).1
    have hb' : 33 ≤ b := hb
    omega
  · have hm := hmem ho
    simp only [pairs, List.mem_cons, Prod.mk.injEq, List.mem_map] at hm
    rcases hm with ⟨rfl, rfl⟩ | ⟨rfl, rfl⟩ | ⟨k, hk, rfl, rfl⟩
    · rw [rho_g (by omega)] at hi
      cases hi
      have hwr : decide ((cxA W.heap.size).base ≤ 1) = false := rfl
      rw [hwr]
      refine ⟨fun v hv => ?_, ⟨rfl, ?_, Nat.zero_mod _⟩, c1, (0, 0), ⟨275, hS.h1, fun h => (by cases h)⟩, ?_, fun h => (by cases h), fun j v hv => ?_⟩
      · obtain ⟨n, _, rfl⟩ := List.mem_map.1 hv
        simp [okV]
      · show 0 + _ ≤ cellsN W 1
        unfold cellsN
        rw [hS.h1]
        simp [hS.n1, pwT]
      · show c1.size = cellsN W 1
        unfold cellsN
        rw [hS.h1]
      · rw [List.getElem?_map] at hv
        have hj : j < pwT.length := by
          cases h : pwT[j]? with
          | none => rw [h] at hv; cases hv
          | some x => exact (List.getElem?_eq_some_iff.1 h).1
        have := hS.v1 j hj
        show c1[0 + j]? = _
        rw [Nat.zero_add, this]
        rw [List.getElem?_eq_getElem hj] at hv
        cases hv
        simp [tV, List.getD_eq_getElem?_getD, List.getElem?_eq_getElem hj]
    · rw [rho_g (by omega)] at hi
      cases hi
      have hwr : decide ((cxA W.heap.size).base ≤ 2) = false := rfl
      rw [hwr]
      have hcell : ∀ (j : Nat) (v : Value), ((List.range 30).flatMap shV)[j]? = some v → okV (rho0 W A) v ∧ c2[j]? = some (tV (rho0 W A) v) := by
        intro j v hv
        rw [flat_get shV (fun _ => rfl)] at hv
        cases hr : (List.range 30)[j / 4]? with
        | none => rw [hr] at hv; cases hv
        | some k =>
          rw [hr] at hv
          have hv' : (shV k)[j % 4]? = some v := hv
          obtain ⟨hlt, hk⟩ := List.getElem?_eq_some_iff.1 hr
          have hk4 : k = j / 4 := by rw [← hk]; simp
          have hk30 : k < 30 := by simpa [← hk] using hlt
          have hj : j = k * 4 + j % 4 := by omega
          have hc := hS.v2 k hk30 (j % 4)
          rw [hj]
          have hm4 : j % 4 < 4 := Nat.mod_lt _ (by omega)
          generalize j % 4 = i at hv' hc hm4 ⊢
          have e1 : (k * 4 + i) % 4 = i := by omega
          match i, hm4 with
          | 0, _ =>
            have hv1 : slV k = v := by simpa [shV] using hv'
            have hc1 := hc _ rfl
            subst hv1
            have hsl := hS.sl k hk30
            unfold slV
            cases hT : (T k).1 with
            | nil =>
              rw [hT] at hsl hc1
              have hA : A k = none := hsl
              rw [hA] at hc1
              exact ⟨by simp [okV, OPEN], by simpa [tV, tS] using hc1⟩
            | cons z r =>
              have hkm := kOf_all k hk30 (by rw [hT]; simp)
              obtain ⟨a, c, t, fz, h3, h4, h5, _⟩ := sl_at hS hkm
              have hrho := rho_s (W := W) (A := A) hkm
              rw [h3] at hrho hc1
              rw [hT] at hc1
              have hsm : (T k).1.length < 10 := by
                have : ∀ k ∈ kOf, (T k).1.length < 10 := by decide
                exact this k hkm
              rw [hT] at hsm
              have ho : (z :: r).length < OPEN := by unfold OPEN; omega
              refine ⟨?_, ?_⟩
              · simp only [okV]
                refine ⟨fun x hx => ?_, fun h => by omega, fun h => by omega⟩
                cases hx
                exact ⟨rfl, _, hrho⟩
              · rw [hc1]
                simp only [tV, tS, if_pos ho, tA, hrho, Option.map_some, imgS]
                obtain ⟨ab, ao, asp⟩ := a
                simp only [] at h4
                subst h4
                rfl
          | 1, _ => 
            have hv1 : Value.bool (T k).2.1 = v := by simpa [shV] using hv'
            subst hv1
            exact ⟨by simp [okV], by simpa [tV] using hc _ rfl⟩
          | 2, _ => 
            have hv1 : Value.bool (T k).2.2.1 = v := by simpa [shV] using hv'
            subst hv1
            exact ⟨by simp [okV], by simpa [tV] using hc _ rfl⟩
          | 3, _ => 
            have hv1 : Value.bool (T k).2.2.2 = v := by simpa [shV] using hv'
            subst hv1
            exact ⟨by simp [okV], by simpa [tV] using hc _ rfl⟩
      refine ⟨fun v hv => ?_, ⟨rfl, ?_, Nat.zero_mod _⟩, c2, (0, 0), ⟨360, hS.h2, fun h => (by cases h)⟩, ?_, fun h => (by cases h), fun j v hv => ?_⟩
      · obtain ⟨j, hj⟩ := List.getElem?_of_mem hv
        exact (hcell j v hj).1
      · show 0 + _ ≤ cellsN W 2
        unfold cellsN
        rw [hS.h2]
        simp only [hS.n2]
        decide
      · show c2.size = cellsN W 2
        unfold cellsN
        rw [hS.h2]
      · show c2[0 + j]? = _
        rw [Nat.zero_add]
        exact (hcell j v hv).2
    · obtain ⟨a, c, t, fz, h3, h4, h5, h6, h7, h8⟩ := sl_at hS hk
      rw [rho_s hk, h3] at hi
      cases hi
      obtain ⟨_, _, h9, h10, _⟩ := kOf_ok k hk
      have hwr : decide ((cxA W.heap.size).base ≤ bOf k) = false := decide_eq_false (by show ¬ 33 ≤ bOf k; omega)
      rw [hwr]
      refine ⟨fun v hv => ?_, ⟨rfl, ?_, by rw [show (imgS W a).esz = size 3 from rfl, size3]; exact Nat.mod_one _⟩, c, fz, ⟨t, h5, fun h => (by cases h)⟩, h6.symm, fun h => (by cases h), fun j v hv => ?_⟩
      · obtain ⟨n, _, rfl⟩ := List.mem_map.1 hv
        simp [okV]
      · show a.off + _ ≤ cellsN W a.block
        rw [h6, List.length_map]
        exact h7
      · rw [show (imgS W a).sh = a.off from rfl, h8 j v hv]
        obtain ⟨n, _, rfl⟩ := List.mem_map.1 (List.mem_of_getElem? hv)
        simp [tV]
  · have h1 := (rho_cases hS hi).1
    have hb' : 33 ≤ b := hb
    omega
  · show (trOf pairs).get 32 = none
    cases h : (trOf pairs).get 32 with
    | none => rfl
    | some o => exact absurd rfl (pairs_small _ (hmem h)).2.1
  · cases h : rho0 W A GK with
    | none => rfl
    | some i => exact absurd rfl (rho_cases hS h).2.1
theorem start_glob : Glob (rho0 W A) := fun g hg => ⟨imgG W g, rho_g hg, rfl, rfl⟩
end
end Go.Proofs.YtfpmbneglnoojaaGreatDoor.Ab
/- TopBools, from whatever start. -/
namespace Go.Proofs.YtfpmbneglnoojaaGreatDoor.Ab
open Go Go.Conc Go.RowKit Go.Proofs Go.Proofs.YtfpmbneglnoojaaGreatDoor
set_option maxRecDepth 100000
noncomputable section
def Z00 : Value := .agg #[.int .i64 0, .int .i64 0, .string ⟨#[]⟩, .int .i64 0]
theorem z00 : zeroV ITEM = some Z00 := by kernel_rfl
def topF : Func := (PG.funcs[3]?).getD default
theorem top1 : PG.funcs[3]? = some topF := by kernel_rfl
theorem top2 : topF.body = some B0.topC := by kernel_rfl
theorem top3 : topF.body = some B1.topC := by kernel_rfl
theorem top4 : PG.inits.idxOf? 3 = none := by kernel_rfl
theorem len0 : B0.Tk.length = 179 := by kernel_rfl
theorem len1 : B1.Tk.length = 179 := by kernel_rfl
theorem scan_body : bodyOf SCAN = scanC := bodyOf_ok scan_1 scan_b
theorem ends0 : scanEnds B0.Tk.length (ev (hkS 33 34 B0.Tk) noSpd 100000 (.code SCAN scanC (entry (scanArgs B0.text)) scanS)) := by
  rw [len0, ← scan_body]
  exact scanT_ok (runS B0.ps)
theorem ends1 : scanEnds B1.Tk.length (ev (hkS 33 34 B1.Tk) noSpd 100000 (.code SCAN scanC (entry (scanArgs B1.text)) scanS)) := by
  rw [len1, ← scan_body]
  exact scanT_ok (runS B1.ps)
theorem gho0 (t : Tr AObj) : (stOf 19548 B0.M99 t).h.get GK = some (.iter none 0 [35, 36] 2) := by kernel_rfl
theorem gho1 (t : Tr AObj) : (stOf 19548 B1.M99 t).h.get GK = some (.iter none 0 [35, 36] 2) := by kernel_rfl
theorem res0 (t : Tr AObj) : results topF B0.E99 (stOf 19548 B0.M99 t) = .val (.bool true) (stOf 19548 B0.M99 t) := by kernel_rfl
theorem res1 (t : Tr AObj) : results topF B1.E99 (stOf 19548 B1.M99 t) = .val (.bool true) (stOf 19548 B1.M99 t) := by kernel_rfl
theorem args_eq (ρ : Rho) (i : Nat) : (([K.Y i] : List Value).map (tV ρ)).toArray = #[.int .u8 (.ofNat i)] := by simp [K.Y, tV]
theorem st0 : stOf 33 (exM B0.h0) .leaf = { n := 33, h := trOf pairs, d := [], rk := none } := by
  unfold stOf
  rw [ske_exM, h0_0]
theorem st1 : stOf 33 (exM B1.h0) .leaf = { n := 33, h := trOf pairs, d := [], rk := none } := by
  unfold stOf
  rw [ske_exM, h0_1]
theorem run_bools {W : World} (hs : W.ShapedOpen PG) (hL : laidMetH PG Rows.topBoolsRow.laid W) {i : Nat} (hi : i < 256) :
    ∃ N last o w' t', runNT PG (N + 1) (solo (G (Frame.enter PG 3 #[.int .u8 (.ofNat i)] .normal) []) W) #[] = (.ended o w', t') ∧ Go.runN PG N (solo (G (Frame.enter PG 3 #[.int .u8 (.ofNat i)] .normal) []) W) = .next last ∧ Go.step PG last = .ended o w' ∧
      Go.Conc.Good PG (fun v w => v = .bool true ∧ Below W.heap.size W w) last o w' t' := by
  obtain ⟨A, c1, c2, hS⟩ := start_of hs hL
  have hN : NG ≤ W.heap.size := Nat.le_of_lt hS.big
  have hmod : i % 2 = 0 ∨ i % 2 = 1 := by omega
  have hok : ∀ v ∈ [K.Y i], okV (rho0 W A) v := by simp [K.Y, okV]
  have fin : ∀ n, Goes PG true Eq D0 (AtGo2 PG W.heap.size fun v w => v = .bool true ∧ Below W.heap.size W w) n (G (Frame.enter PG 3 (([K.Y i] : List Value).map (tV (rho0 W A))).toArray .normal) []) W → _ := fun n h => by
    rw [args_eq] at h
    exact fork_pipeline2 h
  rcases hmod with h | h
  · obtain ⟨t, hC⟩ := B0.top (Z := ZM W W.heap.size B0.Tk Z00 fun v w => v = .bool true ∧ Below W.heap.size W w) (fun o e s => sound_hkM hN ends0 z00 o e s) (fun _ _ h => sound_close h) i hi (by rw [show Nat.mod i 2 = 0 from h]; rfl)
    rw [st0] at hC
    obtain ⟨n, hn⟩ := sound_bottom top1 top2 top4 hC rfl (gho0 t) (res0 t) (closed_bool true) (start_wr hS) start_glob hok (Nat.le_refl _) fun w hw => ⟨rfl, hw⟩
    exact fin n hn
  · obtain ⟨t, hC⟩ := B1.top (Z := ZM W W.heap.size B1.Tk Z00 fun v w => v = .bool true ∧ Below W.heap.size W w) (fun o e s => sound_hkM hN ends1 z00 o e s) (fun _ _ h => sound_close h) i hi (by rw [show Nat.mod i 2 = 1 from h]; rfl)
    rw [st1] at hC
    obtain ⟨n, hn⟩ := sound_bottom top1 top3 top4 hC rfl (gho1 t) (res1 t) (closed_bool true) (start_wr hS) start_glob hok (Nat.le_refl _) fun w hw => ⟨rfl, hw⟩
    exact fin n hn
end
end Go.Proofs.YtfpmbneglnoojaaGreatDoor.Ab
