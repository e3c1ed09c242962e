/- The run, n even, part 3, by the kernel. -/
import Derived.Test.YtfpmbneglnoojaaGreatDoorBg
import Derived.KernelRfl
set_option linter.all false
namespace Go.Proofs.YtfpmbneglnoojaaGreatDoor.Ab.B0
open Go Go.Proofs.YtfpmbneglnoojaaGreatDoor.Ab Go.Proofs.YtfpmbneglnoojaaGreatDoor.Ab.K
set_option maxRecDepth 10000000
set_option maxHeartbeats 0
theorem c10 (H : Nat → Tr AObj → Tr AObj) (t : Tr AObj) : f_chkR en10.v en10.n1 en10.m1 (runH H [en7, en8, en9] (.call en10.f en10.args (stOf en10.n0 en10.m0 t))) = true := by kernel_rfl
theorem c14 (H : Nat → Tr AObj → Tr AObj) (t : Tr AObj) : f_chkR en14.v en14.n1 en14.m1 (runH H [] (.call en14.f en14.args (stOf en14.n0 en14.m0 t))) = true := by kernel_rfl
theorem c28 (H : Nat → Tr AObj → Tr AObj) (t : Tr AObj) : f_chkR en28.v en28.n1 en28.m1 (runH H [] (.call en28.f en28.args (stOf en28.n0 en28.m0 t))) = true := by kernel_rfl
theorem c6 (H : Nat → Tr AObj → Tr AObj) (t : Tr AObj) : f_chkR en6.v en6.n1 en6.m1 (runH H [] (.call en6.f en6.args (stOf en6.n0 en6.m0 t))) = true := by kernel_rfl
theorem p13 (H : Nat → Tr AObj → Tr AObj) (t : Tr AObj) : f_chkK 0 E13 12407 M13 (runH H [en24, en27] (.code 6 (cL (cK (cB (cA (cB (cB (cB (cB (cB (cB (cB loadC))))))))))) (prune 6 E12) (stOf 10348 M12 t))) = true := by kernel_rfl
theorem p4 (t : Tr AObj) : f_chkK 0 E4 1073 M4 (run (.code 6 (cA (cB (cB (cB loadC)))) E3 (stOf 1073 M3 t))) = true := by kernel_rfl
theorem p98 (t : Tr AObj) : f_chkR V 19548 M98 (run (.unwind loadF E17 [] none (stOf 19548 M17 t))) = true := by kernel_rfl
theorem ps : scanT 179 (f_ev (f_hkS 33 34 Tk) noSpd 100000 (.code SCAN (bodyOf SCAN) (entry [.string text, .chan (some 33), .chan (some 34)]) { n := 35, h := Tr.set (.iter none 0 [] 0) 40 GK .leaf, d := [], rk := none })) = true := by kernel_rfl
end Go.Proofs.YtfpmbneglnoojaaGreatDoor.Ab.B0
