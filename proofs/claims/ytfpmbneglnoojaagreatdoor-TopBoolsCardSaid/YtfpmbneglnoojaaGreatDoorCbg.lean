/- The run, n odd, part 7, by the kernel. -/
import Derived.Test.YtfpmbneglnoojaaGreatDoorBh
import Derived.KernelRfl
set_option linter.all false
namespace Go.Proofs.YtfpmbneglnoojaaGreatDoor.Ab.B1
open Go Go.Proofs.YtfpmbneglnoojaaGreatDoor.Ab Go.Proofs.YtfpmbneglnoojaaGreatDoor.Ab.K
set_option maxRecDepth 10000000
set_option maxHeartbeats 0
theorem c30 (H : Nat → Tr AObj → Tr AObj) (t : Tr AObj) : f_chkR en30.v en30.n1 en30.m1 (runH H [] (.call en30.f en30.args (stOf en30.n0 en30.m0 t))) = true := by kernel_rfl
theorem c38 (H : Nat → Tr AObj → Tr AObj) (t : Tr AObj) : f_chkR en38.v en38.n1 en38.m1 (runH H [] (.call en38.f en38.args (stOf en38.n0 en38.m0 t))) = true := by kernel_rfl
theorem c4 (H : Nat → Tr AObj → Tr AObj) (t : Tr AObj) : f_chkR en4.v en4.n1 en4.m1 (runH H [] (.call en4.f en4.args (stOf en4.n0 en4.m0 t))) = true := by kernel_rfl
theorem c43 (H : Nat → Tr AObj → Tr AObj) (t : Tr AObj) : f_chkR en43.v en43.n1 en43.m1 (runH H [en42] (.call en43.f en43.args (stOf en43.n0 en43.m0 t))) = true := by kernel_rfl
theorem c44 (H : Nat → Tr AObj → Tr AObj) (t : Tr AObj) : f_chkR en44.v en44.n1 en44.m1 (runH H [en36, en37, en38, en41, en43] (.call en44.f en44.args (stOf en44.n0 en44.m0 t))) = true := by kernel_rfl
theorem c45 (H : Nat → Tr AObj → Tr AObj) (t : Tr AObj) : f_chkR en45.v en45.n1 en45.m1 (runH H [en34, en35, en44] (.call en45.f en45.args (stOf en45.n0 en45.m0 t))) = true := by kernel_rfl
theorem c5 (H : Nat → Tr AObj → Tr AObj) (t : Tr AObj) : f_chkR en5.v en5.n1 en5.m1 (runH H [] (.call en5.f en5.args (stOf en5.n0 en5.m0 t))) = true := by kernel_rfl
theorem p13 (H : Nat → Tr AObj → Tr AObj) (t : Tr AObj) : f_chkK 0 E13 12407 M13 (runH H [en24, en27] (.code 6 (cL (cK (cB (cA (cB (cB (cB (cB (cB (cB (cB loadC))))))))))) (prune 6 E12) (stOf 10348 M12 t))) = true := by kernel_rfl
end Go.Proofs.YtfpmbneglnoojaaGreatDoor.Ab.B1
