/- The run, n odd, part 2, by the kernel. -/
import Derived.Test.YtfpmbneglnoojaaGreatDoorBh
import Derived.KernelRfl
set_option linter.all false
namespace Go.Proofs.YtfpmbneglnoojaaGreatDoor.Ab.B1
open Go Go.Proofs.YtfpmbneglnoojaaGreatDoor.Ab Go.Proofs.YtfpmbneglnoojaaGreatDoor.Ab.K
set_option maxRecDepth 10000000
set_option maxHeartbeats 0
theorem c16 (H : Nat → Tr AObj → Tr AObj) (t : Tr AObj) : f_chkR en16.v en16.n1 en16.m1 (runH H [] (.call en16.f en16.args (stOf en16.n0 en16.m0 t))) = true := by kernel_rfl
theorem c24 (H : Nat → Tr AObj → Tr AObj) (t : Tr AObj) : f_chkR en24.v en24.n1 en24.m1 (runH H [] (.call en24.f en24.args (stOf en24.n0 en24.m0 t))) = true := by kernel_rfl
theorem c27 (H : Nat → Tr AObj → Tr AObj) (t : Tr AObj) : f_chkR en27.v en27.n1 en27.m1 (runH H [en25, en26] (.call en27.f en27.args (stOf en27.n0 en27.m0 t))) = true := by kernel_rfl
theorem c34 (H : Nat → Tr AObj → Tr AObj) (t : Tr AObj) : f_chkR en34.v en34.n1 en34.m1 (runH H [] (.call en34.f en34.args (stOf en34.n0 en34.m0 t))) = true := by kernel_rfl
theorem c8 (H : Nat → Tr AObj → Tr AObj) (t : Tr AObj) : f_chkR en8.v en8.n1 en8.m1 (runH H [] (.call en8.f en8.args (stOf en8.n0 en8.m0 t))) = true := by kernel_rfl
theorem p17 (t : Tr AObj) : f_chkK 1 E17 19548 M17 (run (.code 6 (cB (cB (cB (cB (cB (cB (cB (cB loadC)))))))) E16 (stOf 19548 M16 t))) = true := by kernel_rfl
theorem p8 (t : Tr AObj) : f_chkK 0 E8 1391 M8 (run (.code 6 (cA (cA (cB (cB (cB (cB (cB (cB (cB loadC))))))))) E7 (stOf 1391 M7 t))) = true := by kernel_rfl
theorem p98 (t : Tr AObj) : f_chkR V 19548 M98 (run (.unwind loadF E17 [] none (stOf 19548 M17 t))) = true := by kernel_rfl
end Go.Proofs.YtfpmbneglnoojaaGreatDoor.Ab.B1
