/- The run, n odd, part 1, by the kernel. -/
import Derived.Test.YtfpmbneglnoojaaGreatDoorBh
import Derived.KernelRfl
set_option linter.all false
namespace Go.Proofs.YtfpmbneglnoojaaGreatDoor.Ab.B1
open Go Go.Proofs.YtfpmbneglnoojaaGreatDoor.Ab Go.Proofs.YtfpmbneglnoojaaGreatDoor.Ab.K
set_option maxRecDepth 10000000
set_option maxHeartbeats 0
theorem c18 (H : Nat → Tr AObj → Tr AObj) (t : Tr AObj) : f_chkR en18.v en18.n1 en18.m1 (runH H [] (.call en18.f en18.args (stOf en18.n0 en18.m0 t))) = true := by kernel_rfl
theorem c2 (H : Nat → Tr AObj → Tr AObj) (t : Tr AObj) : f_chkR en2.v en2.n1 en2.m1 (runH H [] (.call en2.f en2.args (stOf en2.n0 en2.m0 t))) = true := by kernel_rfl
theorem c23 (H : Nat → Tr AObj → Tr AObj) (t : Tr AObj) : f_chkR en23.v en23.n1 en23.m1 (runH H [en19, en20, en21, en22] (.call en23.f en23.args (stOf en23.n0 en23.m0 t))) = true := by kernel_rfl
theorem c25 (H : Nat → Tr AObj → Tr AObj) (t : Tr AObj) : f_chkR en25.v en25.n1 en25.m1 (runH H [] (.call en25.f en25.args (stOf en25.n0 en25.m0 t))) = true := by kernel_rfl
theorem c26 (H : Nat → Tr AObj → Tr AObj) (t : Tr AObj) : f_chkR en26.v en26.n1 en26.m1 (runH H [] (.call en26.f en26.args (stOf en26.n0 en26.m0 t))) = true := by kernel_rfl
theorem p16 (t : Tr AObj) : f_chkK 2 E16 19548 M16 (run (.code 6 (cL (cK (cB (cA (cB (cB (cB (cB (cB (cB (cB loadC))))))))))) (prune 6 E15) (stOf 19548 M15 t))) = true := by kernel_rfl
theorem p6 (t : Tr AObj) : f_chkK 0 E6 1391 M6 (run (.code 6 (cA (cB (cB (cB (cB (cB loadC)))))) E5 (stOf 1074 M5 t))) = true := by kernel_rfl
end Go.Proofs.YtfpmbneglnoojaaGreatDoor.Ab.B1
