/- The run, n even, part 5, by the kernel. -/
import Derived.Test.YtfpmbneglnoojaaGreatDoorBg
import Derived.KernelRfl
set_option linter.all false
namespace Go.Proofs.YtfpmbneglnoojaaGreatDoor.Ab.B0
open Go Go.Proofs.YtfpmbneglnoojaaGreatDoor.Ab Go.Proofs.YtfpmbneglnoojaaGreatDoor.Ab.K
set_option maxRecDepth 10000000
set_option maxHeartbeats 0
theorem c20 (H : Nat → Tr AObj → Tr AObj) (t : Tr AObj) : f_chkR en20.v en20.n1 en20.m1 (runH H [] (.call en20.f en20.args (stOf en20.n0 en20.m0 t))) = true := by kernel_rfl
theorem c31 (H : Nat → Tr AObj → Tr AObj) (t : Tr AObj) : f_chkR en31.v en31.n1 en31.m1 (runH H [] (.call en31.f en31.args (stOf en31.n0 en31.m0 t))) = true := by kernel_rfl
theorem c36 (H : Nat → Tr AObj → Tr AObj) (t : Tr AObj) : f_chkR en36.v en36.n1 en36.m1 (runH H [] (.call en36.f en36.args (stOf en36.n0 en36.m0 t))) = true := by kernel_rfl
theorem c37 (H : Nat → Tr AObj → Tr AObj) (t : Tr AObj) : f_chkR en37.v en37.n1 en37.m1 (runH H [] (.call en37.f en37.args (stOf en37.n0 en37.m0 t))) = true := by kernel_rfl
theorem c39 (H : Nat → Tr AObj → Tr AObj) (t : Tr AObj) : f_chkR en39.v en39.n1 en39.m1 (runH H [] (.call en39.f en39.args (stOf en39.n0 en39.m0 t))) = true := by kernel_rfl
theorem p17 (t : Tr AObj) : f_chkK 1 E17 19548 M17 (run (.code 6 (cB (cB (cB (cB (cB (cB (cB (cB loadC)))))))) E16 (stOf 19548 M16 t))) = true := by kernel_rfl
theorem p9 (t : Tr AObj) : f_chkK 0 E9 1719 M9 (run (.code 6 (cL (cK (cB (cA (cB (cB (cB (cB (cB (cB (cB loadC))))))))))) (prune 6 E8) (stOf 1391 M8 t))) = true := by kernel_rfl
theorem q2 : allN (fun i => cond (Nat.beq (Nat.mod i 2) 0) (f_chkW (ET2 i) 33 MT2 (f_ev (f_hkM text Tk) hdM 100000 (.code 3 (cA (cB (cB topC))) (ET1 i) (stOf 33 MT1 .leaf)))) true) 256 = true := by kernel_rfl
end Go.Proofs.YtfpmbneglnoojaaGreatDoor.Ab.B0
