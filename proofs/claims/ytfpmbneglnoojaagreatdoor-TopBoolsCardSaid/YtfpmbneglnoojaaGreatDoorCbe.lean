/- The run, n odd, part 5, by the kernel. -/
import Derived.Test.YtfpmbneglnoojaaGreatDoorBh
import Derived.KernelRfl
set_option linter.all false
namespace Go.Proofs.YtfpmbneglnoojaaGreatDoor.Ab.B1
open Go Go.Proofs.YtfpmbneglnoojaaGreatDoor.Ab Go.Proofs.YtfpmbneglnoojaaGreatDoor.Ab.K
set_option maxRecDepth 10000000
set_option maxHeartbeats 0
theorem c20 (H : Nat → Tr AObj → Tr AObj) (t : Tr AObj) : f_chkR en20.v en20.n1 en20.m1 (runH H [] (.call en20.f en20.args (stOf en20.n0 en20.m0 t))) = true := by kernel_rfl
theorem c31 (H : Nat → Tr AObj → Tr AObj) (t : Tr AObj) : f_chkR en31.v en31.n1 en31.m1 (runH H [] (.call en31.f en31.args (stOf en31.n0 en31.m0 t))) = true := by kernel_rfl
theorem c35 (H : Nat → Tr AObj → Tr AObj) (t : Tr AObj) : f_chkR en35.v en35.n1 en35.m1 (runH H [] (.call en35.f en35.args (stOf en35.n0 en35.m0 t))) = true := by kernel_rfl
theorem c36 (H : Nat → Tr AObj → Tr AObj) (t : Tr AObj) : f_chkR en36.v en36.n1 en36.m1 (runH H [] (.call en36.f en36.args (stOf en36.n0 en36.m0 t))) = true := by kernel_rfl
theorem c39 (H : Nat → Tr AObj → Tr AObj) (t : Tr AObj) : f_chkR en39.v en39.n1 en39.m1 (runH H [] (.call en39.f en39.args (stOf en39.n0 en39.m0 t))) = true := by kernel_rfl
theorem p15 (H : Nat → Tr AObj → Tr AObj) (t : Tr AObj) : f_chkK 0 E15 19548 M15 (runH H [en29, en30, en31, en33, en45] (.code 6 (cL (cK (cB (cA (cB (cB (cB (cB (cB (cB (cB loadC))))))))))) (prune 6 E14) (stOf 13309 M14 t))) = true := by kernel_rfl
theorem p9 (t : Tr AObj) : f_chkK 0 E9 1719 M9 (run (.code 6 (cL (cK (cB (cA (cB (cB (cB (cB (cB (cB (cB loadC))))))))))) (prune 6 E8) (stOf 1391 M8 t))) = true := by kernel_rfl
theorem q5 : allN (fun i => cond (Nat.beq (Nat.mod i 2) 1) (f_chkW (ET5 i) 33 MT5 (f_ev (f_hkM text Tk) hdM 100000 (.code 3 (cA (cB (cB (cB (cB (cB topC)))))) (ET4 i) (stOf 33 MT4 .leaf)))) true) 256 = true := by kernel_rfl
end Go.Proofs.YtfpmbneglnoojaaGreatDoor.Ab.B1
