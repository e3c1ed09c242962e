/- The run, n odd, part 6, by the kernel. -/
import Derived.Test.YtfpmbneglnoojaaGreatDoorBh
import Derived.KernelRfl
set_option linter.all false
namespace Go.Proofs.YtfpmbneglnoojaaGreatDoor.Ab.B1
open Go Go.Proofs.YtfpmbneglnoojaaGreatDoor.Ab Go.Proofs.YtfpmbneglnoojaaGreatDoor.Ab.K
set_option maxRecDepth 10000000
set_option maxHeartbeats 0
theorem c0 (H : Nat → Tr AObj → Tr AObj) (t : Tr AObj) : f_chkR en0.v en0.n1 en0.m1 (runH H [] (.call en0.f en0.args (stOf en0.n0 en0.m0 t))) = true := by kernel_rfl
theorem c15 (H : Nat → Tr AObj → Tr AObj) (t : Tr AObj) : f_chkR en15.v en15.n1 en15.m1 (runH H [] (.call en15.f en15.args (stOf en15.n0 en15.m0 t))) = true := by kernel_rfl
theorem c37 (H : Nat → Tr AObj → Tr AObj) (t : Tr AObj) : f_chkR en37.v en37.n1 en37.m1 (runH H [] (.call en37.f en37.args (stOf en37.n0 en37.m0 t))) = true := by kernel_rfl
theorem c7 (H : Nat → Tr AObj → Tr AObj) (t : Tr AObj) : f_chkR en7.v en7.n1 en7.m1 (runH H [] (.call en7.f en7.args (stOf en7.n0 en7.m0 t))) = true := by kernel_rfl
theorem c9 (H : Nat → Tr AObj → Tr AObj) (t : Tr AObj) : f_chkR en9.v en9.n1 en9.m1 (runH H [] (.call en9.f en9.args (stOf en9.n0 en9.m0 t))) = true := by kernel_rfl
theorem p1 (t : Tr AObj) : f_chkK 0 E1 34 M1 (run (.code 6 (cA loadC) (entry argL) (stOf 34 M0 t))) = true := by kernel_rfl
theorem p11 (H : Nat → Tr AObj → Tr AObj) (t : Tr AObj) : f_chkK 0 E11 7532 M11 (runH H [en14, en17] (.code 6 (cL (cK (cB (cA (cB (cB (cB (cB (cB (cB (cB loadC))))))))))) (prune 6 E10) (stOf 6045 M10 t))) = true := by kernel_rfl
theorem q2 : allN (fun i => cond (Nat.beq (Nat.mod i 2) 1) (f_chkW (ET2 i) 33 MT2 (f_ev (f_hkM text Tk) hdM 100000 (.code 3 (cA (cB (cB topC))) (ET1 i) (stOf 33 MT1 .leaf)))) true) 256 = true := by kernel_rfl
end Go.Proofs.YtfpmbneglnoojaaGreatDoor.Ab.B1
