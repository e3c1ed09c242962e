/- The run, n even, part 8, by the kernel. -/
import Derived.Test.YtfpmbneglnoojaaGreatDoorBg
import Derived.KernelRfl
set_option linter.all false
namespace Go.Proofs.YtfpmbneglnoojaaGreatDoor.Ab.B0
open Go Go.Proofs.YtfpmbneglnoojaaGreatDoor.Ab Go.Proofs.YtfpmbneglnoojaaGreatDoor.Ab.K
set_option maxRecDepth 10000000
set_option maxHeartbeats 0
theorem c11 (H : Nat → Tr AObj → Tr AObj) (t : Tr AObj) : f_chkR en11.v en11.n1 en11.m1 (runH H [] (.call en11.f en11.args (stOf en11.n0 en11.m0 t))) = true := by kernel_rfl
theorem c12 (H : Nat → Tr AObj → Tr AObj) (t : Tr AObj) : f_chkR en12.v en12.n1 en12.m1 (runH H [en11] (.call en12.f en12.args (stOf en12.n0 en12.m0 t))) = true := by kernel_rfl
theorem c17 (H : Nat → Tr AObj → Tr AObj) (t : Tr AObj) : f_chkR en17.v en17.n1 en17.m1 (runH H [en15, en16] (.call en17.f en17.args (stOf en17.n0 en17.m0 t))) = true := by kernel_rfl
theorem c21 (H : Nat → Tr AObj → Tr AObj) (t : Tr AObj) : f_chkR en21.v en21.n1 en21.m1 (runH H [] (.call en21.f en21.args (stOf en21.n0 en21.m0 t))) = true := by kernel_rfl
theorem c32 (H : Nat → Tr AObj → Tr AObj) (t : Tr AObj) : f_chkR en32.v en32.n1 en32.m1 (runH H [] (.call en32.f en32.args (stOf en32.n0 en32.m0 t))) = true := by kernel_rfl
theorem p10 (H : Nat → Tr AObj → Tr AObj) (t : Tr AObj) : f_chkK 0 E10 6045 M10 (runH H [en1, en2, en3, en4, en13] (.code 6 (cL (cK (cB (cA (cB (cB (cB (cB (cB (cB (cB loadC))))))))))) (prune 6 E9) (stOf 1719 M9 t))) = true := by kernel_rfl
theorem p2 (t : Tr AObj) : f_chkK 0 E2 35 M2 (run (.code 6 (cA (cB loadC)) E1 (stOf 34 M1 t))) = true := by kernel_rfl
theorem q1 : allN (fun i => cond (Nat.beq (Nat.mod i 2) 0) (f_chkW (ET1 i) 33 MT1 (f_ev (f_hkM text Tk) hdM 100000 (.code 3 (cA (cB topC)) (ET0 i) (stOf 33 MT0 .leaf)))) true) 256 = true := by kernel_rfl
end Go.Proofs.YtfpmbneglnoojaaGreatDoor.Ab.B0
