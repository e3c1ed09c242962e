/- The run, n odd, part 8, by the kernel. -/
import Derived.Test.YtfpmbneglnoojaaGreatDoorBh
import Derived.KernelRfl
set_option linter.all false
namespace Go.Proofs.YtfpmbneglnoojaaGreatDoor.Ab.B1
open Go Go.Proofs.YtfpmbneglnoojaaGreatDoor.Ab Go.Proofs.YtfpmbneglnoojaaGreatDoor.Ab.K
set_option maxRecDepth 10000000
set_option maxHeartbeats 0
theorem c11 (H : Nat → Tr AObj → Tr AObj) (t : Tr AObj) : f_chkR en11.v en11.n1 en11.m1 (runH H [] (.call en11.f en11.args (stOf en11.n0 en11.m0 t))) = true := by kernel_rfl
theorem c12 (H : Nat → Tr AObj → Tr AObj) (t : Tr AObj) : f_chkR en12.v en12.n1 en12.m1 (runH H [en11] (.call en12.f en12.args (stOf en12.n0 en12.m0 t))) = true := by kernel_rfl
theorem c17 (H : Nat → Tr AObj → Tr AObj) (t : Tr AObj) : f_chkR en17.v en17.n1 en17.m1 (runH H [en15, en16] (.call en17.f en17.args (stOf en17.n0 en17.m0 t))) = true := by kernel_rfl
theorem c21 (H : Nat → Tr AObj → Tr AObj) (t : Tr AObj) : f_chkR en21.v en21.n1 en21.m1 (runH H [] (.call en21.f en21.args (stOf en21.n0 en21.m0 t))) = true := by kernel_rfl
theorem c32 (H : Nat → Tr AObj → Tr AObj) (t : Tr AObj) : f_chkR en32.v en32.n1 en32.m1 (runH H [] (.call en32.f en32.args (stOf en32.n0 en32.m0 t))) = true := by kernel_rfl
theorem p5 (t : Tr AObj) : f_chkK 0 E5 1074 M5 (run (.code 6 (cA (cB (cB (cB (cB loadC))))) E4 (stOf 1073 M4 t))) = true := by kernel_rfl
theorem p7 (t : Tr AObj) : f_chkK 0 E7 1391 M7 (run (.code 6 (cA (cB (cB (cB (cB (cB (cB loadC))))))) E6 (stOf 1391 M6 t))) = true := by kernel_rfl
theorem q4 : allN (fun i => cond (Nat.beq (Nat.mod i 2) 1) (f_chkW (ET4 i) 33 MT4 (f_ev (f_hkM text Tk) hdM 100000 (.code 3 (cA (cB (cB (cB (cB topC))))) (ET3 i) (stOf 33 MT3 .leaf)))) true) 256 = true := by kernel_rfl
end Go.Proofs.YtfpmbneglnoojaaGreatDoor.Ab.B1
