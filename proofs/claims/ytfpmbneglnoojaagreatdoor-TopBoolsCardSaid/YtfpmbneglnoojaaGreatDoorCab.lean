/- The run, n even, part 2, by the kernel. -/
import Derived.Test.YtfpmbneglnoojaaGreatDoorBg
import Derived.KernelRfl
set_option linter.all false
namespace Go.Proofs.YtfpmbneglnoojaaGreatDoor.Ab.B0
open Go Go.Proofs.YtfpmbneglnoojaaGreatDoor.Ab Go.Proofs.YtfpmbneglnoojaaGreatDoor.Ab.K
set_option maxRecDepth 10000000
set_option maxHeartbeats 0
theorem c24 (H : Nat → Tr AObj → Tr AObj) (t : Tr AObj) : f_chkR en24.v en24.n1 en24.m1 (runH H [] (.call en24.f en24.args (stOf en24.n0 en24.m0 t))) = true := by kernel_rfl
theorem c26 (H : Nat → Tr AObj → Tr AObj) (t : Tr AObj) : f_chkR en26.v en26.n1 en26.m1 (runH H [] (.call en26.f en26.args (stOf en26.n0 en26.m0 t))) = true := by kernel_rfl
theorem c27 (H : Nat → Tr AObj → Tr AObj) (t : Tr AObj) : f_chkR en27.v en27.n1 en27.m1 (runH H [en25, en26] (.call en27.f en27.args (stOf en27.n0 en27.m0 t))) = true := by kernel_rfl
theorem c34 (H : Nat → Tr AObj → Tr AObj) (t : Tr AObj) : f_chkR en34.v en34.n1 en34.m1 (runH H [] (.call en34.f en34.args (stOf en34.n0 en34.m0 t))) = true := by kernel_rfl
theorem c8 (H : Nat → Tr AObj → Tr AObj) (t : Tr AObj) : f_chkR en8.v en8.n1 en8.m1 (runH H [] (.call en8.f en8.args (stOf en8.n0 en8.m0 t))) = true := by kernel_rfl
theorem p1 (t : Tr AObj) : f_chkK 0 E1 34 M1 (run (.code 6 (cA loadC) (entry argL) (stOf 34 M0 t))) = true := by kernel_rfl
theorem p11 (H : Nat → Tr AObj → Tr AObj) (t : Tr AObj) : f_chkK 0 E11 7532 M11 (runH H [en14, en17] (.code 6 (cL (cK (cB (cA (cB (cB (cB (cB (cB (cB (cB loadC))))))))))) (prune 6 E10) (stOf 6045 M10 t))) = true := by kernel_rfl
theorem q3 : allN (fun i => cond (Nat.beq (Nat.mod i 2) 0) (f_chkW (ET3 i) 33 MT3 (f_ev (f_hkM text Tk) hdM 100000 (.code 3 (cA (cB (cB (cB topC)))) (ET2 i) (stOf 33 MT2 .leaf)))) true) 256 = true := by kernel_rfl
end Go.Proofs.YtfpmbneglnoojaaGreatDoor.Ab.B0
