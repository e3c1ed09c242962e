/- The run, n even, part 4, by the kernel. -/
import Derived.Test.YtfpmbneglnoojaaGreatDoorBg
import Derived.KernelRfl
set_option linter.all false
namespace Go.Proofs.YtfpmbneglnoojaaGreatDoor.Ab.B0
open Go Go.Proofs.YtfpmbneglnoojaaGreatDoor.Ab Go.Proofs.YtfpmbneglnoojaaGreatDoor.Ab.K
set_option maxRecDepth 10000000
set_option maxHeartbeats 0
theorem c13 (H : Nat → Tr AObj → Tr AObj) (t : Tr AObj) : f_chkR en13.v en13.n1 en13.m1 (runH H [en5, en6, en10, en12] (.call en13.f en13.args (stOf en13.n0 en13.m0 t))) = true := by kernel_rfl
theorem c29 (H : Nat → Tr AObj → Tr AObj) (t : Tr AObj) : f_chkR en29.v en29.n1 en29.m1 (runH H [] (.call en29.f en29.args (stOf en29.n0 en29.m0 t))) = true := by kernel_rfl
theorem c3 (H : Nat → Tr AObj → Tr AObj) (t : Tr AObj) : f_chkR en3.v en3.n1 en3.m1 (runH H [] (.call en3.f en3.args (stOf en3.n0 en3.m0 t))) = true := by kernel_rfl
theorem c33 (H : Nat → Tr AObj → Tr AObj) (t : Tr AObj) : f_chkR en33.v en33.n1 en33.m1 (runH H [en32] (.call en33.f en33.args (stOf en33.n0 en33.m0 t))) = true := by kernel_rfl
theorem p12 (H : Nat → Tr AObj → Tr AObj) (t : Tr AObj) : f_chkK 0 E12 10348 M12 (runH H [en18, en23] (.code 6 (cL (cK (cB (cA (cB (cB (cB (cB (cB (cB (cB loadC))))))))))) (prune 6 E11) (stOf 7532 M11 t))) = true := by kernel_rfl
theorem p14 (H : Nat → Tr AObj → Tr AObj) (t : Tr AObj) : f_chkK 0 E14 13309 M14 (runH H [en28] (.code 6 (cL (cK (cB (cA (cB (cB (cB (cB (cB (cB (cB loadC))))))))))) (prune 6 E13) (stOf 12407 M13 t))) = true := by kernel_rfl
theorem p3 (H : Nat → Tr AObj → Tr AObj) (t : Tr AObj) : f_chkK 0 E3 1073 M3 (runH H [en0] (.code 6 (cA (cB (cB loadC))) E2 (stOf 35 M2 t))) = true := by kernel_rfl
theorem q4 : allN (fun i => cond (Nat.beq (Nat.mod i 2) 0) (f_chkW (ET4 i) 33 MT4 (f_ev (f_hkM text Tk) hdM 100000 (.code 3 (cA (cB (cB (cB (cB topC))))) (ET3 i) (stOf 33 MT3 .leaf)))) true) 256 = true := by kernel_rfl
theorem q5 : allN (fun i => cond (Nat.beq (Nat.mod i 2) 0) (f_chkW (ET5 i) 33 MT5 (f_ev (f_hkM text Tk) hdM 100000 (.code 3 (cA (cB (cB (cB (cB (cB topC)))))) (ET4 i) (stOf 33 MT4 .leaf)))) true) 256 = true := by kernel_rfl
end Go.Proofs.YtfpmbneglnoojaaGreatDoor.Ab.B0
