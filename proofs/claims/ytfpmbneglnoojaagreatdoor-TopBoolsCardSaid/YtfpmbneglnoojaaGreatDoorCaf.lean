/- The run, n even, part 6, by the kernel. -/
import Derived.Test.YtfpmbneglnoojaaGreatDoorBg
import Derived.KernelRfl
set_option linter.all false
namespace Go.Proofs.YtfpmbneglnoojaaGreatDoor.Ab.B0
open Go Go.Proofs.YtfpmbneglnoojaaGreatDoor.Ab Go.Proofs.YtfpmbneglnoojaaGreatDoor.Ab.K
set_option maxRecDepth 10000000
set_option maxHeartbeats 0
theorem c0 (H : Nat → Tr AObj → Tr AObj) (t : Tr AObj) : f_chkR en0.v en0.n1 en0.m1 (runH H [] (.call en0.f en0.args (stOf en0.n0 en0.m0 t))) = true := by kernel_rfl
theorem c15 (H : Nat → Tr AObj → Tr AObj) (t : Tr AObj) : f_chkR en15.v en15.n1 en15.m1 (runH H [] (.call en15.f en15.args (stOf en15.n0 en15.m0 t))) = true := by kernel_rfl
theorem c2 (H : Nat → Tr AObj → Tr AObj) (t : Tr AObj) : f_chkR en2.v en2.n1 en2.m1 (runH H [] (.call en2.f en2.args (stOf en2.n0 en2.m0 t))) = true := by kernel_rfl
theorem c35 (H : Nat → Tr AObj → Tr AObj) (t : Tr AObj) : f_chkR en35.v en35.n1 en35.m1 (runH H [] (.call en35.f en35.args (stOf en35.n0 en35.m0 t))) = true := by kernel_rfl
theorem c7 (H : Nat → Tr AObj → Tr AObj) (t : Tr AObj) : f_chkR en7.v en7.n1 en7.m1 (runH H [] (.call en7.f en7.args (stOf en7.n0 en7.m0 t))) = true := by kernel_rfl
theorem c9 (H : Nat → Tr AObj → Tr AObj) (t : Tr AObj) : f_chkR en9.v en9.n1 en9.m1 (runH H [] (.call en9.f en9.args (stOf en9.n0 en9.m0 t))) = true := by kernel_rfl
theorem p8 (t : Tr AObj) : f_chkK 0 E8 1391 M8 (run (.code 6 (cA (cA (cB (cB (cB (cB (cB (cB (cB loadC))))))))) E7 (stOf 1391 M7 t))) = true := by kernel_rfl
theorem q0 : allN (fun i => cond (Nat.beq (Nat.mod i 2) 0) (f_chkW (ET0 i) 33 MT0 (f_ev (f_hkM text Tk) hdM 100000 (.code 3 (cA topC) (entry [Y i]) (stOf 33 (exM h0) .leaf)))) true) 256 = true := by kernel_rfl
end Go.Proofs.YtfpmbneglnoojaaGreatDoor.Ab.B0
