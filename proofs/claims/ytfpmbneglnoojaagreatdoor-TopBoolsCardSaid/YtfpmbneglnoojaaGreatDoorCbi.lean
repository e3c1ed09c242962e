/- The run, n odd, part 9, by the kernel. -/
import Derived.Test.YtfpmbneglnoojaaGreatDoorBh
import Derived.KernelRfl
set_option linter.all false
namespace Go.Proofs.YtfpmbneglnoojaaGreatDoor.Ab.B1
open Go Go.Proofs.YtfpmbneglnoojaaGreatDoor.Ab Go.Proofs.YtfpmbneglnoojaaGreatDoor.Ab.K
set_option maxRecDepth 10000000
set_option maxHeartbeats 0
theorem c1 (H : Nat → Tr AObj → Tr AObj) (t : Tr AObj) : f_chkR en1.v en1.n1 en1.m1 (runH H [] (.call en1.f en1.args (stOf en1.n0 en1.m0 t))) = true := by kernel_rfl
theorem c19 (H : Nat → Tr AObj → Tr AObj) (t : Tr AObj) : f_chkR en19.v en19.n1 en19.m1 (runH H [] (.call en19.f en19.args (stOf en19.n0 en19.m0 t))) = true := by kernel_rfl
theorem c22 (H : Nat → Tr AObj → Tr AObj) (t : Tr AObj) : f_chkR en22.v en22.n1 en22.m1 (runH H [] (.call en22.f en22.args (stOf en22.n0 en22.m0 t))) = true := by kernel_rfl
theorem c40 (H : Nat → Tr AObj → Tr AObj) (t : Tr AObj) : f_chkR en40.v en40.n1 en40.m1 (runH H [] (.call en40.f en40.args (stOf en40.n0 en40.m0 t))) = true := by kernel_rfl
theorem c41 (H : Nat → Tr AObj → Tr AObj) (t : Tr AObj) : f_chkR en41.v en41.n1 en41.m1 (runH H [en39, en40] (.call en41.f en41.args (stOf en41.n0 en41.m0 t))) = true := by kernel_rfl
theorem c42 (H : Nat → Tr AObj → Tr AObj) (t : Tr AObj) : f_chkR en42.v en42.n1 en42.m1 (runH H [] (.call en42.f en42.args (stOf en42.n0 en42.m0 t))) = true := by kernel_rfl
theorem p12 (H : Nat → Tr AObj → Tr AObj) (t : Tr AObj) : f_chkK 0 E12 10348 M12 (runH H [en18, en23] (.code 6 (cL (cK (cB (cA (cB (cB (cB (cB (cB (cB (cB loadC))))))))))) (prune 6 E11) (stOf 7532 M11 t))) = true := by kernel_rfl
theorem q0 : allN (fun i => cond (Nat.beq (Nat.mod i 2) 1) (f_chkW (ET0 i) 33 MT0 (f_ev (f_hkM text Tk) hdM 100000 (.code 3 (cA topC) (entry [Y i]) (stOf 33 (exM h0) .leaf)))) true) 256 = true := by kernel_rfl
end Go.Proofs.YtfpmbneglnoojaaGreatDoor.Ab.B1
