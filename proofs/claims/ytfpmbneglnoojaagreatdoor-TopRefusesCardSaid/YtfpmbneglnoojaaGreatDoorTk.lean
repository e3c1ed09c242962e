/- The run, n even, part 4: by the kernel. -/
import Derived.Test.YtfpmbneglnoojaaGreatDoorTg
import Derived.KernelRfl
set_option linter.all false
namespace Go.Proofs.YtfpmbneglnoojaaGreatDoor.Ab.K0
open Go Go.Proofs.YtfpmbneglnoojaaGreatDoor.Ab Go.Proofs.YtfpmbneglnoojaaGreatDoor.Ab.K
set_option maxRecDepth 10000000
set_option maxHeartbeats 0
theorem p15 (t : Tr AObj) : f_chkK 0 E15 5127 M15 (run (.code 6 (cL (cK (cB (cA (cB (cB (cB (cB (cB (cB (cB loadC))))))))))) (prune 6 E14) (stOf 4978 M14 t))) = true := by kernel_rfl
end Go.Proofs.YtfpmbneglnoojaaGreatDoor.Ab.K0
namespace Go.Proofs.YtfpmbneglnoojaaGreatDoor.Ab.K0
open Go Go.Proofs.YtfpmbneglnoojaaGreatDoor.Ab Go.Proofs.YtfpmbneglnoojaaGreatDoor.Ab.K
set_option maxRecDepth 10000000
set_option maxHeartbeats 0
theorem p16 (t : Tr AObj) : f_chkK 0 E16 5799 M16 (run (.code 6 (cL (cK (cB (cA (cB (cB (cB (cB (cB (cB (cB loadC))))))))))) (prune 6 E15) (stOf 5127 M15 t))) = true := by kernel_rfl
end Go.Proofs.YtfpmbneglnoojaaGreatDoor.Ab.K0
namespace Go.Proofs.YtfpmbneglnoojaaGreatDoor.Ab.K0
open Go Go.Proofs.YtfpmbneglnoojaaGreatDoor.Ab Go.Proofs.YtfpmbneglnoojaaGreatDoor.Ab.K
set_option maxRecDepth 10000000
set_option maxHeartbeats 0
theorem p17 (t : Tr AObj) : f_chkK 0 E17 6005 M17 (run (.code 6 (cL (cK (cB (cA (cB (cB (cB (cB (cB (cB (cB loadC))))))))))) (prune 6 E16) (stOf 5799 M16 t))) = true := by kernel_rfl
end Go.Proofs.YtfpmbneglnoojaaGreatDoor.Ab.K0
namespace Go.Proofs.YtfpmbneglnoojaaGreatDoor.Ab.K0
open Go Go.Proofs.YtfpmbneglnoojaaGreatDoor.Ab Go.Proofs.YtfpmbneglnoojaaGreatDoor.Ab.K
set_option maxRecDepth 10000000
set_option maxHeartbeats 0
theorem p18 (t : Tr AObj) : f_chkK 2 E18 6005 M18 (run (.code 6 (cL (cK (cB (cA (cB (cB (cB (cB (cB (cB (cB loadC))))))))))) (prune 6 E17) (stOf 6005 M17 t))) = true := by kernel_rfl
end Go.Proofs.YtfpmbneglnoojaaGreatDoor.Ab.K0
namespace Go.Proofs.YtfpmbneglnoojaaGreatDoor.Ab.K0
open Go Go.Proofs.YtfpmbneglnoojaaGreatDoor.Ab Go.Proofs.YtfpmbneglnoojaaGreatDoor.Ab.K
set_option maxRecDepth 10000000
set_option maxHeartbeats 0
theorem p19 (t : Tr AObj) : f_chkK 1 E19 6005 M19 (run (.code 6 (cB (cB (cB (cB (cB (cB (cB (cB loadC)))))))) E18 (stOf 6005 M18 t))) = true := by kernel_rfl
end Go.Proofs.YtfpmbneglnoojaaGreatDoor.Ab.K0
namespace Go.Proofs.YtfpmbneglnoojaaGreatDoor.Ab.K0
open Go Go.Proofs.YtfpmbneglnoojaaGreatDoor.Ab Go.Proofs.YtfpmbneglnoojaaGreatDoor.Ab.K
set_option maxRecDepth 10000000
set_option maxHeartbeats 0
theorem p98 (t : Tr AObj) : f_chkR V 6005 M98 (run (.unwind loadF E19 [] none (stOf 6005 M19 t))) = true := by kernel_rfl
end Go.Proofs.YtfpmbneglnoojaaGreatDoor.Ab.K0
namespace Go.Proofs.YtfpmbneglnoojaaGreatDoor.Ab.K0
open Go Go.Proofs.YtfpmbneglnoojaaGreatDoor.Ab Go.Proofs.YtfpmbneglnoojaaGreatDoor.Ab.K
set_option maxRecDepth 10000000
set_option maxHeartbeats 0
theorem p99 (H : Tr AObj → Tr AObj) : f_chkK 1 E99 6005 M99 (f_evT (tabL 6 argL 34 M0 V 6005 (fun t => ske M98 (H t))) (f_hkM text Tk) hdM 100000 (.code 4 (cB (cB (cB (cB topC)))) EW (stOf 34 MT3 .leaf))) = true := by kernel_rfl
end Go.Proofs.YtfpmbneglnoojaaGreatDoor.Ab.K0
