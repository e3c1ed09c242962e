/- The run, n odd, part 4: by the kernel. -/
import Derived.Test.YtfpmbneglnoojaaGreatDoorTg
import Derived.KernelRfl
set_option linter.all false
namespace Go.Proofs.YtfpmbneglnoojaaGreatDoor.Ab.K1
open Go Go.Proofs.YtfpmbneglnoojaaGreatDoor.Ab Go.Proofs.YtfpmbneglnoojaaGreatDoor.Ab.K
set_option maxRecDepth 10000000
set_option maxHeartbeats 0
theorem p15 (t : Tr AObj) : f_chkK 0 E15 5238 M15 (run (.code 6 (cL (cK (cB (cA (cB (cB (cB (cB (cB (cB (cB loadC))))))))))) (prune 6 E14) (stOf 5089 M14 t))) = true := by kernel_rfl
end Go.Proofs.YtfpmbneglnoojaaGreatDoor.Ab.K1
namespace Go.Proofs.YtfpmbneglnoojaaGreatDoor.Ab.K1
open Go Go.Proofs.YtfpmbneglnoojaaGreatDoor.Ab Go.Proofs.YtfpmbneglnoojaaGreatDoor.Ab.K
set_option maxRecDepth 10000000
set_option maxHeartbeats 0
theorem p16 (t : Tr AObj) : f_chkK 0 E16 5910 M16 (run (.code 6 (cL (cK (cB (cA (cB (cB (cB (cB (cB (cB (cB loadC))))))))))) (prune 6 E15) (stOf 5238 M15 t))) = true := by kernel_rfl
end Go.Proofs.YtfpmbneglnoojaaGreatDoor.Ab.K1
namespace Go.Proofs.YtfpmbneglnoojaaGreatDoor.Ab.K1
open Go Go.Proofs.YtfpmbneglnoojaaGreatDoor.Ab Go.Proofs.YtfpmbneglnoojaaGreatDoor.Ab.K
set_option maxRecDepth 10000000
set_option maxHeartbeats 0
theorem p17 (t : Tr AObj) : f_chkK 0 E17 6116 M17 (run (.code 6 (cL (cK (cB (cA (cB (cB (cB (cB (cB (cB (cB loadC))))))))))) (prune 6 E16) (stOf 5910 M16 t))) = true := by kernel_rfl
end Go.Proofs.YtfpmbneglnoojaaGreatDoor.Ab.K1
namespace Go.Proofs.YtfpmbneglnoojaaGreatDoor.Ab.K1
open Go Go.Proofs.YtfpmbneglnoojaaGreatDoor.Ab Go.Proofs.YtfpmbneglnoojaaGreatDoor.Ab.K
set_option maxRecDepth 10000000
set_option maxHeartbeats 0
theorem p18 (t : Tr AObj) : f_chkK 0 E18 6313 M18 (run (.code 6 (cL (cK (cB (cA (cB (cB (cB (cB (cB (cB (cB loadC))))))))))) (prune 6 E17) (stOf 6116 M17 t))) = true := by kernel_rfl
end Go.Proofs.YtfpmbneglnoojaaGreatDoor.Ab.K1
namespace Go.Proofs.YtfpmbneglnoojaaGreatDoor.Ab.K1
open Go Go.Proofs.YtfpmbneglnoojaaGreatDoor.Ab Go.Proofs.YtfpmbneglnoojaaGreatDoor.Ab.K
set_option maxRecDepth 10000000
set_option maxHeartbeats 0
theorem p19 (t : Tr AObj) : f_chkK 0 E19 6589 M19 (run (.code 6 (cL (cK (cB (cA (cB (cB (cB (cB (cB (cB (cB loadC))))))))))) (prune 6 E18) (stOf 6313 M18 t))) = true := by kernel_rfl
end Go.Proofs.YtfpmbneglnoojaaGreatDoor.Ab.K1
namespace Go.Proofs.YtfpmbneglnoojaaGreatDoor.Ab.K1
open Go Go.Proofs.YtfpmbneglnoojaaGreatDoor.Ab Go.Proofs.YtfpmbneglnoojaaGreatDoor.Ab.K
set_option maxRecDepth 10000000
set_option maxHeartbeats 0
theorem p20 (t : Tr AObj) : f_chkK 2 E20 6589 M20 (run (.code 6 (cL (cK (cB (cA (cB (cB (cB (cB (cB (cB (cB loadC))))))))))) (prune 6 E19) (stOf 6589 M19 t))) = true := by kernel_rfl
end Go.Proofs.YtfpmbneglnoojaaGreatDoor.Ab.K1
namespace Go.Proofs.YtfpmbneglnoojaaGreatDoor.Ab.K1
open Go Go.Proofs.YtfpmbneglnoojaaGreatDoor.Ab Go.Proofs.YtfpmbneglnoojaaGreatDoor.Ab.K
set_option maxRecDepth 10000000
set_option maxHeartbeats 0
theorem p21 (t : Tr AObj) : f_chkK 1 E21 6589 M21 (run (.code 6 (cB (cB (cB (cB (cB (cB (cB (cB loadC)))))))) E20 (stOf 6589 M20 t))) = true := by kernel_rfl
end Go.Proofs.YtfpmbneglnoojaaGreatDoor.Ab.K1
namespace Go.Proofs.YtfpmbneglnoojaaGreatDoor.Ab.K1
open Go Go.Proofs.YtfpmbneglnoojaaGreatDoor.Ab Go.Proofs.YtfpmbneglnoojaaGreatDoor.Ab.K
set_option maxRecDepth 10000000
set_option maxHeartbeats 0
theorem p98 (t : Tr AObj) : f_chkR V 6589 M98 (run (.unwind loadF E21 [] none (stOf 6589 M21 t))) = true := by kernel_rfl
end Go.Proofs.YtfpmbneglnoojaaGreatDoor.Ab.K1
namespace Go.Proofs.YtfpmbneglnoojaaGreatDoor.Ab.K1
open Go Go.Proofs.YtfpmbneglnoojaaGreatDoor.Ab Go.Proofs.YtfpmbneglnoojaaGreatDoor.Ab.K
set_option maxRecDepth 10000000
set_option maxHeartbeats 0
theorem p99 (H : Tr AObj → Tr AObj) : f_chkK 1 E99 6589 M99 (f_evT (tabL 6 argL 36 M0 V 6589 (fun t => ske M98 (H t))) (f_hkM text Tk) hdM 100000 (.code 4 (cB (cB (cB (cB topC)))) EW (stOf 36 MT3 .leaf))) = true := by kernel_rfl
end Go.Proofs.YtfpmbneglnoojaaGreatDoor.Ab.K1
