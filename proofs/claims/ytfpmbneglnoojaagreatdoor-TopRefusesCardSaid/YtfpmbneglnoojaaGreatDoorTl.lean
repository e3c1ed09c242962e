/- The run, n odd, part 1: by the kernel. -/
import Derived.Test.YtfpmbneglnoojaaGreatDoorTg
import Derived.KernelRfl
set_option linter.all false
namespace Go.Proofs.YtfpmbneglnoojaaGreatDoor.Ab.K1
open Go Go.Proofs.YtfpmbneglnoojaaGreatDoor.Ab Go.Proofs.YtfpmbneglnoojaaGreatDoor.Ab.K
set_option maxRecDepth 10000000
set_option maxHeartbeats 0
theorem q0 : allN (fun i => f_chkK 0 (ET0 i) 33 MT0 (f_ev (f_hkM text Tk) hdM 100000 (.code 4 (cA topC) (entry [Y i]) (stOf 33 (exM h0) .leaf)))) 256 = true := by kernel_rfl
end Go.Proofs.YtfpmbneglnoojaaGreatDoor.Ab.K1
namespace Go.Proofs.YtfpmbneglnoojaaGreatDoor.Ab.K1
open Go Go.Proofs.YtfpmbneglnoojaaGreatDoor.Ab Go.Proofs.YtfpmbneglnoojaaGreatDoor.Ab.K
set_option maxRecDepth 10000000
set_option maxHeartbeats 0
theorem q1 : allN (fun i => f_chkK 0 (ET1 i) 33 MT1 (f_ev (f_hkM text Tk) hdM 100000 (.code 4 (cA (cB topC)) (ET0 i) (stOf 33 MT0 .leaf)))) 256 = true := by kernel_rfl
end Go.Proofs.YtfpmbneglnoojaaGreatDoor.Ab.K1
namespace Go.Proofs.YtfpmbneglnoojaaGreatDoor.Ab.K1
open Go Go.Proofs.YtfpmbneglnoojaaGreatDoor.Ab Go.Proofs.YtfpmbneglnoojaaGreatDoor.Ab.K
set_option maxRecDepth 10000000
set_option maxHeartbeats 0
theorem q2 : allN (fun i => f_chkK 0 (ET2 i) 34 MT2 (f_ev (f_hkM text Tk) hdM 100000 (.code 4 (cA (cB (cB topC))) (ET1 i) (stOf 33 MT1 .leaf)))) 256 = true := by kernel_rfl
end Go.Proofs.YtfpmbneglnoojaaGreatDoor.Ab.K1
namespace Go.Proofs.YtfpmbneglnoojaaGreatDoor.Ab.K1
open Go Go.Proofs.YtfpmbneglnoojaaGreatDoor.Ab Go.Proofs.YtfpmbneglnoojaaGreatDoor.Ab.K
set_option maxRecDepth 10000000
set_option maxHeartbeats 0
theorem q3 : allN (fun i => cond (Nat.beq (Nat.mod i 2) 1) (f_chkW EW 36 MT3 (f_ev (f_hkM text Tk) hdM 100000 (.code 4 (cA (cB (cB (cB topC)))) (ET2 i) (stOf 34 MT2 .leaf)))) true) 256 = true := by kernel_rfl
end Go.Proofs.YtfpmbneglnoojaaGreatDoor.Ab.K1
namespace Go.Proofs.YtfpmbneglnoojaaGreatDoor.Ab.K1
open Go Go.Proofs.YtfpmbneglnoojaaGreatDoor.Ab Go.Proofs.YtfpmbneglnoojaaGreatDoor.Ab.K
set_option maxRecDepth 10000000
set_option maxHeartbeats 0
theorem ps : f_scanT 102 (f_ev (f_hkS 33 34 Tk) noSpd 100000 (.code SCAN (bodyOf SCAN) (entry [.string text, .chan (some 33), .chan (some 34)]) { n := 35, h := Tr.set (.iter none 0 [] 0) 40 GK .leaf, d := [], rk := none })) = true := by kernel_rfl
end Go.Proofs.YtfpmbneglnoojaaGreatDoor.Ab.K1
namespace Go.Proofs.YtfpmbneglnoojaaGreatDoor.Ab.K1
open Go Go.Proofs.YtfpmbneglnoojaaGreatDoor.Ab Go.Proofs.YtfpmbneglnoojaaGreatDoor.Ab.K
set_option maxRecDepth 10000000
set_option maxHeartbeats 0
theorem p1 (t : Tr AObj) : f_chkK 0 E1 36 M1 (run (.code 6 (cA loadC) (entry argL) (stOf 36 M0 t))) = true := by kernel_rfl
end Go.Proofs.YtfpmbneglnoojaaGreatDoor.Ab.K1
namespace Go.Proofs.YtfpmbneglnoojaaGreatDoor.Ab.K1
open Go Go.Proofs.YtfpmbneglnoojaaGreatDoor.Ab Go.Proofs.YtfpmbneglnoojaaGreatDoor.Ab.K
set_option maxRecDepth 10000000
set_option maxHeartbeats 0
theorem p2 (t : Tr AObj) : f_chkK 0 E2 37 M2 (run (.code 6 (cA (cB loadC)) E1 (stOf 36 M1 t))) = true := by kernel_rfl
end Go.Proofs.YtfpmbneglnoojaaGreatDoor.Ab.K1
namespace Go.Proofs.YtfpmbneglnoojaaGreatDoor.Ab.K1
open Go Go.Proofs.YtfpmbneglnoojaaGreatDoor.Ab Go.Proofs.YtfpmbneglnoojaaGreatDoor.Ab.K
set_option maxRecDepth 10000000
set_option maxHeartbeats 0
theorem p3 (t : Tr AObj) : f_chkK 0 E3 631 M3 (run (.code 6 (cA (cB (cB loadC))) E2 (stOf 37 M2 t))) = true := by kernel_rfl
end Go.Proofs.YtfpmbneglnoojaaGreatDoor.Ab.K1
namespace Go.Proofs.YtfpmbneglnoojaaGreatDoor.Ab.K1
open Go Go.Proofs.YtfpmbneglnoojaaGreatDoor.Ab Go.Proofs.YtfpmbneglnoojaaGreatDoor.Ab.K
set_option maxRecDepth 10000000
set_option maxHeartbeats 0
theorem p4 (t : Tr AObj) : f_chkK 0 E4 631 M4 (run (.code 6 (cA (cB (cB (cB loadC)))) E3 (stOf 631 M3 t))) = true := by kernel_rfl
end Go.Proofs.YtfpmbneglnoojaaGreatDoor.Ab.K1
namespace Go.Proofs.YtfpmbneglnoojaaGreatDoor.Ab.K1
open Go Go.Proofs.YtfpmbneglnoojaaGreatDoor.Ab Go.Proofs.YtfpmbneglnoojaaGreatDoor.Ab.K
set_option maxRecDepth 10000000
set_option maxHeartbeats 0
theorem p5 (t : Tr AObj) : f_chkK 0 E5 632 M5 (run (.code 6 (cA (cB (cB (cB (cB loadC))))) E4 (stOf 631 M4 t))) = true := by kernel_rfl
end Go.Proofs.YtfpmbneglnoojaaGreatDoor.Ab.K1
namespace Go.Proofs.YtfpmbneglnoojaaGreatDoor.Ab.K1
open Go Go.Proofs.YtfpmbneglnoojaaGreatDoor.Ab Go.Proofs.YtfpmbneglnoojaaGreatDoor.Ab.K
set_option maxRecDepth 10000000
set_option maxHeartbeats 0
theorem p6 (t : Tr AObj) : f_chkK 0 E6 844 M6 (run (.code 6 (cA (cB (cB (cB (cB (cB loadC)))))) E5 (stOf 632 M5 t))) = true := by kernel_rfl
end Go.Proofs.YtfpmbneglnoojaaGreatDoor.Ab.K1
namespace Go.Proofs.YtfpmbneglnoojaaGreatDoor.Ab.K1
open Go Go.Proofs.YtfpmbneglnoojaaGreatDoor.Ab Go.Proofs.YtfpmbneglnoojaaGreatDoor.Ab.K
set_option maxRecDepth 10000000
set_option maxHeartbeats 0
theorem p7 (t : Tr AObj) : f_chkK 0 E7 844 M7 (run (.code 6 (cA (cB (cB (cB (cB (cB (cB loadC))))))) E6 (stOf 844 M6 t))) = true := by kernel_rfl
end Go.Proofs.YtfpmbneglnoojaaGreatDoor.Ab.K1
namespace Go.Proofs.YtfpmbneglnoojaaGreatDoor.Ab.K1
open Go Go.Proofs.YtfpmbneglnoojaaGreatDoor.Ab Go.Proofs.YtfpmbneglnoojaaGreatDoor.Ab.K
set_option maxRecDepth 10000000
set_option maxHeartbeats 0
theorem p8 (t : Tr AObj) : f_chkK 0 E8 844 M8 (run (.code 6 (cA (cA (cB (cB (cB (cB (cB (cB (cB loadC))))))))) E7 (stOf 844 M7 t))) = true := by kernel_rfl
end Go.Proofs.YtfpmbneglnoojaaGreatDoor.Ab.K1
