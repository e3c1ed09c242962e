import Derived.Test.YtpfmnpaifchleaaGreatDoorYmg
import Derived.Test.YtpfmnpaifchleaaGreatDoorCards
import Derived.Test.YtpfmnpaifchleaaGreatDoorTie
import Derived.ProofKit
import Derived.OpenShut
import Derived.ReadAgain
import Derived.Deep.DeepHandedRow
import Derived.Deep.Slices
import Derived.Lib.LaidTab
namespace Go.Proofs.YtpfmnpaifchleaaGreatDoor
open Go Go.RowKit
set_option linter.unusedSimpArgs false
set_option linter.unusedVariables false
set_option maxRecDepth 100000
set_option maxHeartbeats 1000000
theorem replace_calls (w0 : World) (Z : Nat → Prop) (hZ : ∀ k, Z k → k < w0.heap.size) (tA : Option Addr) (tc : Nat) (t : List Nd) (i : Nat) (j : Nat) (vA : Option Addr) (vc : Nat) (v : List Nd) (ht : (Res.row tA (t).length tc 30 4 (encNs t)).holds w0) (htz : ∀ k, rM tA k → ¬ Z k) (hv : (dRow 4 vA v.length vc (encNs v)).φ w0 Z) (hl : t.length ≤ 1000000 := by first | assumption | omega | (simp <;> omega)) (hij : i < j := by first | assumption | omega | (simp <;> omega)) (hj : j ≤ t.length := by first | assumption | omega | (simp <;> omega)) (hvl : v.length = 1 := by first | assumption | omega | (simp <;> omega)) :
    Calls Tryz.prog 55 [.slice tA t.length tc, .int .i64 ((i : Nat) : Int), .int .i64 ((j : Nat) : Int), .slice vA v.length vc].toArray w0 (fun e w' => e = .returned (.slice tA (t.take i ++ v ++ t.drop j).length tc) ∧ Fr (rM tA) w0 w' ∧ (Res.row tA (t.take i ++ v ++ t.drop j).length tc 30 4 (encNs (t.take i ++ v ++ t.drop j))).holds w') := by
 have hstart : ∀ k, Z k → imm Z w0 [.row tA ((t).length) tc 30 4 (encNs t)] w0 k ∧ w0.heap[k]? = w0.heap[k]? := fun k hk => imm_startR hZ htz hk
 have b0 : St w0 Z (rM tA) w0 [.row tA ((t).length) tc 30 4 (encNs t)] [dRow 4 vA v.length vc (encNs v)] := St.startR w0 Z _ _ _ _ _ _ _ ht (by
  intro d hd
  simp only [List.mem_cons, List.not_mem_nil, or_false] at hd
  rcases hd with rfl
  · exact Dat.mono _ _ _ _ _ (Nat.le_refl _) hv hstart
  )
 refine c_enter Tryz.func55 rfl Tryz.ntmps55 rfl fun c0 d0 => ?_
 refine wsc fun c0 f0 => aw d0 f0 fun c0 h0 => ?_
 refine wsc fun f0 c0 => lR h0 fun f0 d0 => ?_
 have f0 := own_cap (b0.res (i := 0) rfl)
 refine m_sliceV (lo := some (.tmp 16)) (hi := some (.tmp 17)) (vlo := (some (.int .i64 ((i : Nat) : Int)))) (vhi := (some (.int .i64 ((j : Nat) : Int)))) (kd := .i64) (kd' := .i64) sv d0 rfl rfl rfl rfl rfl (i) ((j) - (i)) (.inl (by rfl)) (.inl (by congr 2; omega)) Tryz.underlying22 sz30 (by omega) (by decide) fun f0 h0 i0 j0 k0 m0 => ?_
 refine wn c0 <| wp_seq_k fun c0 k0 => wsc fun c0 j0 => lR m0 fun c0 i0 => ?_
 refine wn j0 ?_
 rcases Decidable.em (((i : Nat) : Int) = ((j : Nat) : Int)) with j0 | j0
 ·
  exfalso; omega
 refine wcf i0 (decide_eq_false j0) fun c0 => ?_
 refine wp_skip <| xn k0 <| wp_seq_k fun k0 j0 => wsc fun k0 i0 => lR c0 fun k0 m0 => ?_
 refine wn i0 ?_
 rcases Decidable.em (((j : Nat) : Int) = ((t.length : Nat) : Int)) with i0 | i0
 ·
  refine wct m0 (decide_eq_true i0) fun k0 => ?_
  refine wsc fun c0 h0 => lR k0 fun c0 f0 => ?_
  have c0 := own_cap (b0.res (i := 0) rfl)
  refine m_sliceP (q := i) sv f0 rfl rfl rfl rfl (by omega) Tryz.underlying22 sz30 (by omega) (by decide) fun c0 k0 => ?_
  refine mv k0 fun c0 f0 => ?_
  refine m_appendFit (f := encN) (i := 0) (L := t) (K := v) sv f0 b0 rfl rfl rfl rfl rfl (by omega) (by omega) Tryz.underlying22 sz30 encN_len (one1 (f := encN) encN_one) (by rfl) (b0.row (i := 0) rfl).2.news _ rfl (by decide) fun c0 k0 d0 n0 => ?_
  have k0 : (t.take (i) ++ v ++ t.drop (i + v.length)).length = (t).length := by simp only [List.length_append, List.length_take, List.length_drop]; omega
  refine aw d0 h0 fun k0 c0 => ?_
  refine wp_seq_k fun h0 k0 => wsc fun h0 d0 => lR c0 fun h0 f0 => ?_
  refine wn d0 ?_
  rcases Decidable.em (((i + v.length : Nat) : Int) < ((t.length : Nat) : Int)) with d0 | d0
  ·
   refine wct f0 (decide_eq_true d0) fun h0 => ?_
   refine c_region ?_
   refine lR h0 fun c0 o0 => ?_
   have c0 := own_cap (n0.res (i := 0) rfl)
   refine m_sliceV (lo := some (.tmp 42)) (hi := none) (vlo := (some (.int .i64 ((i + v.length : Nat) : Int)))) (vhi := none) (kd := .i64) (kd' := .i64) sv o0 rfl rfl rfl rfl rfl (i + v.length) ((t.length) - (i + v.length)) (.inl (by rfl)) (.inr ⟨rfl, by omega⟩) Tryz.underlying22 sz30 (by omega) (by decide) fun c0 h0 p0 q0 s0 t0 => ?_
   refine m_clear (f := encN) (i := 0) (L := (t.take (i) ++ v ++ t.drop (i + v.length))) (k := (i + v.length)) (z0 := (⟨0, 0, 0, (⟨#[]⟩ : ByteArray)⟩ : Nd)) sv t0 n0 rfl rfl rfl rfl s0 (by omega) Tryz.underlying22 zi30 encN_len (one1 (f := encN) encN_one) rfl _ rfl fun q0 p0 h0 c0 => ?_
   have p0 : ((t.take (i) ++ v ++ t.drop (i + v.length)).take (i + v.length) ++ List.replicate ((t.length) - (i + v.length)) (⟨0, 0, 0, (⟨#[]⟩ : ByteArray)⟩ : Nd) ++ (t.take (i) ++ v ++ t.drop (i + v.length)).drop ((i + v.length) + ((t.length) - (i + v.length))) : List Nd).length = (t.take (i) ++ v ++ t.drop (i + v.length)).length := by simp only [List.length_append, List.length_take, List.length_drop, List.length_replicate]; omega
   refine wn k0 <| wsc fun p0 q0 => lR h0 fun p0 t0 => ?_
   refine wn q0 <| wp_ret <| x_then_r <| er1 t0 ?_
   have t0 := c0.trim encN_len (i := 0) (L := ((t.take (i) ++ v ++ t.drop (i + v.length)).take (i + v.length) ++ List.replicate ((t.length) - (i + v.length)) (⟨0, 0, 0, (⟨#[]⟩ : ByteArray)⟩ : Nd) ++ (t.take (i) ++ v ++ t.drop (i + v.length)).drop ((i + v.length) + ((t.length) - (i + v.length))))) rfl (i + v.length) (by omega)
   have c0 : ((t.take (i) ++ v ++ t.drop (i + v.length)).take (i + v.length) ++ List.replicate ((t.length) - (i + v.length)) (⟨0, 0, 0, (⟨#[]⟩ : ByteArray)⟩ : Nd) ++ (t.take (i) ++ v ++ t.drop (i + v.length)).drop ((i + v.length) + ((t.length) - (i + v.length)))).take (i + v.length) = t.take i ++ v ++ t.drop j := by exact rep_end2 (by omega) (by omega) rfl (List.append_assoc _ _ _)
   have q0 := t0
   rw [c0] at q0
   refine ⟨?_, q0.fr, q0.res (i := 0) rfl⟩
   exact cre (ret_s (by (rw [← c0]; simp; omega)))
  refine wcf f0 (decide_eq_false d0) fun c0 => ?_
  refine wp_skip <| xn k0 <| wsc fun k0 d0 => lR c0 fun k0 f0 => ?_
  refine wn d0 <| wp_ret <| x_then_r <| er1 f0 ?_
  have f0 := n0.trim encN_len (i := 0) (L := (t.take (i) ++ v ++ t.drop (i + v.length))) rfl (i + v.length) (by omega)
  have n0 : (t.take (i) ++ v ++ t.drop (i + v.length)).take (i + v.length) = t.take i ++ v ++ t.drop j := by exact rep_end (by omega) (by omega) rfl
  have d0 := f0
  rw [n0] at d0
  refine ⟨?_, d0.fr, d0.res (i := 0) rfl⟩
  exact cre (ret_s (by (rw [← n0]; simp; omega)))
 refine wcf m0 (decide_eq_false i0) fun n0 => ?_
 refine wp_skip <| xn j0 <| wp_seq_k fun j0 i0 => ?_
 obtain ⟨j0, m0, d0⟩ := b0.agree
 refine d_reg3 (n := 13) d0 1 pn (pan_then pan_body) fun m0 j0 b0 f0 k0 c0 => ?_
 refine dR [0, 1] n0 fun f0 m0 => ?_
 refine dt 2 rfl j0 m0 (want_n rfl) (fun x hx => m_sliceP (q := i) (sy m0) m0 rfl rfl rfl rfl (by omega) Tryz.underlying22 sz30 (by omega) (by decide) gt) c0 fun f0 n0 => ?_
 refine dR [3, 4, 5] n0 fun f0 m0 => ?_
 refine dt 6 rfl j0 m0 (want_n rfl) (fun x hx => r_add (z := ((i + v.length : Nat) : Int)) (sy m0) m0 rfl rfl rfl rfl (by decide) (by omega) (by omega) (by omega) gt) c0 fun f0 n0 => ?_
 refine dR [7, 8] n0 fun f0 m0 => ?_
 refine dt 9 rfl j0 m0 (want_n rfl) (fun x hx => m_sliceA (lo := some (.tmp 53)) (hi := none) (vlo := (some (.int .i64 ((j : Nat) : Int)))) (vhi := none) (kd := .i64) (kd' := .i64) (sy m0) m0 rfl rfl rfl rfl rfl (j) ((t.length) - (j)) (.inl (by rfl)) (.inr ⟨rfl, by omega⟩) Tryz.underlying22 sz30 (by omega) (by decide) gt) c0 fun f0 n0 => ?_
 refine dR [10] n0 fun f0 m0 => ?_
 refine dt 11 rfl j0 m0 (want_n rfl) (fun x hx => r_add (z := (((i : Nat) : Int) + ((v.length : Nat) : Int) + ((t.length : Nat) : Int) - ((j : Nat) : Int))) (sy m0) m0 rfl rfl rfl rfl (by decide) (by omega) (by omega) (by omega) gt) c0 fun f0 n0 => ?_
 refine dR [12] n0 fun f0 m0 => ?_
 refine wpAnyH_done (by kernel_rfl) (b0 _ _ ?_) _
 refine xn i0 <| wp_seq_k fun i0 b0 => wsc fun i0 f0 => lR m0 fun i0 n0 => ?_
 refine r_cap sv n0 rfl rfl rfl rfl Tryz.underlying22 (by decide) fun i0 m0 => ?_
 refine lR m0 fun i0 n0 => ?_
 refine wn f0 ?_
 rcases Decidable.em (((tc : Nat) : Int) < (((i : Nat) : Int) + ((v.length : Nat) : Int) + ((t.length : Nat) : Int) - ((j : Nat) : Int))) with f0 | f0
 ·
  exfalso; omega
 refine wcf n0 (decide_eq_false f0) fun i0 => ?_
 refine wp_skip <| xn b0 <| wsc fun b0 f0 => lR i0 fun b0 n0 => ?_
 have b0 := own_cap (k0.res (i := 0) rfl)
 refine m_sliceP (q := (i + v.length + t.length) - (j)) sv n0 rfl rfl rfl rfl (by omega) Tryz.underlying22 sz30 (by omega) (by decide) fun b0 i0 => ?_
 refine aw i0 f0 fun b0 n0 => ?_
 refine wp_seq_k fun f0 b0 => wsc fun b0 f0 => lR n0 fun b0 i0 => ?_
 refine adi ((i + v.length : Nat) : Int) i0 fun b0 n0 => ?_
 refine lR n0 fun b0 i0 => ?_
 refine wn f0 ?_
 rcases Decidable.em (((i + v.length : Nat) : Int) ≤ ((j : Nat) : Int)) with f0 | f0
 ·
  refine wct i0 (decide_eq_true f0) fun b0 => ?_
  refine wsc fun f0 i0 => lR b0 fun f0 n0 => ?_
  have f0 := own_cap (k0.res (i := 0) rfl)
  refine m_sliceV (lo := some (.tmp 94)) (hi := none) (vlo := (some (.int .i64 ((i : Nat) : Int)))) (vhi := none) (kd := .i64) (kd' := .i64) sv n0 rfl rfl rfl rfl rfl (i) ((v.length + t.length) - (j)) (.inl (by rfl)) (.inr ⟨rfl, by omega⟩) Tryz.underlying22 sz30 (by omega) (by decide) fun f0 b0 m0 c0 j0 d0 => ?_
  refine mv d0 fun c0 m0 => ?_
  have c0 : (v).length = Nat.min (v.length) ((v.length + t.length) - (j)) := by show _ = min _ _; first | omega | (simp only [List.length_append, List.length_take, List.length_drop, List.length_cons, List.length_nil]; omega)
  have := Nat.min_le_right (v.length) ((v.length + t.length) - (j))
  refine m_copy (f := encN) (i := 0) (L := t) (K := v) (k := i) sv m0 k0 rfl rfl rfl rfl rfl j0 (by omega) Tryz.underlying22 sz30 encN_len (one1 (f := encN) encN_one) c0 (k0.row (i := 0) rfl).2.news _ rfl (by decide) fun d0 b0 f0 n0 => ?_
  have b0 : (t.take (i) ++ v ++ t.drop (i + v.length)).length = (t).length := by simp only [List.length_append, List.length_take, List.length_drop]; omega
  refine wn i0 <| wp_seq_k fun i0 b0 => ?_
  obtain ⟨i0, d0, c0⟩ := n0.agree
  refine d_reg3 (n := 10) c0 2 pn (pan_then (pan_then pan_body)) fun d0 i0 n0 m0 j0 k0 => ?_
  refine dR [0, 1, 2, 3] f0 fun m0 d0 => ?_
  refine dt 4 rfl i0 d0 (want_n rfl) (fun x hx => r_add (z := ((i + v.length : Nat) : Int)) (sy d0) d0 rfl rfl rfl rfl (by decide) (by omega) (by omega) (by omega) gt) k0 fun m0 f0 => ?_
  refine dt 5 rfl i0 f0 (want_n rfl) (fun x hx => m_sliceA (lo := some (.tmp 102)) (hi := none) (vlo := (some (.int .i64 ((i + v.length : Nat) : Int)))) (vhi := none) (kd := .i64) (kd' := .i64) (sy f0) f0 rfl rfl rfl rfl rfl (i + v.length) ((t.length) - (j)) (.inl (by rfl)) (.inr ⟨rfl, by omega⟩) Tryz.underlying22 sz30 (by omega) (by decide) gt) k0 fun m0 d0 => ?_
  refine dR [6, 7] d0 fun m0 f0 => ?_
  refine dt 8 rfl i0 f0 (want_n rfl) (fun x hx => m_sliceA (lo := some (.tmp 105)) (hi := none) (vlo := (some (.int .i64 ((j : Nat) : Int)))) (vhi := none) (kd := .i64) (kd' := .i64) (sy f0) f0 rfl rfl rfl rfl rfl (j) ((t.length) - (j)) (.inl (by rfl)) (.inr ⟨rfl, by omega⟩) Tryz.underlying22 sz30 (by omega) (by decide) gt) k0 fun m0 d0 => ?_
  refine d1 9 ?_
  have m0 : (((t.take (i) ++ v ++ t.drop (i + v.length)).drop (j)).take ((t.length) - (j))).length = Nat.min ((t.length) - (j)) ((t.length) - (j)) := by show _ = min _ _; first | omega | (simp only [List.length_append, List.length_take, List.length_drop, List.length_cons, List.length_nil]; omega)
  have := Nat.min_le_right ((t.length) - (j)) ((t.length) - (j))
  refine m_copy (f := encN) (i := 0) (L := (t.take (i) ++ v ++ t.drop (i + v.length))) (K := (((t.take (i) ++ v ++ t.drop (i + v.length)).drop (j)).take ((t.length) - (j)))) (k := (i + v.length)) (st_opV rfl (want_n rfl)) d0 j0 rfl rfl rfl rfl rfl (cut_A (by omega)) (by omega) Tryz.underlying22 sz30 encN_len (one1 (f := encN) encN_one) m0 (own_cut_cells (f := encN) (i := 0) (L := (t.take (i) ++ v ++ t.drop (i + v.length))) (k := j) (q := (t.length) - (j)) j0 rfl (cut_A (by omega)) encN_len (by omega)) _ rfl (by decide) fun f0 k0 i0 c0 => ?_
  have k0 : ((t.take (i) ++ v ++ t.drop (i + v.length)).take (i + v.length) ++ (((t.take (i) ++ v ++ t.drop (i + v.length)).drop (j)).take ((t.length) - (j))) ++ (t.take (i) ++ v ++ t.drop (i + v.length)).drop ((i + v.length) + (((t.take (i) ++ v ++ t.drop (i + v.length)).drop (j)).take ((t.length) - (j))).length)).length = (t.take (i) ++ v ++ t.drop (i + v.length)).length := by simp only [List.length_append, List.length_take, List.length_drop]; omega
  have k0 := sWI c0 2 pn
  refine ⟨k0, ?_⟩
  refine wpAnyH_done (by kernel_rfl) (n0 _ _ ?_) _
  refine xn b0 <| wsc fun b0 n0 => lR i0 fun b0 k0 => ?_
  have b0 := own_cap (c0.res (i := 0) rfl)
  refine m_sliceV (lo := some (.tmp 109)) (hi := none) (vlo := (some (.int .i64 (((i : Nat) : Int) + ((v.length : Nat) : Int) + ((t.length : Nat) : Int) - ((j : Nat) : Int))))) (vhi := none) (kd := .i64) (kd' := .i64) sv k0 rfl rfl rfl rfl rfl ((i + v.length + t.length) - (j)) ((j) - (i + v.length)) (.inl (by (congr 2; omega))) (.inr ⟨rfl, by omega⟩) Tryz.underlying22 sz30 (by omega) (by decide) fun b0 i0 f0 m0 d0 j0 => ?_
  refine m_clear (f := encN) (i := 0) (L := ((t.take (i) ++ v ++ t.drop (i + v.length)).take (i + v.length) ++ (((t.take (i) ++ v ++ t.drop (i + v.length)).drop (j)).take ((t.length) - (j))) ++ (t.take (i) ++ v ++ t.drop (i + v.length)).drop ((i + v.length) + (((t.take (i) ++ v ++ t.drop (i + v.length)).drop (j)).take ((t.length) - (j))).length))) (k := ((i + v.length + t.length) - (j))) (z0 := (⟨0, 0, 0, (⟨#[]⟩ : ByteArray)⟩ : Nd)) sv j0 c0 rfl rfl rfl rfl d0 (by omega) Tryz.underlying22 zi30 encN_len (one1 (f := encN) encN_one) rfl _ rfl fun m0 f0 i0 b0 => ?_
  have f0 : (((t.take (i) ++ v ++ t.drop (i + v.length)).take (i + v.length) ++ (((t.take (i) ++ v ++ t.drop (i + v.length)).drop (j)).take ((t.length) - (j))) ++ (t.take (i) ++ v ++ t.drop (i + v.length)).drop ((i + v.length) + (((t.take (i) ++ v ++ t.drop (i + v.length)).drop (j)).take ((t.length) - (j))).length)).take ((i + v.length + t.length) - (j)) ++ List.replicate ((j) - (i + v.length)) (⟨0, 0, 0, (⟨#[]⟩ : ByteArray)⟩ : Nd) ++ ((t.take (i) ++ v ++ t.drop (i + v.length)).take (i + v.length) ++ (((t.take (i) ++ v ++ t.drop (i + v.length)).drop (j)).take ((t.length) - (j))) ++ (t.take (i) ++ v ++ t.drop (i + v.length)).drop ((i + v.length) + (((t.take (i) ++ v ++ t.drop (i + v.length)).drop (j)).take ((t.length) - (j))).length)).drop (((i + v.length + t.length) - (j)) + ((j) - (i + v.length))) : List Nd).length = ((t.take (i) ++ v ++ t.drop (i + v.length)).take (i + v.length) ++ (((t.take (i) ++ v ++ t.drop (i + v.length)).drop (j)).take ((t.length) - (j))) ++ (t.take (i) ++ v ++ t.drop (i + v.length)).drop ((i + v.length) + (((t.take (i) ++ v ++ t.drop (i + v.length)).drop (j)).take ((t.length) - (j))).length)).length := by simp only [List.length_append, List.length_take, List.length_drop, List.length_replicate]; omega
  refine wn n0 <| wsc fun n0 f0 => lR i0 fun n0 m0 => ?_
  refine wn f0 <| wp_ret <| x_then_r <| er1 m0 ?_
  have m0 := b0.trim encN_len (i := 0) (L := (((t.take (i) ++ v ++ t.drop (i + v.length)).take (i + v.length) ++ (((t.take (i) ++ v ++ t.drop (i + v.length)).drop (j)).take ((t.length) - (j))) ++ (t.take (i) ++ v ++ t.drop (i + v.length)).drop ((i + v.length) + (((t.take (i) ++ v ++ t.drop (i + v.length)).drop (j)).take ((t.length) - (j))).length)).take ((i + v.length + t.length) - (j)) ++ List.replicate ((j) - (i + v.length)) (⟨0, 0, 0, (⟨#[]⟩ : ByteArray)⟩ : Nd) ++ ((t.take (i) ++ v ++ t.drop (i + v.length)).take (i + v.length) ++ (((t.take (i) ++ v ++ t.drop (i + v.length)).drop (j)).take ((t.length) - (j))) ++ (t.take (i) ++ v ++ t.drop (i + v.length)).drop ((i + v.length) + (((t.take (i) ++ v ++ t.drop (i + v.length)).drop (j)).take ((t.length) - (j))).length)).drop (((i + v.length + t.length) - (j)) + ((j) - (i + v.length))))) rfl ((i + v.length + t.length) - (j)) (by omega)
  have b0 : (((t.take (i) ++ v ++ t.drop (i + v.length)).take (i + v.length) ++ (((t.take (i) ++ v ++ t.drop (i + v.length)).drop (j)).take ((t.length) - (j))) ++ (t.take (i) ++ v ++ t.drop (i + v.length)).drop ((i + v.length) + (((t.take (i) ++ v ++ t.drop (i + v.length)).drop (j)).take ((t.length) - (j))).length)).take ((i + v.length + t.length) - (j)) ++ List.replicate ((j) - (i + v.length)) (⟨0, 0, 0, (⟨#[]⟩ : ByteArray)⟩ : Nd) ++ ((t.take (i) ++ v ++ t.drop (i + v.length)).take (i + v.length) ++ (((t.take (i) ++ v ++ t.drop (i + v.length)).drop (j)).take ((t.length) - (j))) ++ (t.take (i) ++ v ++ t.drop (i + v.length)).drop ((i + v.length) + (((t.take (i) ++ v ++ t.drop (i + v.length)).drop (j)).take ((t.length) - (j))).length)).drop (((i + v.length + t.length) - (j)) + ((j) - (i + v.length)))).take ((i + v.length + t.length) - (j)) = t.take i ++ v ++ t.drop j := rep_mid2 (by omega) (by omega) (by omega) rfl rfl rfl rfl
  have f0 := m0
  rw [b0] at f0
  refine ⟨?_, f0.fr, f0.res (i := 0) rfl⟩
  exact cre (ret_s (by (rw [← b0]; simp; omega)))
 exfalso; omega
theorem erase_calls (w0 : World) (Z : Nat → Prop) (hZ : ∀ k, Z k → k < w0.heap.size) (tA : Option Addr) (tc : Nat) (t : List Nd) (hShp : Shapes w0 Z) (ht : (dRow 4 tA t.length tc (encNs t)).φ w0 Z) (hsm : sml t := by first | assumption | omega | (simp <;> omega)) (hl : t.length ≤ 1000000 := by first | assumption | omega | (simp <;> omega)) :
    Calls Tryz.prog 21 [.slice tA t.length tc].toArray w0 (fun e w' => ∃ (rA0 : Option Addr) (rc0 : Nat), e = .returned (.tuple #[.slice rA0 (erA t).length rc0, .int .i64 (chk t)]) ∧ Fr none_ w0 w' ∧ (dRow 4 rA0 ((erA t).length) rc0 (encNs (erA t))).φ w' (nxt Z w0 w')) := by
 have b0 := s0 (M := none_) hZ (zc (d := dShapes) hShp (zc ht zn))
 refine c_enterM Tryz.func21 rfl Tryz.ntmps21 rfl fun c0 d0 => ?_
 refine wsc fun c0 f0 => lR d0 fun c0 h0 => ?_
 refine wn f0 <| wp_seq_k fun f0 c0 => wsc fun f0 d0 => mv h0 fun f0 i0 => ?_
 have f0 := b0.nf
 refine kcl i0 ok20 (check_calls _ _ f0.il _ _ _ (f0.g 0) (f0.g 1)) ?_
 rintro i0 b0 ⟨rfl, h0⟩
 have b0 := f0.below h0.below
 refine ⟨_, rfl, fun h0 f0 => ?_⟩
 refine aw f0 d0 fun h0 i0 => ?_
 refine wsc fun d0 h0 => lR i0 fun d0 f0 => ?_
 refine wn h0 ?_
 rcases Decidable.em (((chk t)) = 0) with h0 | h0
 ·
  refine wcfb f0 rfl (by rw [(decide_eq_true h0)]; rfl) fun d0 => ?_
  refine wp_skip <| xn c0 <| wsc fun c0 i0 => mv d0 fun c0 j0 => ?_
  have c0 := b0.nf
  refine kcl j0 ok53 (cloneN_calls _ _ c0.il _ _ _ (c0.g 1)) ?_
  rintro j0 d0 ⟨k0, m0, rfl, n0, o0, p0⟩
  have d0 := c0.callO n0 o0 p0
  refine ⟨_, rfl, fun p0 o0 => ?_⟩
  refine alc o0 d0 fun p0 n0 c0 j0 q0 => ?_
  refine sto 1 j0 q0 fun n0 p0 o0 d0 => ?_
  refine wn i0 <| wp_seq_k fun i0 p0 => wsc fun i0 n0 => mv o0 fun i0 q0 => ?_
  have i0 := d0.nf
  refine kcl q0 ok54 (proofsMk_calls _ _ i0.il _ _ _ (i0.g 1)) ?_
  rintro q0 d0 ⟨o0, rfl, j0, t0⟩
  have d0 := i0.below j0.below
  have j0 := i0.dN d0 t0
  refine ⟨_, rfl, fun d0 t0 => ?_⟩
  refine wn n0 <| wp_block ?_
  have n0 := j0.nf
  have j0 : Reg d0 27 [(1000000, .bool false), (2, .slice none 0 0), (3, .int .i64 0), (5, .pointer (some ⟨c0, 0, none⟩)), (16, .func (.func 88) #[] #[.pointer (some ⟨o0, 0, none⟩)])] := (t0.sub (rc4 (rc rfl rnl)))
  refine w_range (xs := prfL t) (encs := (fun x : Int × Int => #[.int .i64 x.1, .int .i64 x.2])) (j0.ev rfl) ok88 (proofs_yields _ (imm Z w0 [.row k0 t.length m0 30 4 (encNs t), .box c0 22 [.slice k0 t.length m0]] _) o0 tA tc t (n0.get (i := 0) rfl) (n0.get (i := 1) rfl) (n0.get (i := 2) rfl) (by assumption) (by assumption)) (fun _ => rfl) n0 (fun _ h => h) (fun (pre : List (Int × Int)) (mm : List Res) => ∃ Ao : Option Addr, ∃ co : Nat, mm = [.row Ao ((repP t pre).length) co 30 4 (encNs (repP t pre)), .box c0 22 [.slice Ao ((repP t pre).length) co]]) (fun _ _ _ => False) ⟨k0, m0, rfl⟩ ?_ ?_ ?_
  ·
   rintro n0 pre x m0 m1 hp ⟨Ao, co, rfl⟩ k0
   obtain ⟨xi, xj, rfl, hxi, hxj, hxy⟩ := prfL_nat hp
   refine (?_ : ∀ t0, Reg t0 27 [(18, .int .i64 ((xj : Nat) : Int)), (17, .int .i64 ((xi : Nat) : Int)), (1000000, .bool false), (2, .slice none 0 0), (3, .int .i64 0), (5, .pointer (some ⟨c0, 0, none⟩)), (16, .func (.func 88) #[] #[.pointer (some ⟨o0, 0, none⟩)])] → Code.wpIn (rI n0) 0 _ _ _ t0 m0) _ (Reg.round2n j0 (by decide) (by decide) rfl)
   intro t0 m0
   have hpl := repP_le (List.IsPrefix.trans (List.prefix_append _ _) hp)
   have hpj := repP_len hxj hxy
   refine wpIn_seq_k fun t0 n0 => ?_
   refine ci_region (by kernel_rfl) (out_then (out_then (fun _ _ h => h))) ?_
   refine aw m0 n0 fun t0 o0 => ?_
   refine ci_region (by kernel_rfl) (out_then (fun _ _ h => h)) ?_
   refine asg o0 fun n0 t0 => ?_
   refine wpList_nil ?_
   have n0 := k0.nf
   refine x_then_n ⟨_, _, 3, n0, rfl, (fun _ h => False.elim h), (fun _ h => False.elim h), fun k0 o0 => ?_⟩
   refine wpIn_block ?_
   refine ci_region (by kernel_rfl) (out_block out_rPost) ?_
   refine lR t0 fun k0 n0 => ?_
   refine adi ((xj + 1 : Nat) : Int) n0 fun k0 t0 => ?_
   refine bld t0 fun k0 n0 => ?_
   refine bsl n0 o0 fun k0 t0 m0 c0 d0 => ?_
   have t0 := d0.nf
   have d0 := t0.pub 2 (dRow 4 (some ⟨m0, 0, none⟩) 1 1 (encNs ([(⟨29, 0, 0, (⟨#[]⟩ : ByteArray)⟩ : Nd)])))
   refine kcl c0 ok55 (replace_calls _ _ d0.il Ao co (repP t pre) xi (xj + 1) _ _ ([(⟨29, 0, 0, (⟨#[]⟩ : ByteArray)⟩ : Nd)]) (d0.z 0) (imm_row (i := 0) rfl) (d0.g 4)) ?_
   rintro c0 t0 ⟨rfl, m0, k0⟩
   have t0 := d0.callR (i := 0) rfl m0 k0
   refine ⟨_, rfl, fun k0 m0 => ?_⟩
   refine sto 1 m0 t0 fun k0 d0 c0 n0 => ?_
   refine wpList_nil ?_
   refine x_block_n ?_
   have c0 := n0.nf
   have n0 : (repP t pre).take xi ++ ([(⟨29, 0, 0, (⟨#[]⟩ : ByteArray)⟩ : Nd)]) ++ (repP t pre).drop (xj + 1) = repP t (pre ++ [(((xi : Nat) : Int), ((xj : Nat) : Int))]) := repP_step
   have d0 := c0
   rw [n0] at d0
   exact ⟨_, _, 3, d0, rfl, _, _, rfl⟩
  ·
   rintro d0 m1 n0 ⟨Ao, co, rfl⟩ c0
   have n0 := Reg.marked j0 d0
   refine x_block_n <| xn p0 <| wsc fun p0 d0 => lR n0 fun p0 j0 => ?_
   refine wn d0 <| wp_ret ?_
   have d0 := c0.pub 0 (dRow 4 Ao ((repP t (prfL t)).length) co (encNs (repP t (prfL t))))
   have c0 := d0.nf
   obtain ⟨d0, p0⟩ := c0.shut (i := 3) rfl [dRow 4 Ao ((repP t (prfL t)).length) co (encNs (repP t (prfL t)))] (by intro d hd; simp only [List.mem_cons, List.not_mem_nil, or_false] at hd; rcases hd with rfl; exact ⟨List.mem_of_getElem? (i := 4) rfl, datC_row (by decide) _ _ _ _⟩)
   refine m_mark (.inl rfl) j0 rfl d0 (res2 j0 rfl rfl rfl _) ?_
   have d0 : erA t = repP t (prfL t) := by rw [erA_ok (by assumption), ← era_eq (meas_chk (by assumption))]
   rw [d0]
   refine ⟨Ao, co, ?_, p0.fr, p0.rx 0⟩
   exact ret_t2 rfl (ret_i (by omega))
  rintro _ _ _ _ _ _ h _
  exact h.elim
 refine wctb f0 rfl (by rw [(decide_eq_false h0)]; rfl) fun p0 => ?_
 refine wsc fun h0 f0 => lR p0 fun h0 d0 => ?_
 refine wn f0 <| wp_ret <| x_then_r <| m_none (.inl rfl) d0 rfl (res2 d0 rfl rfl rfl _) ?_
 have d0 : erA t = [] := erA_no (by assumption)
 rw [d0]
 refine ⟨none, 0, ?_, b0.fr, ⟨Nat.le_refl _, RowI.nil _ _ _ _⟩⟩
 exact ret_t2 rfl (ret_i (by rfl))
theorem case_calls (w0 : World) (Z : Nat → Prop) (hZ : ∀ k, Z k → k < w0.heap.size) (dK : Int) (dL : Int) (dS : ByteArray) (dTA : Option Addr) (dTc : Nat) (dT : List Nd) (dBA : Option Addr) (dBc : Nat) (dB : List Nd) (dCA : Option Addr) (dCc : Nat) (dC : List Tl) (k : Int) (stA : Option Addr) (stc : Nat) (st : List Bool) (pr : Bool) (moA : Option Addr) (moc : Nat) (mo : List Nd) (hShp : Shapes w0 Z) (hdT : (dRow 4 dTA dT.length dTc (encNs dT)).φ w0 Z) (hdB : (dRow 4 dBA dB.length dBc (encNs dB)).φ w0 Z) (hdC : (dRow 1 dCA dC.length dCc (encTs dC)).φ w0 Z) (hdCs : (dAllT dC).φ w0 Z) (hst : (dRow 1 stA st.length stc (encBs st)).φ w0 Z) (hmo : (dRow 4 moA mo.length moc (encNs mo)).φ w0 Z) (hl : dC.length ≤ 100 := by first | assumption | omega | (simp <;> omega)) (hb : ∀ s ∈ dC, s.2.2.length ≤ 100 := by first | assumption | omega | (simp <;> omega)) (hall : ∀ x ∈ tmD dK dT dB (lstsT dC), sml x ∧ x.length ≤ 1000000 := by first | assumption | omega | (simp <;> omega)) (hsS : dS.size < 1000000 := by first | assumption | omega | (simp <;> omega)) (hsm : sml mo := by first | assumption | omega | (simp <;> omega)) (hlm : mo.length ≤ 100000 := by first | assumption | omega | (simp <;> omega)) :
    Calls Tryz.prog 7 [.agg #[.int .i64 (dK), .int .i64 (dL), .string dS, .slice dTA dT.length dTc, .slice dBA dB.length dBc, .slice dCA dC.length dCc], .int .i64 k, .slice stA st.length stc, .bool pr, .slice moA mo.length moc].toArray w0 (fun e w' => ∃ (rA0 : Option Addr) (rc0 : Nat), e = .returned (.tuple #[.slice rA0 (csL dK dL dS dT dB dC k st pr mo).length rc0, .int .i64 (csE dK dL dS dT dB dC k st pr mo)]) ∧ Fr none_ w0 w' ∧ (dRow 4 rA0 ((csL dK dL dS dT dB dC k st pr mo).length) rc0 (encNs (csL dK dL dS dT dB dC k st pr mo))).φ w' (nxt Z w0 w')) := by
 have b0 := s0 (M := none_) hZ (zc (d := dShapes) hShp (zc hdT (zc hdB (zc hdC (zc hdCs (zc hst (zc hmo zn)))))))
 refine c_enter Tryz.func7 rfl Tryz.ntmps7 rfl fun c0 d0 => ?_
 refine wsc fun c0 f0 => bxx d0 b0 fun c0 h0 i0 j0 k0 => ?_
 refine lR j0 fun h0 c0 => ?_
 refine wn f0 <| wp_seq_k fun f0 h0 => wsc fun f0 j0 => lR c0 fun f0 d0 => ?_
 have f0 := k0.nf
 refine kcl d0 ok19 (scheck_calls _ _ f0.il (dK) (dL) dS _ _ _ _ _ _ _ _ _ (f0.g 0) (f0.g 1) (f0.g 2) (f0.g 3) (f0.g 4) (hl := hl) (hb := hb) (hall := hall) (hsS := hsS)) ?_
 rintro d0 k0 ⟨rfl, c0⟩
 have k0 := f0.below c0.below
 refine ⟨_, rfl, fun c0 f0 => ?_⟩
 refine aw f0 j0 fun c0 d0 => ?_
 refine wsc fun j0 c0 => lR d0 fun j0 f0 => ?_
 refine wn c0 ?_
 rcases Decidable.em (((scE (dK) (dL) dS dT dB dC)) = 0) with c0 | c0
 ·
  have hsc := c0
  obtain ⟨j0, hC6, hA6, hcl⟩ := sc_ok hsc
  refine wcfb f0 rfl (by rw [(decide_eq_true c0)]; rfl) fun d0 => ?_
  refine wp_skip <| xn h0 <| wp_seq_k fun h0 b0 => wsc fun h0 m0 => mv d0 fun h0 n0 => ?_
  have h0 := k0.nf
  refine kcl n0 ok20 (check_calls _ _ h0.il _ _ _ (h0.g 0) (h0.g 6)) ?_
  rintro n0 d0 ⟨rfl, o0⟩
  have d0 := h0.below o0.below
  refine ⟨_, rfl, fun o0 h0 => ?_⟩
  refine aw h0 m0 fun o0 n0 => ?_
  refine wsc fun m0 o0 => lR n0 fun m0 h0 => ?_
  refine wn o0 ?_
  rcases Decidable.em (((chk mo)) = 0) with o0 | o0
  ·
   have hmk := o0
   refine wcfb h0 rfl (by rw [(decide_eq_true o0)]; rfl) fun m0 => ?_
   refine wp_skip <| xn b0 <| wp_seq_k fun b0 n0 => wsc fun b0 p0 => lR m0 fun b0 q0 => ?_
   refine lOr 5 (decide (((dC.length : Nat) : Int) ≤ (k))) q0 fun b0 m0 => ?_
   refine mv m0 fun b0 q0 => ?_
   refine l_or 9 (!(decide (((st.length : Nat) : Int) = (((nthT dC k.toNat).2.2.length : Nat) : Int)))) q0 (fun b0 m0 t0 => ?_) fun u0 v0 => ?_
   ·
    have u0 := or_fl b0
    have q0 := of_decide_eq_false u0
    have q0 := or_fr b0
    have b0 := of_decide_eq_false q0
    refine r_move (st_listV_w (wt m0)) m0 rfl rfl rfl (by decide) fun b0 q0 => ?_
    refine r_len (st_listV_w (wt q0)) q0 rfl rfl rfl rfl Tryz.underlying26 (by decide) fun b0 m0 => ?_
    refine m_field (j' := 5) (st_listV_w (wt m0)) m0 rfl rfl rfl Tryz.underlying25 rfl sz23 rfl rfl (by decide) fun b0 q0 => ?_
    refine m_load (i := 0) (st_listV_w (wt q0)) q0 d0 rfl rfl rfl rfl rfl Tryz.underlying23 rfl (by decide) fun b0 m0 => ?_
    refine r_move (st_listV_w (wt m0)) m0 rfl rfl rfl (by decide) fun b0 q0 => ?_
    have b0 := Reg.cons q0 q0 (ri (i := 43) (b := ((k.toNat : Nat) : Int)) rfl (by omega))
    refine ix k.toNat (k.toNat * 1) b0 (ts_elem (t := dC) (k := k.toNat) (d0.row (i := 3) rfl).2 (by omega)).some_ fun q0 m0 => ?_
    refine lde 0 (k.toNat * 1) m0 (ts_elem (t := dC) (k := k.toNat) (d0.row (i := 3) rfl).2 (by omega)) fun q0 b0 => ?_
    have q0 := d0.elT 4 k.toNat
    have m0 := q0.elA 4 k.toNat
    refine r_len (st_listV_w (wt b0)) b0 rfl rfl rfl rfl Tryz.underlying37 (by decide) fun m0 q0 => ?_
    refine r_neq (st_listV_w (wt q0)) q0 rfl rfl rfl rfl (by decide) fun m0 b0 => ?_
    refine r_pick_f sv b0 rfl rfl rfl rfl (by decide) fun m0 q0 => ?_
    exact t0.fin q0
   refine wn p0 ?_
   rcases Bool.eq_false_or_eq_true ((((decide ((k) < 0)) || (decide (((dC.length : Nat) : Int) ≤ (k)))) || (!(decide (((st.length : Nat) : Int) = (((nthT dC k.toNat).2.2.length : Nat) : Int)))))) with p0 | p0
   ·
    have q0 := p0
    try simp only [bz] at q0
    refine wct v0 p0 fun q0 => ?_
    refine wsc fun t0 m0 => lR q0 fun t0 b0 => ?_
    refine wn m0 <| wp_ret <| x_then_r <| er2 b0 ?_
    have b0 : csL dK dL dS dT dB dC k st pr mo = [] := (by exact (csN_3 hsc hmk (by omega)).1)
    rw [b0]
    refine ⟨none, 0, ?_, d0.fr, ⟨Nat.le_refl _, RowI.nil _ _ _ _⟩⟩
    exact ret_t2 rfl (ret_i (by (first | exact (csN_1 (by assumption)).2.symm | exact (csN_2 hsc (by assumption)).2.symm | exact (csN_3 hsc hmk (by omega)).2.symm | (rw [(csN_0 (pr := pr) hsc hmk (by omega) (cs_all hL (by omega))).2]; unfold csF; simp []; done))))
   have b0 := or_fl p0
   have m0 := or_fl b0
   have t0 := of_decide_eq_false m0
   have t0 := or_fr b0
   have b0 := of_decide_eq_false t0
   have b0 := or_fr p0
   have t0 := not_f b0
   have b0 := of_decide_eq_true t0
   refine wcf v0 p0 fun b0 => ?_
   refine wp_skip <| xn n0 <| wsc fun n0 p0 => lR b0 fun n0 v0 => ?_
   refine bld v0 fun n0 b0 => ?_
   refine bxx b0 d0 fun n0 v0 t0 m0 q0 => ?_
   refine aw m0 p0 fun v0 n0 => ?_
   refine wp_seq_k fun p0 v0 => wsc fun p0 m0 => lR n0 fun p0 b0 => ?_
   have p0 := Reg.cons b0 b0 (ri (i := 58) (b := ((k.toNat : Nat) : Int)) rfl (by omega))
   refine ix k.toNat (k.toNat * 1) p0 (ts_elem (t := dC) (k := k.toNat) (q0.row (i := 3) rfl).2 (by omega)).some_ fun b0 n0 => ?_
   refine lde 0 (k.toNat * 1) n0 (ts_elem (t := dC) (k := k.toNat) (q0.row (i := 3) rfl).2 (by omega)) fun b0 p0 => ?_
   have b0 := q0.elT 4 k.toNat
   have q0 := b0.elA 4 k.toNat
   refine lR p0 fun b0 n0 => ?_
   refine wn m0 <| wp_block ?_
   have m0 := q0.nilrow 22 1
   have q0 := m0.data (dAll []) all_nil
   refine wp_loop_ghost (fun gn ga gw => ∃ j : Nat, ∃ Ls : List Sl, ∃ Ao : Option Addr, ∃ co : Nat, (Reg ga 91 [(1000000, .bool false), (10, .slice none 0 0), (11, .int .i64 0), (14, .pointer (some ⟨t0, 0, none⟩)), (60, .slice ((nthT dC k.toNat).1) ((nthT dC k.toNat).2.2.length) ((nthT dC k.toNat).2.1)), (61, .int .i64 (((nthT dC k.toNat).2.2.length : Nat) : Int)), (62, .int .i64 ((j : Nat) : Int))]) ∧ (St w0 Z none_ gw [.box i0 25 [.int .i64 (dK), .int .i64 (dL), .string dS, .slice dTA dT.length dTc, .slice dBA dB.length dBc, .slice dCA dC.length dCc], .box t0 59 [.int .i64 0, .int .i64 0, .int .i64 (dK), .int .i64 (dL), .string dS, .slice dTA dT.length dTc, .slice dBA dB.length dBc, .slice dCA dC.length dCc, .int .i64 (k), .slice stA st.length stc, .bool pr, .slice moA mo.length moc, .slice Ao ((Ls).length) co, .slice none 0 0], .row Ao ((Ls).length) co 22 1 (encSs Ls)] [dShapes, dRow 4 dTA dT.length dTc (encNs dT), dRow 4 dBA dB.length dBc (encNs dB), dRow 1 dCA dC.length dCc (encTs dC), dAllT dC, dRow 1 stA st.length stc (encBs st), dRow 4 moA mo.length moc (encNs mo), dRow 1 ((nthT dC k.toNat).1) ((nthT dC k.toNat).2.2.length) ((nthT dC k.toNat).2.1) (encSs ((nthT dC k.toNat).2.2)), dAll ((nthT dC k.toNat).2.2), dAll Ls]) ∧ (j ≤ (nthT dC k.toNat).2.2.length) ∧ (lsts Ls = ((lsts (nthT dC k.toNat).2.2).take j).map erA) ∧ ((nthT dC k.toNat).2.2.length - j) = gn) _ ⟨0, [], none, 0, (n0.sub (rc4 (rc2 (rc rfl rnl)))), q0, by omega, rfl, rfl⟩ ?_
   rintro q0 n0 t0 ⟨j, Ls, Ao, co, i0, m0, hj, hL, b0⟩
   have hT := cs_in hcl hall j0 (show k.toNat < dC.length by omega)
   have hLn := cs_len hL hj
   have hT6 := hA6 _ (nthT_mem (show k.toNat < dC.length by omega))
   refine wsc fun j0 b0 => lR i0 fun j0 t0 => ?_
   refine wn b0 <| wp_seq_k fun b0 j0 => ?_
   rcases Decidable.em (((j : Nat) : Int) < (((nthT dC k.toNat).2.2.length : Nat) : Int)) with b0 | b0
   ·
    refine wct t0 (decide_eq_true b0) fun i0 => ?_
    refine wp_skip <| xn j0 <| wp_seq_k fun j0 n0 => wp_block ?_
    refine wsc fun j0 q0 => ix j (j * 1) i0 (ss_elem (t := (nthT dC k.toNat).2.2) (k := j) (m0.row (i := 7) rfl).2 (by omega)).some_ fun j0 p0 => ?_
    refine lde 0 (j * 1) p0 (ss_elem (t := (nthT dC k.toNat).2.2) (k := j) (m0.row (i := 7) rfl).2 (by omega)) fun j0 i0 => ?_
    have j0 := m0.el 8 j
    refine aw i0 q0 fun p0 u0 => ?_
    refine wsc fun q0 p0 => mv u0 fun q0 i0 => ?_
    have q0 := j0.nf
    refine kcl i0 ok21 (erase_calls _ _ q0.il _ _ ((nthS ((nthT dC k.toNat).2.2) j).2.2) (q0.g 0) (q0.g 10) (hsm := (cs_at hT (by omega)).1) (hl := (cs_at hT (by omega)).2)) ?_
    rintro i0 j0 ⟨u0, x0, rfl, y0, z0⟩
    have j0 := q0.below y0.below
    have y0 := q0.dN j0 z0
    refine ⟨_, rfl, fun j0 z0 => ?_⟩
    refine lR z0 fun j0 q0 => ?_
    refine wpList_nil (x_then_n (p0 _ _ (c_region ?_)))
    refine lR q0 fun p0 j0 => ?_
    have p0 := y0.data (dAll [((u0, x0, erA ((nthS ((nthT dC k.toNat).2.2) j).2.2)) : Sl)]) (all_cons (y0.get (i := 11) rfl) all_nil)
    refine bsl j0 p0 fun y0 q0 z0 i0 b1 => ?_
    refine m_appendF (f := encS) (i := 2) (Ls) ([((u0, x0, erA ((nthS ((nthT dC k.toNat).2.2) j).2.2)) : Sl)]) sv i0 b1 rfl rfl rfl rfl rfl encS_len (encS_one _) Tryz.underlying37 zi22 rfl rfl (own_lnews (f := encS) (b1.res (i := 3) rfl)) rfl (by (simp only [List.length_cons, List.length_nil]; omega)) (by decide) fun z0 q0 y0 p0 j0 c1 f1 => ?_
    have j0 : (Ls ++ ([((u0, x0, erA ((nthS ((nthT dC k.toNat).2.2) j).2.2)) : Sl)]) : List Sl).length = (Ls).length + 1 := by (simp only [List.length_append, List.length_take, List.length_cons, List.length_nil]; done)
    have j0 := f1.erase 3
    have f1 := j0.data (dAll (Ls ++ ([((u0, x0, erA ((nthS ((nthT dC k.toNat).2.2) j).2.2)) : Sl)]))) (all_append (j0.get (i := 9) rfl) (j0.get (i := 12) rfl))
    refine lR c1 fun j0 q0 => ?_
    refine sto 1 q0 f1 fun j0 c1 z0 b1 => ?_
    refine wpList_nil ?_
    refine x_block_n <| xn n0 <| c_region ?_
    refine adi ((j + 1 : Nat) : Int) z0 fun n0 c1 => ?_
    refine mv c1 fun n0 z0 => ?_
    refine wpList_nil ?_
    have n0 := b1.forget 12
    have b1 := n0.forget 11
    have n0 := b1.forget 10
    have b1 := n0.forget 9
    exact ⟨_, by omega, j + 1, Ls ++ ([((u0, x0, erA ((nthS ((nthT dC k.toNat).2.2) j).2.2)) : Sl)]), y0, p0, (z0.sub (rc4 (rc2 (rc rfl rnl)))), b1, by omega, cs_nxt hL (by omega), rfl⟩
   refine wcf t0 (decide_eq_false b0) fun b1 => ?_
   refine wp_exit ?_
   refine x_then_e ?_
   refine x_then_e ?_
   refine x_block_eq ?_
   refine xn v0 <| wp_seq_k fun v0 b0 => ?_
   obtain ⟨v0, t0, z0⟩ := m0.agree
   refine d_reg3 (n := 11) z0 10 (pc 1 1 (pc 1 2 (pc 1 3 (pc 1 4 (pc 1 5 (pc 1 6 (pc 1 7 (pc 1 8 (pc 1 9 (pc 1 10 (pc 1 11 (pc 1 12 pn)))))))))))) (pan_then pan_body) fun t0 v0 m0 p0 y0 x0 => ?_
   refine dR [0, 1, 2, 3, 4] b1 fun x0 p0 => ?_
   refine d1 5 ?_
   have x0 := y0.nf
   have y0 := x0.pub 2 (dRow 1 Ao ((Ls).length) co (encSs Ls))
   have x0 := y0.nilrow 3 1
   have y0 := x0.nf
   refine kcl p0 ok23 (cargs_calls _ _ y0.il _ _ _ _ _ _ _ _ _ _ _ _ _ _ _ _ _ _ _ _ _ _ ([]) 0 (y0.g 0) (y0.z 1) (imm_box (i := 1) rfl) (y0.z 2) (imm_row (i := 2) rfl) (y0.rowne (i := 1) (j := 2) rfl rfl (by decide)) (y0.g 5) (y0.g 6) (y0.g 11) (y0.g 9) (hmo := hsm) (hml := hlm) (hpl := pl_nil) (hty := (cs_ty hT hL)) (hcS := hsS) (hlp := rfl) (hi := (Nat.zero_le _))) ?_
   rintro p0 x0 ⟨v327, b1, v0, t0, rfl, z0, u0, n0, c1⟩
   have v0 := y0.callMD (i := 1) (j := 2) rfl rfl (by decide) z0 u0
   have u0 := y0.dMD 1 2 v0 n0
   refine ⟨_, rfl, fun v0 n0 => ?_⟩
   obtain ⟨v0, y0⟩ := (show t0.length ≤ 90000 ∧ sml t0 by rw [c1]; have zz := agF_Z (S := dS) (k := k) (st := st) (pr := pr) hsS hsm (cs_ty hT hL) (lsts_len _).symm (Ls.length - 0) (by omega) 0 0 []; exact ⟨by omega, zz.2⟩)
   have y0 := sWI u0 10 (pc 1 1 (pc 1 2 (pc 1 3 (pc 1 4 (pc 1 5 (pc 1 6 (pc 1 7 (pc 1 8 (pc 1 9 (pc 1 10 (pc 1 11 (pc 1 12 pn))))))))))))
   refine ⟨y0, ?_⟩
   refine d1 6 ?_
   have y0 := u0.nf
   refine kcl n0 ok22 (done_calls _ _ y0.il _ _ _ _ _ _ _ (y0.g 0) (y0.z 1) (imm_box (i := 1) rfl) (y0.g 12)) ?_
   rintro n0 u0 ⟨v0, z0, rfl, b1, x0, p0⟩
   have u0 := y0.callM (i := 1) rfl b1 x0
   have x0 := y0.dM 1 u0 p0
   refine ⟨_, rfl, fun u0 p0 => ?_⟩
   have u0 := sWI x0 10 (pc 1 1 (pc 1 2 (pc 1 3 (pc 1 4 (pc 1 5 (pc 1 6 (pc 1 7 (pc 1 8 (pc 1 9 (pc 1 10 (pc 1 11 (pc 1 12 pn))))))))))))
   refine ⟨u0, ?_⟩
   refine dR [7, 8, 9, 10] p0 fun u0 y0 => ?_
   refine wpAnyH_done (by kernel_rfl) (m0 _ _ ?_) _
   refine xn b0 <| wp_ret <| er2 y0 ?_
   have y0 : csL dK dL dS dT dB dC k st pr mo = (if (if (((agF dS (k) st pr mo (lsts Ls) Ls.length (Ls.length - 0) 0 0 ([])).2)) = 0 then chk t0 else (((agF dS (k) st pr mo (lsts Ls) Ls.length (Ls.length - 0) 0 0 ([])).2))) = 0 then t0 else []) := (by (rw [(csN_0 (pr := pr) hsc hmk (by omega) (cs_all hL (by omega))).1]; unfold csF; simp [c1]; done))
   rw [y0]
   refine ⟨v0, z0, ?_, x0.fr, x0.rx 13⟩
   exact ret_t2 rfl (ret_i (by (first | exact (csN_1 (by assumption)).2.symm | exact (csN_2 hsc (by assumption)).2.symm | exact (csN_3 hsc hmk (by omega)).2.symm | (rw [(csN_0 (pr := pr) hsc hmk (by omega) (cs_all hL (by omega))).2]; unfold csF; simp [c1]; done))))
  refine wctb h0 rfl (by rw [(decide_eq_false o0)]; rfl) fun c1 => ?_
  refine wsc fun o0 h0 => lR c1 fun o0 x0 => ?_
  refine wn h0 <| wp_ret <| x_then_r <| er2 x0 ?_
  have x0 : csL dK dL dS dT dB dC k st pr mo = [] := (by exact (csN_2 hsc (by assumption)).1)
  rw [x0]
  refine ⟨none, 0, ?_, d0.fr, ⟨Nat.le_refl _, RowI.nil _ _ _ _⟩⟩
  exact ret_t2 rfl (ret_i (by (first | exact (csN_1 (by assumption)).2.symm | exact (csN_2 hsc (by assumption)).2.symm | exact (csN_3 hsc hmk (by omega)).2.symm | (rw [(csN_0 (pr := pr) hsc hmk (by omega) (cs_all hL (by omega))).2]; unfold csF; simp []; done))))
 refine wctb f0 rfl (by rw [(decide_eq_false c0)]; rfl) fun d0 => ?_
 refine wsc fun c0 f0 => lR d0 fun c0 x0 => ?_
 refine wn f0 <| wp_ret <| x_then_r <| er2 x0 ?_
 have x0 : csL dK dL dS dT dB dC k st pr mo = [] := (by exact (csN_1 (by assumption)).1)
 rw [x0]
 refine ⟨none, 0, ?_, k0.fr, ⟨Nat.le_refl _, RowI.nil _ _ _ _⟩⟩
 exact ret_t2 rfl (ret_i (by (first | exact (csN_1 (by assumption)).2.symm | exact (csN_2 hsc (by assumption)).2.symm | exact (csN_3 hsc hmk (by omega)).2.symm | (rw [(csN_0 (pr := pr) hsc hmk (by omega) (cs_all hL (by omega))).2]; unfold csF; simp []; done))))
theorem shown18_calls (w0 : World) (Z : Nat → Prop) (hZ : ∀ k, Z k → k < w0.heap.size)  (hShp : Shapes w0 Z) :
    Calls Tryz.prog 6 [].toArray w0 (fun e w' => e = .returned (.bool (true)) ∧ Fr none_ w0 w') := by
 have b0 := s0 (M := none_) hZ (zc (d := dShapes) hShp zn)
 refine c_enter Tryz.func6 rfl Tryz.ntmps6 rfl fun c0 d0 => ?_
 refine wsc fun c0 f0 => aw d0 f0 fun c0 h0 => ?_
 refine wsc fun f0 c0 => bld h0 fun f0 d0 => ?_
 refine bsl d0 b0 fun f0 h0 i0 j0 k0 => ?_
 refine aw j0 c0 fun h0 f0 => ?_
 refine wsc fun c0 h0 => ?_
 have c0 := k0.data (dAll []) all_nil
 refine bsl f0 c0 fun k0 j0 d0 b0 m0 => ?_
 refine mv b0 fun j0 k0 => ?_
 have j0 := m0.pub 0 (dRow 4 (some ⟨i0, 0, none⟩) 1 1 (encNs ([(⟨25, 0, 0, (⟨#[78]⟩ : ByteArray)⟩ : Nd)])))
 have m0 := j0.data (dAll [(((some ⟨i0, 0, none⟩), 1, [(⟨25, 0, 0, (⟨#[78]⟩ : ByteArray)⟩ : Nd)]) : Sl)]) (all_cons (j0.get (i := 2) rfl) all_nil)
 refine bsl k0 m0 fun j0 b0 c0 f0 n0 => ?_
 have b0 := n0.pub 0 (dRow 1 (some ⟨d0, 0, none⟩) 0 0 (encSs ([])))
 have n0 := b0.pub 0 (dRow 1 (some ⟨c0, 0, none⟩) 1 1 (encSs ([(((some ⟨i0, 0, none⟩), 1, [(⟨25, 0, 0, (⟨#[78]⟩ : ByteArray)⟩ : Nd)]) : Sl)])))
 have b0 := n0.data (dAllT [(((some ⟨d0, 0, none⟩), 0, []) : Tl), (((some ⟨c0, 0, none⟩), 1, [(((some ⟨i0, 0, none⟩), 1, [(⟨25, 0, 0, (⟨#[78]⟩ : ByteArray)⟩ : Nd)]) : Sl)]) : Tl)]) (allT_cons (n0.get (i := 4) rfl) (n0.get (i := 1) rfl) (allT_cons (n0.get (i := 5) rfl) (n0.get (i := 3) rfl) allT_nil))
 refine bsl f0 b0 fun n0 j0 m0 k0 o0 => ?_
 refine bld k0 fun j0 n0 => ?_
 refine alc n0 o0 fun j0 k0 b0 f0 p0 => ?_
 refine sto 1 f0 p0 fun b0 k0 j0 n0 => ?_
 refine wn h0 <| wsc fun h0 k0 => bld j0 fun h0 b0 => ?_
 refine bsl b0 n0 fun h0 j0 p0 f0 o0 => ?_
 refine aw f0 k0 fun j0 h0 => ?_
 refine wsc fun k0 j0 => m_loadN (i := 1) (vs := [.int .i64 3, .int .i64 1, .string (⟨#[78]⟩ : ByteArray), .slice none 0 0, .slice none 0 0, .slice (some ⟨m0, 0, none⟩) 2 2]) sv h0 o0 rfl rfl rfl rfl rfl Tryz.underlying25 rfl sz25 (by decide) fun k0 f0 => ?_
 refine bsl f0 o0 fun k0 h0 b0 n0 q0 => ?_
 refine mv n0 fun h0 k0 => ?_
 have h0 := q0.nf
 have q0 := h0.pub 0 (dRow 1 (some ⟨m0, 0, none⟩) 2 2 (encTs ([(((some ⟨d0, 0, none⟩), 0, []) : Tl), (((some ⟨c0, 0, none⟩), 1, [(((some ⟨i0, 0, none⟩), 1, [(⟨25, 0, 0, (⟨#[78]⟩ : ByteArray)⟩ : Nd)]) : Sl)]) : Tl)])))
 have h0 := q0.pub 2 (dRow 1 (some ⟨b0, 0, none⟩) 1 1 (encBs ([false])))
 have q0 := h0.pub 1 (dRow 4 (some ⟨p0, 0, none⟩) 1 1 (encNs ([(⟨10, 0, 0, (⟨#[]⟩ : ByteArray)⟩ : Nd)])))
 refine kcl k0 ok7 (case_calls _ _ q0.il 3 1 (⟨#[78]⟩ : ByteArray) none 0 [] none 0 [] _ _ ([(((some ⟨d0, 0, none⟩), 0, []) : Tl), (((some ⟨c0, 0, none⟩), 1, [(((some ⟨i0, 0, none⟩), 1, [(⟨25, 0, 0, (⟨#[78]⟩ : ByteArray)⟩ : Nd)]) : Sl)]) : Tl)]) 1 _ _ ([false]) false _ _ ([(⟨10, 0, 0, (⟨#[]⟩ : ByteArray)⟩ : Nd)]) (q0.g 0) ⟨Nat.le_refl _, RowI.nil _ _ _ _⟩ ⟨Nat.le_refl _, RowI.nil _ _ _ _⟩ (q0.g 7) (q0.g 6) (q0.g 8) (q0.g 9) (hl := (by simp)) (hb := sh18_b) (hall := sh18_p) (hsS := (by decide)) (hsm := sh18_m) (hlm := (by simp))) ?_
 rintro k0 c0 ⟨d0, i0, rfl, h0, p0⟩
 have i0 := q0.below h0.below
 have h0 := q0.dN i0 p0
 refine ⟨_, rfl, fun i0 p0 => ?_⟩
 rw [sh18.1, sh18.2] at p0
 rw [sh18.2] at h0
 have i0 : ([(⟨25, 0, 0, ⟨#[78]⟩⟩ : Nd), ⟨10, 0, 0, ⟨#[]⟩⟩, ⟨10, 0, 0, ⟨#[]⟩⟩, ⟨3, 0, 0, ⟨#[]⟩⟩, ⟨3, 0, 0, ⟨#[]⟩⟩]).length = 5 := rfl
 refine mv p0 fun i0 q0 => ?_
 refine r_extract sv q0 rfl rfl rfl rfl (by decide) fun i0 p0 => ?_
 refine r_extract sv p0 rfl rfl rfl rfl (by decide) fun i0 q0 => ?_
 refine asg q0 fun i0 p0 => ?_
 refine aw p0 j0 fun i0 q0 => ?_
 refine wp_seq_k fun j0 i0 => ?_
 obtain ⟨j0, p0, d0⟩ := h0.agree
 refine d_reg3 (n := 24) d0 11 pn (pan_then pan_body) fun j0 h0 c0 k0 b0 m0 => ?_
 refine dtM 0 h0 q0 m0 fun k0 j0 => ?_
 have k0 : (0 : Int) = 0 := by decide
 refine dt 1 rfl h0 j0 (want_n rfl) (fun x hx => r_eql (sy j0) j0 rfl rfl rfl rfl (by decide) gt) m0 fun q0 d0 => ?_
 refine dtM 2 h0 d0 m0 fun q0 j0 => ?_
 have q0 := j0.setb (d := 24) (b := true) rfl (decide_eq_true k0)
 refine dtM 3 h0 q0 m0 (fun j0 k0 => ?_) (hw := wt q0)
 refine dt 4 rfl h0 k0 (wt k0) (fun x hx => r_len (sy k0) k0 rfl rfl rfl rfl Tryz.underlying22 (by decide) gt) m0 fun j0 q0 => ?_
 refine dt 5 rfl h0 q0 (wt q0) (fun x hx => r_eql (sy q0) q0 rfl rfl rfl rfl (by decide) gt) m0 fun j0 k0 => ?_
 refine dt 6 rfl h0 k0 (want_n rfl) (fun x hx => r_pick_t (sy k0) k0 rfl rfl rfl rfl (by decide) gt) m0 fun j0 q0 => ?_
 refine dtM 7 h0 q0 m0 fun j0 k0 => ?_
 refine d_and 8 [9, 10, 11, 12, 13, 14] 15 (decide ((nth ([(⟨25, 0, 0, ⟨#[78]⟩⟩ : Nd), ⟨10, 0, 0, ⟨#[]⟩⟩, ⟨10, 0, 0, ⟨#[]⟩⟩, ⟨3, 0, 0, ⟨#[]⟩⟩, ⟨3, 0, 0, ⟨#[]⟩⟩]) 0) = (nth ([(⟨25, 0, 0, (⟨#[78]⟩ : ByteArray)⟩ : Nd)]) 0))) h0 k0 m0 (fun j0 q0 d0 => ?_) fun n0 f0 => ?_
 ·
  have n0 := of_decide_eq_true j0
  refine dtM 8 h0 q0 m0 (fun n0 j0 => ?_) (hw := wt q0)
  refine dt 9 rfl h0 j0 (wt j0) (fun x hx => m_index (i := 0) (j := 0 * 4) (sy j0) j0 rfl rfl rfl rfl Tryz.underlying22 sz30 (by omega) (by simp) (nds_elem (t := [(⟨25, 0, 0, ⟨#[78]⟩⟩ : Nd), ⟨10, 0, 0, ⟨#[]⟩⟩, ⟨10, 0, 0, ⟨#[]⟩⟩, ⟨3, 0, 0, ⟨#[]⟩⟩, ⟨3, 0, 0, ⟨#[]⟩⟩]) (k := 0) (sdat (p0 10 _ rfl) hx.ag).2 (by simp)).some_ rfl (by decide) gt) m0 fun n0 q0 => ?_
  refine dt 10 rfl h0 q0 (wt q0) (fun x hx => m_loadEN (sy q0) q0 rfl rfl rfl (nds_elem (t := [(⟨25, 0, 0, ⟨#[78]⟩⟩ : Nd), ⟨10, 0, 0, ⟨#[]⟩⟩, ⟨10, 0, 0, ⟨#[]⟩⟩, ⟨3, 0, 0, ⟨#[]⟩⟩, ⟨3, 0, 0, ⟨#[]⟩⟩]) (k := 0) (sdat (p0 10 _ rfl) hx.ag).2 (by simp)) Tryz.underlying30 rfl sz30 (by decide) gt) m0 fun n0 j0 => ?_
  refine dtM 11 h0 j0 m0 (fun n0 q0 => ?_) (hw := wt j0)
  refine dt 12 rfl h0 q0 (wt q0) (fun x hx => m_index (i := 0) (j := 0 * 4) (sy q0) q0 rfl rfl rfl rfl Tryz.underlying22 sz30 (by omega) (by simp) (nds_elem (t := [(⟨25, 0, 0, (⟨#[78]⟩ : ByteArray)⟩ : Nd)]) (k := 0) (sdat (p0 2 _ rfl) hx.ag).2 (by simp)).some_ rfl (by decide) gt) m0 fun n0 j0 => ?_
  refine dt 13 rfl h0 j0 (wt j0) (fun x hx => m_loadEN (sy j0) j0 rfl rfl rfl (nds_elem (t := [(⟨25, 0, 0, (⟨#[78]⟩ : ByteArray)⟩ : Nd)]) (k := 0) (sdat (p0 2 _ rfl) hx.ag).2 (by simp)) Tryz.underlying30 rfl sz30 (by decide) gt) m0 fun n0 q0 => ?_
  refine dt 14 rfl h0 q0 (wt q0) (fun x hx => r_eqlN (m := (nth ([(⟨25, 0, 0, ⟨#[78]⟩⟩ : Nd), ⟨10, 0, 0, ⟨#[]⟩⟩, ⟨10, 0, 0, ⟨#[]⟩⟩, ⟨3, 0, 0, ⟨#[]⟩⟩, ⟨3, 0, 0, ⟨#[]⟩⟩]) 0)) (n := (nth ([(⟨25, 0, 0, (⟨#[78]⟩ : ByteArray)⟩ : Nd)]) 0)) (sy q0) q0 rfl rfl rfl rfl (by decide) gt) m0 fun n0 j0 => ?_
  refine dt 15 rfl h0 j0 (want_n rfl) (fun x hx => r_pick_t (sy j0) j0 rfl rfl rfl rfl (by decide) gt) m0 fun n0 q0 => ?_
  exact d0.fin q0
 refine dtM 16 h0 f0 m0 fun q0 d0 => ?_
 refine d_and 17 [18, 19, 20, 21] 22 (decide ((((nth ([(⟨25, 0, 0, ⟨#[78]⟩⟩ : Nd), ⟨10, 0, 0, ⟨#[]⟩⟩, ⟨10, 0, 0, ⟨#[]⟩⟩, ⟨3, 0, 0, ⟨#[]⟩⟩, ⟨3, 0, 0, ⟨#[]⟩⟩]) 4).K)) = 3)) h0 d0 m0 (fun q0 f0 n0 => ?_) fun j0 k0 => ?_
 ·
  have j0 := and_tl q0
  have d0 := of_decide_eq_true j0
  have d0 := and_tr q0
  have q0 := of_decide_eq_true d0
  refine dtM 17 h0 f0 m0 (fun q0 d0 => ?_) (hw := wt f0)
  refine dt 18 rfl h0 d0 (wt d0) (fun x hx => m_index (i := 4) (j := 4 * 4) (sy d0) d0 rfl rfl rfl rfl Tryz.underlying22 sz30 (by omega) (by simp) (nds_elem (t := [(⟨25, 0, 0, ⟨#[78]⟩⟩ : Nd), ⟨10, 0, 0, ⟨#[]⟩⟩, ⟨10, 0, 0, ⟨#[]⟩⟩, ⟨3, 0, 0, ⟨#[]⟩⟩, ⟨3, 0, 0, ⟨#[]⟩⟩]) (k := 4) (sdat (p0 10 _ rfl) hx.ag).2 (by simp)).some_ rfl (by decide) gt) m0 fun q0 f0 => ?_
  refine dt 19 rfl h0 f0 (wt f0) (fun x hx => m_fieldE (j' := 4 * 4) (sy f0) f0 rfl rfl rfl (nds_elem (t := [(⟨25, 0, 0, ⟨#[78]⟩⟩ : Nd), ⟨10, 0, 0, ⟨#[]⟩⟩, ⟨10, 0, 0, ⟨#[]⟩⟩, ⟨3, 0, 0, ⟨#[]⟩⟩, ⟨3, 0, 0, ⟨#[]⟩⟩]) (k := 4) (sdat (p0 10 _ rfl) hx.ag).2 (by simp)).some_ Tryz.underlying30 rfl sz3 rfl rfl (by decide) gt) m0 fun q0 d0 => ?_
  refine dle 20 0 (4 * 4) d0 (fun x hx => nds_elem (t := [(⟨25, 0, 0, ⟨#[78]⟩⟩ : Nd), ⟨10, 0, 0, ⟨#[]⟩⟩, ⟨10, 0, 0, ⟨#[]⟩⟩, ⟨3, 0, 0, ⟨#[]⟩⟩, ⟨3, 0, 0, ⟨#[]⟩⟩]) (k := 4) (sdat (p0 10 _ rfl) hx.ag).2 (by simp)) fun q0 f0 => ?_
  refine dt 21 rfl h0 f0 (wt f0) (fun x hx => r_eql (sy f0) f0 rfl rfl rfl rfl (by decide) gt) m0 fun q0 d0 => ?_
  refine dt 22 rfl h0 d0 (want_n rfl) (fun x hx => r_pick_t (sy d0) d0 rfl rfl rfl rfl (by decide) gt) m0 fun q0 f0 => ?_
  exact n0.fin f0
 refine dtA 23 h0 k0 m0 fun f0 n0 => ?_
 refine wpAnyH_done (by kernel_rfl) (c0 _ _ ?_) _
 refine xn i0 <| wp_ret <| er1 n0 ?_
 have n0 : ((((decide (((([(⟨25, 0, 0, ⟨#[78]⟩⟩ : Nd), ⟨10, 0, 0, ⟨#[]⟩⟩, ⟨10, 0, 0, ⟨#[]⟩⟩, ⟨3, 0, 0, ⟨#[]⟩⟩, ⟨3, 0, 0, ⟨#[]⟩⟩]).length : Nat) : Int) = 5)) && (decide ((nth ([(⟨25, 0, 0, ⟨#[78]⟩⟩ : Nd), ⟨10, 0, 0, ⟨#[]⟩⟩, ⟨10, 0, 0, ⟨#[]⟩⟩, ⟨3, 0, 0, ⟨#[]⟩⟩, ⟨3, 0, 0, ⟨#[]⟩⟩]) 0) = (nth ([(⟨25, 0, 0, (⟨#[78]⟩ : ByteArray)⟩ : Nd)]) 0)))) && (decide ((((nth ([(⟨25, 0, 0, ⟨#[78]⟩⟩ : Nd), ⟨10, 0, 0, ⟨#[]⟩⟩, ⟨10, 0, 0, ⟨#[]⟩⟩, ⟨3, 0, 0, ⟨#[]⟩⟩, ⟨3, 0, 0, ⟨#[]⟩⟩]) 4).K)) = 3)))) = true := (by decide)
 refine ⟨?_, b0.fr⟩
 exact cre (ret_b (by rfl))
theorem rlevel_calls (w0 : World) (Z : Nat → Prop) (hZ : ∀ k, Z k → k < w0.heap.size) (n : Int)  :
    Calls Tryz.prog 108 [.int .i64 n].toArray w0 (fun e w' => e = .returned (.bool (decide (0 ≤ n) && decide (n ≤ 9))) ∧ Fr none_ w0 w') := by
 have b0 := s0 (M := none_) hZ zn
 refine c_enter Tryz.func108 rfl Tryz.ntmps108 rfl fun c0 d0 => ?_
 refine wsc fun c0 f0 => aw d0 f0 fun c0 h0 => ?_
 refine wsc fun f0 c0 => lR h0 fun f0 d0 => ?_
 refine lAn 2 (decide ((n) ≤ 9)) d0 fun f0 h0 => ?_
 refine aw h0 c0 fun f0 d0 => ?_
 refine wp_ret <| er1 d0 ?_
 refine ⟨?_, b0.fr⟩
 exact cre (ret_b (by rfl))
theorem rlvCheck_calls (w0 : World) (Z : Nat → Prop) (hZ : ∀ k, Z k → k < w0.heap.size) (n : Int)  :
    Calls Tryz.prog 71 [.int .i64 n].toArray w0 (fun e w' => e = .returned (.int .i64 (lvChk n)) ∧ Fr none_ w0 w') := by
 have b0 := s0 (M := none_) hZ zn
 refine c_enter Tryz.func71 rfl Tryz.ntmps71 rfl fun c0 d0 => ?_
 refine wsc fun c0 f0 => aw d0 f0 fun c0 h0 => ?_
 refine wp_seq_k fun f0 c0 => wsc fun f0 d0 => mv h0 fun f0 i0 => ?_
 have f0 := b0.nf
 refine kcl i0 ok108 (rlevel_calls _ _ f0.il (n)) ?_
 rintro i0 b0 ⟨rfl, h0⟩
 have b0 := f0.below h0.below
 refine ⟨_, rfl, fun h0 f0 => ?_⟩
 refine lR f0 fun h0 i0 => ?_
 refine wn d0 ?_
 rcases Bool.eq_false_or_eq_true (decide (0 ≤ (n)) && decide ((n) ≤ 9)) with d0 | d0
 ·
  have h0 := and_tl d0
  have f0 := of_decide_eq_true h0
  have h0 := and_tr d0
  have j0 := of_decide_eq_true h0
  refine wcfb i0 rfl (by rw [d0]; rfl) fun h0 => ?_
  refine wp_skip <| xn c0 <| wsc fun c0 k0 => aw h0 k0 fun c0 m0 => ?_
  refine wp_ret <| er1 m0 ?_
  refine ⟨?_, b0.fr⟩
  exact cre (ret_i (by have m0 := d0; (try simp at m0); have k0 := f0; (try simp at k0); have c0 := j0; (try simp at c0);  unfold lvChk; (try split) <;> first | rfl | omega))
 have c0 := d0
 try simp only [bz] at c0
 refine wctb i0 rfl (by rw [d0]; rfl) fun c0 => ?_
 refine wsc fun i0 k0 => aw c0 k0 fun i0 j0 => ?_
 refine wp_ret <| x_then_r <| er1 j0 ?_
 refine ⟨?_, b0.fr⟩
 exact cre (ret_i (by have m0 := d0; (try simp at m0);  unfold lvChk; (try split) <;> first | rfl | omega))
theorem rletter_calls (w0 : World) (Z : Nat → Prop) (hZ : ∀ k, Z k → k < w0.heap.size) (c : Nat)  :
    Calls Tryz.prog 107 [.int .u8 ((c : Nat) : Int)].toArray w0 (fun e w' => e = .returned (.bool (letN c)) ∧ Fr none_ w0 w') := by
 have b0 := s0 (M := none_) hZ zn
 refine c_enter Tryz.func107 rfl Tryz.ntmps107 rfl fun c0 d0 => ?_
 refine wsc fun c0 f0 => aw d0 f0 fun c0 h0 => ?_
 refine wsc fun f0 c0 => lR h0 fun f0 d0 => ?_
 refine lAn 2 (decide (((c : Nat) : Int) ≤ 122)) d0 fun f0 h0 => ?_
 refine mv h0 fun f0 d0 => ?_
 refine l_join (fun ga gw => Reg ga 21 [(0, .int .u8 ((c : Nat) : Int)), (2, .bool false), (16, .bool (((decide (97 ≤ ((c : Nat) : Int))) && (decide (((c : Nat) : Int) ≤ 122))) || ((decide (65 ≤ ((c : Nat) : Int))) && (decide (((c : Nat) : Int) ≤ 90))))), (1000000, .bool false)] ∧ St w0 Z none_ gw [] []) 7 ?_ ?_
 ·
  rcases Bool.eq_false_or_eq_true (((decide (97 ≤ ((c : Nat) : Int))) && (decide (((c : Nat) : Int) ≤ 122)))) with f0 | f0
  ·
   have h0 := and_tl f0
   have i0 := of_decide_eq_true h0
   have i0 := and_tr f0
   have h0 := of_decide_eq_true i0
   have h0 := d0.setb (d := 9) (b := true) rfl f0
   refine lR h0 fun i0 j0 => ?_
   refine wpList_nil ?_
   exact x_then_n ⟨(j0.sub (rc2 (rc (rb rfl (by (simp only [f0, bl]; done))) (rc rfl rnl)))), b0⟩
  have j0 := f0
  try simp only [bz] at j0
  have j0 := d0.setb (d := 9) (b := false) rfl f0
  refine lR j0 fun d0 i0 => ?_
  rcases Decidable.em (65 ≤ ((c : Nat) : Int)) with d0 | d0
  ·
   have j0 := i0.setb (d := 12) (b := true) rfl (decide_eq_true d0)
   refine lR j0 fun h0 k0 => ?_
   refine wpList_nil ?_
   exact x_then_n ⟨(k0.sub (rc2 (rc (rb rfl (by (simp only [f0, decide_eq_true d0, if_pos d0, bl]; done))) (rc rfl rnl)))), b0⟩
  have k0 := i0.setb (d := 12) (b := false) rfl (decide_eq_false d0)
  refine lR k0 fun i0 h0 => ?_
  refine wpList_nil ?_
  exact x_then_n ⟨(h0.sub (rc2 (rc (rb rfl (by (simp only [f0, decide_eq_false d0, if_neg d0, bl]; done))) (rc rfl rnl)))), b0⟩
 rintro h0 d0 ⟨f0, b0⟩
 refine mv f0 fun d0 h0 => ?_
 refine lOr 2 (decide (((c : Nat) : Int) = 95)) h0 fun d0 f0 => ?_
 refine aw f0 c0 fun d0 h0 => ?_
 refine wp_ret <| er1 h0 ?_
 refine ⟨?_, b0.fr⟩
 exact cre (ret_b (by rfl))
theorem rname_calls (w0 : World) (Z : Nat → Prop) (hZ : ∀ k, Z k → k < w0.heap.size) (s : ByteArray) (hs : s.size ≤ 9223372036854775807 := by first | assumption | omega | (simp <;> omega)) :
    Calls Tryz.prog 70 [.string s].toArray w0 (fun e w' => e = .returned (.bool (nameOk s)) ∧ Fr none_ w0 w') := by
 have b0 := s0 (M := none_) hZ zn
 refine c_enter Tryz.func70 rfl Tryz.ntmps70 rfl fun c0 d0 => ?_
 refine wsc fun c0 f0 => aw d0 f0 fun c0 h0 => ?_
 refine wp_seq_k fun f0 c0 => wsc fun f0 d0 => lR h0 fun f0 i0 => ?_
 refine lOr 3 (decide (16 < ((s.size : Nat) : Int))) i0 fun f0 h0 => ?_
 refine mv h0 fun f0 i0 => ?_
 refine l_join (fun ga gw => Reg ga 41 [(0, .string s), (2, .bool false), (17, .bool (((decide (((s.size : Nat) : Int) < 1)) || (decide (16 < ((s.size : Nat) : Int)))) || (!(letN (byteAt s 0))))), (1000000, .bool false)] ∧ St w0 Z none_ gw [] []) 5 ?_ ?_
 ·
  rcases Bool.eq_false_or_eq_true (((decide (((s.size : Nat) : Int) < 1)) || (decide (16 < ((s.size : Nat) : Int))))) with f0 | f0
  ·
   have h0 := f0
   try simp only [bz] at h0
   have h0 := i0.setb (d := 12) (b := true) rfl f0
   refine lR h0 fun j0 k0 => ?_
   refine wpList_nil ?_
   exact x_then_n ⟨(k0.sub (rc2 (rc (rb rfl (by (simp only [f0, bl]; done))) (rc rfl rnl)))), b0⟩
  have k0 := or_fl f0
  have j0 := of_decide_eq_false k0
  have j0 := or_fr f0
  have k0 := of_decide_eq_false j0
  have k0 := i0.setb (d := 12) (b := false) rfl f0
  refine lR k0 fun i0 j0 => ?_
  refine r_byte (i := 0) (st_listV_w (wt j0)) j0 rfl rfl rfl rfl Tryz.underlying9 (by omega) (by omega) (by decide) fun i0 k0 => ?_
  have i0 := b0.nf
  refine kcl k0 ok107 (rletter_calls _ _ i0.il (byteAt s 0)) ?_
  rintro k0 b0 ⟨rfl, j0⟩
  have b0 := i0.below j0.below
  refine ⟨_, rfl, fun j0 i0 => ?_⟩
  refine lR i0 fun j0 k0 => ?_
  refine wpList_nil ?_
  exact x_then_n ⟨(k0.sub (rc2 (rc (rb rfl (by (simp only [f0, bl]; done))) (rc rfl rnl)))), b0⟩
 rintro k0 b0 ⟨f0, j0⟩
 refine wn d0 ?_
 rcases Bool.eq_false_or_eq_true ((((decide (((s.size : Nat) : Int) < 1)) || (decide (16 < ((s.size : Nat) : Int)))) || (!(letN (byteAt s 0))))) with d0 | d0
 ·
  have b0 := d0
  try simp only [bz] at b0
  refine wct f0 d0 fun k0 => ?_
  refine wsc fun i0 h0 => aw k0 h0 fun i0 m0 => ?_
  refine wp_ret <| x_then_r <| er1 m0 ?_
  refine ⟨?_, j0.fr⟩
  exact cre (ret_b (by exact (rname_bad0 (by rcases b0 with h | h; exact .inl (by omega); exact .inr h)).symm))
 have b0 := or_fl d0
 have m0 := or_fl b0
 have h0 := of_decide_eq_false m0
 have h0 := or_fr b0
 have b0 := of_decide_eq_false h0
 have b0 := or_fr d0
 have h0 := not_f b0
 refine wcf f0 d0 fun h0 => ?_
 refine wp_skip <| xn c0 <| wp_seq_k fun c0 d0 => wsc fun c0 f0 => aw h0 f0 fun c0 b0 => ?_
 refine wp_block ?_
 refine wp_loop_ghost (fun gn ga gw => ∃ k : Nat, (Reg ga 41 [(0, .string s), (1000000, .bool false), (3, .int .i64 ((k : Nat) : Int))]) ∧ (St w0 Z none_ gw [] []) ∧ (k ≤ s.size) ∧ (nameTo s k) ∧ (s.size - k) = gn) _ ⟨0, (b0.sub (rc2 (rc rfl rnl))), j0, by omega, nameTo_zero s, rfl⟩ ?_
 rintro b0 j0 f0 ⟨k, c0, h0, hk, hi, m0⟩
 refine wp_seq_k fun m0 f0 => wsc fun m0 j0 => lR c0 fun m0 b0 => ?_
 refine wn j0 ?_
 rcases Decidable.em (((k : Nat) : Int) < ((s.size : Nat) : Int)) with j0 | j0
 ·
  refine wct b0 (decide_eq_true j0) fun m0 => ?_
  refine wp_skip <| xn f0 <| wp_seq_k fun f0 c0 => wp_block ?_
  refine wsc fun f0 i0 => lR m0 fun f0 k0 => ?_
  refine r_byte (i := k) sv k0 rfl rfl rfl rfl Tryz.underlying9 (by omega) (by omega) (by decide) fun f0 m0 => ?_
  have f0 := h0.nf
  refine kcl m0 ok107 (rletter_calls _ _ f0.il (byteAt s k)) ?_
  rintro m0 k0 ⟨rfl, n0⟩
  have k0 := f0.below n0.below
  refine ⟨_, rfl, fun n0 f0 => ?_⟩
  refine lR f0 fun n0 m0 => ?_
  refine l_join (fun ga gw => Reg ga 41 [(0, .string s), (3, .int .i64 ((k : Nat) : Int)), (40, .bool ((!(letN (byteAt s k))) && ((decide (((byteAt s k : Nat) : Int) < 48)) || (decide (57 < ((byteAt s k : Nat) : Int)))))), (1000000, .bool false)] ∧ St w0 Z none_ gw [] []) 11 ?_ ?_
  ·
   rcases Bool.eq_false_or_eq_true (letN (byteAt s k)) with n0 | n0
   ·
    have f0 := m0.setb (d := 29) (b := false) rfl (by rw [n0]; rfl)
    refine lR f0 fun o0 p0 => ?_
    refine wpList_nil ?_
    exact x_then_n ⟨(p0.sub (rc2 (rc (rb rfl (by (simp only [n0, bl]; done))) (rc rfl rnl)))), k0⟩
   have p0 := m0.setb (d := 29) (b := true) rfl (by rw [n0]; rfl)
   refine lR p0 fun m0 o0 => ?_
   refine r_byte (i := k) (st_listV_w (wt o0)) o0 rfl rfl rfl rfl Tryz.underlying9 (by omega) (by omega) (by decide) fun m0 p0 => ?_
   refine lR p0 fun m0 o0 => ?_
   rcases Decidable.em (((byteAt s k : Nat) : Int) < 48) with m0 | m0
   ·
    have p0 := o0.setb (d := 34) (b := true) rfl (decide_eq_true m0)
    refine lR p0 fun f0 q0 => ?_
    refine wpList_nil ?_
    exact x_then_n ⟨(q0.sub (rc2 (rc (rb rfl (by (simp only [n0, decide_eq_true m0, if_pos m0, bl]; done))) (rc rfl rnl)))), k0⟩
   have q0 := o0.setb (d := 34) (b := false) rfl (decide_eq_false m0)
   refine lR q0 fun o0 f0 => ?_
   refine r_byte (i := k) (st_listV_w (wt f0)) f0 rfl rfl rfl rfl Tryz.underlying9 (by omega) (by omega) (by decide) fun o0 q0 => ?_
   refine lR q0 fun o0 f0 => ?_
   refine wpList_nil ?_
   exact x_then_n ⟨(f0.sub (rc2 (rc (rb rfl (by (simp only [n0, decide_eq_false m0, if_neg m0, bl]; done))) (rc rfl rnl)))), k0⟩
  rintro f0 m0 ⟨n0, k0⟩
  refine wn i0 ?_
  rcases Bool.eq_false_or_eq_true (((!(letN (byteAt s k))) && ((decide (((byteAt s k : Nat) : Int) < 48)) || (decide (57 < ((byteAt s k : Nat) : Int)))))) with i0 | i0
  ·
   have m0 := and_tl i0
   have f0 := not_t m0
   have f0 := and_tr i0
   have m0 := f0
   try simp only [bz] at m0
   refine wct n0 i0 fun m0 => ?_
   refine wsc fun f0 o0 => aw m0 o0 fun f0 q0 => ?_
   refine wp_ret <| x_block_r <| x_then_r <| x_then_r <| x_block_r <| x_then_r <| er1 q0 ?_
   refine ⟨?_, k0.fr⟩
   exact cre (ret_b (by exact (rname_bad (k := k) (by omega) (by assumption) (by omega)).symm))
  have q0 := i0
  try simp only [bz] at q0
  refine wcf n0 i0 fun o0 => ?_
  refine wp_skip <| x_block_n <| xn c0 <| c_region ?_
  refine mv o0 fun c0 i0 => ?_
  refine adi ((k + 1 : Nat) : Int) i0 fun c0 o0 => ?_
  refine asg o0 fun c0 i0 => ?_
  refine wpList_nil ?_
  exact ⟨_, by omega, k + 1, (i0.sub (rc2 (rc rfl rnl))), k0, by omega, nameTo_step hi (rname_step (by assumption) (by rcases q0 with h | h; exact .inl h; exact .inr (by omega))), rfl⟩
 refine wcf b0 (decide_eq_false j0) fun i0 => ?_
 refine wp_exit ?_
 refine x_then_e ?_
 refine x_then_e ?_
 refine x_block_eq ?_
 refine xn d0 <| wsc fun d0 j0 => aw i0 j0 fun d0 b0 => ?_
 refine wp_ret <| er1 b0 ?_
 refine ⟨?_, h0.fr⟩
 exact cre (ret_b (by exact (rname_end hi (by omega) (by omega) (by omega)).symm))
theorem rplain_calls (w0 : World) (Z : Nat → Prop) (hZ : ∀ k, Z k → k < w0.heap.size) (n : Nd)  :
    Calls Tryz.prog 72 [.agg #[.int .i64 (n.K), .int .i64 (n.N), .int .i64 (n.M), .string n.S]].toArray w0 (fun e w' => e = .returned (.bool (plainB n)) ∧ Fr none_ w0 w') := by
 have b0 := s0 (M := none_) hZ zn
 refine c_enter Tryz.func72 rfl Tryz.ntmps72 rfl fun c0 d0 => ?_
 refine wsc fun c0 f0 => bxx d0 b0 fun c0 h0 i0 j0 k0 => ?_
 refine aw j0 f0 fun i0 h0 => ?_
 refine wsc fun f0 i0 => lR h0 fun f0 j0 => ?_
 refine lAn 3 (decide ((n.M) = 0)) j0 fun f0 h0 => ?_
 refine mv h0 fun f0 j0 => ?_
 refine lAn 3 (decide (n.S = (⟨#[]⟩ : ByteArray))) j0 fun f0 h0 => ?_
 refine aw h0 i0 fun f0 j0 => ?_
 refine wp_ret <| er1 j0 ?_
 refine ⟨?_, k0.fr⟩
 exact cre (ret_b (by rfl))
theorem rbinds_calls (w0 : World) (Z : Nat → Prop) (hZ : ∀ k, Z k → k < w0.heap.size) (n : Nd) (hs : n.S.size < 1000000 := by first | assumption | omega | (simp <;> omega)) :
    Calls Tryz.prog 35 [.agg #[.int .i64 (n.K), .int .i64 (n.N), .int .i64 (n.M), .string n.S]].toArray w0 (fun e w' => ∃ (rA0 : Option Addr) (rc0 : Nat), e = .returned (.tuple #[.slice rA0 (bindL n).length rc0, .bool (right n)]) ∧ Fr none_ w0 w' ∧ (dRow 1 rA0 ((bindL n).length) rc0 (encIs (bindL n))).φ w' (nxt Z w0 w')) := by
 have b0 := s0 (M := none_) hZ zn
 refine c_enter Tryz.func35 rfl Tryz.ntmps35 rfl fun c0 d0 => ?_
 refine wsc fun c0 f0 => bxx d0 b0 fun c0 h0 i0 j0 k0 => ?_
 refine lR j0 fun h0 c0 => ?_
 refine wn f0 <| wsc fun f0 h0 => bsl c0 k0 fun f0 j0 d0 b0 m0 => ?_
 refine aw b0 h0 fun j0 f0 => ?_
 refine wp_seq_k fun h0 j0 => wsc fun h0 b0 => lR f0 fun h0 c0 => ?_
 refine wn b0 <| wp_block ?_
 refine wsc fun b0 h0 => lR c0 fun b0 f0 => ?_
 refine wn h0 ?_
 rcases Decidable.em ((n.K) = 0) with h0 | h0
 ·
  refine wct f0 (decide_eq_true h0) fun b0 => ?_
  refine wp_seq_k fun c0 k0 => ?_
  obtain ⟨c0, n0, o0⟩ := m0.agree
  refine d_reg3 (n := 21) o0 0 (pB 0 0 pn) (pan_then (pan_block (pan_then pan_body))) fun n0 c0 p0 q0 t0 u0 => ?_
  refine dR [0, 1, 2, 3, 4] b0 fun u0 q0 => ?_
  refine dAn 5 [6, 7] 8 (decide ((n.N) ≤ 99)) q0 fun u0 b0 => ?_
  refine dR [9] b0 fun u0 q0 => ?_
  refine dAn 10 [11, 12] 13 (decide ((n.M) = 0)) q0 fun u0 b0 => ?_
  refine dR [14] b0 fun u0 q0 => ?_
  refine dAn 15 [16, 17] 18 (decide (n.S = (⟨#[]⟩ : ByteArray))) q0 fun u0 b0 => ?_
  refine dR [19, 20] b0 fun u0 q0 => ?_
  refine wpAnyH_done (by kernel_rfl) (p0 _ _ ?_) _
  refine xn k0 <| wp_ret <| x_block_r <| x_then_r <| er2 q0 ?_
  have q0 : bindL n = [] := by rcases (show n.K = 0 by omega) with h <;> simp [bindL, h, shp]
  rw [q0]
  have q0 := t0.pub 1 (dRow 1 (some ⟨d0, 0, none⟩) 0 0 (encIs ([])))
  refine ⟨(some ⟨d0, 0, none⟩), 0, ?_, q0.fr, q0.rx 1⟩
  exact ret_t2 rfl (ret_b (by (rw [(right_var (by omega)), Bool.eq_iff_iff]; simp [and_assoc]; done) ))
 refine wcf f0 (decide_eq_false h0) fun q0 => ?_
 refine c_join (fun ga gw => Reg ga 228 [(1, .pointer (some ⟨i0, 0, none⟩)), (2, .slice none 0 0), (3, .bool false), (4, .slice (some ⟨d0, 0, none⟩) 0 0), (7, .int .i64 (n.K)), (29, .bool ((decide ((n.K) = 1)) || (decide ((n.K) = 25)))), (1000000, .bool false)] ∧ St w0 Z none_ gw [.box i0 30 [.int .i64 (n.K), .int .i64 (n.N), .int .i64 (n.M), .string n.S], .row (some ⟨d0, 0, none⟩) 0 0 3 1 (encIs ([]))] []) ?_ ?_
 ·
  refine wsc fun h0 f0 => lR q0 fun h0 t0 => ?_
  refine wn f0 ?_
  rcases Decidable.em ((n.K) = 1) with f0 | f0
  ·
   refine wct t0 (decide_eq_true f0) fun h0 => ?_
   refine wp_skip ?_
   exact x_then_n ⟨(h0.sub (rc4 (rc rfl (rc (rb rfl (by (simp only [decide_eq_true f0, if_pos f0, bl]; done))) (rc rfl rnl))))), m0⟩
  refine wcf t0 (decide_eq_false f0) fun h0 => ?_
  refine c_region ?_
  refine lR h0 fun t0 q0 => ?_
  refine wpList_nil ?_
  exact x_then_n ⟨(q0.sub (rc4 (rc rfl (rc (rb rfl (by (simp only [decide_eq_false f0, if_neg f0, bl]; done))) (rc rfl rnl))))), m0⟩
 rintro q0 f0 ⟨m0, t0⟩
 rcases Bool.eq_false_or_eq_true (((decide ((n.K) = 1)) || (decide ((n.K) = 25)))) with f0 | f0
 ·
  have q0 := f0
  try simp only [bz] at q0
  refine wct m0 f0 fun q0 => ?_
  refine wsc fun h0 k0 => lR q0 fun h0 p0 => ?_
  refine lAn 3 (decide ((n.M) = 0)) p0 fun h0 q0 => ?_
  refine mv q0 fun h0 p0 => ?_
  refine l_join (fun ga gw => Reg ga 228 [(2, .slice none 0 0), (3, .bool false), (4, .slice (some ⟨d0, 0, none⟩) 0 0), (32, .slice (some ⟨d0, 0, none⟩) 0 0), (45, .bool (((decide ((n.N) = 0)) && (decide ((n.M) = 0))) && (nameOk n.S))), (1000000, .bool false)] ∧ St w0 Z none_ gw [.box i0 30 [.int .i64 (n.K), .int .i64 (n.N), .int .i64 (n.M), .string n.S], .row (some ⟨d0, 0, none⟩) 0 0 3 1 (encIs ([]))] []) 4 ?_ ?_
  ·
   rcases Bool.eq_false_or_eq_true (((decide ((n.N) = 0)) && (decide ((n.M) = 0)))) with h0 | h0
   ·
    have q0 := and_tl h0
    have u0 := of_decide_eq_true q0
    have u0 := and_tr h0
    have q0 := of_decide_eq_true u0
    have q0 := p0.setb (d := 41) (b := true) rfl h0
    refine lR q0 fun u0 b0 => ?_
    have u0 := t0.nf
    refine kcl b0 ok70 (rname_calls _ _ u0.il n.S) ?_
    rintro b0 q0 ⟨rfl, c0⟩
    have q0 := u0.below c0.below
    refine ⟨_, rfl, fun c0 u0 => ?_⟩
    refine lR u0 fun c0 b0 => ?_
    refine wpList_nil ?_
    exact x_then_n ⟨(b0.sub (rc4 (rc (rb rfl (by (simp only [h0, bl]; done))) (rc rfl rnl)))), q0⟩
   have b0 := h0
   try simp only [bz] at b0
   have b0 := p0.setb (d := 41) (b := false) rfl h0
   refine lR b0 fun p0 q0 => ?_
   refine wpList_nil ?_
   exact x_then_n ⟨(q0.sub (rc4 (rc (rb rfl (by (simp only [h0, bl]; done))) (rc rfl rnl)))), t0⟩
  rintro q0 h0 ⟨p0, b0⟩
  refine lR p0 fun h0 q0 => ?_
  refine wn k0 <| wp_ret <| x_block_r <| x_then_r <| er2 q0 ?_
  have q0 : bindL n = [] := by rcases (show n.K = 1 ∨ n.K = 25 by omega) with h | h <;> simp [bindL, h, shp]
  rw [q0]
  have q0 := b0.pub 1 (dRow 1 (some ⟨d0, 0, none⟩) 0 0 (encIs ([])))
  refine ⟨(some ⟨d0, 0, none⟩), 0, ?_, q0.fr, q0.rx 0⟩
  exact ret_t2 rfl (ret_b (by (rw [(right_str (by omega)), Bool.eq_iff_iff]; simp [and_assoc]; done) ))
 have q0 := or_fl f0
 have b0 := of_decide_eq_false q0
 have b0 := or_fr f0
 have q0 := of_decide_eq_false b0
 refine wcf m0 f0 fun q0 => ?_
 refine wsc fun f0 m0 => lR q0 fun f0 b0 => ?_
 refine wn m0 ?_
 rcases Decidable.em ((n.K) = 2) with m0 | m0
 ·
  refine wct b0 (decide_eq_true m0) fun f0 => ?_
  refine wp_seq_k fun q0 k0 => ?_
  obtain ⟨q0, h0, p0⟩ := t0.agree
  refine d_reg3 (n := 17) p0 0 (pB 0 0 pn) (pan_then (pan_block (pan_then pan_body))) fun h0 q0 c0 u0 n0 o0 => ?_
  refine dR [0, 1, 2] f0 fun o0 u0 => ?_
  refine d1 3 ?_
  have o0 := n0.nf
  refine kcl u0 ok71 (rlvCheck_calls _ _ o0.il (n.N)) ?_
  rintro u0 n0 ⟨rfl, f0⟩
  have n0 := o0.below f0.below
  refine ⟨_, rfl, fun f0 o0 => ?_⟩
  have f0 := sWI n0 0 (pB 0 0 pn)
  refine ⟨f0, ?_⟩
  refine dR [4, 5] o0 fun f0 u0 => ?_
  refine dAn 6 [7, 8] 9 (decide ((n.M) = 0)) u0 fun f0 o0 => ?_
  refine dR [10] o0 fun f0 u0 => ?_
  refine dAn 11 [12, 13] 14 (decide (n.S = (⟨#[]⟩ : ByteArray))) u0 fun f0 o0 => ?_
  refine dR [15, 16] o0 fun f0 u0 => ?_
  refine wpAnyH_done (by kernel_rfl) (c0 _ _ ?_) _
  refine xn k0 <| wp_ret <| x_block_r <| x_then_r <| er2 u0 ?_
  have u0 : bindL n = [] := by rcases (show n.K = 2 by omega) with h <;> simp [bindL, h, shp]
  rw [u0]
  have u0 := n0.pub 1 (dRow 1 (some ⟨d0, 0, none⟩) 0 0 (encIs ([])))
  refine ⟨(some ⟨d0, 0, none⟩), 0, ?_, u0.fr, u0.rx 1⟩
  exact ret_t2 rfl (ret_b (by (rw [(right_sortR (by omega)), Bool.eq_iff_iff]; simp [and_assoc]; done) ))
 refine wcf b0 (decide_eq_false m0) fun u0 => ?_
 refine c_join (fun ga gw => Reg ga 228 [(1, .pointer (some ⟨i0, 0, none⟩)), (2, .slice none 0 0), (3, .bool false), (4, .slice (some ⟨d0, 0, none⟩) 0 0), (7, .int .i64 (n.K)), (63, .bool ((decide ((n.K) = 3)) || (decide ((n.K) = 6)))), (1000000, .bool false)] ∧ St w0 Z none_ gw [.box i0 30 [.int .i64 (n.K), .int .i64 (n.N), .int .i64 (n.M), .string n.S], .row (some ⟨d0, 0, none⟩) 0 0 3 1 (encIs ([]))] []) ?_ ?_
 ·
  refine wsc fun m0 b0 => lR u0 fun m0 n0 => ?_
  refine wn b0 ?_
  rcases Decidable.em ((n.K) = 3) with b0 | b0
  ·
   refine wct n0 (decide_eq_true b0) fun m0 => ?_
   refine wp_skip ?_
   exact x_then_n ⟨(m0.sub (rc4 (rc rfl (rc (rb rfl (by (simp only [decide_eq_true b0, if_pos b0, bl]; done))) (rc rfl rnl))))), t0⟩
  refine wcf n0 (decide_eq_false b0) fun m0 => ?_
  refine c_region ?_
  refine lR m0 fun n0 u0 => ?_
  refine wpList_nil ?_
  exact x_then_n ⟨(u0.sub (rc4 (rc rfl (rc (rb rfl (by (simp only [decide_eq_false b0, if_neg b0, bl]; done))) (rc rfl rnl))))), t0⟩
 rintro u0 b0 ⟨t0, n0⟩
 rcases Bool.eq_false_or_eq_true (((decide ((n.K) = 3)) || (decide ((n.K) = 6)))) with b0 | b0
 ·
  have u0 := b0
  try simp only [bz] at u0
  refine wct t0 b0 fun u0 => ?_
  refine wp_seq_k fun m0 k0 => ?_
  obtain ⟨m0, c0, f0⟩ := n0.agree
  refine d_reg3 (n := 23) f0 0 (pB 0 0 pn) (pan_then (pan_block (pan_then pan_body))) fun c0 m0 o0 q0 h0 p0 => ?_
  refine dR [0, 3, 4, 5] u0 fun p0 q0 => ?_
  refine d1 1 ?_
  refine bsl q0 h0 fun p0 u0 m0 c0 f0 => ?_
  have m0 := sWI f0 0 (pB 0 0 pn)
  refine ⟨m0, ?_⟩
  refine d1 2 ?_
  refine m_appendF (f := encI) (i := 1) ([]) ([0, 1]) (st_opV rfl (want_n rfl)) c0 f0 rfl rfl rfl rfl rfl encI_len (encI_one _) Tryz.underlying57 zi3 rfl rfl (own_lnews (f := encI) (f0.res (i := 2) rfl)) rfl (by (simp only [List.length_cons, List.length_nil]; omega)) (by decide) fun m0 u0 p0 q0 h0 v0 x0 => ?_
  have h0 : (([]) ++ ([0, 1]) : List Int).length = 2 := by (simp only [List.length_append, List.length_take, List.length_cons, List.length_nil]; done)
  have h0 := x0.erase 2
  have x0 := sWI h0 0 (pB 0 0 pn)
  refine ⟨x0, ?_⟩
  refine dR [6] v0 fun x0 u0 => ?_
  refine dAn 7 [8, 9] 10 (decide ((n.N) ≤ 3)) u0 fun x0 v0 => ?_
  refine dR [11] v0 fun x0 u0 => ?_
  refine dAn 12 [13, 14] 15 (decide ((n.M) = 0)) u0 fun x0 v0 => ?_
  refine dR [16] v0 fun x0 u0 => ?_
  refine dAn 17 [18, 19] 20 (decide (n.S = (⟨#[]⟩ : ByteArray))) u0 fun x0 v0 => ?_
  refine dR [21, 22] v0 fun x0 u0 => ?_
  refine wpAnyH_done (by kernel_rfl) (o0 _ _ ?_) _
  refine xn k0 <| wp_ret <| x_block_r <| x_then_r <| er2 u0 ?_
  have u0 : bindL n = ([]) ++ ([0, 1]) := by rcases (show n.K = 3 ∨ n.K = 6 by omega) with h | h <;> simp [bindL, h, shp]
  rw [u0]
  have u0 := h0.pub 1 (dRow 1 p0 ((([]) ++ ([0, 1]) : List Int).length) q0 (encIs (([]) ++ ([0, 1]))))
  refine ⟨p0, q0, ?_, u0.fr, u0.rx 1⟩
  exact ret_t2 rfl (ret_b (by (rw [(right_pi (by omega)), Bool.eq_iff_iff]; simp [and_assoc]; done) ))
 have u0 := or_fl b0
 have q0 := of_decide_eq_false u0
 have q0 := or_fr b0
 have u0 := of_decide_eq_false q0
 refine wcf t0 b0 fun u0 => ?_
 refine wsc fun b0 t0 => lR u0 fun b0 q0 => ?_
 refine wn t0 ?_
 rcases Decidable.em ((n.K) = 4) with t0 | t0
 ·
  refine wct q0 (decide_eq_true t0) fun b0 => ?_
  refine wp_seq_k fun u0 p0 => ?_
  obtain ⟨u0, h0, k0⟩ := n0.agree
  refine d_reg3 (n := 7) k0 0 (pB 0 0 pn) (pan_then (pan_block (pan_then pan_body))) fun h0 u0 o0 x0 v0 m0 => ?_
  refine dR [0] b0 fun x0 h0 => ?_
  refine dt 3 rfl u0 h0 (want_n rfl) (fun x hx => m_loadCN (sy h0) h0 rfl rfl rfl (CellsAt.cons_ (hx.c 0) (CellsAt.cons_ (hx.c 1) (CellsAt.cons_ (hx.c 2) (CellsAt.cons_ (hx.c 3) (CellsAt.nil _ _))))) Tryz.underlying30 rfl sz30 (by decide) gt) m0 fun x0 b0 => ?_
  refine d1 1 ?_
  refine bsl b0 v0 fun x0 h0 m0 u0 k0 => ?_
  have m0 := sWI k0 0 (pB 0 0 pn)
  refine ⟨m0, ?_⟩
  refine d1 2 ?_
  refine m_appendF (f := encI) (i := 1) ([]) ([0, 1]) (st_opV rfl (want_n rfl)) u0 k0 rfl rfl rfl rfl rfl encI_len (encI_one _) Tryz.underlying57 zi3 rfl rfl (own_lnews (f := encI) (k0.res (i := 2) rfl)) rfl (by (simp only [List.length_cons, List.length_nil]; omega)) (by decide) fun m0 h0 x0 b0 v0 f0 c0 => ?_
  have v0 : (([]) ++ ([0, 1]) : List Int).length = 2 := by (simp only [List.length_append, List.length_take, List.length_cons, List.length_nil]; done)
  have v0 := c0.erase 2
  have c0 := sWI v0 0 (pB 0 0 pn)
  refine ⟨c0, ?_⟩
  refine d1 4 ?_
  have c0 := v0.nf
  refine kcl f0 ok72 (rplain_calls _ _ c0.il n) ?_
  rintro f0 v0 ⟨rfl, h0⟩
  have v0 := c0.below h0.below
  refine ⟨_, rfl, fun h0 c0 => ?_⟩
  have h0 := sWI v0 0 (pB 0 0 pn)
  refine ⟨h0, ?_⟩
  refine dR [5, 6] c0 fun h0 f0 => ?_
  refine wpAnyH_done (by kernel_rfl) (o0 _ _ ?_) _
  refine xn p0 <| wp_ret <| x_block_r <| x_then_r <| er2 f0 ?_
  have f0 : bindL n = ([]) ++ ([0, 1]) := by rcases (show n.K = 4 by omega) with h <;> simp [bindL, h, shp]
  rw [f0]
  have f0 := v0.pub 1 (dRow 1 x0 ((([]) ++ ([0, 1]) : List Int).length) b0 (encIs (([]) ++ ([0, 1]))))
  refine ⟨x0, b0, ?_, f0.fr, f0.rx 1⟩
  exact ret_t2 rfl (ret_b (by (rw [(right_plain (by omega) (by omega) (by omega))]; done) ))
 refine wcf q0 (decide_eq_false t0) fun f0 => ?_
 refine c_join (fun ga gw => Reg ga 228 [(1, .pointer (some ⟨i0, 0, none⟩)), (2, .slice none 0 0), (3, .bool false), (4, .slice (some ⟨d0, 0, none⟩) 0 0), (7, .int .i64 (n.K)), (94, .bool ((decide ((n.K) = 5)) || ((decide ((n.K) = 15)) || ((decide ((n.K) = 19)) || (decide ((n.K) = 23)))))), (1000000, .bool false)] ∧ St w0 Z none_ gw [.box i0 30 [.int .i64 (n.K), .int .i64 (n.N), .int .i64 (n.M), .string n.S], .row (some ⟨d0, 0, none⟩) 0 0 3 1 (encIs ([]))] []) ?_ ?_
 ·
  refine wsc fun t0 q0 => lR f0 fun t0 b0 => ?_
  refine wn q0 ?_
  rcases Decidable.em ((n.K) = 5) with q0 | q0
  ·
   refine wct b0 (decide_eq_true q0) fun t0 => ?_
   refine wp_skip ?_
   exact x_then_n ⟨(t0.sub (rc4 (rc rfl (rc (rb rfl (by (simp only [decide_eq_true q0, if_pos q0, bl]; done))) (rc rfl rnl))))), n0⟩
  refine wcf b0 (decide_eq_false q0) fun t0 => ?_
  refine wsc fun b0 f0 => lR t0 fun b0 x0 => ?_
  refine wn f0 ?_
  rcases Decidable.em ((n.K) = 15) with f0 | f0
  ·
   refine wct x0 (decide_eq_true f0) fun b0 => ?_
   refine wp_skip ?_
   exact x_then_n ⟨(b0.sub (rc4 (rc rfl (rc (rb rfl (by (simp only [decide_eq_false q0, if_neg q0, decide_eq_true f0, if_pos f0, bl]; done))) (rc rfl rnl))))), n0⟩
  refine wcf x0 (decide_eq_false f0) fun b0 => ?_
  refine wsc fun x0 t0 => lR b0 fun x0 v0 => ?_
  refine wn t0 ?_
  rcases Decidable.em ((n.K) = 19) with t0 | t0
  ·
   refine wct v0 (decide_eq_true t0) fun x0 => ?_
   refine wp_skip ?_
   exact x_then_n ⟨(x0.sub (rc4 (rc rfl (rc (rb rfl (by (simp only [decide_eq_false q0, if_neg q0, decide_eq_false f0, if_neg f0, decide_eq_true t0, if_pos t0, bl]; done))) (rc rfl rnl))))), n0⟩
  refine wcf v0 (decide_eq_false t0) fun x0 => ?_
  refine c_region ?_
  refine lR x0 fun v0 b0 => ?_
  refine wpList_nil ?_
  exact x_then_n ⟨(b0.sub (rc4 (rc rfl (rc (rb rfl (by (simp only [decide_eq_false q0, if_neg q0, decide_eq_false f0, if_neg f0, decide_eq_false t0, if_neg t0, bl]; done))) (rc rfl rnl))))), n0⟩
 rintro b0 t0 ⟨f0, q0⟩
 rcases Bool.eq_false_or_eq_true (((decide ((n.K) = 5)) || ((decide ((n.K) = 15)) || ((decide ((n.K) = 19)) || (decide ((n.K) = 23)))))) with t0 | t0
 ·
  have b0 := t0
  try simp only [bz] at b0
  refine wct f0 t0 fun b0 => ?_
  refine wp_seq_k fun n0 v0 => ?_
  obtain ⟨n0, x0, p0⟩ := q0.agree
  refine d_reg3 (n := 7) p0 0 (pB 0 0 pn) (pan_then (pan_block (pan_then pan_body))) fun x0 n0 o0 h0 c0 m0 => ?_
  refine dR [0] b0 fun h0 x0 => ?_
  refine dt 3 rfl n0 x0 (want_n rfl) (fun x hx => m_loadCN (sy x0) x0 rfl rfl rfl (CellsAt.cons_ (hx.c 0) (CellsAt.cons_ (hx.c 1) (CellsAt.cons_ (hx.c 2) (CellsAt.cons_ (hx.c 3) (CellsAt.nil _ _))))) Tryz.underlying30 rfl sz30 (by decide) gt) m0 fun h0 b0 => ?_
  refine d1 1 ?_
  refine bsl b0 c0 fun h0 x0 m0 n0 p0 => ?_
  have m0 := sWI p0 0 (pB 0 0 pn)
  refine ⟨m0, ?_⟩
  refine d1 2 ?_
  refine m_appendF (f := encI) (i := 1) ([]) ([0, 0]) (st_opV rfl (want_n rfl)) n0 p0 rfl rfl rfl rfl rfl encI_len (encI_one _) Tryz.underlying57 zi3 rfl rfl (own_lnews (f := encI) (p0.res (i := 2) rfl)) rfl (by (simp only [List.length_cons, List.length_nil]; omega)) (by decide) fun m0 x0 h0 b0 c0 k0 u0 => ?_
  have c0 : (([]) ++ ([0, 0]) : List Int).length = 2 := by (simp only [List.length_append, List.length_take, List.length_cons, List.length_nil]; done)
  have c0 := u0.erase 2
  have u0 := sWI c0 0 (pB 0 0 pn)
  refine ⟨u0, ?_⟩
  refine d1 4 ?_
  have u0 := c0.nf
  refine kcl k0 ok72 (rplain_calls _ _ u0.il n) ?_
  rintro k0 c0 ⟨rfl, x0⟩
  have c0 := u0.below x0.below
  refine ⟨_, rfl, fun x0 u0 => ?_⟩
  have x0 := sWI c0 0 (pB 0 0 pn)
  refine ⟨x0, ?_⟩
  refine dR [5, 6] u0 fun x0 k0 => ?_
  refine wpAnyH_done (by kernel_rfl) (o0 _ _ ?_) _
  refine xn v0 <| wp_ret <| x_block_r <| x_then_r <| er2 k0 ?_
  have k0 : bindL n = ([]) ++ ([0, 0]) := by rcases (show n.K = 5 ∨ n.K = 15 ∨ n.K = 19 ∨ n.K = 23 by omega) with h | h | h | h <;> simp [bindL, h, shp]
  rw [k0]
  have k0 := c0.pub 1 (dRow 1 h0 ((([]) ++ ([0, 0]) : List Int).length) b0 (encIs (([]) ++ ([0, 0]))))
  refine ⟨h0, b0, ?_, k0.fr, k0.rx 1⟩
  exact ret_t2 rfl (ret_b (by (rw [(right_plain (by omega) (by omega) (by omega))]; done) ))
 have k0 := or_fl t0
 have b0 := of_decide_eq_false k0
 have b0 := or_fr t0
 have k0 := or_fl b0
 have h0 := of_decide_eq_false k0
 have h0 := or_fr b0
 have b0 := or_fl h0
 have k0 := of_decide_eq_false b0
 have k0 := or_fr h0
 have h0 := of_decide_eq_false k0
 refine wcf f0 t0 fun h0 => ?_
 refine c_join (fun ga gw => Reg ga 228 [(1, .pointer (some ⟨i0, 0, none⟩)), (2, .slice none 0 0), (3, .bool false), (4, .slice (some ⟨d0, 0, none⟩) 0 0), (7, .int .i64 (n.K)), (104, .bool ((decide ((n.K) = 7)) || (decide ((n.K) = 18)))), (1000000, .bool false)] ∧ St w0 Z none_ gw [.box i0 30 [.int .i64 (n.K), .int .i64 (n.N), .int .i64 (n.M), .string n.S], .row (some ⟨d0, 0, none⟩) 0 0 3 1 (encIs ([]))] []) ?_ ?_
 ·
  refine wsc fun t0 f0 => lR h0 fun t0 k0 => ?_
  refine wn f0 ?_
  rcases Decidable.em ((n.K) = 7) with f0 | f0
  ·
   refine wct k0 (decide_eq_true f0) fun t0 => ?_
   refine wp_skip ?_
   exact x_then_n ⟨(t0.sub (rc4 (rc rfl (rc (rb rfl (by (simp only [decide_eq_true f0, if_pos f0, bl]; done))) (rc rfl rnl))))), q0⟩
  refine wcf k0 (decide_eq_false f0) fun t0 => ?_
  refine c_region ?_
  refine lR t0 fun k0 h0 => ?_
  refine wpList_nil ?_
  exact x_then_n ⟨(h0.sub (rc4 (rc rfl (rc (rb rfl (by (simp only [decide_eq_false f0, if_neg f0, bl]; done))) (rc rfl rnl))))), q0⟩
 rintro h0 f0 ⟨q0, k0⟩
 rcases Bool.eq_false_or_eq_true (((decide ((n.K) = 7)) || (decide ((n.K) = 18)))) with f0 | f0
 ·
  have h0 := f0
  try simp only [bz] at h0
  refine wct q0 f0 fun h0 => ?_
  refine wp_seq_k fun t0 b0 => ?_
  obtain ⟨t0, c0, v0⟩ := k0.agree
  refine d_reg3 (n := 7) v0 0 (pB 0 0 pn) (pan_then (pan_block (pan_then pan_body))) fun c0 t0 o0 x0 u0 m0 => ?_
  refine dR [0] h0 fun x0 c0 => ?_
  refine dt 3 rfl t0 c0 (want_n rfl) (fun x hx => m_loadCN (sy c0) c0 rfl rfl rfl (CellsAt.cons_ (hx.c 0) (CellsAt.cons_ (hx.c 1) (CellsAt.cons_ (hx.c 2) (CellsAt.cons_ (hx.c 3) (CellsAt.nil _ _))))) Tryz.underlying30 rfl sz30 (by decide) gt) m0 fun x0 h0 => ?_
  refine d1 1 ?_
  refine bsl h0 u0 fun x0 c0 m0 t0 v0 => ?_
  have m0 := sWI v0 0 (pB 0 0 pn)
  refine ⟨m0, ?_⟩
  refine d1 2 ?_
  refine m_appendF (f := encI) (i := 1) ([]) ([0, 0, 0]) (st_opV rfl (want_n rfl)) t0 v0 rfl rfl rfl rfl rfl encI_len (encI_one _) Tryz.underlying57 zi3 rfl rfl (own_lnews (f := encI) (v0.res (i := 2) rfl)) rfl (by (simp only [List.length_cons, List.length_nil]; omega)) (by decide) fun m0 c0 x0 h0 u0 p0 n0 => ?_
  have u0 : (([]) ++ ([0, 0, 0]) : List Int).length = 3 := by (simp only [List.length_append, List.length_take, List.length_cons, List.length_nil]; done)
  have u0 := n0.erase 2
  have n0 := sWI u0 0 (pB 0 0 pn)
  refine ⟨n0, ?_⟩
  refine d1 4 ?_
  have n0 := u0.nf
  refine kcl p0 ok72 (rplain_calls _ _ n0.il n) ?_
  rintro p0 u0 ⟨rfl, c0⟩
  have u0 := n0.below c0.below
  refine ⟨_, rfl, fun c0 n0 => ?_⟩
  have c0 := sWI u0 0 (pB 0 0 pn)
  refine ⟨c0, ?_⟩
  refine dR [5, 6] n0 fun c0 p0 => ?_
  refine wpAnyH_done (by kernel_rfl) (o0 _ _ ?_) _
  refine xn b0 <| wp_ret <| x_block_r <| x_then_r <| er2 p0 ?_
  have p0 : bindL n = ([]) ++ ([0, 0, 0]) := by rcases (show n.K = 7 ∨ n.K = 18 by omega) with h | h <;> simp [bindL, h, shp]
  rw [p0]
  have p0 := u0.pub 1 (dRow 1 x0 ((([]) ++ ([0, 0, 0]) : List Int).length) h0 (encIs (([]) ++ ([0, 0, 0]))))
  refine ⟨x0, h0, ?_, p0.fr, p0.rx 1⟩
  exact ret_t2 rfl (ret_b (by (rw [(right_plain (by omega) (by omega) (by omega))]; done) ))
 have p0 := or_fl f0
 have h0 := of_decide_eq_false p0
 have h0 := or_fr f0
 have p0 := of_decide_eq_false h0
 refine wcf q0 f0 fun p0 => ?_
 refine c_join (fun ga gw => Reg ga 228 [(1, .pointer (some ⟨i0, 0, none⟩)), (2, .slice none 0 0), (3, .bool false), (4, .slice (some ⟨d0, 0, none⟩) 0 0), (7, .int .i64 (n.K)), (112, .bool ((decide ((n.K) = 8)) || ((decide ((n.K) = 9)) || ((decide ((n.K) = 12)) || (decide ((n.K) = 28)))))), (1000000, .bool false)] ∧ St w0 Z none_ gw [.box i0 30 [.int .i64 (n.K), .int .i64 (n.N), .int .i64 (n.M), .string n.S], .row (some ⟨d0, 0, none⟩) 0 0 3 1 (encIs ([]))] []) ?_ ?_
 ·
  refine wsc fun f0 q0 => lR p0 fun f0 h0 => ?_
  refine wn q0 ?_
  rcases Decidable.em ((n.K) = 8) with q0 | q0
  ·
   refine wct h0 (decide_eq_true q0) fun f0 => ?_
   refine wp_skip ?_
   exact x_then_n ⟨(f0.sub (rc4 (rc rfl (rc (rb rfl (by (simp only [decide_eq_true q0, if_pos q0, bl]; done))) (rc rfl rnl))))), k0⟩
  refine wcf h0 (decide_eq_false q0) fun f0 => ?_
  refine wsc fun h0 p0 => lR f0 fun h0 x0 => ?_
  refine wn p0 ?_
  rcases Decidable.em ((n.K) = 9) with p0 | p0
  ·
   refine wct x0 (decide_eq_true p0) fun h0 => ?_
   refine wp_skip ?_
   exact x_then_n ⟨(h0.sub (rc4 (rc rfl (rc (rb rfl (by (simp only [decide_eq_false q0, if_neg q0, decide_eq_true p0, if_pos p0, bl]; done))) (rc rfl rnl))))), k0⟩
  refine wcf x0 (decide_eq_false p0) fun h0 => ?_
  refine wsc fun x0 f0 => lR h0 fun x0 u0 => ?_
  refine wn f0 ?_
  rcases Decidable.em ((n.K) = 12) with f0 | f0
  ·
   refine wct u0 (decide_eq_true f0) fun x0 => ?_
   refine wp_skip ?_
   exact x_then_n ⟨(x0.sub (rc4 (rc rfl (rc (rb rfl (by (simp only [decide_eq_false q0, if_neg q0, decide_eq_false p0, if_neg p0, decide_eq_true f0, if_pos f0, bl]; done))) (rc rfl rnl))))), k0⟩
  refine wcf u0 (decide_eq_false f0) fun x0 => ?_
  refine c_region ?_
  refine lR x0 fun u0 h0 => ?_
  refine wpList_nil ?_
  exact x_then_n ⟨(h0.sub (rc4 (rc rfl (rc (rb rfl (by (simp only [decide_eq_false q0, if_neg q0, decide_eq_false p0, if_neg p0, decide_eq_false f0, if_neg f0, bl]; done))) (rc rfl rnl))))), k0⟩
 rintro h0 f0 ⟨p0, q0⟩
 rcases Bool.eq_false_or_eq_true (((decide ((n.K) = 8)) || ((decide ((n.K) = 9)) || ((decide ((n.K) = 12)) || (decide ((n.K) = 28)))))) with f0 | f0
 ·
  have h0 := f0
  try simp only [bz] at h0
  refine wct p0 f0 fun h0 => ?_
  refine wp_seq_k fun k0 u0 => ?_
  obtain ⟨k0, x0, b0⟩ := q0.agree
  refine d_reg3 (n := 7) b0 0 (pB 0 0 pn) (pan_then (pan_block (pan_then pan_body))) fun x0 k0 o0 c0 n0 m0 => ?_
  refine dR [0] h0 fun c0 x0 => ?_
  refine dt 3 rfl k0 x0 (want_n rfl) (fun x hx => m_loadCN (sy x0) x0 rfl rfl rfl (CellsAt.cons_ (hx.c 0) (CellsAt.cons_ (hx.c 1) (CellsAt.cons_ (hx.c 2) (CellsAt.cons_ (hx.c 3) (CellsAt.nil _ _))))) Tryz.underlying30 rfl sz30 (by decide) gt) m0 fun c0 h0 => ?_
  refine d1 1 ?_
  refine bsl h0 n0 fun c0 x0 m0 k0 b0 => ?_
  have m0 := sWI b0 0 (pB 0 0 pn)
  refine ⟨m0, ?_⟩
  refine d1 2 ?_
  refine m_appendF (f := encI) (i := 1) ([]) ([0]) (st_opV rfl (want_n rfl)) k0 b0 rfl rfl rfl rfl rfl encI_len (encI_one _) Tryz.underlying57 zi3 rfl rfl (own_lnews (f := encI) (b0.res (i := 2) rfl)) rfl (by (simp only [List.length_cons, List.length_nil]; omega)) (by decide) fun m0 x0 c0 h0 n0 v0 t0 => ?_
  have n0 : (([]) ++ ([0]) : List Int).length = 1 := by (simp only [List.length_append, List.length_take, List.length_cons, List.length_nil]; done)
  have n0 := t0.erase 2
  have t0 := sWI n0 0 (pB 0 0 pn)
  refine ⟨t0, ?_⟩
  refine d1 4 ?_
  have t0 := n0.nf
  refine kcl v0 ok72 (rplain_calls _ _ t0.il n) ?_
  rintro v0 n0 ⟨rfl, x0⟩
  have n0 := t0.below x0.below
  refine ⟨_, rfl, fun x0 t0 => ?_⟩
  have x0 := sWI n0 0 (pB 0 0 pn)
  refine ⟨x0, ?_⟩
  refine dR [5, 6] t0 fun x0 v0 => ?_
  refine wpAnyH_done (by kernel_rfl) (o0 _ _ ?_) _
  refine xn u0 <| wp_ret <| x_block_r <| x_then_r <| er2 v0 ?_
  have v0 : bindL n = ([]) ++ ([0]) := by rcases (show n.K = 8 ∨ n.K = 9 ∨ n.K = 12 ∨ n.K = 28 by omega) with h | h | h | h <;> simp [bindL, h, shp]
  rw [v0]
  have v0 := n0.pub 1 (dRow 1 c0 ((([]) ++ ([0]) : List Int).length) h0 (encIs (([]) ++ ([0]))))
  refine ⟨c0, h0, ?_, v0.fr, v0.rx 1⟩
  exact ret_t2 rfl (ret_b (by (rw [(right_plain (by omega) (by omega) (by omega))]; done) ))
 have v0 := or_fl f0
 have h0 := of_decide_eq_false v0
 have h0 := or_fr f0
 have v0 := or_fl h0
 have c0 := of_decide_eq_false v0
 have c0 := or_fr h0
 have h0 := or_fl c0
 have v0 := of_decide_eq_false h0
 have v0 := or_fr c0
 have c0 := of_decide_eq_false v0
 refine wcf p0 f0 fun c0 => ?_
 refine c_join (fun ga gw => Reg ga 228 [(1, .pointer (some ⟨i0, 0, none⟩)), (2, .slice none 0 0), (3, .bool false), (4, .slice (some ⟨d0, 0, none⟩) 0 0), (7, .int .i64 (n.K)), (122, .bool ((decide ((n.K) = 10)) || ((decide ((n.K) = 11)) || ((decide ((n.K) = 14)) || ((decide ((n.K) = 16)) || ((decide ((n.K) = 17)) || (decide ((n.K) = 29)))))))), (1000000, .bool false)] ∧ St w0 Z none_ gw [.box i0 30 [.int .i64 (n.K), .int .i64 (n.N), .int .i64 (n.M), .string n.S], .row (some ⟨d0, 0, none⟩) 0 0 3 1 (encIs ([]))] []) ?_ ?_
 ·
  refine wsc fun i0 f0 => lR c0 fun i0 p0 => ?_
  refine wn f0 ?_
  rcases Decidable.em ((n.K) = 10) with f0 | f0
  ·
   refine wct p0 (decide_eq_true f0) fun i0 => ?_
   refine wp_skip ?_
   exact x_then_n ⟨(i0.sub (rc4 (rc rfl (rc (rb rfl (by (simp only [decide_eq_true f0, if_pos f0, bl]; done))) (rc rfl rnl))))), q0⟩
  refine wcf p0 (decide_eq_false f0) fun i0 => ?_
  refine wsc fun p0 c0 => lR i0 fun p0 v0 => ?_
  refine wn c0 ?_
  rcases Decidable.em ((n.K) = 11) with c0 | c0
  ·
   refine wct v0 (decide_eq_true c0) fun p0 => ?_
   refine wp_skip ?_
   exact x_then_n ⟨(p0.sub (rc4 (rc rfl (rc (rb rfl (by (simp only [decide_eq_false f0, if_neg f0, decide_eq_true c0, if_pos c0, bl]; done))) (rc rfl rnl))))), q0⟩
  refine wcf v0 (decide_eq_false c0) fun p0 => ?_
  refine wsc fun v0 i0 => lR p0 fun v0 h0 => ?_
  refine wn i0 ?_
  rcases Decidable.em ((n.K) = 14) with i0 | i0
  ·
   refine wct h0 (decide_eq_true i0) fun v0 => ?_
   refine wp_skip ?_
   exact x_then_n ⟨(v0.sub (rc4 (rc rfl (rc (rb rfl (by (simp only [decide_eq_false f0, if_neg f0, decide_eq_false c0, if_neg c0, decide_eq_true i0, if_pos i0, bl]; done))) (rc rfl rnl))))), q0⟩
  refine wcf h0 (decide_eq_false i0) fun v0 => ?_
  refine wsc fun h0 p0 => lR v0 fun h0 n0 => ?_
  refine wn p0 ?_
  rcases Decidable.em ((n.K) = 16) with p0 | p0
  ·
   refine wct n0 (decide_eq_true p0) fun h0 => ?_
   refine wp_skip ?_
   exact x_then_n ⟨(h0.sub (rc4 (rc rfl (rc (rb rfl (by (simp only [decide_eq_false f0, if_neg f0, decide_eq_false c0, if_neg c0, decide_eq_false i0, if_neg i0, decide_eq_true p0, if_pos p0, bl]; done))) (rc rfl rnl))))), q0⟩
  refine wcf n0 (decide_eq_false p0) fun h0 => ?_
  refine wsc fun n0 v0 => lR h0 fun n0 u0 => ?_
  refine wn v0 ?_
  rcases Decidable.em ((n.K) = 17) with v0 | v0
  ·
   refine wct u0 (decide_eq_true v0) fun n0 => ?_
   refine wp_skip ?_
   exact x_then_n ⟨(n0.sub (rc4 (rc rfl (rc (rb rfl (by (simp only [decide_eq_false f0, if_neg f0, decide_eq_false c0, if_neg c0, decide_eq_false i0, if_neg i0, decide_eq_false p0, if_neg p0, decide_eq_true v0, if_pos v0, bl]; done))) (rc rfl rnl))))), q0⟩
  refine wcf u0 (decide_eq_false v0) fun n0 => ?_
  refine c_region ?_
  refine lR n0 fun u0 h0 => ?_
  refine wpList_nil ?_
  exact x_then_n ⟨(h0.sub (rc4 (rc rfl (rc (rb rfl (by (simp only [decide_eq_false f0, if_neg f0, decide_eq_false c0, if_neg c0, decide_eq_false i0, if_neg i0, decide_eq_false p0, if_neg p0, decide_eq_false v0, if_neg v0, bl]; done))) (rc rfl rnl))))), q0⟩
 rintro h0 v0 ⟨p0, i0⟩
 rcases Bool.eq_false_or_eq_true (((decide ((n.K) = 10)) || ((decide ((n.K) = 11)) || ((decide ((n.K) = 14)) || ((decide ((n.K) = 16)) || ((decide ((n.K) = 17)) || (decide ((n.K) = 29)))))))) with v0 | v0
 ·
  have h0 := v0
  try simp only [bz] at h0
  refine wct p0 v0 fun h0 => ?_
  refine wsc fun c0 f0 => lR h0 fun c0 q0 => ?_
  have c0 := i0.nf
  refine kcl q0 ok72 (rplain_calls _ _ c0.il n) ?_
  rintro q0 h0 ⟨rfl, u0⟩
  have h0 := c0.below u0.below
  refine ⟨_, rfl, fun u0 c0 => ?_⟩
  refine lR c0 fun u0 q0 => ?_
  refine wn f0 <| wp_ret <| x_block_r <| x_then_r <| er2 q0 ?_
  have q0 : bindL n = [] := by rcases (show n.K = 10 ∨ n.K = 11 ∨ n.K = 14 ∨ n.K = 16 ∨ n.K = 17 ∨ n.K = 29 by omega) with h | h | h | h | h | h <;> simp [bindL, h, shp]
  rw [q0]
  have q0 := h0.pub 1 (dRow 1 (some ⟨d0, 0, none⟩) 0 0 (encIs ([])))
  refine ⟨(some ⟨d0, 0, none⟩), 0, ?_, q0.fr, q0.rx 0⟩
  exact ret_t2 rfl (ret_b (by (rw [(right_plain (by omega) (by omega) (by omega))]; done) ))
 have q0 := or_fl v0
 have h0 := of_decide_eq_false q0
 have h0 := or_fr v0
 have q0 := or_fl h0
 have f0 := of_decide_eq_false q0
 have f0 := or_fr h0
 have h0 := or_fl f0
 have q0 := of_decide_eq_false h0
 have q0 := or_fr f0
 have f0 := or_fl q0
 have h0 := of_decide_eq_false f0
 have h0 := or_fr q0
 have q0 := or_fl h0
 have f0 := of_decide_eq_false q0
 have f0 := or_fr h0
 have h0 := of_decide_eq_false f0
 refine wcf p0 v0 fun h0 => ?_
 refine wsc fun v0 p0 => lR h0 fun v0 f0 => ?_
 refine wn p0 ?_
 rcases Decidable.em ((n.K) = 13) with p0 | p0
 ·
  refine wct f0 (decide_eq_true p0) fun v0 => ?_
  refine wp_seq_k fun h0 q0 => ?_
  obtain ⟨h0, u0, c0⟩ := i0.agree
  refine d_reg3 (n := 7) c0 0 (pB 0 0 pn) (pan_then (pan_block (pan_then pan_body))) fun u0 h0 n0 o0 x0 t0 => ?_
  refine dR [0] v0 fun o0 u0 => ?_
  refine dt 3 rfl h0 u0 (want_n rfl) (fun x hx => m_loadCN (sy u0) u0 rfl rfl rfl (CellsAt.cons_ (hx.c 0) (CellsAt.cons_ (hx.c 1) (CellsAt.cons_ (hx.c 2) (CellsAt.cons_ (hx.c 3) (CellsAt.nil _ _))))) Tryz.underlying30 rfl sz30 (by decide) gt) t0 fun o0 v0 => ?_
  refine d1 1 ?_
  refine bsl v0 x0 fun o0 u0 t0 h0 c0 => ?_
  have t0 := sWI c0 0 (pB 0 0 pn)
  refine ⟨t0, ?_⟩
  refine d1 2 ?_
  refine m_appendF (f := encI) (i := 1) ([]) ([1, 0, 2, 0]) (st_opV rfl (want_n rfl)) h0 c0 rfl rfl rfl rfl rfl encI_len (encI_one _) Tryz.underlying57 zi3 rfl rfl (own_lnews (f := encI) (c0.res (i := 2) rfl)) rfl (by (simp only [List.length_cons, List.length_nil]; omega)) (by decide) fun t0 u0 o0 v0 x0 m0 b0 => ?_
  have x0 : (([]) ++ ([1, 0, 2, 0]) : List Int).length = 4 := by (simp only [List.length_append, List.length_take, List.length_cons, List.length_nil]; done)
  have x0 := b0.erase 2
  have b0 := sWI x0 0 (pB 0 0 pn)
  refine ⟨b0, ?_⟩
  refine d1 4 ?_
  have b0 := x0.nf
  refine kcl m0 ok72 (rplain_calls _ _ b0.il n) ?_
  rintro m0 x0 ⟨rfl, u0⟩
  have x0 := b0.below u0.below
  refine ⟨_, rfl, fun u0 b0 => ?_⟩
  have u0 := sWI x0 0 (pB 0 0 pn)
  refine ⟨u0, ?_⟩
  refine dR [5, 6] b0 fun u0 m0 => ?_
  refine wpAnyH_done (by kernel_rfl) (n0 _ _ ?_) _
  refine xn q0 <| wp_ret <| x_block_r <| x_then_r <| er2 m0 ?_
  have m0 : bindL n = ([]) ++ ([1, 0, 2, 0]) := by rcases (show n.K = 13 by omega) with h <;> simp [bindL, h, shp]
  rw [m0]
  have m0 := x0.pub 1 (dRow 1 o0 ((([]) ++ ([1, 0, 2, 0]) : List Int).length) v0 (encIs (([]) ++ ([1, 0, 2, 0]))))
  refine ⟨o0, v0, ?_, m0.fr, m0.rx 1⟩
  exact ret_t2 rfl (ret_b (by (rw [(right_plain (by omega) (by omega) (by omega))]; done) ))
 refine wcf f0 (decide_eq_false p0) fun m0 => ?_
 refine wsc fun p0 f0 => lR m0 fun p0 v0 => ?_
 refine wn f0 ?_
 rcases Decidable.em ((n.K) = 20) with f0 | f0
 ·
  refine wct v0 (decide_eq_true f0) fun p0 => ?_
  refine wp_seq_k fun m0 o0 => ?_
  obtain ⟨m0, x0, q0⟩ := i0.agree
  refine d_reg3 (n := 7) q0 0 (pB 0 0 pn) (pan_then (pan_block (pan_then pan_body))) fun x0 m0 n0 u0 b0 t0 => ?_
  refine dR [0] p0 fun u0 x0 => ?_
  refine dt 3 rfl m0 x0 (want_n rfl) (fun x hx => m_loadCN (sy x0) x0 rfl rfl rfl (CellsAt.cons_ (hx.c 0) (CellsAt.cons_ (hx.c 1) (CellsAt.cons_ (hx.c 2) (CellsAt.cons_ (hx.c 3) (CellsAt.nil _ _))))) Tryz.underlying30 rfl sz30 (by decide) gt) t0 fun u0 p0 => ?_
  refine d1 1 ?_
  refine bsl p0 b0 fun u0 x0 t0 m0 q0 => ?_
  have t0 := sWI q0 0 (pB 0 0 pn)
  refine ⟨t0, ?_⟩
  refine d1 2 ?_
  refine m_appendF (f := encI) (i := 1) ([]) ([0, 0, 0, 0]) (st_opV rfl (want_n rfl)) m0 q0 rfl rfl rfl rfl rfl encI_len (encI_one _) Tryz.underlying57 zi3 rfl rfl (own_lnews (f := encI) (q0.res (i := 2) rfl)) rfl (by (simp only [List.length_cons, List.length_nil]; omega)) (by decide) fun t0 x0 u0 p0 b0 c0 h0 => ?_
  have b0 : (([]) ++ ([0, 0, 0, 0]) : List Int).length = 4 := by (simp only [List.length_append, List.length_take, List.length_cons, List.length_nil]; done)
  have b0 := h0.erase 2
  have h0 := sWI b0 0 (pB 0 0 pn)
  refine ⟨h0, ?_⟩
  refine d1 4 ?_
  have h0 := b0.nf
  refine kcl c0 ok72 (rplain_calls _ _ h0.il n) ?_
  rintro c0 b0 ⟨rfl, x0⟩
  have b0 := h0.below x0.below
  refine ⟨_, rfl, fun x0 h0 => ?_⟩
  have x0 := sWI b0 0 (pB 0 0 pn)
  refine ⟨x0, ?_⟩
  refine dR [5, 6] h0 fun x0 c0 => ?_
  refine wpAnyH_done (by kernel_rfl) (n0 _ _ ?_) _
  refine xn o0 <| wp_ret <| x_block_r <| x_then_r <| er2 c0 ?_
  have c0 : bindL n = ([]) ++ ([0, 0, 0, 0]) := by rcases (show n.K = 20 by omega) with h <;> simp [bindL, h, shp]
  rw [c0]
  have c0 := b0.pub 1 (dRow 1 u0 ((([]) ++ ([0, 0, 0, 0]) : List Int).length) p0 (encIs (([]) ++ ([0, 0, 0, 0]))))
  refine ⟨u0, p0, ?_, c0.fr, c0.rx 1⟩
  exact ret_t2 rfl (ret_b (by (rw [(right_plain (by omega) (by omega) (by omega))]; done) ))
 refine wcf v0 (decide_eq_false f0) fun c0 => ?_
 refine wsc fun f0 v0 => lR c0 fun f0 p0 => ?_
 refine wn v0 ?_
 rcases Decidable.em ((n.K) = 21) with v0 | v0
 ·
  refine wct p0 (decide_eq_true v0) fun f0 => ?_
  refine wp_seq_k fun c0 u0 => ?_
  obtain ⟨c0, b0, o0⟩ := i0.agree
  refine d_reg3 (n := 7) o0 0 (pB 0 0 pn) (pan_then (pan_block (pan_then pan_body))) fun b0 c0 n0 x0 h0 t0 => ?_
  refine dR [0] f0 fun x0 b0 => ?_
  refine dt 3 rfl c0 b0 (want_n rfl) (fun x hx => m_loadCN (sy b0) b0 rfl rfl rfl (CellsAt.cons_ (hx.c 0) (CellsAt.cons_ (hx.c 1) (CellsAt.cons_ (hx.c 2) (CellsAt.cons_ (hx.c 3) (CellsAt.nil _ _))))) Tryz.underlying30 rfl sz30 (by decide) gt) t0 fun x0 f0 => ?_
  refine d1 1 ?_
  refine bsl f0 h0 fun x0 b0 t0 c0 o0 => ?_
  have t0 := sWI o0 0 (pB 0 0 pn)
  refine ⟨t0, ?_⟩
  refine d1 2 ?_
  refine m_appendF (f := encI) (i := 1) ([]) ([0, 0, 1, 0, 0, 0]) (st_opV rfl (want_n rfl)) c0 o0 rfl rfl rfl rfl rfl encI_len (encI_one _) Tryz.underlying57 zi3 rfl rfl (own_lnews (f := encI) (o0.res (i := 2) rfl)) rfl (by (simp only [List.length_cons, List.length_nil]; omega)) (by decide) fun t0 b0 x0 f0 h0 q0 m0 => ?_
  have h0 : (([]) ++ ([0, 0, 1, 0, 0, 0]) : List Int).length = 6 := by (simp only [List.length_append, List.length_take, List.length_cons, List.length_nil]; done)
  have h0 := m0.erase 2
  have m0 := sWI h0 0 (pB 0 0 pn)
  refine ⟨m0, ?_⟩
  refine d1 4 ?_
  have m0 := h0.nf
  refine kcl q0 ok72 (rplain_calls _ _ m0.il n) ?_
  rintro q0 h0 ⟨rfl, b0⟩
  have h0 := m0.below b0.below
  refine ⟨_, rfl, fun b0 m0 => ?_⟩
  have b0 := sWI h0 0 (pB 0 0 pn)
  refine ⟨b0, ?_⟩
  refine dR [5, 6] m0 fun b0 q0 => ?_
  refine wpAnyH_done (by kernel_rfl) (n0 _ _ ?_) _
  refine xn u0 <| wp_ret <| x_block_r <| x_then_r <| er2 q0 ?_
  have q0 : bindL n = ([]) ++ ([0, 0, 1, 0, 0, 0]) := by rcases (show n.K = 21 by omega) with h <;> simp [bindL, h, shp]
  rw [q0]
  have q0 := h0.pub 1 (dRow 1 x0 ((([]) ++ ([0, 0, 1, 0, 0, 0]) : List Int).length) f0 (encIs (([]) ++ ([0, 0, 1, 0, 0, 0]))))
  refine ⟨x0, f0, ?_, q0.fr, q0.rx 1⟩
  exact ret_t2 rfl (ret_b (by (rw [(right_plain (by omega) (by omega) (by omega))]; done) ))
 refine wcf p0 (decide_eq_false v0) fun q0 => ?_
 refine wsc fun v0 p0 => lR q0 fun v0 f0 => ?_
 refine wn p0 ?_
 rcases Decidable.em ((n.K) = 22) with p0 | p0
 ·
  refine wct f0 (decide_eq_true p0) fun v0 => ?_
  refine wp_seq_k fun q0 x0 => ?_
  obtain ⟨q0, h0, u0⟩ := i0.agree
  refine d_reg3 (n := 7) u0 0 (pB 0 0 pn) (pan_then (pan_block (pan_then pan_body))) fun h0 q0 n0 b0 m0 t0 => ?_
  refine dR [0] v0 fun b0 h0 => ?_
  refine dt 3 rfl q0 h0 (want_n rfl) (fun x hx => m_loadCN (sy h0) h0 rfl rfl rfl (CellsAt.cons_ (hx.c 0) (CellsAt.cons_ (hx.c 1) (CellsAt.cons_ (hx.c 2) (CellsAt.cons_ (hx.c 3) (CellsAt.nil _ _))))) Tryz.underlying30 rfl sz30 (by decide) gt) t0 fun b0 v0 => ?_
  refine d1 1 ?_
  refine bsl v0 m0 fun b0 h0 t0 q0 u0 => ?_
  have t0 := sWI u0 0 (pB 0 0 pn)
  refine ⟨t0, ?_⟩
  refine d1 2 ?_
  refine m_appendF (f := encI) (i := 1) ([]) ([0, 2, 0, 0, 0]) (st_opV rfl (want_n rfl)) q0 u0 rfl rfl rfl rfl rfl encI_len (encI_one _) Tryz.underlying57 zi3 rfl rfl (own_lnews (f := encI) (u0.res (i := 2) rfl)) rfl (by (simp only [List.length_cons, List.length_nil]; omega)) (by decide) fun t0 h0 b0 v0 m0 o0 c0 => ?_
  have m0 : (([]) ++ ([0, 2, 0, 0, 0]) : List Int).length = 5 := by (simp only [List.length_append, List.length_take, List.length_cons, List.length_nil]; done)
  have m0 := c0.erase 2
  have c0 := sWI m0 0 (pB 0 0 pn)
  refine ⟨c0, ?_⟩
  refine d1 4 ?_
  have c0 := m0.nf
  refine kcl o0 ok72 (rplain_calls _ _ c0.il n) ?_
  rintro o0 m0 ⟨rfl, h0⟩
  have m0 := c0.below h0.below
  refine ⟨_, rfl, fun h0 c0 => ?_⟩
  have h0 := sWI m0 0 (pB 0 0 pn)
  refine ⟨h0, ?_⟩
  refine dR [5, 6] c0 fun h0 o0 => ?_
  refine wpAnyH_done (by kernel_rfl) (n0 _ _ ?_) _
  refine xn x0 <| wp_ret <| x_block_r <| x_then_r <| er2 o0 ?_
  have o0 : bindL n = ([]) ++ ([0, 2, 0, 0, 0]) := by rcases (show n.K = 22 by omega) with h <;> simp [bindL, h, shp]
  rw [o0]
  have o0 := m0.pub 1 (dRow 1 b0 ((([]) ++ ([0, 2, 0, 0, 0]) : List Int).length) v0 (encIs (([]) ++ ([0, 2, 0, 0, 0]))))
  refine ⟨b0, v0, ?_, o0.fr, o0.rx 1⟩
  exact ret_t2 rfl (ret_b (by (rw [(right_plain (by omega) (by omega) (by omega))]; done) ))
 refine wcf f0 (decide_eq_false p0) fun o0 => ?_
 refine wsc fun p0 f0 => lR o0 fun p0 v0 => ?_
 refine wn f0 ?_
 rcases Decidable.em ((n.K) = 24) with f0 | f0
 ·
  refine wct v0 (decide_eq_true f0) fun p0 => ?_
  refine wp_seq_k fun o0 b0 => ?_
  obtain ⟨o0, m0, x0⟩ := i0.agree
  refine d_reg3 (n := 7) x0 0 (pB 0 0 pn) (pan_then (pan_block (pan_then pan_body))) fun m0 o0 n0 h0 c0 t0 => ?_
  refine dR [0] p0 fun h0 m0 => ?_
  refine dt 3 rfl o0 m0 (want_n rfl) (fun x hx => m_loadCN (sy m0) m0 rfl rfl rfl (CellsAt.cons_ (hx.c 0) (CellsAt.cons_ (hx.c 1) (CellsAt.cons_ (hx.c 2) (CellsAt.cons_ (hx.c 3) (CellsAt.nil _ _))))) Tryz.underlying30 rfl sz30 (by decide) gt) t0 fun h0 p0 => ?_
  refine d1 1 ?_
  refine bsl p0 c0 fun h0 m0 t0 o0 x0 => ?_
  have t0 := sWI x0 0 (pB 0 0 pn)
  refine ⟨t0, ?_⟩
  refine d1 2 ?_
  refine m_appendF (f := encI) (i := 1) ([]) ([0, 1, 0, 0]) (st_opV rfl (want_n rfl)) o0 x0 rfl rfl rfl rfl rfl encI_len (encI_one _) Tryz.underlying57 zi3 rfl rfl (own_lnews (f := encI) (x0.res (i := 2) rfl)) rfl (by (simp only [List.length_cons, List.length_nil]; omega)) (by decide) fun t0 m0 h0 p0 c0 u0 q0 => ?_
  have c0 : (([]) ++ ([0, 1, 0, 0]) : List Int).length = 4 := by (simp only [List.length_append, List.length_take, List.length_cons, List.length_nil]; done)
  have c0 := q0.erase 2
  have q0 := sWI c0 0 (pB 0 0 pn)
  refine ⟨q0, ?_⟩
  refine d1 4 ?_
  have q0 := c0.nf
  refine kcl u0 ok72 (rplain_calls _ _ q0.il n) ?_
  rintro u0 c0 ⟨rfl, m0⟩
  have c0 := q0.below m0.below
  refine ⟨_, rfl, fun m0 q0 => ?_⟩
  have m0 := sWI c0 0 (pB 0 0 pn)
  refine ⟨m0, ?_⟩
  refine dR [5, 6] q0 fun m0 u0 => ?_
  refine wpAnyH_done (by kernel_rfl) (n0 _ _ ?_) _
  refine xn b0 <| wp_ret <| x_block_r <| x_then_r <| er2 u0 ?_
  have u0 : bindL n = ([]) ++ ([0, 1, 0, 0]) := by rcases (show n.K = 24 by omega) with h <;> simp [bindL, h, shp]
  rw [u0]
  have u0 := c0.pub 1 (dRow 1 h0 ((([]) ++ ([0, 1, 0, 0]) : List Int).length) p0 (encIs (([]) ++ ([0, 1, 0, 0]))))
  refine ⟨h0, p0, ?_, u0.fr, u0.rx 1⟩
  exact ret_t2 rfl (ret_b (by (rw [(right_plain (by omega) (by omega) (by omega))]; done) ))
 refine wcf v0 (decide_eq_false f0) fun u0 => ?_
 refine wsc fun f0 v0 => lR u0 fun f0 p0 => ?_
 refine wn v0 ?_
 rcases Decidable.em ((n.K) = 26) with v0 | v0
 ·
  refine wct p0 (decide_eq_true v0) fun f0 => ?_
  refine wp_seq_k fun u0 h0 => wsc fun u0 c0 => lR f0 fun u0 b0 => ?_
  have u0 := i0.nf
  refine kcl b0 ok70 (rname_calls _ _ u0.il n.S) ?_
  rintro b0 f0 ⟨rfl, n0⟩
  have f0 := u0.below n0.below
  refine ⟨_, rfl, fun n0 u0 => ?_⟩
  refine lR u0 fun n0 b0 => ?_
  refine lOr 3 (decide ((n.N) < 0)) b0 fun n0 u0 => ?_
  refine mv u0 fun n0 b0 => ?_
  refine lOr 3 (decide (6 ≤ (n.N))) b0 fun n0 u0 => ?_
  refine mv u0 fun n0 b0 => ?_
  refine lOr 3 (decide ((n.M) < 0)) b0 fun n0 u0 => ?_
  refine mv u0 fun n0 b0 => ?_
  refine lOr 3 (decide (6 < (n.M))) b0 fun n0 u0 => ?_
  refine wn c0 ?_
  rcases Bool.eq_false_or_eq_true ((((((!(nameOk n.S)) || (decide ((n.N) < 0))) || (decide (6 ≤ (n.N)))) || (decide ((n.M) < 0))) || (decide (6 < (n.M))))) with c0 | c0
  ·
   have n0 := c0
   try simp only [bz] at n0
   refine wct u0 c0 fun b0 => ?_
   refine wsc fun m0 q0 => lR b0 fun m0 t0 => ?_
   refine wn q0 <| wp_ret <| x_then_r <| x_block_r <| x_then_r <| er2 t0 ?_
   have t0 : bindL n = [] := bindL_bad (by omega) (show right n = false by rw [(right_con2 (by omega))]; exact decide_eq_false (by rintro ⟨z1, z2⟩; have hq' := n0; rw [z1] at hq'; simp only [Bool.true_eq_false, false_or] at hq'; omega))
   rw [t0]
   have t0 := f0.pub 1 (dRow 1 (some ⟨d0, 0, none⟩) 0 0 (encIs ([])))
   refine ⟨(some ⟨d0, 0, none⟩), 0, ?_, t0.fr, t0.rx 0⟩
   exact ret_t2 rfl (ret_b (by exact (show right n = false by rw [(right_con2 (by omega))]; exact decide_eq_false (by rintro ⟨z1, z2⟩; have hq' := n0; rw [z1] at hq'; simp only [Bool.true_eq_false, false_or] at hq'; omega)).symm))
  have n0 := or_fl c0
  have t0 := or_fl n0
  have q0 := or_fl t0
  have m0 := or_fl q0
  have b0 := not_f m0
  have m0 := or_fr q0
  have q0 := of_decide_eq_false m0
  have m0 := or_fr t0
  have t0 := of_decide_eq_false m0
  have m0 := or_fr n0
  have n0 := of_decide_eq_false m0
  have m0 := or_fr c0
  have x0 := of_decide_eq_false m0
  refine wcf u0 c0 fun m0 => ?_
  refine wp_skip <| xn h0 <| wsc fun h0 u0 => lR m0 fun h0 o0 => ?_
  have h0 : (n.M) = ((n.M.toNat : Nat) : Int) := by omega
  refine m_makeInts (n := n.M.toNat) sv o0 f0 rfl rfl rfl rfl h0 h0 Tryz.underlying57 zi3 (by omega) (by decide) fun m0 k0 y0 z0 b1 => ?_
  have k0 : (List.replicate (n.M.toNat) (0 : Int)).length = n.M.toNat := by simp
  refine lR z0 fun k0 m0 => ?_
  refine wn u0 <| wp_ret <| x_block_r <| x_then_r <| er2 m0 ?_
  have m0 : bindL n = List.replicate (n.M.toNat) (0 : Int) := bindL_con (by omega) (by rw [(right_con2 (by omega))]; first | (simp [c0, b0, q0, t0, n0, x0]; done) | (simp [c0, b0, q0, t0, n0, x0]; omega))
  rw [m0]
  have m0 := b1.pub 2 (dRow 1 (some ⟨y0, 0, none⟩) ((List.replicate (n.M.toNat) (0 : Int) : List Int).length) ((List.replicate (n.M.toNat) (0 : Int) : List Int).length) (encIs (List.replicate (n.M.toNat) (0 : Int))))
  refine ⟨(some ⟨y0, 0, none⟩), ((List.replicate (n.M.toNat) (0 : Int) : List Int).length), ?_, m0.fr, m0.rx 0⟩
  exact ret_t2 rfl (ret_b (by (rw [(right_con2 (by omega))]; simp [c0, b0, q0, t0, n0, x0] <;> omega) ))
 refine wcf p0 (decide_eq_false v0) fun x0 => ?_
 refine wsc fun v0 p0 => lR x0 fun v0 n0 => ?_
 refine wn p0 ?_
 rcases Decidable.em ((n.K) = 27) with p0 | p0
 ·
  refine wct n0 (decide_eq_true p0) fun v0 => ?_
  refine wp_seq_k fun x0 t0 => wsc fun x0 q0 => lR v0 fun x0 b0 => ?_
  have x0 := i0.nf
  refine kcl b0 ok70 (rname_calls _ _ x0.il n.S) ?_
  rintro b0 v0 ⟨rfl, c0⟩
  have v0 := x0.below c0.below
  refine ⟨_, rfl, fun c0 x0 => ?_⟩
  refine lR x0 fun c0 b0 => ?_
  refine lOr 3 (!(decide ((n.N) = 0))) b0 fun c0 x0 => ?_
  refine mv x0 fun c0 b0 => ?_
  refine lOr 3 (decide ((n.M) < 0)) b0 fun c0 x0 => ?_
  refine mv x0 fun c0 b0 => ?_
  refine lOr 3 (decide (6 < (n.M))) b0 fun c0 x0 => ?_
  refine wn q0 ?_
  rcases Bool.eq_false_or_eq_true (((((!(nameOk n.S)) || (!(decide ((n.N) = 0)))) || (decide ((n.M) < 0))) || (decide (6 < (n.M))))) with q0 | q0
  ·
   have c0 := q0
   try simp only [bz] at c0
   refine wct x0 q0 fun b0 => ?_
   refine wsc fun m0 y0 => lR b0 fun m0 b1 => ?_
   refine wn y0 <| wp_ret <| x_then_r <| x_block_r <| x_then_r <| er2 b1 ?_
   have b1 : bindL n = [] := bindL_bad (by omega) (show right n = false by rw [(right_elim2 (by omega))]; exact decide_eq_false (by rintro ⟨z1, z2⟩; have hq' := c0; rw [z1] at hq'; simp only [Bool.true_eq_false, false_or] at hq'; omega))
   rw [b1]
   have b1 := v0.pub 1 (dRow 1 (some ⟨d0, 0, none⟩) 0 0 (encIs ([])))
   refine ⟨(some ⟨d0, 0, none⟩), 0, ?_, b1.fr, b1.rx 0⟩
   exact ret_t2 rfl (ret_b (by exact (show right n = false by rw [(right_elim2 (by omega))]; exact decide_eq_false (by rintro ⟨z1, z2⟩; have hq' := c0; rw [z1] at hq'; simp only [Bool.true_eq_false, false_or] at hq'; omega)).symm))
  have c0 := or_fl q0
  have b1 := or_fl c0
  have y0 := or_fl b1
  have m0 := not_f y0
  have y0 := or_fr b1
  have b1 := not_f y0
  have y0 := of_decide_eq_true b1
  have b1 := or_fr c0
  have c0 := of_decide_eq_false b1
  have b1 := or_fr q0
  have b0 := of_decide_eq_false b1
  refine wcf x0 q0 fun b1 => ?_
  refine wp_skip <| xn t0 <| wsc fun t0 x0 => mv b1 fun t0 u0 => ?_
  refine bsl u0 v0 fun t0 b1 k0 z0 h0 => ?_
  refine m_appendF (f := encI) (i := 1) ([]) ([1]) sv z0 h0 rfl rfl rfl rfl rfl encI_len (encI_one _) Tryz.underlying57 zi3 rfl rfl (own_lnews (f := encI) (h0.res (i := 2) rfl)) rfl (by (simp only [List.length_cons, List.length_nil]; omega)) (by decide) fun k0 b1 t0 u0 v0 o0 f0 => ?_
  have v0 : (([]) ++ ([1]) : List Int).length = 1 := by (simp only [List.length_append, List.length_take, List.length_cons, List.length_nil]; done)
  have v0 := f0.erase 2
  refine aw o0 x0 fun f0 u0 => ?_
  refine wsc fun x0 f0 => lR u0 fun x0 o0 => ?_
  refine adi (n.M + 1) o0 fun x0 u0 => ?_
  have x0 : (n.M + 1) = ((n.M.toNat + 1 : Nat) : Int) := by omega
  refine m_appendZ (i := 1) (([]) ++ ([1])) (n.M.toNat + 1) sv u0 v0 rfl rfl rfl rfl rfl x0 (by omega) (by simp) (by simp; omega) Tryz.underlying57 Tryz.underlying3 zi3 (by decide) fun o0 t0 b1 k0 h0 z0 c1 => ?_
  refine lR z0 fun h0 t0 => ?_
  refine wn f0 <| wp_ret <| x_block_r <| x_then_r <| er2 t0 ?_
  have t0 : bindL n = (([]) ++ ([1])) ++ List.replicate (n.M.toNat + 1) 0 := bindL_elim (by omega) (by rw [(right_elim2 (by omega))]; first | (simp [q0, m0, y0, c0, b0]; done) | (simp [q0, m0, y0, c0, b0]; omega))
  rw [t0]
  have t0 := c1.pub 1 (dRow 1 b1 (((([]) ++ ([1])) ++ List.replicate (n.M.toNat + 1) 0 : List Int).length) k0 (encIs ((([]) ++ ([1])) ++ List.replicate (n.M.toNat + 1) 0)))
  refine ⟨b1, k0, ?_, t0.fr, t0.rx 0⟩
  exact ret_t2 rfl (ret_b (by (rw [(right_elim2 (by omega))]; simp [q0, m0, y0, c0, b0] <;> omega) ))
 refine wcf n0 (decide_eq_false p0) fun b0 => ?_
 refine wp_skip <| x_block_n <| xn j0 <| wsc fun j0 p0 => lR b0 fun j0 n0 => ?_
 refine wn p0 <| wp_ret <| er2 n0 ?_
 have n0 : bindL n = [] := bindL_none (by omega)
 rw [n0]
 have n0 := i0.pub 1 (dRow 1 (some ⟨d0, 0, none⟩) 0 0 (encIs ([])))
 refine ⟨(some ⟨d0, 0, none⟩), 0, ?_, n0.fr, n0.rx 0⟩
 exact ret_t2 rfl (ret_b (by (rw [(right_bad (by omega))]; done) ))
theorem rwhole_calls (w0 : World) (Z : Nat → Prop) (hZ : ∀ k, Z k → k < w0.heap.size) (tA : Option Addr) (tc : Nat) (t : List Nd) (ht : (dRow 4 tA t.length tc (encNs t)).φ w0 Z) (hl : t.length ≤ 1000000 := by first | assumption | omega | (simp <;> omega)) (hsm : sml t := by first | assumption | omega | (simp <;> omega)) :
    Calls Tryz.prog 62 [.slice tA t.length tc].toArray w0 (fun e w' => e = .returned (.bool (measB t)) ∧ Fr none_ w0 w') := by
 have b0 := s0 (M := none_) hZ (zc ht zn)
 refine c_enter Tryz.func62 rfl Tryz.ntmps62 rfl fun c0 d0 => ?_
 refine wsc fun c0 f0 => aw d0 f0 fun c0 h0 => ?_
 refine wsc fun f0 c0 => aw h0 c0 fun f0 d0 => ?_
 refine wp_seq_k fun c0 f0 => wsc fun c0 h0 => aw d0 h0 fun c0 i0 => ?_
 refine wp_block ?_
 refine wp_loop_ghost (fun gn ga gw => ∃ k : Nat, ∃ st : List T, (Reg ga 36 [(1000000, .bool false), (0, .slice tA t.length tc), (4, .int .i64 ((k : Nat) : Int)), (3, .int .i64 ((st.length : Nat) : Int))]) ∧ (St w0 Z none_ gw [] [dRow 4 tA t.length tc (encNs t)]) ∧ (k ≤ t.length) ∧ (scanT [] (t.take k) = some st) ∧ (t.length - k) = gn) _ ⟨0, [], (i0.sub (rc2 (rc rfl (rc rfl rnl)))), b0, by omega, rfl, rfl⟩ ?_
 rintro i0 b0 h0 ⟨k, st, c0, d0, hk, hsc, j0⟩
 have hfl := scan_flats hsc hk
 have hsl := flats_len_ge st
 have hbl := bindL_le (nth t k)
 refine wp_seq_k fun j0 h0 => wsc fun j0 b0 => lR c0 fun j0 i0 => ?_
 refine wn b0 ?_
 rcases Decidable.em (((k : Nat) : Int) < ((t.length : Nat) : Int)) with b0 | b0
 ·
  refine wct i0 (decide_eq_true b0) fun j0 => ?_
  refine wp_skip <| xn h0 <| wp_seq_k fun h0 c0 => wp_block ?_
  refine wsc fun h0 k0 => lR j0 fun h0 m0 => ?_
  refine ix k (k * 4) m0 (nds_elem (t := t) (k := k) (d0.row (i := 0) rfl).2 (by omega)).some_ fun h0 j0 => ?_
  refine m_loadEN sv j0 rfl rfl rfl (nds_elem (t := t) (k := k) (d0.row (i := 0) rfl).2 (by omega)) Tryz.underlying30 rfl sz30 (by decide) fun h0 m0 => ?_
  have h0 := d0.nf
  refine kcl m0 ok35 (rbinds_calls _ _ h0.il (nth t k) (hs := (hsm _ (by omega)))) ?_
  rintro m0 j0 ⟨n0, o0, rfl, p0, q0⟩
  have o0 := h0.below p0.below
  have p0 := h0.dN o0 q0
  refine ⟨_, rfl, fun o0 q0 => ?_⟩
  refine lR q0 fun o0 h0 => ?_
  refine wn k0 <| wp_seq_k fun k0 o0 => wsc fun k0 q0 => lR h0 fun k0 n0 => ?_
  refine lOr 4 (decide (((st.length : Nat) : Int) < (((bindL (nth t k)).length : Nat) : Int))) n0 fun k0 h0 => ?_
  refine wn q0 ?_
  rcases Bool.eq_false_or_eq_true (((!(right (nth t k))) || (decide (((st.length : Nat) : Int) < (((bindL (nth t k)).length : Nat) : Int))))) with q0 | q0
  ·
   have k0 := q0
   try simp only [bz] at k0
   refine wct h0 q0 fun n0 => ?_
   refine wsc fun j0 m0 => aw n0 m0 fun j0 t0 => ?_
   refine wp_ret <| x_then_r <| x_block_r <| x_then_r <| x_then_r <| x_block_r <| x_then_r <| er1 t0 ?_
   refine ⟨?_, p0.fr⟩
   exact cre (ret_b (by exact (whole_no hsc (by omega) k0).symm))
  have k0 := or_fl q0
  have t0 := not_f k0
  have t0 := or_fr q0
  have k0 := of_decide_eq_false t0
  have hbm := bindL_many (n := nth t k) (by assumption)
  refine wcf h0 q0 fun k0 => ?_
  refine wp_skip <| xn o0 <| c_region ?_
  refine lR k0 fun o0 q0 => ?_
  refine sbi (((st.length : Nat) : Int) - (((bindL (nth t k)).length : Nat) : Int)) q0 fun o0 k0 => ?_
  refine adi (((st.length : Nat) : Int) - (((bindL (nth t k)).length : Nat) : Int) + 1) k0 fun o0 q0 => ?_
  refine asg q0 fun o0 k0 => ?_
  refine wpList_nil ?_
  refine x_block_n <| xn c0 <| c_region ?_
  refine mv k0 fun c0 o0 => ?_
  refine adi ((k + 1 : Nat) : Int) o0 fun c0 k0 => ?_
  refine asg k0 fun c0 o0 => ?_
  refine wpList_nil ?_
  obtain ⟨st', hp, hpl⟩ := push_some (st := st) (n := nth t k) (by assumption) (by omega)
  have c0 := p0.forget 1
  exact ⟨_, by omega, k + 1, st', (o0.sub (rc2 (rc rfl (rc (ri rfl (by rw [hpl]; omega)) rnl)))), c0, by omega, (scan_step hsc (by omega)).trans hp, rfl⟩
 refine wcf i0 (decide_eq_false b0) fun c0 => ?_
 refine wp_exit ?_
 refine x_then_e ?_
 refine x_then_e ?_
 refine x_block_eq ?_
 refine xn f0 <| wsc fun f0 b0 => lR c0 fun f0 i0 => ?_
 refine wn b0 <| wp_ret <| er1 i0 ?_
 refine ⟨?_, d0.fr⟩
 exact cre (ret_b (by (rw [measB_end (by rw [← hsc, List.take_of_length_le (by omega)])]; done)))
theorem rdeeper_calls (w0 : World) (Z : Nat → Prop) (hZ : ∀ k, Z k → k < w0.heap.size) (tA : Option Addr) (tc : Nat) (t : List Nd) (ht : (dRow 4 tA t.length tc (encNs t)).φ w0 Z) (hl : t.length ≤ 4000 := by first | assumption | omega | (simp <;> omega)) (hsm : sml t := by first | assumption | omega | (simp <;> omega)) (hb : measB t = true := by first | assumption | omega | (simp <;> omega)) :
    Calls Tryz.prog 63 [.slice tA t.length tc].toArray w0 (fun e w' => e = .returned (.bool (deepB t)) ∧ Fr none_ w0 w') := by
 have b0 := s0 (M := none_) hZ (zc ht zn)
 refine c_enter Tryz.func63 rfl Tryz.ntmps63 rfl fun c0 d0 => ?_
 refine wsc fun c0 f0 => aw d0 f0 fun c0 h0 => ?_
 refine wsc fun f0 c0 => bsl h0 b0 fun f0 d0 i0 j0 k0 => ?_
 refine aw j0 c0 fun d0 f0 => ?_
 refine wp_seq_k fun c0 d0 => wsc fun c0 j0 => aw f0 j0 fun c0 h0 => ?_
 refine wp_block ?_
 refine wp_loop_ghost (fun gn ga gw => ∃ k : Nat, ∃ st : List T, ∃ Al : Option Addr, ∃ cl : Nat, (Reg ga 51 [(1000000, .bool false), (0, .slice tA t.length tc), (4, .int .i64 ((k : Nat) : Int)), (3, .slice Al ((dl st).length) cl)]) ∧ (St w0 Z none_ gw [.row Al ((dl st).length) cl 3 1 (encIs (dl st))] [dRow 4 tA t.length tc (encNs t)]) ∧ (k ≤ t.length) ∧ (scanT [] (t.take k) = some st) ∧ (shallow st) ∧ (t.length - k) = gn) _ ⟨0, [], (some ⟨i0, 0, none⟩), 0, (h0.sub (rc2 (rc rfl (rc rfl rnl)))), k0, by omega, rfl, (fun _ h => by cases h), rfl⟩ ?_
 rintro h0 k0 i0 ⟨k, st, Al, cl, j0, c0, hk, hsc, hsh, f0⟩
 have hfl := scan_flats hsc hk
 have hsl := flats_len_ge st
 have hdl := dl_length st
 refine wp_seq_k fun f0 i0 => wsc fun f0 k0 => lR j0 fun f0 h0 => ?_
 refine wn k0 ?_
 rcases Decidable.em (((k : Nat) : Int) < ((t.length : Nat) : Int)) with k0 | k0
 ·
  obtain ⟨hrk, hmk⟩ := measB_at hb hsc (by omega)
  have hbm := bindL_many hrk
  refine wct h0 (decide_eq_true k0) fun f0 => ?_
  refine wp_skip <| xn i0 <| wp_seq_k fun i0 j0 => wp_block ?_
  refine wsc fun i0 b0 => lR f0 fun i0 m0 => ?_
  refine ix k (k * 4) m0 (nds_elem (t := t) (k := k) (c0.row (i := 0) rfl).2 (by omega)).some_ fun i0 f0 => ?_
  refine m_loadEN sv f0 rfl rfl rfl (nds_elem (t := t) (k := k) (c0.row (i := 0) rfl).2 (by omega)) Tryz.underlying30 rfl sz30 (by decide) fun i0 m0 => ?_
  have i0 := c0.nf
  refine kcl m0 ok35 (rbinds_calls _ _ i0.il (nth t k) (hs := (hsm _ (by omega)))) ?_
  rintro m0 f0 ⟨n0, o0, rfl, p0, q0⟩
  have f0 := i0.below p0.below
  have p0 := i0.dN f0 q0
  refine ⟨_, rfl, fun f0 q0 => ?_⟩
  refine lR q0 fun f0 i0 => ?_
  refine wn b0 <| wsc fun b0 f0 => aw i0 f0 fun b0 q0 => ?_
  refine wp_seq_k fun f0 b0 => wsc fun f0 i0 => aw q0 i0 fun f0 m0 => ?_
  refine wp_block ?_
  refine wp_loop_ghost (fun gn ga gw => ∃ j : Nat, (Reg ga 51 [(1000000, .bool false), (0, .slice tA t.length tc), (4, .int .i64 ((k : Nat) : Int)), (5, .slice n0 ((bindL (nth t k)).length) o0), (8, .int .i64 ((j : Nat) : Int)), (7, .int .i64 ((maxB st j))), (3, .slice Al ((dl st).length - j) cl)]) ∧ (St w0 Z none_ gw [.row Al ((dl st).length) cl 3 1 (encIs (dl st))] [dRow 4 tA t.length tc (encNs t), dRow 1 n0 ((bindL (nth t k)).length) o0 (encIs (bindL (nth t k)))]) ∧ (j ≤ many (nth t k)) ∧ (many (nth t k) - j) = gn) _ ⟨0, (m0.sub (rc4 (rc rfl (rc (ri rfl (by rw [maxB_zero])) (rc rfl rnl))))), p0, by omega, rfl⟩ ?_
  rintro m0 p0 o0 ⟨j, n0, i0, hj, f0⟩
  have hmx := maxB_le (st := st) (j := j)
  refine wp_seq_k fun f0 o0 => wsc fun f0 p0 => lR n0 fun f0 m0 => ?_
  refine wn p0 ?_
  rcases Decidable.em (((j : Nat) : Int) < (((bindL (nth t k)).length : Nat) : Int)) with p0 | p0
  ·
   refine wct m0 (decide_eq_true p0) fun f0 => ?_
   refine wp_skip <| xn o0 <| wp_seq_k fun o0 n0 => wp_block ?_
   refine wsc fun o0 q0 => lR f0 fun o0 t0 => ?_
   refine sbi ((((dl st).length - j : Nat) : Int) - 1) t0 fun o0 f0 => ?_
   refine ix (((dl st).length - j) - (1)) ((((dl st).length - j) - (1)) * 1) f0 (own_ints (t := dl st) (k := ((dl st).length - j) - (1)) (i0.res (i := 0) rfl) (by omega)).some_ fun o0 t0 => ?_
   refine lde 0 ((((dl st).length - j) - (1)) * 1) t0 (own_ints (t := dl st) (k := ((dl st).length - j) - (1)) (i0.res (i := 0) rfl) (by omega)) fun o0 f0 => ?_
   refine r_max sv f0 rfl rfl rfl rfl rfl (by decide) fun o0 t0 => ?_
   refine asg t0 fun o0 f0 => ?_
   refine wpList_nil (x_then_n (q0 _ _ (c_region ?_)))
   refine lR f0 fun q0 o0 => ?_
   refine sbi ((((dl st).length - j : Nat) : Int) - 1) o0 fun q0 f0 => ?_
   have q0 := own_cap (i0.res (i := 0) rfl)
   refine m_sliceP (q := ((dl st).length - j) - (1)) sv f0 rfl rfl rfl rfl (by omega) Tryz.underlying57 sz3 (by omega) (by decide) fun q0 o0 => ?_
   refine asg o0 fun q0 f0 => ?_
   refine wpList_nil ?_
   refine x_block_n <| xn n0 <| c_region ?_
   refine mv f0 fun n0 q0 => ?_
   refine adi ((j + 1 : Nat) : Int) q0 fun n0 f0 => ?_
   refine asg f0 fun n0 q0 => ?_
   refine wpList_nil ?_
   exact ⟨_, by omega, j + 1, (q0.sub (rc4 (rc rfl (rc (ri rfl (by rw [dl_length]; exact (maxB_step (by omega)).symm)) (rc rfl rnl))))), i0, by omega, rfl⟩
  refine wcf m0 (decide_eq_false p0) fun q0 => ?_
  refine wp_exit ?_
  refine x_then_e ?_
  refine x_then_e ?_
  refine x_block_eq ?_
  refine xn b0 <| wp_seq_k fun b0 p0 => wsc fun b0 m0 => mv q0 fun b0 n0 => ?_
  refine adi ((maxB st j) + 1) n0 fun b0 q0 => ?_
  refine lR q0 fun b0 n0 => ?_
  refine wn m0 ?_
  rcases Decidable.em (60 < ((maxB st j) + 1)) with m0 | m0
  ·
   refine wct n0 (decide_eq_true m0) fun b0 => ?_
   refine wsc fun q0 f0 => aw b0 f0 fun q0 o0 => ?_
   refine wp_ret <| x_then_r <| x_block_r <| x_then_r <| x_then_r <| x_block_r <| x_then_r <| er1 o0 ?_
   refine ⟨?_, i0.fr⟩
   exact cre (ret_b (by exact (deepB_true (k := k) hb hsc (by omega) hrk (by omega) (by rw [← show j = many (nth t k) by omega]; omega)).symm))
  refine wcf n0 (decide_eq_false m0) fun o0 => ?_
  refine wp_skip <| xn p0 <| c_region ?_
  refine lR o0 fun p0 m0 => ?_
  refine adi ((maxB st j) + 1) m0 fun p0 o0 => ?_
  refine bsl o0 i0 fun p0 m0 n0 f0 q0 => ?_
  refine m_appendC (f := encI) (i := 0) (dl st) ([((maxB st j) + 1)]) sv f0 q0 rfl rfl rfl rfl rfl (by omega) encI_len (encI_one _) Tryz.underlying57 zi3 rfl rfl (own_lnews (f := encI) (q0.res (i := 1) rfl)) rfl (by (simp only [List.length_cons, List.length_nil]; omega)) (by decide) fun n0 m0 p0 o0 i0 b0 t0 => ?_
  have i0 : ((dl st).take ((dl st).length - j) ++ ([((maxB st j) + 1)]) : List Int).length = (dl st).length - j + 1 := by (simp only [List.length_append, List.length_take, List.length_cons, List.length_nil]; omega)
  have i0 := t0.erase 1
  refine asg b0 fun t0 m0 => ?_
  refine wpList_nil ?_
  refine x_block_n <| xn j0 <| c_region ?_
  refine mv m0 fun j0 t0 => ?_
  refine adi ((k + 1 : Nat) : Int) t0 fun j0 m0 => ?_
  refine asg m0 fun j0 t0 => ?_
  refine wpList_nil ?_
  obtain ⟨st', hp, hpl⟩ := push_some (st := st) (n := nth t k) hrk (by omega)
  have hpd := (push_dl hp).1
  have hjq : j = many (nth t k) := by omega
  have j0 : (dl st).take ((dl st).length - j) ++ ([((maxB st j) + 1)]) = dl st' := by rw [hpd, hjq, dl_length]
  have m0 := t0
  have t0 := i0
  rw [j0] at m0 t0
  have j0 := t0.forget 1
  exact ⟨_, by omega, k + 1, st', p0, o0, (m0.sub (rc2 (rc rfl (rc rfl rnl)))), j0, by omega, (scan_step hsc (by omega)).trans hp, shallow_push hp hsh (by rw [← hjq]; omega), rfl⟩
 refine wcf h0 (decide_eq_false k0) fun j0 => ?_
 refine wp_exit ?_
 refine x_then_e ?_
 refine x_then_e ?_
 refine x_block_eq ?_
 refine xn d0 <| wsc fun d0 k0 => aw j0 k0 fun d0 h0 => ?_
 refine wp_ret <| er1 h0 ?_
 refine ⟨?_, c0.fr⟩
 exact cre (ret_b (by exact (deepB_false (by rw [← hsc, List.take_of_length_le (by omega)]) hsh).symm))
theorem rcheck_calls (w0 : World) (Z : Nat → Prop) (hZ : ∀ k, Z k → k < w0.heap.size) (tA : Option Addr) (tc : Nat) (t : List Nd) (ht : (dRow 4 tA t.length tc (encNs t)).φ w0 Z) (hl : t.length ≤ 100000000 := by first | assumption | omega | (simp <;> omega)) (hsm : sml t := by first | assumption | omega | (simp <;> omega)) :
    Calls Tryz.prog 25 [.slice tA t.length tc].toArray w0 (fun e w' => e = .returned (.int .i64 (chk t)) ∧ Fr none_ w0 w') := by
 have b0 := s0 (M := none_) hZ (zc ht zn)
 refine c_enter Tryz.func25 rfl Tryz.ntmps25 rfl fun c0 d0 => ?_
 refine wsc fun c0 f0 => aw d0 f0 fun c0 h0 => ?_
 refine wp_seq_k fun f0 c0 => wsc fun f0 d0 => lR h0 fun f0 i0 => ?_
 refine wn d0 ?_
 rcases Decidable.em (4000 < ((t.length : Nat) : Int)) with d0 | d0
 ·
  refine wct i0 (decide_eq_true d0) fun f0 => ?_
  refine wsc fun h0 j0 => aw f0 j0 fun h0 k0 => ?_
  refine wp_ret <| x_then_r <| er1 k0 ?_
  refine ⟨?_, b0.fr⟩
  exact cre (ret_i (by exact (chk_size (by omega)).symm))
 refine wcf i0 (decide_eq_false d0) fun k0 => ?_
 refine wp_skip <| xn c0 <| wp_seq_k fun c0 i0 => wsc fun c0 j0 => mv k0 fun c0 h0 => ?_
 have c0 := b0.nf
 refine kcl h0 ok62 (rwhole_calls _ _ c0.il _ _ _ (c0.g 0)) ?_
 rintro h0 b0 ⟨rfl, k0⟩
 have b0 := c0.below k0.below
 refine ⟨_, rfl, fun k0 c0 => ?_⟩
 refine lR c0 fun k0 h0 => ?_
 refine wn j0 ?_
 rcases Bool.eq_false_or_eq_true (measB t) with j0 | j0
 ·
  refine wcfb h0 rfl (by rw [j0]; rfl) fun k0 => ?_
  refine wp_skip <| xn i0 <| wp_seq_k fun i0 c0 => wsc fun i0 f0 => mv k0 fun i0 m0 => ?_
  have i0 := b0.nf
  refine kcl m0 ok63 (rdeeper_calls _ _ i0.il _ _ _ (i0.g 0)) ?_
  rintro m0 k0 ⟨rfl, n0⟩
  have k0 := i0.below n0.below
  refine ⟨_, rfl, fun n0 i0 => ?_⟩
  refine wn f0 ?_
  rcases Bool.eq_false_or_eq_true (deepB t) with f0 | f0
  ·
   refine wct i0 f0 fun n0 => ?_
   refine wsc fun m0 o0 => aw n0 o0 fun m0 p0 => ?_
   refine wp_ret <| x_then_r <| er1 p0 ?_
   refine ⟨?_, k0.fr⟩
   exact cre (ret_i (by (rw [chk_whole (by omega) (by assumption)]; simp [d0, j0, f0])))
  refine wcf i0 f0 fun p0 => ?_
  refine wp_skip <| xn c0 <| wsc fun c0 i0 => aw p0 i0 fun c0 o0 => ?_
  refine wp_ret <| er1 o0 ?_
  refine ⟨?_, k0.fr⟩
  exact cre (ret_i (by (rw [chk_whole (by omega) (by assumption)]; simp [d0, j0, f0])))
 refine wctb h0 rfl (by rw [j0]; rfl) fun f0 => ?_
 refine wsc fun j0 h0 => aw f0 h0 fun j0 d0 => ?_
 refine wp_ret <| x_then_r <| er1 d0 ?_
 refine ⟨?_, b0.fr⟩
 exact cre (ret_i (by exact (chk_form (by omega) (by assumption)).symm))
theorem rroot_calls (w0 : World) (Z : Nat → Prop) (hZ : ∀ k, Z k → k < w0.heap.size) (tA : Option Addr) (tc : Nat) (t : List Nd) (ht : (dRow 4 tA t.length tc (encNs t)).φ w0 Z) (hl : t.length ≤ 1000000 := by first | assumption | omega | (simp <;> omega)) (h0 : 0 < t.length := by first | assumption | omega | (simp <;> omega)) :
    Calls Tryz.prog 12 [.slice tA t.length tc].toArray w0 (fun e w' => e = .returned (.agg #[.int .i64 (((nth t (t.length - 1)).K)), .int .i64 (((nth t (t.length - 1)).N)), .int .i64 (((nth t (t.length - 1)).M)), .string ((nth t (t.length - 1)).S)]) ∧ Fr none_ w0 w') := by
 have b0 := s0 (M := none_) hZ (zc ht zn)
 refine c_enter Tryz.func12 rfl Tryz.ntmps12 rfl fun c0 d0 => ?_
 refine wsc fun c0 f0 => alc d0 b0 fun c0 i0 j0 k0 m0 => ?_
 refine wn f0 <| wsc fun f0 j0 => lR k0 fun f0 i0 => ?_
 refine sbi (((t.length : Nat) : Int) - 1) i0 fun f0 k0 => ?_
 refine ix ((t.length) - (1)) (((t.length) - (1)) * 4) k0 (nds_elem (t := t) (k := (t.length) - (1)) (m0.row (i := 0) rfl).2 (by omega)).some_ fun f0 i0 => ?_
 refine m_loadEN sv i0 rfl rfl rfl (nds_elem (t := t) (k := (t.length) - (1)) (m0.row (i := 0) rfl).2 (by omega)) Tryz.underlying30 rfl sz30 (by decide) fun f0 k0 => ?_
 refine sto 0 k0 m0 fun f0 i0 c0 d0 => ?_
 refine wn j0 <| wp_ret <| e_cell (i := 0) (vs := [.int .i64 (((nth t ((t.length) - (1))).K)), .int .i64 (((nth t ((t.length) - (1))).N)), .int .i64 (((nth t ((t.length) - (1))).M)), .string ((nth t ((t.length) - (1))).S)]) (.inl rfl) c0 d0 rfl rfl rfl rfl Tryz.underlying30 rfl sz30 ?_
 refine ⟨?_, d0.fr⟩
 exact cre rfl
theorem rfrom_calls_rec (rn : Nat) : ∀ (w0 : World) (Z : Nat → Prop) (hZ : ∀ k, Z k → k < w0.heap.size) (tA : Option Addr) (tc : Nat) (t : List Nd) (ed : Int) (ht : (dRow 4 tA t.length tc (encNs t)).φ w0 Z) (hl : t.length ≤ 1000000) (hsm : sml t) (hb : measB t = true) (he0 : 0 ≤ ed) (he1 : ed < t.length) (hrn : ed.toNat = rn),
    Calls Tryz.prog 36 [.slice tA t.length tc, .int .i64 ed].toArray w0 (fun e w' => e = .returned (.int .i64 ((frL t ed.toNat : Nat) : Int)) ∧ Fr none_ w0 w') := by
 induction rn using Nat.strongRecOn
 rename_i rn ih
 intro w0 Z hZ tA tc t ed ht hl hsm hb he0 he1 hrn
 have b0 := s0 (M := none_) hZ (zc ht zn)
 have hm8 := many_le (right_at hb (show ed.toNat < t.length by omega))
 have hbm := bindL_many (right_at hb (show ed.toNat < t.length by omega))
 refine c_enter Tryz.func36 rfl Tryz.ntmps36 rfl fun c0 d0 => ?_
 refine wsc fun c0 f0 => aw d0 f0 fun c0 h0 => ?_
 refine wp_seq_k fun f0 c0 => wsc fun f0 d0 => lR h0 fun f0 i0 => ?_
 refine wn d0 ?_
 have d0 : ¬ ((ed) < 0) := by omega
 refine wcf i0 (decide_eq_false d0) fun f0 => ?_
 refine wp_skip <| xn c0 <| wsc fun c0 d0 => lR f0 fun c0 i0 => ?_
 refine ix (((ed)).toNat) ((((ed)).toNat) * 4) i0 (nds_elem (t := t) (k := ((ed)).toNat) (b0.row (i := 0) rfl).2 (by omega)).some_ fun c0 f0 => ?_
 refine m_loadEN sv f0 rfl rfl rfl (nds_elem (t := t) (k := ((ed)).toNat) (b0.row (i := 0) rfl).2 (by omega)) Tryz.underlying30 rfl sz30 (by decide) fun c0 i0 => ?_
 have c0 := b0.nf
 refine kcl i0 ok35 (rbinds_calls _ _ c0.il (nth t (((ed)).toNat)) (hs := (hsm _ (by omega)))) ?_
 rintro i0 b0 ⟨f0, h0, rfl, j0, k0⟩
 have b0 := c0.below j0.below
 have j0 := c0.dN b0 k0
 refine ⟨_, rfl, fun b0 k0 => ?_⟩
 refine lR k0 fun b0 c0 => ?_
 refine wn d0 <| wp_seq_k fun d0 b0 => wsc fun d0 k0 => lR c0 fun d0 i0 => ?_
 refine wn k0 ?_
 have k0 : (right (nth t (((ed)).toNat))) = true := right_at hb (by omega)
 refine wcfb i0 rfl (by rw [k0]; rfl) fun d0 => ?_
 refine wp_skip <| xn b0 <| wsc fun b0 k0 => lR d0 fun b0 i0 => ?_
 refine wn k0 <| wp_seq_k fun k0 b0 => wsc fun k0 d0 => aw i0 d0 fun k0 c0 => ?_
 refine wp_block ?_
 refine wp_loop_ghost (fun gn ga gw => ∃ k : Nat, (Reg ga 35 [(1000000, .bool false), (0, .slice tA t.length tc), (5, .slice f0 ((bindL (nth t (((ed)).toNat))).length) h0), (8, .int .i64 ((k : Nat) : Int)), (7, .int .i64 ((posL t ed.toNat k : Nat) : Int))]) ∧ (St w0 Z none_ gw [] [dRow 4 tA t.length tc (encNs t), dRow 1 f0 ((bindL (nth t (((ed)).toNat))).length) h0 (encIs (bindL (nth t (((ed)).toNat))))]) ∧ (k ≤ many (nth t ed.toNat)) ∧ (many (nth t ed.toNat) - k) = gn) _ ⟨0, (c0.sub (rc4 (rc (ri rfl (by rw [posL_zero hb (by omega)]; omega)) rnl))), j0, by omega, rfl⟩ ?_
 rintro c0 j0 h0 ⟨k, f0, d0, hk, k0⟩
 refine wp_seq_k fun k0 h0 => wsc fun k0 j0 => lR f0 fun k0 c0 => ?_
 refine wn j0 ?_
 rcases Decidable.em (((k : Nat) : Int) < (((bindL (nth t (((ed)).toNat))).length : Nat) : Int)) with j0 | j0
 ·
  obtain ⟨hps1, hps2, hps3, hps4⟩ := posL_step hb (show ed.toNat < t.length by omega) (show k < many (nth t ed.toNat) by omega)
  refine wct c0 (decide_eq_true j0) fun k0 => ?_
  refine wp_skip <| xn h0 <| wp_seq_k fun h0 f0 => wp_block ?_
  refine wsc fun h0 i0 => lR k0 fun h0 m0 => ?_
  refine sbi (((posL t ed.toNat k : Nat) : Int) - 1) m0 fun h0 k0 => ?_
  have h0 := d0.nf
  refine kcl k0 ok36 (ih ((((posL t ed.toNat k : Nat) : Int) - 1).toNat) (by omega) _ (imm Z w0 [] _) (fun _ h => h.1) _ _ _ (((posL t ed.toNat k : Nat) : Int) - 1) (h0.g 0) (by assumption) (by assumption) (by assumption) (by omega) (by omega) rfl) ?_
  rintro k0 m0 ⟨rfl, n0⟩
  have m0 := h0.below n0.below
  refine ⟨_, rfl, fun n0 h0 => ?_⟩
  refine aw h0 i0 fun n0 k0 => ?_
  refine wsc fun i0 n0 => lR k0 fun i0 h0 => ?_
  refine wn n0 ?_
  have n0 : ¬ (((frL t (((posL t ed.toNat k : Nat) : Int) - 1).toNat : Nat) : Int) < 0) := by omega
  refine wcf h0 (decide_eq_false n0) fun i0 => ?_
  refine wp_skip <| x_block_n <| xn f0 <| c_region ?_
  refine mv i0 fun f0 n0 => ?_
  refine adi ((k + 1 : Nat) : Int) n0 fun f0 i0 => ?_
  refine asg i0 fun f0 n0 => ?_
  refine wpList_nil ?_
  exact ⟨_, by omega, k + 1, (n0.sub (rc4 (rc (ri rfl (by rw [show (((posL t ed.toNat k : Nat) : Int) - 1).toNat = posL t ed.toNat k - 1 by omega, hps3])) rnl))), m0, by omega, rfl⟩
 refine wcf c0 (decide_eq_false j0) fun n0 => ?_
 refine wp_exit ?_
 refine x_then_e ?_
 refine x_then_e ?_
 refine x_block_eq ?_
 refine xn b0 <| wsc fun b0 j0 => lR n0 fun b0 c0 => ?_
 refine wn j0 <| wp_ret <| er1 c0 ?_
 refine ⟨?_, d0.fr⟩
 exact cre (ret_i (by rw [← posL_end hb (by omega), show k = many (nth t ed.toNat) by omega]))
theorem rfrom_calls (w0 : World) (Z : Nat → Prop) (hZ : ∀ k, Z k → k < w0.heap.size) (tA : Option Addr) (tc : Nat) (t : List Nd) (ed : Int) (ht : (dRow 4 tA t.length tc (encNs t)).φ w0 Z) (hl : t.length ≤ 1000000 := by first | assumption | omega | (simp <;> omega)) (hsm : sml t := by first | assumption | omega | (simp <;> omega)) (hb : measB t = true := by first | assumption | omega | (simp <;> omega)) (he0 : 0 ≤ ed := by first | assumption | omega | (simp <;> omega)) (he1 : ed < t.length := by first | assumption | omega | (simp <;> omega)) :
    Calls Tryz.prog 36 [.slice tA t.length tc, .int .i64 ed].toArray w0 (fun e w' => e = .returned (.int .i64 ((frL t ed.toNat : Nat) : Int)) ∧ Fr none_ w0 w') := rfrom_calls_rec _ w0 Z hZ tA tc t ed ht hl hsm hb he0 he1 rfl
theorem rparts_calls (w0 : World) (Z : Nat → Prop) (hZ : ∀ k, Z k → k < w0.heap.size) (tA : Option Addr) (tc : Nat) (t : List Nd) (ht : (dRow 4 tA t.length tc (encNs t)).φ w0 Z) (hl : t.length ≤ 1000000 := by first | assumption | omega | (simp <;> omega)) (hsm : sml t := by first | assumption | omega | (simp <;> omega)) (hb : measB t = true := by first | assumption | omega | (simp <;> omega)) :
    Calls Tryz.prog 10 [.slice tA t.length tc].toArray w0 (fun e w' => ∃ (rA0 : Option Addr) (rc0 : Nat) (rL0 : List Sl), e = .returned (.slice rA0 rL0.length rc0) ∧ Fr none_ w0 w' ∧ (dRow 1 rA0 rL0.length rc0 (encSs rL0)).φ w' (nxt Z w0 w') ∧ (dAll rL0).φ w' (nxt Z w0 w') ∧ lsts rL0 = ptL t) := by
 have b0 := s0 (M := none_) hZ (zc ht zn)
 have hp0 := meas_pos hb
 have hm8 := many_le (right_at hb (show t.length - 1 < t.length by omega))
 have hbm := bindL_many (right_at hb (show t.length - 1 < t.length by omega))
 refine c_enter Tryz.func10 rfl Tryz.ntmps10 rfl fun c0 d0 => ?_
 refine wsc fun c0 f0 => aw d0 f0 fun c0 h0 => ?_
 refine wsc fun f0 c0 => lR h0 fun f0 d0 => ?_
 refine sbi (((t.length : Nat) : Int) - 1) d0 fun f0 h0 => ?_
 refine aw h0 c0 fun f0 d0 => ?_
 refine wsc fun c0 f0 => lR d0 fun c0 h0 => ?_
 refine ix ((t.length) - (1)) (((t.length) - (1)) * 4) h0 (nds_elem (t := t) (k := (t.length) - (1)) (b0.row (i := 0) rfl).2 (by omega)).some_ fun c0 d0 => ?_
 refine m_loadEN sv d0 rfl rfl rfl (nds_elem (t := t) (k := (t.length) - (1)) (b0.row (i := 0) rfl).2 (by omega)) Tryz.underlying30 rfl sz30 (by decide) fun c0 h0 => ?_
 have c0 := b0.nf
 refine kcl h0 ok35 (rbinds_calls _ _ c0.il (nth t ((t.length) - (1))) (hs := (hsm _ (by omega)))) ?_
 rintro h0 b0 ⟨d0, i0, rfl, j0, k0⟩
 have b0 := c0.below j0.below
 have j0 := c0.dN b0 k0
 refine ⟨_, rfl, fun b0 k0 => ?_⟩
 refine lR k0 fun b0 c0 => ?_
 refine wn f0 <| wsc fun f0 b0 => ?_
 have f0 := j0.data (dAll []) all_nil
 refine bsl c0 f0 fun j0 k0 h0 m0 n0 => ?_
 refine aw m0 b0 fun k0 j0 => ?_
 refine wp_seq_k fun b0 k0 => wsc fun b0 m0 => aw j0 m0 fun b0 f0 => ?_
 refine wp_block ?_
 refine wp_loop_ghost (fun gn ga gw => ∃ k : Nat, ∃ Ls : List Sl, ∃ Ao : Option Addr, ∃ co : Nat, (Reg ga 42 [(1000000, .bool false), (0, .slice tA t.length tc), (2, .slice none 0 0), (4, .slice d0 ((bindL (nth t ((t.length) - (1)))).length) i0), (7, .int .i64 ((k : Nat) : Int)), (3, .int .i64 ((posL t (t.length - 1) k : Nat) : Int)), (6, .slice Ao ((Ls).length) co)]) ∧ (St w0 Z none_ gw [.row Ao ((Ls).length) co 22 1 (encSs Ls)] [dRow 4 tA t.length tc (encNs t), dRow 1 d0 ((bindL (nth t ((t.length) - (1)))).length) i0 (encIs (bindL (nth t ((t.length) - (1))))), dAll Ls]) ∧ (k ≤ many (nth t (t.length - 1))) ∧ (lsts Ls = ptD t k) ∧ (many (nth t (t.length - 1)) - k) = gn) _ ⟨0, [], (some ⟨h0, 0, none⟩), 0, (f0.sub (rc4 (rc rfl (rc (ri rfl (by rw [posL_zero hb (by omega)]; omega)) (rc rfl rnl))))), n0, by omega, (ptD_zero t).symm, rfl⟩ ?_
 rintro f0 n0 h0 ⟨k, Ls, Ao, co, i0, d0, hk, hL, m0⟩
 have hLn : Ls.length = k := by rw [← lsts_len, hL, ptD_length hb hk]
 refine wp_seq_k fun m0 h0 => wsc fun m0 n0 => lR i0 fun m0 f0 => ?_
 refine wn n0 ?_
 rcases Decidable.em (((k : Nat) : Int) < (((bindL (nth t ((t.length) - (1)))).length : Nat) : Int)) with n0 | n0
 ·
  obtain ⟨hps1, hps2, hps3, hps4⟩ := posL_step hb (show t.length - 1 < t.length by omega) (show k < many (nth t (t.length - 1)) by omega)
  have hps5 := hps3
  rw [show posL t (t.length - 1) k - 1 = (((posL t (t.length - 1) k : Nat) : Int) - 1).toNat by omega] at hps5
  refine wct f0 (decide_eq_true n0) fun m0 => ?_
  refine wp_skip <| xn h0 <| wp_seq_k fun h0 i0 => wp_block ?_
  refine wsc fun h0 b0 => lR m0 fun h0 j0 => ?_
  refine sbi (((posL t (t.length - 1) k : Nat) : Int) - 1) j0 fun h0 m0 => ?_
  have h0 := d0.nf
  refine kcl m0 ok36 (rfrom_calls _ _ h0.il _ _ _ (((posL t (t.length - 1) k : Nat) : Int) - 1) (h0.g 0)) ?_
  rintro m0 j0 ⟨rfl, c0⟩
  have j0 := h0.below c0.below
  refine ⟨_, rfl, fun c0 h0 => ?_⟩
  refine aw h0 b0 fun c0 m0 => ?_
  refine wsc fun b0 c0 => lR m0 fun b0 h0 => ?_
  refine m_sliceD (f := encN) (lo := some (.tmp 33)) (hi := some (.tmp 34)) (vlo := (some (.int .i64 ((frL t (((posL t (t.length - 1) k : Nat) : Int) - 1).toNat : Nat) : Int)))) (vhi := (some (.int .i64 ((posL t (t.length - 1) k : Nat) : Int)))) (kd := .i64) (kd' := .i64) sv h0 rfl rfl rfl rfl rfl (frL t (((posL t (t.length - 1) k : Nat) : Int) - 1).toNat) ((posL t (t.length - 1) k) - (frL t (((posL t (t.length - 1) k : Nat) : Int) - 1).toNat)) (.inl (by rfl)) (.inl (by congr 2; omega)) (((t).drop (frL t (((posL t (t.length - 1) k : Nat) : Int) - 1).toNat)).take ((posL t (t.length - 1) k) - (frL t (((posL t (t.length - 1) k : Nat) : Int) - 1).toNat))) rfl encN_len (j0.row (i := 0) rfl) Tryz.underlying22 sz30 (by omega) (by decide) fun b0 m0 o0 p0 q0 => ?_
  have b0 : (((t).drop (frL t (((posL t (t.length - 1) k : Nat) : Int) - 1).toNat)).take ((posL t (t.length - 1) k) - (frL t (((posL t (t.length - 1) k : Nat) : Int) - 1).toNat))).length = (posL t (t.length - 1) k) - (frL t (((posL t (t.length - 1) k : Nat) : Int) - 1).toNat) := by (simp only [List.length_drop, List.length_take]; omega)
  have b0 := j0.data (dRow 4 m0 ((((t).drop (frL t (((posL t (t.length - 1) k : Nat) : Int) - 1).toNat)).take ((posL t (t.length - 1) k) - (frL t (((posL t (t.length - 1) k : Nat) : Int) - 1).toNat))).length) o0 (encNs (((t).drop (frL t (((posL t (t.length - 1) k : Nat) : Int) - 1).toNat)).take ((posL t (t.length - 1) k) - (frL t (((posL t (t.length - 1) k : Nat) : Int) - 1).toNat))))) p0
  have p0 := b0.data (dAll [((m0, o0, ((t).drop (frL t (((posL t (t.length - 1) k : Nat) : Int) - 1).toNat)).take ((posL t (t.length - 1) k) - (frL t (((posL t (t.length - 1) k : Nat) : Int) - 1).toNat))) : Sl)]) (all_cons (b0.get (i := 3) rfl) all_nil)
  refine bsl q0 p0 fun b0 j0 h0 t0 u0 => ?_
  refine aw t0 c0 fun h0 j0 => ?_
  refine wsc fun c0 h0 => lR j0 fun c0 t0 => ?_
  refine m_appendF (f := encS) (i := 1) ([((m0, o0, ((t).drop (frL t (((posL t (t.length - 1) k : Nat) : Int) - 1).toNat)).take ((posL t (t.length - 1) k) - (frL t (((posL t (t.length - 1) k : Nat) : Int) - 1).toNat))) : Sl)]) (Ls) sv t0 u0 rfl rfl rfl rfl rfl encS_len (encS_one _) Tryz.underlying37 zi22 rfl rfl (own_lnews (f := encS) (u0.res (i := 0) rfl)) rfl (by (simp only [List.length_cons, List.length_nil]; omega)) (by decide) fun c0 j0 b0 p0 q0 v0 x0 => ?_
  have q0 : (([((m0, o0, ((t).drop (frL t (((posL t (t.length - 1) k : Nat) : Int) - 1).toNat)).take ((posL t (t.length - 1) k) - (frL t (((posL t (t.length - 1) k : Nat) : Int) - 1).toNat))) : Sl)]) ++ Ls : List Sl).length = (Ls).length + 1 := by (simp only [List.length_append, List.length_take, List.length_cons, List.length_nil]; omega)
  have q0 := x0.erase 0
  have x0 := q0.data (dAll (([((m0, o0, ((t).drop (frL t (((posL t (t.length - 1) k : Nat) : Int) - 1).toNat)).take ((posL t (t.length - 1) k) - (frL t (((posL t (t.length - 1) k : Nat) : Int) - 1).toNat))) : Sl)]) ++ Ls)) (all_append (q0.get (i := 4) rfl) (q0.get (i := 2) rfl))
  refine asg v0 fun q0 j0 => ?_
  refine wpList_nil (x_then_n (h0 _ _ (c_region ?_)))
  refine lR j0 fun h0 q0 => ?_
  refine wpList_nil ?_
  refine x_block_n <| xn i0 <| c_region ?_
  refine mv q0 fun i0 h0 => ?_
  refine adi ((k + 1 : Nat) : Int) h0 fun i0 q0 => ?_
  refine asg q0 fun i0 h0 => ?_
  refine wpList_nil ?_
  have i0 := x0.forget 4
  have x0 := i0.forget 3
  have i0 := x0.forget 2
  exact ⟨_, by omega, k + 1, ([((m0, o0, ((t).drop (frL t (((posL t (t.length - 1) k : Nat) : Int) - 1).toNat)).take ((posL t (t.length - 1) k) - (frL t (((posL t (t.length - 1) k : Nat) : Int) - 1).toNat))) : Sl)]) ++ Ls, b0, p0, (h0.sub (rc4 (rc rfl (rc (ri rfl (by rw [show (((posL t (t.length - 1) k : Nat) : Int) - 1).toNat = posL t (t.length - 1) k - 1 by omega, hps3])) (rc rfl rnl))))), i0, by omega, parts_step hb hL (by omega) (by rw [show (((posL t (t.length - 1) k : Nat) : Int) - 1).toNat = posL t (t.length - 1) k - 1 by omega, hps3]) rfl, rfl⟩
 refine wcf f0 (decide_eq_false n0) fun i0 => ?_
 refine wp_exit ?_
 refine x_then_e ?_
 refine x_then_e ?_
 refine x_block_eq ?_
 refine xn k0 <| wsc fun k0 n0 => lR i0 fun k0 f0 => ?_
 refine wn n0 <| wp_ret <| er1 f0 ?_
 have f0 := d0.pub 0 (dRow 1 Ao ((Ls).length) co (encSs Ls))
 refine ⟨Ao, co, Ls, ?_, f0.fr, f0.rx 3, f0.rx 2, (by rw [hL, ← ptD_all hb, show k = many (nth t (t.length - 1)) by omega])⟩
 exact cre (ret_s (by rfl))
theorem rcount_calls_rec (rn : Nat) : ∀ (w0 : World) (Z : Nat → Prop) (hZ : ∀ k, Z k → k < w0.heap.size) (tA : Option Addr) (tc : Nat) (t : List Nd) (k : Int) (u : Int) (ht : (dRow 4 tA t.length tc (encNs t)).φ w0 Z) (hl : t.length ≤ 1000000) (hsm : sml t) (hb : measB t = true) (hu0 : 0 ≤ u) (hub : u + 2 * t.length ≤ 10000000) (hrn : t.length = rn),
    Calls Tryz.prog 38 [.slice tA t.length tc, .int .i64 k, .int .i64 u].toArray w0 (fun e w' => e = .returned (.tuple #[.int .i64 ((usL t k u : Nat) : Int), .int .i64 (moL t k u)]) ∧ Fr none_ w0 w') := by
 induction rn using Nat.strongRecOn
 rename_i rn ih
 intro w0 Z hZ tA tc t k u ht hl hsm hb hu0 hub hrn
 have b0 := s0 (M := none_) hZ (zc ht zn)
 have hp0 := meas_pos hb
 have hrt := right_at hb (show t.length - 1 < t.length by omega)
 have hbl := bindL_right hrt
 have hbm := bindL_many hrt
 have hpm := ptL_length hb
 refine c_enter Tryz.func38 rfl Tryz.ntmps38 rfl fun c0 d0 => ?_
 refine wsc fun c0 f0 => lR d0 fun c0 h0 => ?_
 refine wn f0 <| wsc fun f0 c0 => mv h0 fun f0 d0 => ?_
 have f0 := b0.nf
 refine kcl d0 ok12 (rroot_calls _ _ f0.il _ _ _ (f0.g 0)) ?_
 rintro d0 b0 ⟨rfl, h0⟩
 have b0 := f0.below h0.below
 refine ⟨_, rfl, fun h0 f0 => ?_⟩
 refine alc f0 b0 fun h0 d0 i0 j0 k0 => ?_
 refine sto 0 j0 k0 fun d0 h0 f0 b0 => ?_
 refine wn c0 <| wp_seq_k fun c0 h0 => wsc fun c0 d0 => lR f0 fun c0 k0 => ?_
 refine wn d0 ?_
 rcases Decidable.em ((((nth t (t.length - 1)).K)) = 0) with d0 | d0
 ·
  obtain ⟨c0, f0⟩ := var_at hb (by omega)
  refine wct k0 (decide_eq_true d0) fun f0 => ?_
  refine wsc fun c0 j0 => lR f0 fun c0 m0 => ?_
  refine sbi (((nth t (t.length - 1)).N) - u) m0 fun c0 f0 => ?_
  refine aw f0 j0 fun c0 m0 => ?_
  refine wp_seq_k fun j0 c0 => wsc fun j0 f0 => lR m0 fun j0 n0 => ?_
  refine l_join (fun ga gw => Reg ga 75 [(0, .slice tA t.length tc), (1, .int .i64 (k)), (2, .int .i64 (u)), (6, .int .i64 0), (7, .int .i64 0), (8, .pointer (some ⟨i0, 0, none⟩)), (9, .int .i64 (((nth t (t.length - 1)).N) - u)), (37, .bool ((decide (0 ≤ (((nth t (t.length - 1)).N) - u))) && ((decide ((k) < 0)) || (decide ((((nth t (t.length - 1)).N) - u) = (k)))))), (1000000, .bool false)] ∧ St w0 Z none_ gw [.box i0 30 [.int .i64 (((nth t (t.length - 1)).K)), .int .i64 (((nth t (t.length - 1)).N)), .int .i64 (((nth t (t.length - 1)).M)), .string ((nth t (t.length - 1)).S)]] [dRow 4 tA t.length tc (encNs t)]) 8 ?_ ?_
  ·
   rcases Decidable.em (0 ≤ (((nth t (t.length - 1)).N) - u)) with j0 | j0
   ·
    have m0 := n0.setb (d := 29) (b := true) rfl (decide_eq_true j0)
    refine lR m0 fun o0 p0 => ?_
    rcases Decidable.em ((k) < 0) with o0 | o0
    ·
     have m0 := p0.setb (d := 32) (b := true) rfl (decide_eq_true o0)
     refine lR m0 fun q0 t0 => ?_
     refine wpList_nil ?_
     exact x_then_n ⟨(t0.sub (rc4 (rc2 (rc rfl (rc (rb rfl (by (simp only [decide_eq_true j0, if_pos j0, decide_eq_true o0, if_pos o0, bl]; done))) (rc rfl rnl)))))), b0⟩
    have t0 := p0.setb (d := 32) (b := false) rfl (decide_eq_false o0)
    refine lR t0 fun p0 q0 => ?_
    refine wpList_nil ?_
    exact x_then_n ⟨(q0.sub (rc4 (rc2 (rc rfl (rc (rb rfl (by (simp only [decide_eq_true j0, if_pos j0, decide_eq_false o0, if_neg o0, bl]; done))) (rc rfl rnl)))))), b0⟩
   have q0 := n0.setb (d := 29) (b := false) rfl (decide_eq_false j0)
   refine lR q0 fun n0 o0 => ?_
   refine wpList_nil ?_
   exact x_then_n ⟨(o0.sub (rc4 (rc2 (rc rfl (rc (rb rfl (by (simp only [decide_eq_false j0, if_neg j0, bl]; done))) (rc rfl rnl)))))), b0⟩
  rintro o0 j0 ⟨n0, q0⟩
  refine wn f0 ?_
  rcases Bool.eq_false_or_eq_true (((decide (0 ≤ (((nth t (t.length - 1)).N) - u))) && ((decide ((k) < 0)) || (decide ((((nth t (t.length - 1)).N) - u) = (k)))))) with f0 | f0
  ·
   have j0 := and_tl f0
   have o0 := of_decide_eq_true j0
   have o0 := and_tr f0
   have j0 := o0
   try simp only [bz] at j0
   refine wct n0 f0 fun j0 => ?_
   refine wsc fun o0 p0 => lR j0 fun o0 t0 => ?_
   refine wn p0 <| wp_ret <| x_then_r <| x_then_r <| er2 t0 ?_
   refine ⟨?_, q0.fr⟩
   exact ret_t2 (ret_i (by (rw [(us_var hb (by omega)).1]; split <;> omega))) (ret_i (by (rw [(us_var hb (by omega)).2]; split <;> omega)))
  have t0 := f0
  try simp only [bz] at t0
  refine wcf n0 f0 fun t0 => ?_
  refine wp_skip <| xn c0 <| wsc fun c0 f0 => lR t0 fun c0 n0 => ?_
  refine wn f0 <| wp_ret <| x_then_r <| er2 n0 ?_
  refine ⟨?_, q0.fr⟩
  exact ret_t2 (ret_i (by (rw [(us_var hb (by omega)).1]; split <;> omega))) (ret_i (by (rw [(us_var hb (by omega)).2]; split <;> omega)))
 refine wcf k0 (decide_eq_false d0) fun q0 => ?_
 refine wp_skip <| xn h0 <| wsc fun h0 d0 => lR q0 fun h0 k0 => ?_
 have h0 := b0.nf
 refine kcl k0 ok35 (rbinds_calls _ _ h0.il (nth t (t.length - 1)) (hs := (hsm _ (by omega)))) ?_
 rintro k0 b0 ⟨q0, n0, rfl, f0, c0⟩
 have b0 := h0.below f0.below
 have f0 := h0.dN b0 c0
 refine ⟨_, rfl, fun b0 c0 => ?_⟩
 refine lR c0 fun b0 h0 => ?_
 refine wn d0 <| wsc fun d0 b0 => mv h0 fun d0 c0 => ?_
 have d0 := f0.nf
 refine kcl c0 ok10 (rparts_calls _ _ d0.il _ _ _ (d0.g 0)) ?_
 rintro c0 f0 ⟨h0, k0, t0, rfl, p0, o0, j0, m0⟩
 have f0 := d0.below p0.below
 have p0 := d0.dN f0 o0
 have f0 := d0.dN p0 j0
 refine ⟨_, rfl, fun p0 j0 => ?_⟩
 refine aw j0 b0 fun p0 d0 => ?_
 refine wsc fun b0 p0 => aw d0 p0 fun b0 j0 => ?_
 refine wsc fun p0 b0 => aw j0 b0 fun p0 d0 => ?_
 refine wp_seq_k fun b0 p0 => wsc fun b0 j0 => aw d0 j0 fun b0 o0 => ?_
 refine wp_block ?_
 refine wp_loop_ghost (fun gn ga gw => ∃ j : Nat, (Reg ga 75 [(1000000, .bool false), (1, .int .i64 (k)), (2, .int .i64 (u)), (6, .int .i64 0), (7, .int .i64 0), (10, .slice q0 ((bindL (nth t (t.length - 1))).length) n0), (12, .slice h0 t0.length k0), (15, .int .i64 ((j : Nat) : Int)), (13, .int .i64 ((usP t k u j : Nat) : Int)), (14, .int .i64 ((moP t k u j)))]) ∧ (St w0 Z none_ gw [.box i0 30 [.int .i64 (((nth t (t.length - 1)).K)), .int .i64 (((nth t (t.length - 1)).N)), .int .i64 (((nth t (t.length - 1)).M)), .string ((nth t (t.length - 1)).S)]] [dRow 4 tA t.length tc (encNs t), dRow 1 q0 ((bindL (nth t (t.length - 1))).length) n0 (encIs (bindL (nth t (t.length - 1)))), dRow 1 h0 t0.length k0 (encSs t0), dAll t0]) ∧ (j ≤ t0.length) ∧ (t0.length - j) = gn) _ ⟨0, (o0.sub (rc4 (rc4 (rc (ri rfl (by simp [usP, usTs])) (rc (ri rfl (by simp [moP, moTs])) rnl))))), f0, by omega, rfl⟩ ?_
 rintro o0 f0 k0 ⟨j, h0, n0, hj, q0⟩
 have hrl : t0.length = (ptL t).length := by rw [← lsts_len, m0]
 have hp8 := ptL_le hb
 have hbj : 0 ≤ nthI (bindL (nth t (t.length - 1))) j ∧ nthI (bindL (nth t (t.length - 1))) j ≤ 2 := by rw [hbl]; exact binds_nth j
 have hup := usP_le hb k u j
 refine wp_seq_k fun q0 k0 => wsc fun q0 f0 => lR h0 fun q0 o0 => ?_
 refine wn f0 ?_
 rcases Decidable.em (((j : Nat) : Int) < ((t0.length : Nat) : Int)) with f0 | f0
 ·
  obtain ⟨hpe, hpk, hpb, hpl, hps, hp0'⟩ := part_at hb hsm m0 (show j < t0.length by omega)
  obtain ⟨hu1, hu2⟩ := us_step (k := k) (u := u) hb hpk
  have hul := usL_le hpb k (u + nthI (bindL (nth t (t.length - 1))) j)
  refine wct o0 (decide_eq_true f0) fun m0 => ?_
  refine wp_skip <| xn k0 <| wp_seq_k fun k0 q0 => wp_block ?_
  refine wp_seq_k fun k0 h0 => ?_
  obtain ⟨k0, j0, b0⟩ := n0.agree
  refine d_reg3 (n := 17) b0 4 pn (pan_then (pan_block (pan_then (pan_then (pan_block (pan_then pan_body)))))) fun k0 d0 c0 u0 v0 x0 => ?_
  refine dR [0, 1] m0 fun u0 k0 => ?_
  refine dix 2 j (j * 1) k0 (fun x hx => (ss_elem (t := t0) (k := j) (sdat (j0 2 _ rfl) hx.ag).2 (by omega)).some_) fun u0 m0 => ?_
  refine dle 3 0 (j * 1) m0 (fun x hx => ss_elem (t := t0) (k := j) (sdat (j0 2 _ rfl) hx.ag).2 (by omega)) fun u0 k0 => ?_
  have u0 := v0.el 3 j
  refine dR [4, 5, 6, 7] k0 fun v0 m0 => ?_
  refine dix 8 j (j * 1) m0 (fun x hx => (ints_elem (t := bindL (nth t (t.length - 1))) (k := j) (sdat (j0 1 _ rfl) hx.ag).2 (by omega)).some_) fun v0 k0 => ?_
  refine dle 9 0 (j * 1) k0 (fun x hx => ints_elem (t := bindL (nth t (t.length - 1))) (k := j) (sdat (j0 1 _ rfl) hx.ag).2 (by omega)) fun v0 m0 => ?_
  refine dt 10 rfl d0 m0 (want_n rfl) (fun x hx => r_add (z := (u + (nthI (bindL (nth t (t.length - 1))) j))) (sy m0) m0 rfl rfl rfl rfl (by decide) (by omega) (by omega) (by omega) gt) x0 fun v0 k0 => ?_
  refine d1 11 ?_
  have v0 := u0.nf
  refine kcl k0 ok38 (ih (((nthS t0 j).2.2).length) (by omega) _ (imm Z w0 [.box i0 30 [.int .i64 (((nth t (t.length - 1)).K)), .int .i64 (((nth t (t.length - 1)).N)), .int .i64 (((nth t (t.length - 1)).M)), .string ((nth t (t.length - 1)).S)]] _) (fun _ h => h.1) _ _ ((nthS t0 j).2.2) (k) (u + (nthI (bindL (nth t (t.length - 1))) j)) (v0.g 5) (by omega) (by assumption) (by assumption) (by omega) (by omega) rfl) ?_
  rintro k0 i0 ⟨rfl, u0⟩
  have i0 := v0.below u0.below
  refine ⟨_, rfl, fun u0 v0 => ?_⟩
  have u0 := sWI i0 4 pn
  refine ⟨u0, ?_⟩
  refine dR [12, 13, 14, 15, 16] v0 fun u0 k0 => ?_
  refine wpAnyH_done (by kernel_rfl) (c0 _ _ ?_) _
  refine xn h0 <| wsc fun h0 c0 => lR k0 fun h0 u0 => ?_
  refine adi ((usP t k u j + usL ((nthS t0 j).2.2) (k) (u + (nthI (bindL (nth t (t.length - 1))) j)) : Nat) : Int) u0 fun h0 k0 => ?_
  refine asg k0 fun h0 u0 => ?_
  refine wpList_nil (x_then_n (c0 _ _ (c_region ?_)))
  refine lR u0 fun c0 h0 => ?_
  refine r_max sv h0 rfl rfl rfl rfl rfl (by decide) fun c0 u0 => ?_
  refine asg u0 fun c0 h0 => ?_
  refine wpList_nil ?_
  refine x_block_n <| xn q0 <| c_region ?_
  refine mv h0 fun q0 c0 => ?_
  refine adi ((j + 1 : Nat) : Int) c0 fun q0 h0 => ?_
  refine asg h0 fun q0 c0 => ?_
  refine wpList_nil ?_
  have q0 := i0.forget 5
  have i0 := q0.forget 4
  exact ⟨_, by omega, j + 1, (c0.sub (rc4 (rc4 (rc (ri rfl (by rw [hu1, hpe, hbl]; try omega)) (rc (ri rfl (by rw [hu2, hpe, hbl])) rnl))))), i0, by omega, rfl⟩
 refine wcf o0 (decide_eq_false f0) fun i0 => ?_
 refine wp_exit ?_
 refine x_then_e ?_
 refine x_then_e ?_
 refine x_block_eq ?_
 refine xn p0 <| wsc fun p0 f0 => lR i0 fun p0 o0 => ?_
 refine wn f0 <| wp_ret <| er2 o0 ?_
 refine ⟨?_, n0.fr⟩
 exact ret_t2 (ret_i (by (rw [(us_root hb (by omega)).1]; congr 2; omega))) (ret_i (by (rw [(us_root hb (by omega)).2]; congr 1; omega)))
theorem rcount_calls (w0 : World) (Z : Nat → Prop) (hZ : ∀ k, Z k → k < w0.heap.size) (tA : Option Addr) (tc : Nat) (t : List Nd) (k : Int) (u : Int) (ht : (dRow 4 tA t.length tc (encNs t)).φ w0 Z) (hl : t.length ≤ 1000000 := by first | assumption | omega | (simp <;> omega)) (hsm : sml t := by first | assumption | omega | (simp <;> omega)) (hb : measB t = true := by first | assumption | omega | (simp <;> omega)) (hu0 : 0 ≤ u := by first | assumption | omega | (simp <;> omega)) (hub : u + 2 * t.length ≤ 10000000 := by first | assumption | omega | (simp <;> omega)) :
    Calls Tryz.prog 38 [.slice tA t.length tc, .int .i64 k, .int .i64 u].toArray w0 (fun e w' => e = .returned (.tuple #[.int .i64 ((usL t k u : Nat) : Int), .int .i64 (moL t k u)]) ∧ Fr none_ w0 w') := rcount_calls_rec _ w0 Z hZ tA tc t k u ht hl hsm hb hu0 hub rfl
theorem rfree_calls (w0 : World) (Z : Nat → Prop) (hZ : ∀ k, Z k → k < w0.heap.size) (tA : Option Addr) (tc : Nat) (t : List Nd) (ht : (dRow 4 tA t.length tc (encNs t)).φ w0 Z) (hl : t.length ≤ 1000000 := by first | assumption | omega | (simp <;> omega)) (hsm : sml t := by first | assumption | omega | (simp <;> omega)) :
    Calls Tryz.prog 16 [.slice tA t.length tc].toArray w0 (fun e w' => e = .returned (.tuple #[.int .i64 (frF t), .int .i64 (chk t)]) ∧ Fr none_ w0 w') := by
 have b0 := s0 (M := none_) hZ (zc ht zn)
 refine c_enter Tryz.func16 rfl Tryz.ntmps16 rfl fun c0 d0 => ?_
 refine wsc fun c0 f0 => lR d0 fun c0 h0 => ?_
 refine wn f0 <| wsc fun f0 c0 => mv h0 fun f0 d0 => ?_
 have f0 := b0.nf
 refine kcl d0 ok25 (rcheck_calls _ _ f0.il _ _ _ (f0.g 0)) ?_
 rintro d0 b0 ⟨rfl, h0⟩
 have b0 := f0.below h0.below
 refine ⟨_, rfl, fun h0 f0 => ?_⟩
 refine aw f0 c0 fun h0 d0 => ?_
 refine wp_seq_k fun c0 h0 => wsc fun c0 f0 => lR d0 fun c0 i0 => ?_
 refine wn f0 ?_
 rcases Decidable.em (((chk t)) = 0) with f0 | f0
 ·
  have hmo := moL_bd (meas_chk f0) (-1)
  refine wcfb i0 rfl (by rw [(decide_eq_true f0)]; rfl) fun c0 => ?_
  refine wp_skip <| xn h0 <| wsc fun h0 d0 => mv c0 fun h0 j0 => ?_
  have h0 := b0.nf
  refine kcl j0 ok38 (rcount_calls _ _ h0.il _ _ _ (-1) 0 (h0.g 0) (hl := hl) (hsm := hsm) (hb := (meas_chk (by omega))) (hu0 := (by omega)) (hub := (by omega))) ?_
  rintro j0 c0 ⟨rfl, k0⟩
  have c0 := h0.below k0.below
  refine ⟨_, rfl, fun k0 h0 => ?_⟩
  refine lR h0 fun k0 j0 => ?_
  refine wn d0 <| wsc fun d0 k0 => mv j0 fun d0 h0 => ?_
  refine adi ((moL t (-1) 0) + 1) h0 fun d0 j0 => ?_
  refine lR j0 fun d0 h0 => ?_
  refine wn k0 <| wp_ret <| er2 h0 ?_
  refine ⟨?_, c0.fr⟩
  exact ret_t2 (ret_i (by first | (unfold frF; rw [if_neg (by omega)]; done) | (unfold frF; rw [if_pos (by omega)]))) (ret_i (by omega))
 refine wctb i0 rfl (by rw [(decide_eq_false f0)]; rfl) fun c0 => ?_
 refine wsc fun f0 i0 => lR c0 fun f0 h0 => ?_
 refine wn i0 <| wp_ret <| x_then_r <| er2 h0 ?_
 refine ⟨?_, b0.fr⟩
 exact ret_t2 (ret_i (by first | (unfold frF; rw [if_neg (by omega)]; done) | (unfold frF; rw [if_pos (by omega)]))) (ret_i (by omega))
theorem motiveClosed_calls (w0 : World) (Z : Nat → Prop) (hZ : ∀ k, Z k → k < w0.heap.size) (dK : Int) (dL : Int) (dS : ByteArray) (dTA : Option Addr) (dTc : Nat) (dT : List Nd) (dBA : Option Addr) (dBc : Nat) (dB : List Nd) (dCA : Option Addr) (dCc : Nat) (dC : List Tl) (k : Int) (stA : Option Addr) (stc : Nat) (st : List Bool) (pr : Bool) (moA : Option Addr) (moc : Nat) (mo : List Nd) (qaA : Option Addr) (qac : Nat) (qa : List Nd) (qrA : Option Addr) (qrc : Nat) (qr : List Nd) (hShp : Shapes w0 Z) (hdT : (dRow 4 dTA dT.length dTc (encNs dT)).φ w0 Z) (hdB : (dRow 4 dBA dB.length dBc (encNs dB)).φ w0 Z) (hdC : (dRow 1 dCA dC.length dCc (encTs dC)).φ w0 Z) (hdCs : (dAllT dC).φ w0 Z) (hst : (dRow 1 stA st.length stc (encBs st)).φ w0 Z) (hmo : (dRow 4 moA mo.length moc (encNs mo)).φ w0 Z) (hqa : (dRow 4 qaA qa.length qac (encNs qa)).φ w0 Z) (hqr : (dRow 4 qrA qr.length qrc (encNs qr)).φ w0 Z) (hzS : dS.size ≤ 9223372036854775807 := by first | assumption | omega | (simp <;> omega)) :
    Calls Tryz.prog 4 [.agg #[.int .i64 (dK), .int .i64 (dL), .string dS, .slice dTA dT.length dTc, .slice dBA dB.length dBc, .slice dCA dC.length dCc], .int .i64 k, .slice stA st.length stc, .bool pr, .slice moA mo.length moc, .slice qaA qa.length qac, .slice qrA qr.length qrc].toArray w0 (fun e w' => e = .returned (.bool (true)) ∧ Fr none_ w0 w') := by
 have b0 := s0 (M := none_) hZ (zc (d := dShapes) hShp (zc hdT (zc hdB (zc hdC (zc hdCs (zc hst (zc hmo (zc hqa (zc hqr zn)))))))))
 have c0 := frF_bd mo
 have c0 := frF_bd qa
 have c0 := frF_bd qr
 refine c_enter Tryz.func4 rfl Tryz.ntmps4 rfl fun c0 d0 => ?_
 refine wsc fun c0 f0 => bxx d0 b0 fun c0 h0 i0 j0 k0 => ?_
 refine aw j0 f0 fun h0 c0 => ?_
 refine wp_seq_k fun f0 h0 => wsc fun f0 j0 => lR c0 fun f0 d0 => ?_
 have f0 := k0.nf
 refine kcl d0 ok5 (much18_calls _ _ f0.il (dK) (dL) dS _ _ _ _ _ _ _ _ _ (f0.g 1) (f0.g 2) (f0.g 3) (f0.g 4) (hzS := hzS)) ?_
 rintro d0 k0 ⟨rfl, c0⟩
 have k0 := f0.below c0.below
 refine ⟨_, rfl, fun c0 f0 => ?_⟩
 refine mv f0 fun c0 d0 => ?_
 refine l_join (fun ga gw => Reg ga 139 [(1, .int .i64 (k)), (2, .slice stA st.length stc), (3, .bool pr), (4, .slice moA mo.length moc), (5, .slice qaA qa.length qac), (6, .slice qrA qr.length qrc), (7, .pointer (some ⟨i0, 0, none⟩)), (14, .bool false), (34, .bool ((muB dS dT dB (lstsT dC)) || (heavyB 80 mo))), (1000000, .bool false)] ∧ St w0 Z none_ gw [.box i0 25 [.int .i64 (dK), .int .i64 (dL), .string dS, .slice dTA dT.length dTc, .slice dBA dB.length dBc, .slice dCA dC.length dCc]] [dShapes, dRow 4 dTA dT.length dTc (encNs dT), dRow 4 dBA dB.length dBc (encNs dB), dRow 1 dCA dC.length dCc (encTs dC), dAllT dC, dRow 1 stA st.length stc (encBs st), dRow 4 moA mo.length moc (encNs mo), dRow 4 qaA qa.length qac (encNs qa), dRow 4 qrA qr.length qrc (encNs qr)]) 3 ?_ ?_
 ·
  rcases Bool.eq_false_or_eq_true (muB dS dT dB (lstsT dC)) with c0 | c0
  ·
   have f0 := d0.setb (d := 31) (b := true) rfl c0
   refine lR f0 fun b0 m0 => ?_
   refine wpList_nil ?_
   exact x_then_n ⟨(m0.sub (rc4 (rc4 (rc (rb rfl (by (simp only [c0, bl]; done))) (rc rfl rnl))))), k0⟩
  obtain ⟨_, _, _, _, m0, hC10, hA10, hxx⟩ := mu_no c0
  have hall := mu_tm (K := dK) c0
  have hA100 : ∀ s ∈ dC, s.2.2.length ≤ 100 := fun s hs => Nat.le_trans (hA10 s hs) (by decide)
  obtain ⟨_, _, _, _, m0, hC10, hA10, hxx⟩ := mu_no c0
  have hall := mu_tm (K := dK) c0
  have hA100 : ∀ s ∈ dC, s.2.2.length ≤ 100 := fun s hs => Nat.le_trans (hA10 s hs) (by decide)
  have b0 := d0.setb (d := 31) (b := false) rfl c0
  refine lR b0 fun d0 f0 => ?_
  have d0 := k0.nf
  refine kcl f0 ok15 (heavy18_calls _ _ d0.il _ _ _ (d0.g 6)) ?_
  rintro f0 k0 ⟨rfl, b0⟩
  have k0 := d0.below b0.below
  refine ⟨_, rfl, fun b0 d0 => ?_⟩
  refine lR d0 fun b0 f0 => ?_
  refine wpList_nil ?_
  exact x_then_n ⟨(f0.sub (rc4 (rc4 (rc (rb rfl (by (simp only [c0, bl]; done))) (rc rfl rnl))))), k0⟩
 rintro f0 k0 ⟨c0, b0⟩
 refine mv c0 fun k0 f0 => ?_
 refine l_join (fun ga gw => Reg ga 139 [(1, .int .i64 (k)), (2, .slice stA st.length stc), (3, .bool pr), (4, .slice moA mo.length moc), (5, .slice qaA qa.length qac), (6, .slice qrA qr.length qrc), (7, .pointer (some ⟨i0, 0, none⟩)), (14, .bool false), (38, .bool (((muB dS dT dB (lstsT dC)) || (heavyB 80 mo)) || (heavyB 80 qa))), (1000000, .bool false)] ∧ St w0 Z none_ gw [.box i0 25 [.int .i64 (dK), .int .i64 (dL), .string dS, .slice dTA dT.length dTc, .slice dBA dB.length dBc, .slice dCA dC.length dCc]] [dShapes, dRow 4 dTA dT.length dTc (encNs dT), dRow 4 dBA dB.length dBc (encNs dB), dRow 1 dCA dC.length dCc (encTs dC), dAllT dC, dRow 1 stA st.length stc (encBs st), dRow 4 moA mo.length moc (encNs mo), dRow 4 qaA qa.length qac (encNs qa), dRow 4 qrA qr.length qrc (encNs qr)]) 3 ?_ ?_
 ·
  rcases Bool.eq_false_or_eq_true (((muB dS dT dB (lstsT dC)) || (heavyB 80 mo))) with k0 | k0
  ·
   have c0 := k0
   try simp only [bz] at c0
   have c0 := f0.setb (d := 35) (b := true) rfl k0
   refine lR c0 fun d0 n0 => ?_
   refine wpList_nil ?_
   exact x_then_n ⟨(n0.sub (rc4 (rc4 (rc (rb rfl (by (simp only [k0, bl]; done))) (rc rfl rnl))))), b0⟩
  have n0 := or_fl k0
  obtain ⟨_, _, _, _, m0, hC10, hA10, hxx⟩ := mu_no n0
  have hall := mu_tm (K := dK) n0
  have hA100 : ∀ s ∈ dC, s.2.2.length ≤ 100 := fun s hs => Nat.le_trans (hA10 s hs) (by decide)
  have n0 := or_fr k0
  obtain ⟨hlmo, hsmo⟩ := heavy_false n0
  have n0 := f0.setb (d := 35) (b := false) rfl k0
  refine lR n0 fun f0 d0 => ?_
  have f0 := b0.nf
  refine kcl d0 ok15 (heavy18_calls _ _ f0.il _ _ _ (f0.g 7)) ?_
  rintro d0 b0 ⟨rfl, n0⟩
  have b0 := f0.below n0.below
  refine ⟨_, rfl, fun n0 f0 => ?_⟩
  refine lR f0 fun n0 d0 => ?_
  refine wpList_nil ?_
  exact x_then_n ⟨(d0.sub (rc4 (rc4 (rc (rb rfl (by (simp only [k0, bl]; done))) (rc rfl rnl))))), b0⟩
 rintro d0 b0 ⟨k0, n0⟩
 refine mv k0 fun b0 d0 => ?_
 refine l_join (fun ga gw => Reg ga 139 [(1, .int .i64 (k)), (2, .slice stA st.length stc), (3, .bool pr), (4, .slice moA mo.length moc), (5, .slice qaA qa.length qac), (6, .slice qrA qr.length qrc), (7, .pointer (some ⟨i0, 0, none⟩)), (14, .bool false), (42, .bool ((((muB dS dT dB (lstsT dC)) || (heavyB 80 mo)) || (heavyB 80 qa)) || (heavyB 80 qr))), (1000000, .bool false)] ∧ St w0 Z none_ gw [.box i0 25 [.int .i64 (dK), .int .i64 (dL), .string dS, .slice dTA dT.length dTc, .slice dBA dB.length dBc, .slice dCA dC.length dCc]] [dShapes, dRow 4 dTA dT.length dTc (encNs dT), dRow 4 dBA dB.length dBc (encNs dB), dRow 1 dCA dC.length dCc (encTs dC), dAllT dC, dRow 1 stA st.length stc (encBs st), dRow 4 moA mo.length moc (encNs mo), dRow 4 qaA qa.length qac (encNs qa), dRow 4 qrA qr.length qrc (encNs qr)]) 3 ?_ ?_
 ·
  rcases Bool.eq_false_or_eq_true ((((muB dS dT dB (lstsT dC)) || (heavyB 80 mo)) || (heavyB 80 qa))) with b0 | b0
  ·
   have k0 := b0
   try simp only [bz] at k0
   have k0 := d0.setb (d := 39) (b := true) rfl b0
   refine lR k0 fun f0 c0 => ?_
   refine wpList_nil ?_
   exact x_then_n ⟨(c0.sub (rc4 (rc4 (rc (rb rfl (by (simp only [b0, bl]; done))) (rc rfl rnl))))), n0⟩
  have c0 := or_fl b0
  have f0 := or_fl c0
  obtain ⟨_, _, _, _, m0, hC10, hA10, hxx⟩ := mu_no f0
  have hall := mu_tm (K := dK) f0
  have hA100 : ∀ s ∈ dC, s.2.2.length ≤ 100 := fun s hs => Nat.le_trans (hA10 s hs) (by decide)
  have f0 := or_fr c0
  obtain ⟨hlmo, hsmo⟩ := heavy_false f0
  have f0 := or_fr b0
  obtain ⟨hlqa, hsqa⟩ := heavy_false f0
  have f0 := d0.setb (d := 39) (b := false) rfl b0
  refine lR f0 fun d0 c0 => ?_
  have d0 := n0.nf
  refine kcl c0 ok15 (heavy18_calls _ _ d0.il _ _ _ (d0.g 8)) ?_
  rintro c0 n0 ⟨rfl, f0⟩
  have n0 := d0.below f0.below
  refine ⟨_, rfl, fun f0 d0 => ?_⟩
  refine lR d0 fun f0 c0 => ?_
  refine wpList_nil ?_
  exact x_then_n ⟨(c0.sub (rc4 (rc4 (rc (rb rfl (by (simp only [b0, bl]; done))) (rc rfl rnl))))), n0⟩
 rintro c0 n0 ⟨b0, f0⟩
 refine mv b0 fun n0 c0 => ?_
 refine l_or 3 (decide (10 < ((st.length : Nat) : Int))) c0 (fun n0 b0 d0 => ?_) fun k0 o0 => ?_
 ·
  have k0 := or_fl n0
  have c0 := or_fl k0
  have p0 := or_fl c0
  obtain ⟨_, _, _, _, m0, hC10, hA10, hxx⟩ := mu_no p0
  have hall := mu_tm (K := dK) p0
  have hA100 : ∀ s ∈ dC, s.2.2.length ≤ 100 := fun s hs => Nat.le_trans (hA10 s hs) (by decide)
  have p0 := or_fr c0
  obtain ⟨hlmo, hsmo⟩ := heavy_false p0
  have p0 := or_fr k0
  obtain ⟨hlqa, hsqa⟩ := heavy_false p0
  have p0 := or_fr n0
  obtain ⟨hlqr, hsqr⟩ := heavy_false p0
  refine r_move (st_listV_w (wt b0)) b0 rfl rfl rfl (by decide) fun p0 n0 => ?_
  refine r_len (st_listV_w (wt n0)) n0 rfl rfl rfl rfl Tryz.underlying26 (by decide) fun p0 b0 => ?_
  refine r_gtr (st_listV_w (wt b0)) b0 rfl rfl rfl rfl (by decide) fun p0 n0 => ?_
  refine r_pick_f sv n0 rfl rfl rfl rfl (by decide) fun p0 b0 => ?_
  exact d0.fin b0
 refine mv o0 fun b0 d0 => ?_
 refine l_join (fun ga gw => Reg ga 139 [(1, .int .i64 (k)), (2, .slice stA st.length stc), (3, .bool pr), (4, .slice moA mo.length moc), (5, .slice qaA qa.length qac), (6, .slice qrA qr.length qrc), (7, .pointer (some ⟨i0, 0, none⟩)), (14, .bool false), (51, .bool ((((((muB dS dT dB (lstsT dC)) || (heavyB 80 mo)) || (heavyB 80 qa)) || (heavyB 80 qr)) || (decide (10 < ((st.length : Nat) : Int)))) || (!true))), (1000000, .bool false)] ∧ St w0 Z none_ gw [.box i0 25 [.int .i64 (dK), .int .i64 (dL), .string dS, .slice dTA dT.length dTc, .slice dBA dB.length dBc, .slice dCA dC.length dCc]] [dShapes, dRow 4 dTA dT.length dTc (encNs dT), dRow 4 dBA dB.length dBc (encNs dB), dRow 1 dCA dC.length dCc (encTs dC), dAllT dC, dRow 1 stA st.length stc (encBs st), dRow 4 moA mo.length moc (encNs mo), dRow 4 qaA qa.length qac (encNs qa), dRow 4 qrA qr.length qrc (encNs qr)]) 3 ?_ ?_
 ·
  rcases Bool.eq_false_or_eq_true ((((((muB dS dT dB (lstsT dC)) || (heavyB 80 mo)) || (heavyB 80 qa)) || (heavyB 80 qr)) || (decide (10 < ((st.length : Nat) : Int))))) with b0 | b0
  ·
   have o0 := b0
   try simp only [bz] at o0
   have o0 := d0.setb (d := 48) (b := true) rfl b0
   refine lR o0 fun p0 n0 => ?_
   refine wpList_nil ?_
   exact x_then_n ⟨(n0.sub (rc4 (rc4 (rc (rb rfl (by (simp only [b0, bl]; done))) (rc rfl rnl))))), f0⟩
  have n0 := or_fl b0
  have p0 := or_fl n0
  have o0 := or_fl p0
  have k0 := or_fl o0
  obtain ⟨_, _, _, _, m0, hC10, hA10, hxx⟩ := mu_no k0
  have hall := mu_tm (K := dK) k0
  have hA100 : ∀ s ∈ dC, s.2.2.length ≤ 100 := fun s hs => Nat.le_trans (hA10 s hs) (by decide)
  have k0 := or_fr o0
  obtain ⟨hlmo, hsmo⟩ := heavy_false k0
  have k0 := or_fr p0
  obtain ⟨hlqa, hsqa⟩ := heavy_false k0
  have k0 := or_fr n0
  obtain ⟨hlqr, hsqr⟩ := heavy_false k0
  have k0 := or_fr b0
  have n0 := of_decide_eq_false k0
  have n0 := d0.setb (d := 48) (b := false) rfl b0
  have d0 := f0.nf
  refine kcl n0 ok6 (shown18_calls _ _ d0.il (d0.g 0)) ?_
  rintro n0 f0 ⟨rfl, k0⟩
  have f0 := d0.below k0.below
  refine ⟨_, rfl, fun k0 d0 => ?_⟩
  refine lR d0 fun k0 n0 => ?_
  refine wpList_nil ?_
  exact x_then_n ⟨(n0.sub (rc4 (rc4 (rc (rb rfl (by (simp only [b0, bl]; done))) (rc rfl rnl))))), f0⟩
 rintro n0 f0 ⟨b0, k0⟩
 refine wn j0 ?_
 rcases Bool.eq_false_or_eq_true (((((((muB dS dT dB (lstsT dC)) || (heavyB 80 mo)) || (heavyB 80 qa)) || (heavyB 80 qr)) || (decide (10 < ((st.length : Nat) : Int)))) || (!true))) with j0 | j0
 ·
  have f0 := j0
  try simp only [bz] at f0
  refine wct b0 j0 fun f0 => ?_
  refine wsc fun n0 d0 => ?_
  have n0 := k0.nf
  refine kcl f0 ok6 (shown18_calls _ _ n0.il (n0.g 0)) ?_
  rintro f0 p0 ⟨rfl, o0⟩
  have p0 := n0.below o0.below
  refine ⟨_, rfl, fun o0 n0 => ?_⟩
  refine aw n0 d0 fun o0 f0 => ?_
  refine wp_ret <| x_then_r <| er1 f0 ?_
  refine ⟨?_, p0.fr⟩
  exact cre (ret_b (by rfl))
 have p0 := or_fl j0
 have f0 := or_fl p0
 have d0 := or_fl f0
 have o0 := or_fl d0
 have n0 := or_fl o0
 obtain ⟨_, _, _, _, m0, hC10, hA10, hxx⟩ := mu_no n0
 have hall := mu_tm (K := dK) n0
 have hA100 : ∀ s ∈ dC, s.2.2.length ≤ 100 := fun s hs => Nat.le_trans (hA10 s hs) (by decide)
 have n0 := or_fr o0
 obtain ⟨hlmo, hsmo⟩ := heavy_false n0
 have n0 := or_fr d0
 obtain ⟨hlqa, hsqa⟩ := heavy_false n0
 have n0 := or_fr f0
 obtain ⟨hlqr, hsqr⟩ := heavy_false n0
 have n0 := or_fr p0
 have p0 := of_decide_eq_false n0
 have p0 := or_fr j0
 have n0 := not_f p0
 refine wcf b0 j0 fun n0 => ?_
 refine wp_skip <| xn h0 <| wsc fun h0 j0 => mv n0 fun h0 b0 => ?_
 have h0 := k0.nf
 refine kcl b0 ok16 (rfree_calls _ _ h0.il _ _ _ (h0.g 6) (hl := (by omega)) (hsm := (by assumption))) ?_
 rintro b0 k0 ⟨rfl, n0⟩
 have k0 := h0.below n0.below
 refine ⟨_, rfl, fun n0 h0 => ?_⟩
 refine lR h0 fun n0 b0 => ?_
 refine wn j0 <| wsc fun j0 n0 => lR b0 fun j0 h0 => ?_
 have j0 := k0.nf
 refine kcl h0 ok7 (case_calls _ _ j0.il (dK) (dL) dS _ _ _ _ _ _ _ _ _ (k) _ _ _ pr _ _ _ (j0.g 0) (j0.g 1) (j0.g 2) (j0.g 3) (j0.g 4) (j0.g 5) (j0.g 6) (hl := (by omega)) (hb := hA100) (hall := hall) (hsS := (by omega)) (hsm := hsmo) (hlm := (by omega))) ?_
 rintro h0 k0 ⟨b0, p0, rfl, f0, d0⟩
 have k0 := j0.below f0.below
 have f0 := j0.dN k0 d0
 refine ⟨_, rfl, fun k0 d0 => ?_⟩
 refine lR d0 fun k0 j0 => ?_
 refine wn n0 <| wp_seq_k fun n0 k0 => wsc fun n0 d0 => lR j0 fun n0 h0 => ?_
 refine wn d0 ?_
 rcases Decidable.em (((csE (dK) (dL) dS dT dB dC (k) st pr mo)) = 0) with d0 | d0
 ·
  obtain ⟨hcm, hcc, hcf⟩ := cs_ok d0 (fun x hx => (hxx x hx).1)
  obtain ⟨hcl1, hcl2⟩ := cs_Z d0 (by omega) hsmo (fun x hx => (hxx x hx).1)
  refine wct h0 (decide_eq_true d0) fun n0 => ?_
  refine wsc fun j0 o0 => mv n0 fun j0 m0 => ?_
  have j0 := f0.nf
  refine kcl m0 ok16 (rfree_calls _ _ j0.il _ _ (csL (dK) (dL) dS dT dB dC (k) st pr mo) (j0.g 9) (hl := (by omega)) (hsm := (by assumption))) ?_
  rintro m0 n0 ⟨rfl, c0⟩
  have n0 := j0.below c0.below
  refine ⟨_, rfl, fun c0 j0 => ?_⟩
  refine lR j0 fun c0 m0 => ?_
  refine wn o0 <| wsc fun o0 c0 => lR m0 fun o0 j0 => ?_
  refine lOr 2 (!(decide (((chk (csL (dK) (dL) dS dT dB dC (k) st pr mo))) = 0))) j0 fun o0 m0 => ?_
  refine mv m0 fun o0 j0 => ?_
  refine l_join (fun ga gw => Reg ga 139 [(5, .slice qaA qa.length qac), (6, .slice qrA qr.length qrc), (14, .bool false), (86, .bool (((!(decide (((chk mo)) = 0))) || (!(decide (((chk (csL (dK) (dL) dS dT dB dC (k) st pr mo))) = 0)))) || (decide (((max 0 ((frF mo) - 1))) < ((frF (csL (dK) (dL) dS dT dB dC (k) st pr mo))))))), (1000000, .bool false)] ∧ St w0 Z none_ gw [.box i0 25 [.int .i64 (dK), .int .i64 (dL), .string dS, .slice dTA dT.length dTc, .slice dBA dB.length dBc, .slice dCA dC.length dCc]] [dShapes, dRow 4 dTA dT.length dTc (encNs dT), dRow 4 dBA dB.length dBc (encNs dB), dRow 1 dCA dC.length dCc (encTs dC), dAllT dC, dRow 1 stA st.length stc (encBs st), dRow 4 moA mo.length moc (encNs mo), dRow 4 qaA qa.length qac (encNs qa), dRow 4 qrA qr.length qrc (encNs qr), dRow 4 b0 ((csL (dK) (dL) dS dT dB dC (k) st pr mo).length) p0 (encNs (csL (dK) (dL) dS dT dB dC (k) st pr mo))]) 6 ?_ ?_
  ·
   rcases Bool.eq_false_or_eq_true (((!(decide (((chk mo)) = 0))) || (!(decide (((chk (csL (dK) (dL) dS dT dB dC (k) st pr mo))) = 0))))) with o0 | o0
   ·
    have m0 := o0
    try simp only [bz] at m0
    have m0 := j0.setb (d := 80) (b := true) rfl o0
    refine lR m0 fun q0 t0 => ?_
    refine wpList_nil ?_
    exact x_then_n ⟨(t0.sub (rc2 (rc rfl (rc (rb rfl (by (simp only [o0, bl]; done))) (rc rfl rnl))))), n0⟩
   have t0 := or_fl o0
   have q0 := not_f t0
   have t0 := of_decide_eq_true q0
   have t0 := or_fr o0
   have q0 := not_f t0
   have t0 := of_decide_eq_true q0
   have t0 := j0.setb (d := 80) (b := false) rfl o0
   refine lR t0 fun j0 q0 => ?_
   refine sbi ((frF mo) - 1) q0 fun j0 t0 => ?_
   refine r_max (st_listV_w (wt t0)) t0 rfl rfl rfl rfl rfl (by decide) fun j0 q0 => ?_
   refine lR q0 fun j0 t0 => ?_
   refine wpList_nil ?_
   exact x_then_n ⟨(t0.sub (rc2 (rc rfl (rc (rb rfl (by (simp only [o0, bl]; done))) (rc rfl rnl))))), n0⟩
  rintro t0 o0 ⟨n0, j0⟩
  refine wn c0 ?_
  have c0 : ((((!(decide (((chk mo)) = 0))) || (!(decide (((chk (csL (dK) (dL) dS dT dB dC (k) st pr mo))) = 0)))) || (decide (((max 0 ((frF mo) - 1))) < ((frF (csL (dK) (dL) dS dT dB dC (k) st pr mo))))))) = false := (by rw [decide_eq_true hcm, decide_eq_true hcc, decide_eq_false (by omega)]; rfl)
  have o0 := or_fl c0
  have t0 := or_fl o0
  have q0 := not_f t0
  have t0 := of_decide_eq_true q0
  have t0 := or_fr o0
  have o0 := not_f t0
  have t0 := of_decide_eq_true o0
  have t0 := or_fr c0
  have o0 := of_decide_eq_false t0
  refine wcf n0 c0 fun o0 => ?_
  refine wp_skip <| xn k0 <| wsc fun c0 n0 => mv o0 fun c0 t0 => ?_
  have c0 := j0.nf
  refine kcl t0 ok16 (rfree_calls _ _ c0.il _ _ _ (c0.g 7) (hl := (by omega)) (hsm := (by assumption))) ?_
  rintro t0 j0 ⟨rfl, o0⟩
  have j0 := c0.below o0.below
  refine ⟨_, rfl, fun o0 c0 => ?_⟩
  refine lR c0 fun o0 t0 => ?_
  refine wn n0 <| wsc fun n0 o0 => mv t0 fun n0 c0 => ?_
  have n0 := j0.nf
  refine kcl c0 ok16 (rfree_calls _ _ n0.il _ _ _ (n0.g 8) (hl := (by omega)) (hsm := (by assumption))) ?_
  rintro c0 j0 ⟨rfl, t0⟩
  have j0 := n0.below t0.below
  refine ⟨_, rfl, fun t0 n0 => ?_⟩
  refine lR n0 fun t0 c0 => ?_
  refine wn o0 <| wsc fun o0 t0 => lR c0 fun o0 n0 => ?_
  have o0 := j0.nf
  refine kcl n0 ok17 (trans_calls _ _ o0.il _ _ _ _ _ _ (o0.g 0) (o0.g 7) (o0.g 8) (hsa := hsqa) (hsr := hsqr) (hla := (by omega)) (hlr := (by omega))) ?_
  rintro n0 j0 ⟨c0, q0, rfl, m0, u0⟩
  have j0 := o0.below m0.below
  have m0 := o0.dN j0 u0
  refine ⟨_, rfl, fun j0 u0 => ?_⟩
  refine lR u0 fun j0 o0 => ?_
  refine wn t0 <| wp_seq_k fun t0 j0 => wsc fun t0 u0 => lR o0 fun t0 n0 => ?_
  refine wn u0 ?_
  rcases Decidable.em (((trvE qa qr)) = 0) with u0 | u0
  ·
   obtain ⟨hta, htr, htc, htf⟩ := trv_ok u0
   obtain ⟨htl1, htl2⟩ := trv_Z u0 hsqa hsqr (by omega)
   refine wcfb n0 rfl (by rw [(decide_eq_true u0)]; rfl) fun t0 => ?_
   refine wp_skip <| xn j0 <| wsc fun j0 o0 => mv t0 fun j0 v0 => ?_
   have j0 := m0.nf
   refine kcl v0 ok16 (rfree_calls _ _ j0.il _ _ (trvL qa qr) (j0.g 10) (hl := (by omega)) (hsm := (by assumption))) ?_
   rintro v0 t0 ⟨rfl, x0⟩
   have t0 := j0.below x0.below
   refine ⟨_, rfl, fun x0 j0 => ?_⟩
   refine lR j0 fun x0 v0 => ?_
   refine wn o0 <| wsc fun o0 x0 => lR v0 fun o0 j0 => ?_
   refine lAn 2 (decide (((chk qr)) = 0)) j0 fun o0 v0 => ?_
   refine mv v0 fun o0 j0 => ?_
   refine lAn 2 (decide (((chk (trvL qa qr))) = 0)) j0 fun o0 v0 => ?_
   refine mv v0 fun o0 j0 => ?_
   refine l_join (fun ga gw => Reg ga 139 [(14, .bool false), (138, .bool ((((decide (((chk qa)) = 0)) && (decide (((chk qr)) = 0))) && (decide (((chk (trvL qa qr))) = 0))) && (decide (((frF (trvL qa qr))) ≤ ((max ((frF qa)) ((max 0 ((frF qr) - 2))))))))), (1000000, .bool false)] ∧ St w0 Z none_ gw [.box i0 25 [.int .i64 (dK), .int .i64 (dL), .string dS, .slice dTA dT.length dTc, .slice dBA dB.length dBc, .slice dCA dC.length dCc]] [dShapes, dRow 4 dTA dT.length dTc (encNs dT), dRow 4 dBA dB.length dBc (encNs dB), dRow 1 dCA dC.length dCc (encTs dC), dAllT dC, dRow 1 stA st.length stc (encBs st), dRow 4 moA mo.length moc (encNs mo), dRow 4 qaA qa.length qac (encNs qa), dRow 4 qrA qr.length qrc (encNs qr), dRow 4 b0 ((csL (dK) (dL) dS dT dB dC (k) st pr mo).length) p0 (encNs (csL (dK) (dL) dS dT dB dC (k) st pr mo)), dRow 4 c0 ((trvL qa qr).length) q0 (encNs (trvL qa qr))]) 8 ?_ ?_
   ·
    rcases Bool.eq_false_or_eq_true ((((decide (((chk qa)) = 0)) && (decide (((chk qr)) = 0))) && (decide (((chk (trvL qa qr))) = 0)))) with o0 | o0
    ·
     have v0 := and_tl o0
     have y0 := and_tl v0
     have z0 := of_decide_eq_true y0
     have z0 := and_tr v0
     have v0 := of_decide_eq_true z0
     have v0 := and_tr o0
     have z0 := of_decide_eq_true v0
     have z0 := j0.setb (d := 130) (b := true) rfl o0
     refine lR z0 fun v0 y0 => ?_
     refine sbi ((frF qr) - 2) y0 fun v0 z0 => ?_
     refine r_max (st_listV_w (wt z0)) z0 rfl rfl rfl rfl rfl (by decide) fun v0 y0 => ?_
     refine r_max (st_listV_w (wt y0)) y0 rfl rfl rfl rfl rfl (by decide) fun v0 z0 => ?_
     refine lR z0 fun v0 y0 => ?_
     refine wpList_nil ?_
     exact x_then_n ⟨(y0.sub (rc rfl (rc (rb rfl (by (simp only [o0, bl]; done))) (rc rfl rnl)))), t0⟩
    have y0 := o0
    try simp only [bz] at y0
    have y0 := j0.setb (d := 130) (b := false) rfl o0
    refine lR y0 fun j0 v0 => ?_
    refine wpList_nil ?_
    exact x_then_n ⟨(v0.sub (rc rfl (rc (rb rfl (by (simp only [o0, bl]; done))) (rc rfl rnl)))), t0⟩
   rintro v0 o0 ⟨t0, j0⟩
   refine aw t0 x0 fun o0 v0 => ?_
   refine wp_ret <| er1 v0 ?_
   refine ⟨?_, j0.fr⟩
   exact cre (ret_b (by first | (have j0 := htn; rcases Decidable.em (chk qa = 0) with v0 | v0 <;> rcases Decidable.em (chk qr = 0) with x0 | x0 <;> simp [j0, v0, x0]; done) | (simp_all; done)))
  have htn := trv_no u0
  refine wctb n0 rfl (by rw [(decide_eq_false u0)]; rfl) fun o0 => ?_
  refine wsc fun u0 n0 => lR o0 fun u0 t0 => ?_
  refine lOr 2 (!(decide (((chk qr)) = 0))) t0 fun u0 o0 => ?_
  refine mv o0 fun u0 t0 => ?_
  refine l_join (fun ga gw => Reg ga 139 [(14, .bool false), (21, .int .i64 ((frF qa))), (22, .int .i64 ((chk qa))), (23, .int .i64 ((frF qr))), (24, .int .i64 ((chk qr))), (25, .slice c0 ((trvL qa qr).length) q0), (114, .bool (((!(decide (((chk qa)) = 0))) || (!(decide (((chk qr)) = 0)))) || (grB ((trvE qa qr))))), (1000000, .bool false)] ∧ St w0 Z none_ gw [.box i0 25 [.int .i64 (dK), .int .i64 (dL), .string dS, .slice dTA dT.length dTc, .slice dBA dB.length dBc, .slice dCA dC.length dCc]] [dShapes, dRow 4 dTA dT.length dTc (encNs dT), dRow 4 dBA dB.length dBc (encNs dB), dRow 1 dCA dC.length dCc (encTs dC), dAllT dC, dRow 1 stA st.length stc (encBs st), dRow 4 moA mo.length moc (encNs mo), dRow 4 qaA qa.length qac (encNs qa), dRow 4 qrA qr.length qrc (encNs qr), dRow 4 b0 ((csL (dK) (dL) dS dT dB dC (k) st pr mo).length) p0 (encNs (csL (dK) (dL) dS dT dB dC (k) st pr mo)), dRow 4 c0 ((trvL qa qr).length) q0 (encNs (trvL qa qr))]) 3 ?_ ?_
  ·
   rcases Bool.eq_false_or_eq_true (((!(decide (((chk qa)) = 0))) || (!(decide (((chk qr)) = 0))))) with q0 | q0
   ·
    have c0 := q0
    try simp only [bz] at c0
    have c0 := t0.setb (d := 111) (b := true) rfl q0
    refine lR c0 fun u0 o0 => ?_
    refine wpList_nil ?_
    exact x_then_n ⟨(o0.sub (rc4 (rc2 (rc (rb rfl (by (simp only [q0, bl]; done))) (rc rfl rnl))))), m0⟩
   have o0 := or_fl q0
   have u0 := not_f o0
   have o0 := of_decide_eq_true u0
   have o0 := or_fr q0
   have u0 := not_f o0
   have o0 := of_decide_eq_true u0
   have o0 := t0.setb (d := 111) (b := false) rfl q0
   refine lR o0 fun t0 u0 => ?_
   have t0 := m0.nf
   refine kcl u0 ok18 (great18_calls _ _ t0.il ((trvE qa qr))) ?_
   rintro u0 m0 ⟨rfl, o0⟩
   have m0 := t0.below o0.below
   refine ⟨_, rfl, fun o0 t0 => ?_⟩
   refine lR t0 fun o0 u0 => ?_
   refine wpList_nil ?_
   exact x_then_n ⟨(u0.sub (rc4 (rc2 (rc (rb rfl (by (simp only [q0, bl]; done))) (rc rfl rnl))))), m0⟩
  rintro u0 m0 ⟨q0, o0⟩
  refine aw q0 n0 fun m0 u0 => ?_
  refine wp_ret <| x_then_r <| er1 u0 ?_
  refine ⟨?_, o0.fr⟩
  exact cre (ret_b (by first | (have j0 := htn; rcases Decidable.em (chk qa = 0) with v0 | v0 <;> rcases Decidable.em (chk qr = 0) with x0 | x0 <;> simp [j0, v0, x0]; done) | (simp_all; done)))
 refine wcf h0 (decide_eq_false d0) fun o0 => ?_
 refine wp_skip <| xn k0 <| wsc fun k0 d0 => mv o0 fun k0 h0 => ?_
 have k0 := f0.nf
 refine kcl h0 ok16 (rfree_calls _ _ k0.il _ _ _ (k0.g 7) (hl := (by omega)) (hsm := (by assumption))) ?_
 rintro h0 f0 ⟨rfl, o0⟩
 have f0 := k0.below o0.below
 refine ⟨_, rfl, fun o0 k0 => ?_⟩
 refine lR k0 fun o0 h0 => ?_
 refine wn d0 <| wsc fun d0 o0 => mv h0 fun d0 k0 => ?_
 have d0 := f0.nf
 refine kcl k0 ok16 (rfree_calls _ _ d0.il _ _ _ (d0.g 8) (hl := (by omega)) (hsm := (by assumption))) ?_
 rintro k0 f0 ⟨rfl, h0⟩
 have f0 := d0.below h0.below
 refine ⟨_, rfl, fun h0 d0 => ?_⟩
 refine lR d0 fun h0 k0 => ?_
 refine wn o0 <| wsc fun o0 h0 => lR k0 fun o0 d0 => ?_
 have o0 := f0.nf
 refine kcl d0 ok17 (trans_calls _ _ o0.il _ _ _ _ _ _ (o0.g 0) (o0.g 7) (o0.g 8) (hsa := hsqa) (hsr := hsqr) (hla := (by omega)) (hlr := (by omega))) ?_
 rintro d0 f0 ⟨k0, u0, rfl, n0, m0⟩
 have f0 := o0.below n0.below
 have n0 := o0.dN f0 m0
 refine ⟨_, rfl, fun f0 m0 => ?_⟩
 refine lR m0 fun f0 o0 => ?_
 refine wn h0 <| wp_seq_k fun h0 f0 => wsc fun h0 m0 => lR o0 fun h0 d0 => ?_
 refine wn m0 ?_
 rcases Decidable.em (((trvE qa qr)) = 0) with m0 | m0
 ·
  obtain ⟨hta, htr, htc, htf⟩ := trv_ok m0
  obtain ⟨htl1, htl2⟩ := trv_Z m0 hsqa hsqr (by omega)
  refine wcfb d0 rfl (by rw [(decide_eq_true m0)]; rfl) fun h0 => ?_
  refine wp_skip <| xn f0 <| wsc fun f0 o0 => mv h0 fun f0 q0 => ?_
  have f0 := n0.nf
  refine kcl q0 ok16 (rfree_calls _ _ f0.il _ _ (trvL qa qr) (f0.g 10) (hl := (by omega)) (hsm := (by assumption))) ?_
  rintro q0 h0 ⟨rfl, t0⟩
  have h0 := f0.below t0.below
  refine ⟨_, rfl, fun t0 f0 => ?_⟩
  refine lR f0 fun t0 q0 => ?_
  refine wn o0 <| wsc fun o0 t0 => lR q0 fun o0 f0 => ?_
  refine lAn 2 (decide (((chk qr)) = 0)) f0 fun o0 q0 => ?_
  refine mv q0 fun o0 f0 => ?_
  refine lAn 2 (decide (((chk (trvL qa qr))) = 0)) f0 fun o0 q0 => ?_
  refine mv q0 fun o0 f0 => ?_
  refine l_join (fun ga gw => Reg ga 139 [(14, .bool false), (138, .bool ((((decide (((chk qa)) = 0)) && (decide (((chk qr)) = 0))) && (decide (((chk (trvL qa qr))) = 0))) && (decide (((frF (trvL qa qr))) ≤ ((max ((frF qa)) ((max 0 ((frF qr) - 2))))))))), (1000000, .bool false)] ∧ St w0 Z none_ gw [.box i0 25 [.int .i64 (dK), .int .i64 (dL), .string dS, .slice dTA dT.length dTc, .slice dBA dB.length dBc, .slice dCA dC.length dCc]] [dShapes, dRow 4 dTA dT.length dTc (encNs dT), dRow 4 dBA dB.length dBc (encNs dB), dRow 1 dCA dC.length dCc (encTs dC), dAllT dC, dRow 1 stA st.length stc (encBs st), dRow 4 moA mo.length moc (encNs mo), dRow 4 qaA qa.length qac (encNs qa), dRow 4 qrA qr.length qrc (encNs qr), dRow 4 b0 ((csL (dK) (dL) dS dT dB dC (k) st pr mo).length) p0 (encNs (csL (dK) (dL) dS dT dB dC (k) st pr mo)), dRow 4 k0 ((trvL qa qr).length) u0 (encNs (trvL qa qr))]) 8 ?_ ?_
  ·
   rcases Bool.eq_false_or_eq_true ((((decide (((chk qa)) = 0)) && (decide (((chk qr)) = 0))) && (decide (((chk (trvL qa qr))) = 0)))) with o0 | o0
   ·
    have q0 := and_tl o0
    have c0 := and_tl q0
    have y0 := of_decide_eq_true c0
    have y0 := and_tr q0
    have q0 := of_decide_eq_true y0
    have q0 := and_tr o0
    have y0 := of_decide_eq_true q0
    have y0 := f0.setb (d := 130) (b := true) rfl o0
    refine lR y0 fun q0 c0 => ?_
    refine sbi ((frF qr) - 2) c0 fun q0 y0 => ?_
    refine r_max (st_listV_w (wt y0)) y0 rfl rfl rfl rfl rfl (by decide) fun q0 c0 => ?_
    refine r_max (st_listV_w (wt c0)) c0 rfl rfl rfl rfl rfl (by decide) fun q0 y0 => ?_
    refine lR y0 fun q0 c0 => ?_
    refine wpList_nil ?_
    exact x_then_n ⟨(c0.sub (rc rfl (rc (rb rfl (by (simp only [o0, bl]; done))) (rc rfl rnl)))), h0⟩
   have c0 := o0
   try simp only [bz] at c0
   have c0 := f0.setb (d := 130) (b := false) rfl o0
   refine lR c0 fun f0 q0 => ?_
   refine wpList_nil ?_
   exact x_then_n ⟨(q0.sub (rc rfl (rc (rb rfl (by (simp only [o0, bl]; done))) (rc rfl rnl)))), h0⟩
  rintro q0 o0 ⟨h0, f0⟩
  refine aw h0 t0 fun o0 q0 => ?_
  refine wp_ret <| er1 q0 ?_
  refine ⟨?_, f0.fr⟩
  exact cre (ret_b (by first | (have j0 := htn; rcases Decidable.em (chk qa = 0) with v0 | v0 <;> rcases Decidable.em (chk qr = 0) with x0 | x0 <;> simp [j0, v0, x0]; done) | (simp_all; done)))
 have htn := trv_no m0
 refine wctb d0 rfl (by rw [(decide_eq_false m0)]; rfl) fun f0 => ?_
 refine wsc fun m0 d0 => lR f0 fun m0 q0 => ?_
 refine lOr 2 (!(decide (((chk qr)) = 0))) q0 fun m0 f0 => ?_
 refine mv f0 fun m0 q0 => ?_
 refine l_join (fun ga gw => Reg ga 139 [(14, .bool false), (21, .int .i64 ((frF qa))), (22, .int .i64 ((chk qa))), (23, .int .i64 ((frF qr))), (24, .int .i64 ((chk qr))), (25, .slice k0 ((trvL qa qr).length) u0), (114, .bool (((!(decide (((chk qa)) = 0))) || (!(decide (((chk qr)) = 0)))) || (grB ((trvE qa qr))))), (1000000, .bool false)] ∧ St w0 Z none_ gw [.box i0 25 [.int .i64 (dK), .int .i64 (dL), .string dS, .slice dTA dT.length dTc, .slice dBA dB.length dBc, .slice dCA dC.length dCc]] [dShapes, dRow 4 dTA dT.length dTc (encNs dT), dRow 4 dBA dB.length dBc (encNs dB), dRow 1 dCA dC.length dCc (encTs dC), dAllT dC, dRow 1 stA st.length stc (encBs st), dRow 4 moA mo.length moc (encNs mo), dRow 4 qaA qa.length qac (encNs qa), dRow 4 qrA qr.length qrc (encNs qr), dRow 4 b0 ((csL (dK) (dL) dS dT dB dC (k) st pr mo).length) p0 (encNs (csL (dK) (dL) dS dT dB dC (k) st pr mo)), dRow 4 k0 ((trvL qa qr).length) u0 (encNs (trvL qa qr))]) 3 ?_ ?_
 ·
  rcases Bool.eq_false_or_eq_true (((!(decide (((chk qa)) = 0))) || (!(decide (((chk qr)) = 0))))) with u0 | u0
  ·
   have k0 := u0
   try simp only [bz] at k0
   have k0 := q0.setb (d := 111) (b := true) rfl u0
   refine lR k0 fun p0 b0 => ?_
   refine wpList_nil ?_
   exact x_then_n ⟨(b0.sub (rc4 (rc2 (rc (rb rfl (by (simp only [u0, bl]; done))) (rc rfl rnl))))), n0⟩
  have b0 := or_fl u0
  have p0 := not_f b0
  have b0 := of_decide_eq_true p0
  have b0 := or_fr u0
  have p0 := not_f b0
  have b0 := of_decide_eq_true p0
  have b0 := q0.setb (d := 111) (b := false) rfl u0
  refine lR b0 fun q0 p0 => ?_
  have q0 := n0.nf
  refine kcl p0 ok18 (great18_calls _ _ q0.il ((trvE qa qr))) ?_
  rintro p0 n0 ⟨rfl, b0⟩
  have n0 := q0.below b0.below
  refine ⟨_, rfl, fun b0 q0 => ?_⟩
  refine lR q0 fun b0 p0 => ?_
  refine wpList_nil ?_
  exact x_then_n ⟨(p0.sub (rc4 (rc2 (rc (rb rfl (by (simp only [u0, bl]; done))) (rc rfl rnl))))), n0⟩
 rintro p0 n0 ⟨u0, b0⟩
 refine aw u0 d0 fun n0 p0 => ?_
 refine wp_ret <| x_then_r <| er1 p0 ?_
 refine ⟨?_, b0.fr⟩
 exact cre (ret_b (by first | (have j0 := htn; rcases Decidable.em (chk qa = 0) with v0 | v0 <;> rcases Decidable.em (chk qr = 0) with x0 | x0 <;> simp [j0, v0, x0]; done) | (simp_all; done)))
end Go.Proofs.YtpfmnpaifchleaaGreatDoor
namespace Go.Proofs.YtpfmnpaifchleaaGreatDoor
set_option linter.unusedSimpArgs false
set_option linter.unusedVariables false
section
/- From a row's reading to cells, and back: slices of nodes, the table of shapes, arguments that nobody changed. -/
open Go Go.RowKit Go.WideShapes Go.ChangeShapes
theorem kids : Kids Tryz.prog (· < Tryz.prog.types.size) := kids_rows (by kernel_rfl) (by kernel_rfl)
theorem slicesFull : ∀ t e, t < Tryz.prog.types.size → Tryz.prog.underlying t = some (.slice e) → 0 < Tryz.prog.cellsOf e := slices_full_of Tryz.prog (by kernel_rfl)
theorem ownKnobNone : ownKnob Tryz.prog.godebug = none := by kernel_rfl
section
variable {H : Type} {enc : TypeId × Value → H} {P : Program} {w W W' : World}
theorem trodAll_carry {base : Nat} {sp : Nat → Bool} {held : Bool} : ∀ {ts : List TypeId} {vs : List Value} {ds : List (DataW H)} {ps : List MemPlace},
  DataW.TrodAll enc P W base sp held ts vs ds ps → (∀ p ∈ ps, W.sameAt W' p) → DataW.TrodAll enc P W' base sp held ts vs ds ps
 | [], [], [], _, h, _ => h
 | _ :: _, _ :: _, _ :: _, _, ⟨p, q, ⟨n, h1⟩, h2, e⟩, hs =>
  ⟨p, q, ⟨n, DataW.trod_carry n _ _ _ h1 (fun x hx => hs x (by rw [e]; exact List.mem_append_left _ hx))⟩,
   trodAll_carry h2 (fun x hx => hs x (by rw [e]; exact List.mem_append_right _ hx)), e⟩
 | [], [], _ :: _, _, h, _ => h.elim
 | [], _ :: _, _, _, h, _ => h.elim
 | _ :: _, [], _, _, h, _ => h.elim
 | _ :: _, _ :: _, [], _, h, _ => h.elim
theorem sameAt_below (hb : Below W.heap.size W W') {p : MemPlace} (hp : p.block < W.heap.size) : W.sameAt W' p := by
 cases p with
 | cell b off => exact hb.cell (p := ⟨b, off, none⟩) hp
 | map b => exact hb.block b hp
theorem post_true {f : Func} {s : ChangeSpec} {apart fresh handsOn again : Bool} {args : Array Value} {ds : List (DataW H)} {before : List MemPlace}
  (K : Kids P (· < P.types.size)) (hz : ∀ t e, t < P.types.size → P.underlying t = some (.slice e) → 0 < P.cellsOf e) (hts : ∀ t ∈ f.params.toList, t < P.types.size)
  (hvars : s.vars = []) (hW : DataW.Whole enc P f.params.toList s.vars apart W args.toList ds [] before)
  {tb : TypeId} (hrt : f.resultTypes = #[tb]) (htb : P.underlying tb = some .bool)
  (hfn : (s.fn H ds).results = [.lit (.bool true)] ∧ (s.fn H ds).args = ds ∧ (s.fn H ds).vars = []) (hb : Below W.heap.size W W') :
  s.post enc P f apart fresh handsOn again W args (.bool true) W' := by
 have hlt : ∀ p ∈ before, p.block < W.heap.size := fun p hp => hW.lt p hp
 have hold : ∀ p ∈ before, (fun b => decide (b < W.heap.size)) p.block = true := fun p hp => by simpa using hlt p hp
 have hW0 := hW
 obtain ⟨p, q, hA, hV, he, hzf, hn⟩ := hW0
 rw [hvars] at hV
 have hq : q = [] := hV
 subst hq
 rw [List.append_nil] at he
 subst he
 have hA' := trodAll_carry (W' := W') hA (fun x hx => sameAt_below hb (hlt x hx))
 have hres : ∀ (b : Nat) (sp : Nat → Bool) (hd : Bool), DataW.TrodAll enc P W' b sp hd f.resultTypes.toList ((Value.bool true).resultList f.resultTypes.size) (s.fn H ds).results [] := fun b sp hd => by
  rw [hfn.1, hrt]
  exact trodAll_mk1 (shut_bool htb true)
 refine ⟨ds, [], before, [], before, [], hW, ?_, ?_, ?_, World.keptBut_mono (fun p hp => ⟨hp, .inr (.inl hp)⟩) (hb.frame (· ∈ before)), fun _ => ⟨?_, ?_⟩⟩
 · rw [List.append_nil]; exact hres _ _ _
 ·
  rw [List.append_nil, hfn.2.1]
  exact DataW.TrodAll.respare K hz hts hA' hold
 ·
  rw [List.append_nil, hfn.2.2, hvars]
  exact rfl
 · exact ok_one hrt rfl (okWide_bool_mk htb true)
 ·
  refine ⟨[.lit (.bool true)] ++ ds, [], [] ++ before, ⟨[] ++ before, [], ?_, ?_, by simp, ?_, ?_⟩, ?_⟩
  ·
   rw [hrt]
   exact trodAll_append hA' (trodAll_mk1 (shut_bool htb true))
  ·
   rw [hvars]
   exact rfl
  ·
   intro b off hp
   have hin : MemPlace.cell b off ∈ before := by simpa using hp
   rw [hb.frozen (hlt _ hin)]
   exact hzf b off hin
  ·
   intro ha
   simpa using hn ha
  ·
   intro x hx _
   simpa using hx
end
section
variable {H : Type} {enc : TypeId × Value → H} {w : World}
theorem lt_of_cell {p : Addr} {v : Value} (h : w.cell? p = some v) : p.block < w.heap.size := by
 unfold World.cell? at h
 cases ho : w.heap[p.block]? with
 | none => simp [ho] at h
 | some o => exact (Array.getElem?_eq_some_iff.1 ho).1
set_option maxRecDepth 100000 in
theorem node_cells {base : Nat} {sp : Nat → Bool} {held : Bool} {n : Nat} {cs : List Value} {x : DataW H × List MemPlace} (h : DataW.trod enc Tryz.prog w base sp held n 30 cs = some x) : ∃ nd : Nd, cs = encN nd := by
 have hu : Tryz.prog.underlying 30 = some (.struct (Tryz.prog.fieldsOf 30)) := by kernel_rfl
 have hf : (Tryz.prog.fieldsOf 30).toList.map (fun f => (f.type, f.offset)) = [(3, 0), (3, 1), (3, 2), (9, 3)] := by kernel_rfl
 have hci : Tryz.prog.cellsOf 3 = 1 := by kernel_rfl
 have hcs : Tryz.prog.cellsOf 9 = 1 := by kernel_rfl
 have hcn : Tryz.prog.cellsOf 30 = 4 := by kernel_rfl
 obtain ⟨xs, m, _, _, hl, _, hg⟩ := DataW.trod_struct hu h
 rw [hcn] at hl
 have fld : ∀ (j : Nat) (t : TypeId) (off : Nat), ((Tryz.prog.fieldsOf 30).toList.map (fun f => (f.type, f.offset)))[j]? = some (t, off) → ∃ y, DataW.trod enc Tryz.prog w base sp held m t ((cs.drop off).take (Tryz.prog.cellsOf t)) = some y := by
  intro j t off hj
  rw [List.getElem?_map] at hj
  cases hfj : (Tryz.prog.fieldsOf 30).toList[j]? with
  | none => rw [hfj] at hj; cases hj
  | some f =>
   rw [hfj] at hj
   simp only [Option.map_some, Option.some.injEq, Prod.mk.injEq] at hj
   obtain ⟨rfl, rfl⟩ := hj
   have h1 := hg j f (by rw [← Array.getElem?_toList]; exact hfj)
   have hjl : j < (Tryz.prog.fieldsOf 30).size := by
    have := (List.getElem?_eq_some_iff.1 hfj).1
    simpa using this
   have hxl : j < xs.length := by omega
   exact ⟨xs[j], by rw [h1]; exact List.getElem?_eq_getElem hxl⟩
 rw [hf] at fld
 match cs, hl with
 | [c0, c1, c2, c3], _ =>
  obtain ⟨y0, h0⟩ := fld 0 _ _ rfl
  obtain ⟨y1, h1⟩ := fld 1 _ _ rfl
  obtain ⟨y2, h2⟩ := fld 2 _ _ rfl
  obtain ⟨y3, h3⟩ := fld 3 _ _ rfl
  rw [hci] at h0 h1 h2
  rw [hcs] at h3
  obtain ⟨a, ha, _⟩ := DataW.trod_int Tryz.underlying3 h0
  obtain ⟨b, hb, _⟩ := DataW.trod_int Tryz.underlying3 h1
  obtain ⟨c, hc, _⟩ := DataW.trod_int Tryz.underlying3 h2
  obtain ⟨s, hs, _⟩ := DataW.trod_string Tryz.underlying9 h3
  simp at ha hb hc hs
  exact ⟨⟨a, b, c, s⟩, by simp [encN, ha, hb, hc, hs]⟩
set_option maxRecDepth 100000 in
theorem open_nodes {r : Reach} {base b0 : Nat} {sp : Nat → Bool} {held : Bool} {v : Value} {d : DataW H} {ps : List MemPlace} (hval : Value.okWide Tryz.prog w r b0 22 v) (hd : DataW.Trod enc Tryz.prog w base sp held 22 v d ps) :
  ∃ (A : Option Addr) (c : Nat) (t : List Nd), v = .slice A t.length c ∧ (dRow 4 A t.length c (encNs t)).φ w (fun k => k < w.heap.size) := by
 obtain ⟨A, len, cap, rfl⟩ := okWide_slice Tryz.underlying22 hval
 obtain ⟨fuel, hf⟩ := hd
 have hcn : Tryz.prog.cellsOf 30 = 4 := by kernel_rfl
 rcases Deep.open_slice Tryz.underlying22 hf with ⟨hcs, _⟩ | ⟨a, len', cap', m, n, D, Pl, hcs, _, hl, _, hm, _, hi⟩
 ·
  simp [Value.cells] at hcs
  obtain ⟨rfl, rfl, rfl⟩ := hcs
  exact ⟨none, 0, [], rfl, Nat.le_refl _, rfl, fun h => absurd h (by simp)⟩
 ·
  simp [Value.cells] at hcs
  obtain ⟨rfl, rfl, rfl⟩ := hcs
  have hmm : len ≤ m := by rw [hm]; split <;> omega
  have hnd : ∀ i, ∃ nd : Nd, i < len → w.cells? base (a.add (i * 4)) 4 = some (encN nd) := by
   intro i
   by_cases hil : i < len
   ·
    obtain ⟨cs', hc, ht⟩ := hi i (by omega)
    obtain ⟨nd, rfl⟩ := node_cells ht
    rw [hcn] at hc
    exact ⟨nd, fun _ => hc⟩
   · exact ⟨ndz, fun h => absurd h hil⟩
  obtain ⟨f, hf'⟩ := Classical.axiomOfChoice hnd
  refine ⟨some a, cap, (List.range len).map f, by simp, ?_, ?_, fun hpos => ⟨a, rfl, ?_, ?_⟩⟩
  · simpa using hl
  · exact encNs_length _
  ·
   have hp0 : 0 < len := by simpa using hpos
   obtain ⟨_, _, hat⟩ := World.cells?_some (hf' 0 hp0)
   have h0 := hat 0 (by omega)
   rw [add_of_add] at h0
   have := lt_of_cell (w := w) (p := a.add (0 * 4 + 0)) (by rw [h0]; rfl)
   rwa [block_of_add] at this
  ·
   intro j u hu
   have hjl : j < len * 4 := by
    have h1 := (List.getElem?_eq_some_iff.1 hu).1
    rw [encNs_length] at h1
    simpa using h1
   have hi4 : j / 4 < len := by omega
   obtain ⟨_, hcl, hat⟩ := World.cells?_some (hf' (j / 4) hi4)
   have h1 := hat (j % 4) (by omega)
   rw [add_of_add, show j / 4 * 4 + j % 4 = j by omega] at h1
   rw [h1, ← hu]
   have h2 := enc_at encN_len ((List.range len).map f) (j / 4) (by simpa using hi4) ndz
   have h3 : (((List.range len).map f).getD (j / 4) ndz) = f (j / 4) := by simp [hi4]
   rw [h3] at h2
   have h4 : (encNs ((List.range len).map f))[j]? = (((((List.range len).map f).flatMap encN).drop (j / 4 * 4)).take 4)[j % 4]? := by
    rw [List.getElem?_take_of_lt (by omega), List.getElem?_drop, show j / 4 * 4 + j % 4 = j by omega]
    rfl
   rw [h4, h2]
end
end
end Go.Proofs.YtpfmnpaifchleaaGreatDoor
