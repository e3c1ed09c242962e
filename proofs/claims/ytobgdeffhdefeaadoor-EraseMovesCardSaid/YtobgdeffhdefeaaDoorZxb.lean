import Derived.Test.YtobgdeffhdefeaaDoorZxa
import Derived.Lib.AppendZerosOnto
import Derived.LoopN
import Derived.Sort.LoopGhostIn
import Derived.RangeFuncNested
import Derived.RangeFuncLeaves
import Derived.WalkSpells
/- Cuts of slices, and appends, by lists. -/
namespace Go.Proofs.YtobgdeffhdefeaaDoor
set_option linter.unusedSimpArgs false
set_option linter.unusedVariables false
open Go Go.RowKit
section
variable {P : Program} {X : Prop} {Next : Act → World → Prop} {o : Oper} {a : Act} {w w0 : World} {N : Nat} {l : List (Nat × Value)} {d : Nat} {Z M : Nat → Prop} {m : List Res} {ds : List Dat}

theorem m_sliceA {t e : TypeId} {x : Operand} {lo hi : Option Operand} {vlo vhi : Option Value} {A : Option Addr} {n cap size : Nat} {kd kd' : IntKind} (hs : SteV P X Next o a w) (hR : Reg a N l) (hd : o.dst = some d)
    (ho : o.op = .slice t x lo hi none) (hx : ev l x = some (.slice A n cap)) (hvlo : lo.map (ev l) = vlo.map some) (hvhi : hi.map (ev l) = vhi.map some) (k q : Nat)
    (hlo : vlo = some (.int kd (k : Int)) ∨ vlo = none ∧ k = 0) (hhi : vhi = some (.int kd' ((k + q : Nat) : Int)) ∨ vhi = none ∧ k + q = n)
    (ht : P.underlying t = some (.slice e)) (hsz : (P.info? e).map (·.size) = some size) (hm : k + q ≤ cap) (hdN : d < N)
    (kk : ∀ a', Reg a' N ((d, .slice (if cap = k then A else A.map (·.add (k * size))) q (cap - k)) :: l) → Next a' w) : X := by
  have hl : lo.map a.eval = vlo := by
    cases lo <;> cases vlo <;> simp_all
    exact hR.ev hvlo
  have hh : hi.map a.eval = vhi := by
    cases hi <;> cases vhi <;> simp_all
    exact hR.ev hvhi
  have hrun := run_sliceAt (P := P) (w := w) (A := A) (n := n) (cap := cap) (k := k) (m := k + q) (kd := kd) (kd' := kd') vlo vhi ht hsz (by omega) (by omega) hlo hhi
  rw [show k + q - k = q by omega] at hrun
  refine r_pure hs hR hd hdN ?_ kk
  unfold execOp; rw [ho]
  simp only [hR.ev hx, hl, hh, Option.map_none, Sem.run_bind, hrun, Result.andThen_ok, Sem.run_pure]

theorem add_zero_addr (ad : Addr) : ad.add 0 = ad := by simp [Addr.add]
/-- The front of a slice. -/
theorem m_sliceP {t e : TypeId} {x y : Operand} {A : Option Addr} {n cap size : Nat} {kd : IntKind} {p : Int} (hs : SteV P X Next o a w) (hR : Reg a N l) (hd : o.dst = some d)
    (ho : o.op = .slice t x none (some y) none) (hx : ev l x = some (.slice A n cap)) (hy : ev l y = some (.int kd p)) (q : Nat) (hp : p = (q : Int))
    (ht : P.underlying t = some (.slice e)) (hsz : (P.info? e).map (·.size) = some size) (hm : q ≤ cap) (hdN : d < N)
    (kk : ∀ a', Reg a' N ((d, .slice A q cap) :: l) → Next a' w) : X := by
  subst hp
  refine m_sliceA (vlo := none) (vhi := some (.int kd (q : Int))) (kd := .i64) (kd' := kd) hs hR hd ho hx rfl (by simp [hy]) 0 q (.inr ⟨rfl, rfl⟩) (.inl (by simp)) ht hsz (by omega) hdN (fun a' hR' => kk a' ?_)
  have : (if cap = 0 then A else A.map (·.add (0 * size))) = A := by
    split
    · rfl
    · cases A <;> simp [add_zero_addr]
  rw [this] at hR'
  simpa using hR'

/-- What lies where, of a cut. -/
def Cut (size : Nat) (A A' : Option Addr) (k q : Nat) : Prop := ∀ j, j < q → A'.map (·.add (j * size)) = A.map (·.add ((k + j) * size))
theorem Cut.elem {size k q j : Nat} {A A' : Option Addr} (h : Cut size A A' k q) {w : World} {vs : List Value} (hj : j < q) (he : ElemAt w A ((k + j) * size) vs) : ElemAt w A' (j * size) vs := by
  obtain ⟨ad, rfl, hc⟩ := he
  have h1 := h j hj
  cases A' with
  | none => cases h1
  | some ad' =>
    have h2 : ad'.add (j * size) = ad.add ((k + j) * size) := by simpa using h1
    exact ⟨ad', rfl, by rw [h2]; exact hc⟩
theorem m_sliceV {t e : TypeId} {x : Operand} {lo hi : Option Operand} {vlo vhi : Option Value} {A : Option Addr} {n cap size : Nat} {kd kd' : IntKind} (hs : SteV P X Next o a w) (hR : Reg a N l) (hd : o.dst = some d)
    (ho : o.op = .slice t x lo hi none) (hx : ev l x = some (.slice A n cap)) (hvlo : lo.map (ev l) = vlo.map some) (hvhi : hi.map (ev l) = vhi.map some) (k q : Nat)
    (hlo : vlo = some (.int kd (k : Int)) ∨ vlo = none ∧ k = 0) (hhi : vhi = some (.int kd' ((k + q : Nat) : Int)) ∨ vhi = none ∧ k + q = n)
    (ht : P.underlying t = some (.slice e)) (hsz : (P.info? e).map (·.size) = some size) (hm : k + q ≤ cap) (hdN : d < N)
    (kk : ∀ a' A' c', q ≤ c' → Cut size A A' k q → Reg a' N ((d, .slice A' q c') :: l) → Next a' w) : X :=
  m_sliceA hs hR hd ho hx hvlo hvhi k q hlo hhi ht hsz hm hdN (fun a' hR' => kk a' _ _ (by omega) (fun j hj => by
    rw [if_neg (by omega)]
    cases A with
    | none => rfl
    | some ad => simp [add_of_add, Nat.add_mul]) hR')
/-- A cut of data. -/
theorem m_sliceD {α : Type} {f : α → List Value} {t e : TypeId} {x : Operand} {lo hi : Option Operand} {vlo vhi : Option Value} {A : Option Addr} {cap size : Nat} {kd kd' : IntKind} {I : Nat → Prop} {L : List α} (hs : SteV P X Next o a w) (hR : Reg a N l) (hd : o.dst = some d)
    (ho : o.op = .slice t x lo hi none) (hx : ev l x = some (.slice A L.length cap)) (hvlo : lo.map (ev l) = vlo.map some) (hvhi : hi.map (ev l) = vhi.map some) (k q : Nat)
    (hlo : vlo = some (.int kd (k : Int)) ∨ vlo = none ∧ k = 0) (hhi : vhi = some (.int kd' ((k + q : Nat) : Int)) ∨ vhi = none ∧ k + q = L.length)
    (M' : List α) (hM : (L.drop k).take q = M') (hf : ∀ x, (f x).length = size)
    (hrow : L.length ≤ cap ∧ RowI w I size A L.length (L.flatMap f)) (ht : P.underlying t = some (.slice e)) (hsz : (P.info? e).map (·.size) = some size) (hm : k + q ≤ L.length) (hdN : d < N)
    (kk : ∀ a' A' c', M'.length ≤ c' ∧ RowI w I size A' M'.length (M'.flatMap f) → Reg a' N ((d, .slice A' M'.length c') :: l) → Next a' w) : X := by
  subst hM
  have hq : ((L.drop k).take q).length = q := by rw [List.length_take, List.length_drop]; omega
  refine m_slice hs hR hd ho hx hvlo hvhi k q hlo hhi hrow.2 ht hsz hm hrow.1 hdN (fun a' A' c' hc hr hR' => kk a' A' c' ?_ ?_)
  · rw [hq, ← enc_take hf, ← enc_drop hf]
    exact ⟨hc, hr⟩
  · rw [hq]; exact hR'

/-- An append onto a whole row of the call's own. -/
theorem m_appendF {α : Type} {f : α → List Value} {t e : TypeId} {x y : Operand} {A A2 : Option Addr} {cap c2 size bytes i : Nat} {z : Value} (L M' : List α) (hs : SteV P X Next o a w) (hR : Reg a N l) (hS : St w0 Z M w m ds) (hd : o.dst = some d)
    (ho : o.op = .call { callee := .builtin .append, args := #[x, y], argTypes := #[t, t] }) (hx : ev l x = some (.slice A L.length cap)) (hy : ev l y = some (.slice A2 M'.length c2)) (hi : m[i]? = some (.row A L.length cap e size (L.flatMap f)))
    (hf : ∀ x, (f x).length = size) (h1 : ∀ u ∈ M'.flatMap f, u.oneCell' = true)
    (ht : P.underlying t = some (.slice e)) (hinf : (P.info? e).map (fun i => (i.zero, i.size, i.bytes)) = some (some z, size, bytes)) (hzs : (z.cells.size == size) = true) (hsz : (size == 0) = false)
    (hr : 0 < M'.length → ∃ ad, A2 = some ad ∧ CellsAt w ad (M'.flatMap f)) (hby : decide (bytes ≤ 1000) = true) (hb : L.length + M'.length ≤ 100000000) (hdN : d < N)
    (k : ∀ a' w' A' cap', (L ++ M').length ≤ cap' → Reg a' N ((d, .slice A' (L ++ M').length cap') :: l) → St w0 Z M w' (m.set i (.row A' (L ++ M').length cap' e size ((L ++ M').flatMap f))) ds → Next a' w') : X := by
  refine m_append (news := M'.flatMap f) hs hR hS hd ho hx hy hi (Nat.le_refl _) ht hinf hzs hsz (enc_length hf M') hr h1 hby hb hdN (fun a' w' A' cap' hc hR' hS' => k a' w' A' cap' ?_ ?_ ?_)
  · rw [List.length_append]; exact hc
  · rw [List.length_append]; exact hR'
  · rw [List.length_append, List.flatMap_append]
    rw [enc_take hf, List.take_length] at hS'
    exact hS'
/-- An append onto the front of a row of the call's own. -/
theorem m_appendC {α : Type} {f : α → List Value} {t e : TypeId} {x y : Operand} {A A2 : Option Addr} {n cap c2 size bytes i : Nat} {z : Value} (L M' : List α) (hs : SteV P X Next o a w) (hR : Reg a N l) (hS : St w0 Z M w m ds) (hd : o.dst = some d)
    (ho : o.op = .call { callee := .builtin .append, args := #[x, y], argTypes := #[t, t] }) (hx : ev l x = some (.slice A n cap)) (hy : ev l y = some (.slice A2 M'.length c2)) (hi : m[i]? = some (.row A L.length cap e size (L.flatMap f)))
    (hn : n ≤ L.length) (hf : ∀ x, (f x).length = size) (h1 : ∀ u ∈ M'.flatMap f, u.oneCell' = true)
    (ht : P.underlying t = some (.slice e)) (hinf : (P.info? e).map (fun i => (i.zero, i.size, i.bytes)) = some (some z, size, bytes)) (hzs : (z.cells.size == size) = true) (hsz : (size == 0) = false)
    (hr : 0 < M'.length → ∃ ad, A2 = some ad ∧ CellsAt w ad (M'.flatMap f)) (hby : decide (bytes ≤ 1000) = true) (hb : n + M'.length ≤ 100000000) (hdN : d < N)
    (k : ∀ a' w' A' cap', (L.take n ++ M').length ≤ cap' → Reg a' N ((d, .slice A' (L.take n ++ M').length cap') :: l) → St w0 Z M w' (m.set i (.row A' (L.take n ++ M').length cap' e size ((L.take n ++ M').flatMap f))) ds → Next a' w') : X := by
  have hl : (L.take n ++ M').length = n + M'.length := by rw [List.length_append, List.length_take, Nat.min_eq_left hn]
  refine m_append (news := M'.flatMap f) hs hR hS hd ho hx hy hi hn ht hinf hzs hsz (enc_length hf M') hr h1 hby hb hdN (fun a' w' A' cap' hc hR' hS' => k a' w' A' cap' ?_ ?_ ?_)
  · rw [hl]; exact hc
  · rw [hl]; exact hR'
  · rw [hl, List.flatMap_append]
    rw [enc_take hf] at hS'
    exact hS'
theorem own_lnews {α : Type} {f : α → List Value} {w : World} {A : Option Addr} {n cap e size : Nat} {xs : List Value} (h : (Res.row A n cap e size xs).holds w) : 0 < n → ∃ ad, A = some ad ∧ CellsAt w ad xs := own_news h
end
theorem not_t {b : Bool} (h : (!b) = true) : b = false := by cases b <;> simp_all
theorem not_f {b : Bool} (h : (!b) = false) : b = true := by cases b <;> simp_all
theorem or_fl {a b : Bool} (h : (a || b) = false) : a = false := by cases a <;> simp_all
theorem or_fr {a b : Bool} (h : (a || b) = false) : b = false := by cases b <;> simp_all
theorem and_tl {a b : Bool} (h : (a && b) = true) : a = true := by cases a <;> simp_all
theorem and_tr {a b : Bool} (h : (a && b) = true) : b = true := by cases b <;> simp_all
end Go.Proofs.YtobgdeffhdefeaaDoor
/- Appends of zeros; nodes compared; boxes of the caller's. -/
namespace Go.Proofs.YtobgdeffhdefeaaDoor
set_option linter.unusedSimpArgs false
set_option linter.unusedVariables false
open Go Go.RowKit
theorem zeroCells_int (k : Nat) : (Builtin.zeroCells (Value.int .i64 0).cells k).toList = List.replicate k (.int .i64 0) := by
  apply List.ext_getElem
  · simp [Builtin.zeroCells, Value.cells]
  · intro i h1 h2
    simp [Builtin.zeroCells, Value.cells, Nat.mod_one]
theorem zeros_encI (q : Nat) : (List.replicate q (0 : Int)).flatMap encI = List.replicate q (Value.int .i64 0) := by
  induction q with
  | zero => rfl
  | succ q ih => rw [List.replicate_succ, List.flatMap_cons, ih]; rfl
section
variable {P : Program} {X : Prop} {Next : Act → World → Prop} {o : Oper} {a : Act} {w w0 : World} {N : Nat} {l : List (Nat × Value)} {d : Nat} {Z M : Nat → Prop} {m : List Res} {ds : List Dat}
theorem run_append_zeros {t tn ty e : TypeId} {inf : TypeInfo} {kn kq : IntKind} {xs : List Value} {g n cap q : Nat} (ht : P.underlying t = some (.slice e)) (htn : P.underlying tn = some (.int kn)) (hi : P.info? e = some inf) (hz : inf.zero = some (.int .i64 0)) (hsize : inf.size = 1) (hby : inf.bytes = 8)
    (hown : w.ownsRow 0 e 1 (.slice (some ⟨g, 0, none⟩) n cap) n xs) (hq : 0 < q) (hb : n + q ≤ 100000000) :
    ∃ v' w', (Builtin.append_ #[t, tn] ty #[.slice (some ⟨g, 0, none⟩) n cap, .int kq (q : Int)]).run P w = .ok v' w' ∧ w'.ownsRow 0 e 1 v' (n + q) (xs ++ List.replicate q (.int .i64 0)) ∧ w.grownBy w' (some g) ∧
      (v'.ownBlock = some g ∨ v'.ownBlock = some w.heap.size) := by
  have hlen : (xs ++ List.replicate q (Value.int .i64 0)).length = (n + q) * 1 := by rw [List.length_append, hown.1, List.length_replicate]; omega
  rcases hown.2 with ⟨h, _⟩ | ⟨g', cap', cur, hv, hbg, hg, hnc, hcm, hcs, htake⟩
  · cases h
  · injection hv with hv1 hv2 hv3
    injection hv1 with hv1
    injection hv1 with hv1
    subst hv1
    subst hv3
    have hw : IntKind.i64.wrap (q : Int) = q := by rw [IntKind.wrap_i64]; omega
    by_cases hroom : n + q ≤ cap
    · have hst := run_storeCells_at P g (n * 1) e (List.replicate q (Value.int .i64 0)) 0 cur w hg (by rw [List.length_replicate, hcs]; omega) (fun u hu => by rw [List.mem_replicate] at hu; rw [hu.2]; rfl)
      simp only [Nat.add_zero, List.length_replicate, Nat.mul_one] at hst
      have hr : (Builtin.append_ #[t, tn] ty #[.slice (some ⟨g, 0, none⟩) n cap, .int kq (q : Int)]).run P w =
          .ok (.slice (some ⟨g, 0, none⟩) (n + q) cap) (w.setRow g (cur.toList.take n ++ List.replicate q (Value.int .i64 0) ++ cur.toList.drop (n + q)).toArray) := by
        have hneg : ¬ ((q : Int) < 0) := by omega
        have h48i : ¬ (281474976710656 < (q : Int) * (inf.bytes : Int)) := by rw [hby]; omega
        have hq0 : q ≠ 0 := by omega
        simp [Builtin.append_, run_underlying ht, run_underlying htn, sizeOf, typeInfo, zeroValue, hi, hz, hsize, asInt, asIntOf, hw, hq0, hneg, h48i, hroom, zeroCells_int, Addr.add_lit, hst]
      refine ⟨_, _, hr, ⟨hlen, .inr ⟨g, cap, _, rfl, hbg, setRow_heap w g cur _ e _ hg, hroom, hcm, ?_, ?_⟩⟩, ⟨rfl, rfl, rfl, by simp, fun k _ hk => setRow_other w g k _ (fun e => hk (by rw [e]))⟩, .inl rfl⟩
      · simp only [List.size_toArray, List.length_append, List.length_take, List.length_drop, Array.length_toList, List.length_replicate]
        omega
      · have : cur.toList.take n = xs := by rw [← htake, Nat.mul_one]
        rw [this, ← hlen]
        exact List.take_left
    · have holds : ∀ j u, xs[j]? = some u → w.drew.cell? ((⟨g, 0, none⟩ : Addr).add j) = some u := fun j u hu => hown.cells (g := g) rfl j u hu
      have hold := run_firstCells_some (P := P) w.drew inf.size n ⟨g, 0, none⟩ n cap xs (by rw [hsize]; exact hown.1) holds
      clear hw
      have hr := Lib.run_append_grow_zeros (P := P) w t tn ty e inf _ kq kn ht htn hi hz (some ⟨g, 0, none⟩) n cap xs hold q hq (by omega) (by omega) (by omega) (by rw [hby]; omega) (by rw [hby]; exact growslice_fits (by omega) (by omega))
      have hge := grownCap_ge w (n + q) cap e
      have hcm' : grownCap w (n + q) cap e ≤ maxLen := grownCap_le_maxLen w (n + q) cap e (by unfold maxLen; omega)
      refine ⟨_, _, hr, ⟨hlen, .inr ⟨w.heap.size, _, _, rfl, Nat.zero_le _, heap_alloc_new w.drew _, hge, hcm', ?_, ?_⟩⟩, ⟨rfl, rfl, rfl, by simp, fun k hk _ => alloc_at_old w.drew _ k hk⟩, .inr rfl⟩
      · simp only [Array.size_append, List.size_toArray, size_zeroCells, hown.1]
        simp [Value.cells]
        omega
      · simp only [Array.toList_append, zeroCells_int]
        rw [← hlen]
        exact List.take_left
/-- An append of zeros. -/
theorem m_appendZ {t tn e : TypeId} {kn kq : IntKind} {x y : Operand} {A : Option Addr} {cap i : Nat} {p : Int} (L : List Int) (q : Nat) (hs : SteV P X Next o a w) (hR : Reg a N l) (hS : St w0 Z M w m ds) (hd : o.dst = some d)
    (ho : o.op = .call { callee := .builtin .append, args := #[x, y], argTypes := #[t, tn] }) (hx : ev l x = some (.slice A L.length cap)) (hy : ev l y = some (.int kq p)) (hi : m[i]? = some (.row A L.length cap e 1 (L.flatMap encI)))
    (hp : p = (q : Int)) (hq : 0 < q) (hL : 0 < L.length) (hb : L.length + q ≤ 100000000)
    (ht : P.underlying t = some (.slice e)) (htn : P.underlying tn = some (.int kn)) (hinf : (P.info? e).map (fun i => (i.zero, i.size, i.bytes)) = some (some (.int .i64 0), 1, 8)) (hdN : d < N)
    (k : ∀ a' w' A' cap', (L ++ List.replicate q 0).length ≤ cap' → Reg a' N ((d, .slice A' (L ++ List.replicate q 0).length cap') :: l) → St w0 Z M w' (m.set i (.row A' (L ++ List.replicate q 0).length cap' e 1 ((L ++ List.replicate q 0).flatMap encI))) ds → Next a' w') : X := by
  subst hp
  cases hqq : P.info? e with
  | none => simp [hqq] at hinf
  | some inf =>
    simp only [hqq, Option.map_some, Option.some.injEq, Prod.mk.injEq] at hinf
    obtain ⟨hz, hs2, hb2⟩ := hinf
    have hown : w.ownsRow 0 e 1 (.slice A L.length cap) L.length (L.flatMap encI) := hS.res hi
    obtain ⟨g, rfl⟩ := own_some hown hL
    obtain ⟨v', w', hrun, h2, h3, h4⟩ := run_append_zeros (P := P) (ty := o.type) (kq := kq) ht htn hqq hz hs2 hb2 hown hq hb
    obtain ⟨A', cap', rfl, hcap, h2'⟩ := own_form h2
    have hl : (L ++ List.replicate q 0).length = L.length + q := by simp
    have hxs : (L ++ List.replicate q 0).flatMap encI = L.flatMap encI ++ List.replicate q (Value.int .i64 0) := by
      rw [List.flatMap_append]
      congr 1
      exact zeros_encI q
    refine hs.val (.slice A' (L.length + q) cap') w' ?_ ?_
    · unfold execOp; rw [ho]
      simp only [resolve, invoke, builtin, Sem.run_bind, Sem.run_pure, Result.andThen_ok, List.map_toArray, List.map_cons, List.map_nil, hR.ev hx, hR.ev hy, hrun]
    · rw [hd]
      refine k _ _ A' cap' (by rw [hl]; exact hcap) (by rw [hl]; exact hR.put hdN _) ?_
      rw [hl, hxs]
      refine hS.turn hi h3.os h3.tape h3.output h3.size (fun k' hk' hne => h3.block k' hk' (fun e' => hne (by rw [e']; rfl))) h2' (fun k' hk' => ?_)
      have hown' : (Value.slice A' (L.length + q) cap').ownBlock = some k' := by
        cases A' with
        | none => cases hk'
        | some ad => exact hk'
      refine ⟨(h2.lt k' hown').2, ?_⟩
      rcases h4 with h4 | h4
      · left
        rw [h4] at hown'
        exact hown'
      · right
        rw [hown'] at h4
        have := Option.some.inj h4
        omega
/-- So many zeros. -/
theorem m_makeInts {t e : TypeId} {n : Nat} {x y : Operand} {p q : Int} {kx ky : IntKind} (hs : SteV P X Next o a w) (hR : Reg a N l) (hS : St w0 Z M w m ds) (hd : o.dst = some d) (ho : o.op = .makeSlice t x y) (hx : ev l x = some (.int kx p)) (hy : ev l y = some (.int ky q))
    (hp : p = (n : Int)) (hq' : q = (n : Int)) (ht : P.underlying t = some (.slice e)) (hi : (P.info? e).map (fun i => (i.zero, i.size, i.bytes)) = some (some (.int .i64 0), 1, 8)) (hn : n ≤ 1000000) (hdN : d < N)
    (k : ∀ a' w' g, Reg a' N ((d, .slice (some ⟨g, 0, none⟩) (List.replicate n (0 : Int)).length (List.replicate n (0 : Int)).length) :: l) → St w0 Z M w' (m ++ [.row (some ⟨g, 0, none⟩) (List.replicate n (0 : Int)).length (List.replicate n (0 : Int)).length e 1 (encIs (List.replicate n 0))]) ds → Next a' w') : X :=
  m_makeSlice hs hR hS hd ho hx hy hp hq' ht hi rfl rfl rfl hn hdN (fun a' w' g hR' hS' => k a' w' g (by rw [List.length_replicate]; exact hR') (by rw [List.length_replicate, encIs, zeros_encI]; exact hS'))
/-- Two nodes, told apart. -/
theorem node_eq {m n : Nd} : m = n ↔ m.K = n.K ∧ m.N = n.N ∧ m.M = n.M ∧ m.S = n.S := by
  cases m; cases n; simp
/-- A result that lies in a cell. -/
theorem e_cell {fn : Func} {R : Ending → World → Prop} {t i g : Nat} {e ty : TypeId} {vs : List Value} {dsc : TypeDesc} {how : Exit} (hhow : how = .ret ∨ how = .normal) (hR : Reg a N l) (hS : St w0 Z M w m ds) (h0 : l.lookup 1000000 = some (.bool false)) (hr : fn.results = #[.cell t ty]) (hv : ev l (.tmp t) = some (.pointer (some ⟨g, 0, none⟩)))
    (hi : m[i]? = some (.box g e vs)) (ht : P.underlying ty = some dsc) (hag : isAggD dsc = true) (hsz : (P.info? ty).map (·.size) = some vs.length) (h : R (.returned (.agg vs.toArray)) w) : bodyPost P fn R how a w := by
  have hc : CellsAt w ⟨g, 0, none⟩ vs := box_cells (hS.res hi)
  have hl := run_loadN (P := P) ht hag hsz hc
  have hgt : a.tmps.getD t undef = .pointer (some ⟨g, 0, none⟩) := hR.ev hv
  have : bodyPost P fn R .ret a w := ⟨hR.dfr h0, .agg vs.toArray, by
    simp only [results, hr]
    have hgt' : a.tmps[t]?.getD undef = .pointer (some ⟨g, 0, none⟩) := by rw [← Array.getD_eq_getD_getElem?]; exact hgt
    simp [Sem.run_bind, hgt', asAddr, hl], h⟩
  rcases hhow with rfl | rfl
  · exact this
  · exact this
end
end Go.Proofs.YtobgdeffhdefeaaDoor
/- Nodes compared, by the program's type of nodes. -/
namespace Go.Proofs.YtobgdeffhdefeaaDoor
set_option linter.unusedSimpArgs false
set_option linter.unusedVariables false
open Go Go.RowKit
section
variable {X : Prop} {Next : Act → World → Prop} {o : Oper} {a : Act} {w w0 : World} {N : Nat} {l : List (Nat × Value)} {d : Nat}
theorem nodes_equal (w : World) (m n : Nd) : (Op.equalIn 10000 32 (.agg (encN m).toArray) (.agg (encN n).toArray)).run Tryd.prog w = .ok (decide (m = n)) w := by
  have h1 : Tryd.prog.underlying 32 = some (.struct (Tryd.prog.fieldsOf 32)) := by kernel_rfl
  have h2 : Tryd.prog.stoodInHeld 32 = false := by kernel_rfl
  have h3 : (Tryd.prog.fieldsOf 32).toList.map (fun f => (f.name == "_", f.type, f.offset)) = [(false, 3, 0), (false, 3, 1), (false, 3, 2), (false, 9, 3)] := by kernel_rfl
  rw [run_equalIn_agg w 9999 _ _ _ h1 h2]
  generalize (Tryd.prog.fieldsOf 32).toList = fs at h3
  rcases fs with _ | ⟨f1, _ | ⟨f2, _ | ⟨f3, _ | ⟨f4, _ | ⟨f5, fs⟩⟩⟩⟩⟩
  · simp at h3
  · simp at h3
  · simp at h3
  · simp at h3
  · simp only [List.map_cons, List.map_nil, List.cons.injEq, Prod.mk.injEq, and_true, beq_eq_false_iff_ne] at h3
    obtain ⟨⟨a1, a2, a3⟩, ⟨b1, b2, b3⟩, ⟨c1, c2, c3⟩, d1, d2, d3⟩ := h3
    have hi : ∀ w, (isAgg 3).run Tryd.prog w = .ok false w := fun w => run_isAgg Tryd.underlying3 w
    have hs : ∀ w, (isAgg 9).run Tryd.prog w = .ok false w := fun w => run_isAgg Tryd.underlying9 w
    have e1 : ∀ w x y, (Op.equalIn 9999 3 (.int .i64 x) (.int .i64 y)).run Tryd.prog w = .ok (x == y) w := fun w x y => run_equalIn_int w 9998 _ _ _ _ _ Tryd.underlying3
    have e2 : ∀ w x y, (Op.equalIn 9999 9 (.string x) (.string y)).run Tryd.prog w = .ok (x.toList == y.toList) w := fun w x y => run_equalIn_string w 9998 _ _ _ Tryd.underlying9
    simp only [Op.eqFields, a1, b1, c1, d1, ne_eq, not_false_eq_true, if_true, a2, a3, b2, b3, c2, c3, d2, d3, part, Sem.run_bind, hi, hs, Result.andThen_ok, Bool.false_eq_true, if_false, encN]
    simp only [List.getElem?_toArray, List.getElem?_cons_zero, List.getElem?_cons_succ, Sem.run_pure, Result.andThen_ok, e1, e2, toList_eq, Sem.run_ite]
    by_cases q1 : m.K = n.K <;> by_cases q2 : m.N = n.N <;> by_cases q3 : m.M = n.M <;> by_cases q4 : m.S = n.S <;> simp [q1, q2, q3, q4, node_eq, e1, e2, toList_eq]
  · simp at h3
theorem guard_nodes (op : BinOp) (x y : Operand) (m n : Nd) : (eqGuard op 32 x y (.agg (encN m).toArray) (.agg (encN n).toArray)).run Tryd.prog w = .ok () w :=
  run_eqGuard_agg w op _ x y _ _ (by kernel_rfl)
theorem r_eqlN {x y : Operand} {u : TypeId} {m n : Nd} (hs : SteV Tryd.prog X Next o a w) (hR : Reg a N l) (hd : o.dst = some d) (ho : o.op = .binOp .eql 32 x y u) (hx : ev l x = some (.agg (encN m).toArray)) (hy : ev l y = some (.agg (encN n).toArray)) (hdN : d < N)
    (k : ∀ a', Reg a' N ((d, .bool (decide (m = n))) :: l) → Next a' w) : X := by
  refine r_pure hs hR hd hdN ?_ k
  unfold execOp
  rw [ho]
  simp only [hR.ev hx, hR.ev hy, Sem.run_bind, guard_nodes, Result.andThen_ok, run_eql_struct, nodes_equal, Sem.run_pure]
theorem r_neqN {x y : Operand} {u : TypeId} {m n : Nd} (hs : SteV Tryd.prog X Next o a w) (hR : Reg a N l) (hd : o.dst = some d) (ho : o.op = .binOp .neq 32 x y u) (hx : ev l x = some (.agg (encN m).toArray)) (hy : ev l y = some (.agg (encN n).toArray)) (hdN : d < N)
    (k : ∀ a', Reg a' N ((d, .bool (!decide (m = n))) :: l) → Next a' w) : X := by
  refine r_pure hs hR hd hdN ?_ k
  unfold execOp
  rw [ho]
  simp only [hR.ev hx, hR.ev hy, Sem.run_bind, guard_nodes, Result.andThen_ok, run_neq_struct, nodes_equal, Sem.run_pure]
end
end Go.Proofs.YtobgdeffhdefeaaDoor
/- Boxes of the caller's that a call changes. -/
namespace Go.Proofs.YtobgdeffhdefeaaDoor
set_option linter.unusedSimpArgs false
set_option linter.unusedVariables false
open Go Go.RowKit
section
variable {w0 w w' : World} {Z M : Nat → Prop} {m : List Res} {ds : List Dat}
theorem St.startM (w0 : World) (Z : Nat → Prop) (ds : List Dat) (g : Nat) (t : TypeId) (cs : List Value) (hb : (Res.box g t cs).holds w0) (h : ∀ d ∈ ds, d.φ w0 (imm Z w0 [.box g t cs] w0)) : St w0 Z (· = g) w0 [.box g t cs] ds :=
  ⟨rfl, rfl, rfl, Nat.le_refl _, fun _ _ _ => rfl, (fun r h => by rw [List.mem_singleton] at h; subst h; exact hb), (fun r h k e => by
    rw [List.mem_singleton] at h; subst h
    have : g = k := by simpa [Res.blk] using e
    subst this
    exact ⟨(Array.getElem?_eq_some_iff.1 hb).1, .inr rfl⟩), .cons (fun _ h => by cases h) .nil, h⟩
theorem imm_startM {g : Nat} {t : TypeId} {cs : List Value} (hZ : ∀ k, Z k → k < w0.heap.size) (hg : ¬ Z g) {k : Nat} (hk : Z k) : imm Z w0 [.box g t cs] w0 k ∧ w0.heap[k]? = w0.heap[k]? :=
  ⟨⟨hZ k hk, fun _ => hk, fun r hr e => by
    rw [List.mem_singleton] at hr; subst hr
    have : g = k := by simpa [Res.blk] using e
    subst this
    exact hg hk⟩, rfl⟩
/-- A call that changes a box. -/
theorem St.callM (h : St w0 Z M w m ds) {i g : Nat} {t : TypeId} {cs cs' : List Value} (hi : m[i]? = some (.box g t cs)) (hf : Fr (· = g) w w') (hb : (Res.box g t cs').holds w') : St w0 Z M w' (m.set i (.box g t cs')) ds :=
  h.turn hi hf.os hf.tape hf.output hf.size (fun k hk hne => hf.old k hk (fun e => hne (by rw [e]; rfl))) hb (fun k hk => by
    have : g = k := by simpa [Res.blk] using hk
    subst this
    exact ⟨(Array.getElem?_eq_some_iff.1 hb).1, .inl rfl⟩)
theorem imm_set {i g k : Nat} {t : TypeId} {cs cs' : List Value} (hi : m[i]? = some (.box g t cs)) (h : imm Z w0 m w k) : imm Z w0 (m.set i (.box g t cs')) w k :=
  ⟨h.1, h.2.1, fun r hr e => by
    rcases List.mem_or_eq_of_mem_set hr with hr | rfl
    · exact h.2.2 r hr e
    · exact h.2.2 _ (List.mem_of_getElem? hi) e⟩
theorem imm_box {i g : Nat} {t : TypeId} {cs : List Value} (hi : m[i]? = some (.box g t cs)) : ¬ imm Z w0 m w g := fun h => h.2.2 _ (List.mem_of_getElem? hi) rfl
/-- A row that is let go, where a box is the caller's. -/
theorem St.row_dataM {g : Nat} (h : St w0 Z (· = g) w m ds) {i : Nat} {A : Option Addr} {n cap e size : Nat} {xs : List Value}
    (hi : m[i]? = some (.row A n cap e size xs)) {j : Nat} {t : TypeId} {cs : List Value} (hj : m[j]? = some (.box g t cs)) (hij : i ≠ j) : St w0 Z (· = g) w (m.eraseIdx i) ds ∧ RowI w (imm Z w0 (m.eraseIdx i) w) size A n xs := by
  have hr : w.ownsRow 0 e size (.slice A n cap) n xs := h.res hi
  refine ⟨h.drop _ (List.eraseIdx_sublist m i), hr.1, fun hn => ?_⟩
  obtain ⟨b, rfl⟩ := own_some hr hn
  refine ⟨_, rfl, ⟨(h.own _ (List.mem_of_getElem? hi) b rfl).1, fun hlt => ?_, fun r hmem e => ?_⟩, fun j u hu => hr.cells (g := b) rfl j u hu⟩
  · rcases (h.own _ (List.mem_of_getElem? hi) b rfl).2 with h1 | h1
    · have hlt' : b < w0.heap.size := hlt
      omega
    · have hb : b = g := h1
      subst hb
      exact absurd rfl (apart_get h.apart hij hi hj rfl)
  obtain ⟨j', hj'⟩ := List.mem_iff_getElem?.1 hmem
  rw [List.getElem?_eraseIdx] at hj'
  by_cases hji : j' < i
  · rw [if_pos hji] at hj'
    exact apart_get h.apart (by omega : j' ≠ i) hj' hi e rfl
  · rw [if_neg hji] at hj'
    exact apart_get h.apart (by omega : j' + 1 ≠ i) hj' hi e rfl
end
end Go.Proofs.YtobgdeffhdefeaaDoor
/- Slices of slices of nodes. -/
namespace Go.Proofs.YtobgdeffhdefeaaDoor
set_option linter.unusedSimpArgs false
set_option linter.unusedVariables false
open Go Go.RowKit
/-- A slice of nodes: where it lies, its capacity, its nodes. -/
abbrev Sl := Option Addr × Nat × List Nd
def slz : Sl := (none, 0, [])
def encS (s : Sl) : List Value := [.slice s.1 s.2.2.length s.2.1]
def encSs (l : List Sl) : List Value := l.flatMap encS
def nthS (t : List Sl) (k : Nat) : Sl := t.getD k slz
theorem encS_len (s : Sl) : (encS s).length = 1 := rfl
theorem encSs_length (l : List Sl) : (encSs l).length = l.length * 1 := enc_length encS_len l
theorem encSs_append (a b : List Sl) : encSs (a ++ b) = encSs a ++ encSs b := by simp [encSs]
theorem encSs_drop (l : List Sl) (k : Nat) : (encSs l).drop (k * 1) = encSs (l.drop k) := enc_drop encS_len l k
theorem encSs_take (l : List Sl) (k : Nat) : (encSs l).take (k * 1) = encSs (l.take k) := enc_take encS_len l k
theorem encS_one (l : List Sl) : ∀ u ∈ encSs l, u.oneCell' = true := by
  intro u hu
  obtain ⟨n, _, hn⟩ := List.mem_flatMap.1 hu
  simp [encS] at hn
  subst hn
  rfl
theorem ss_elem {w : World} {I : Nat → Prop} {A : Option Addr} {k : Nat} {t : List Sl} (h : RowI w I 1 A t.length (encSs t)) (hk : k < t.length) : ElemAt w A (k * 1) (encS (nthS t k)) := by
  have := h.elem hk
  rwa [show (encSs t) = t.flatMap encS from rfl, enc_at encS_len t k hk slz] at this
theorem own_ss {w : World} {A : Option Addr} {k cap e : Nat} {t : List Sl} (h : (Res.row A t.length cap e 1 (encSs t)).holds w) (hk : k < t.length) : ElemAt w A (k * 1) (encS (nthS t k)) := by
  have := own_elem h hk
  rwa [show (encSs t) = t.flatMap encS from rfl, enc_at encS_len t k hk slz] at this
/-- Each of the slices is data. -/
def dAll (t : List Sl) : Dat := ⟨fun w I => ∀ s ∈ t, s.2.2.length ≤ s.2.1 ∧ RowI w I 4 s.1 s.2.2.length (encNs s.2.2), fun _ _ _ _ _ h hk s hs => ⟨(h s hs).1, (h s hs).2.mono hk⟩⟩
theorem nthS_mem {t : List Sl} {k : Nat} (h : k < t.length) : nthS t k ∈ t := by
  have : nthS t k = t[k] := by simp [nthS, h]
  rw [this]
  exact List.getElem_mem h
theorem all_at {w : World} {I : Nat → Prop} {t : List Sl} {k : Nat} (h : (dAll t).φ w I) (hk : k < t.length) : (dRow 4 (nthS t k).1 (nthS t k).2.2.length (nthS t k).2.1 (encNs (nthS t k).2.2)).φ w I := h _ (nthS_mem hk)
theorem all_nil {w : World} {I : Nat → Prop} : (dAll []).φ w I := fun _ h => by cases h
theorem all_cons {w : World} {I : Nat → Prop} {A : Option Addr} {c : Nat} {L : List Nd} {t : List Sl} (h : (dRow 4 A L.length c (encNs L)).φ w I) (ht : (dAll t).φ w I) : (dAll ((A, c, L) :: t)).φ w I := fun s hs => by
  rcases List.mem_cons.1 hs with rfl | hs
  · exact h
  · exact ht s hs
theorem all_append {w : World} {I : Nat → Prop} {a b : List Sl} (ha : (dAll a).φ w I) (hb : (dAll b).φ w I) : (dAll (a ++ b)).φ w I := fun s hs => by
  rcases List.mem_append.1 hs with hs | hs
  · exact ha s hs
  · exact hb s hs
theorem all_drop {w : World} {I : Nat → Prop} {a : List Sl} (ha : (dAll a).φ w I) (k : Nat) : (dAll (a.drop k)).φ w I := fun s hs => ha s (List.mem_of_mem_drop hs)
theorem all_take {w : World} {I : Nat → Prop} {a : List Sl} (ha : (dAll a).φ w I) (k : Nat) : (dAll (a.take k)).φ w I := fun s hs => ha s (List.mem_of_mem_take hs)
/-- The lists. -/
def lsts (t : List Sl) : List (List Nd) := t.map (·.2.2)
end Go.Proofs.YtobgdeffhdefeaaDoor
/- Boxes that are let go; loops of so many rounds. -/
namespace Go.Proofs.YtobgdeffhdefeaaDoor
set_option linter.unusedSimpArgs false
set_option linter.unusedVariables false
open Go Go.RowKit
/-- A block of cells that nobody changes. -/
def dBox (g : Nat) (cs : List Value) : Dat := ⟨fun w I => I g ∧ CellsAt w ⟨g, 0, none⟩ cs, fun _ _ _ _ _ h hk => ⟨(hk g h.1).1, h.2.keep (hk g h.1).2⟩⟩
theorem St.box_data {w0 w : World} {Z M : Nat → Prop} {m : List Res} {ds : List Dat} (h : St w0 Z M w m ds) {i g : Nat} {t : TypeId} {cs : List Value}
    (hi : m[i]? = some (.box g t cs)) (hM : ∀ k, ¬ M k) : St w0 Z M w (m.eraseIdx i) ds ∧ (dBox g cs).φ w (imm Z w0 (m.eraseIdx i) w) := by
  have hr : (Res.box g t cs).holds w := h.res hi
  refine ⟨h.drop _ (List.eraseIdx_sublist m i), ⟨(h.own _ (List.mem_of_getElem? hi) g rfl).1, fun hlt => ?_, fun r hmem e => ?_⟩, box_cells hr⟩
  · rcases (h.own _ (List.mem_of_getElem? hi) g rfl).2 with h1 | h1
    · have hlt' : g < w0.heap.size := hlt
      omega
    · exact absurd h1 (hM g)
  obtain ⟨j, hj⟩ := List.mem_iff_getElem?.1 hmem
  rw [List.getElem?_eraseIdx] at hj
  by_cases hji : j < i
  · rw [if_pos hji] at hj
    exact apart_get h.apart (by omega : j ≠ i) hj hi e rfl
  · rw [if_neg hji] at hj
    exact apart_get h.apart (by omega : j + 1 ≠ i) hj hi e rfl
theorem dbox_cell {w : World} {I : Nat → Prop} {g j : Nat} {cs : List Value} {v : Value} (h : (dBox g cs).φ w I) (hv : cs[j]? = some v) : w.cell? ⟨g, j, none⟩ = some v := by
  have := h.2 j v hv
  rwa [show (⟨g, 0, none⟩ : Addr).add j = ⟨g, j, none⟩ by unfold Addr.add; split <;> simp_all] at this
/-- An element of an array's value. -/
theorem r_indexV {P : Program} {X : Prop} {Next : Act → World → Prop} {o : Oper} {a : Act} {w : World} {N : Nat} {l : List (Nat × Value)} {d : Nat} {t : TypeId} {x y : Operand} {u i v : Value} (hs : SteV P X Next o a w) (hR : Reg a N l) (hd : o.dst = some d) (ho : o.op = .index t x y) (hx : ev l x = some u) (hy : ev l y = some i)
    (hrun : ∀ w, (Instr.index t u i).run P w = .ok v w) (hdN : d < N) (k : ∀ a', Reg a' N ((d, v) :: l) → Next a' w) : X := by
  refine r_pure hs hR hd hdN ?_ k
  unfold execOp; rw [ho]
  simp only [hR.ev hx, hR.ev hy, Sem.run_bind, hrun, Result.andThen_ok, Sem.run_pure]
theorem r_round {P : Program} {c : Code} {Q : Exit → Act → World → Prop} {n : Nat} {a : Act} {w : World} (h : c.wp P (Exit.then (Code.rounds P c Q n) Q) a w) : Code.rounds P c Q (n + 1) a w := h
end Go.Proofs.YtobgdeffhdefeaaDoor
/- Regions that draw, where what follows is hidden. -/
namespace Go.Proofs.YtobgdeffhdefeaaDoor
set_option linter.unusedSimpArgs false
set_option linter.unusedVariables false
open Go Go.RowKit
/-- A panic says nothing of the slots. -/
def PanOK (Q : Exit → Act → World → Prop) : Prop := ∀ c a d v w, Q (.panic c) (Act.put a d v) w → Q (.panic c) a w
theorem pan_body {P : Program} {fn : Func} {R : Ending → World → Prop} : PanOK (bodyPost P fn R) := fun _ _ d _ _ h => by
  cases d <;> exact h
theorem pan_then {K : Act → World → Prop} {Q : Exit → Act → World → Prop} (h : PanOK Q) : PanOK (Exit.then K Q) := fun c a d v w hq => h c a d v w hq
theorem pan_block {id : Nat} {Q : Exit → Act → World → Prop} (h : PanOK Q) : PanOK (Exit.inBlock id Q) := fun c a d v w hq => h c a d v w hq
theorem d_region2 {P : Program} {ops : Array Oper} {Q : Exit → Act → World → Prop} {S : World → Prop} {a : Act} {w w0 : World} {Z M : Nat → Prop} {m : List Res} {ds : List Dat}
    {id n : Nat} (hm : P.follows .mixedOrders = true) (hn : ops.size = n) (hS : St w0 Z M w m ds) (hp : PanOK Q)
    (h : ∀ (Q' : Exit → Act → World → Prop), PanOK Q' → (∀ a w, Q .normal a w → Q' .normal a w) → ∀ w', St w0 Z M w' m ds → wpAnyH P .any ops Q' S n (Array.replicate n false) a w') : (Code.region id ops true).wp P Q a w :=
  d_region hm hn hS (h Q hp (fun _ _ h => h))
/-! ### Short spellings: what is told by evaluation is left to be filled in -/
section
variable {P : Program} {ops : Array Oper} {Q : Exit → Act → World → Prop} {K : Act → World → Prop} {a : Act} {w : World} {N : Nat} {l l' : List (Nat × Value)} {d : Nat} {o : Oper} {rest : List Oper} {x : Operand} {v : Value}
theorem sv (hg : o.guard = none := by exact rfl) : SteV P (wpList P ops Q (o :: rest) a w) (wpList P ops Q rest) o a w := st_listV hg
theorem se (hg : o.guard = none := by exact rfl) : Ste P (wpList P ops Q (o :: rest) a w) (wpList P ops Q rest) o a w := st_list hg
theorem mv (hR : Reg a N l) (k : ∀ a', Reg a' N ((d, v) :: l) → wpList P ops Q rest a' w) (hd : o.dst = some d := by exact rfl) (ho : o.op = .move x := by exact rfl) (hx : ev l x = some v := by exact rfl) (hdN : d < N := by decide) (hg : o.guard = none := by exact rfl) :
    wpList P ops Q (o :: rest) a w := r_move (st_listV hg) hR hd ho hx hdN k
theorem asg (hR : Reg a N l) (k : ∀ a', Reg a' N ((d, v) :: l) → wpList P ops Q rest a' w) (hd : o.dst = some d := by exact rfl) (ho : o.op = .assign x := by exact rfl) (hx : ev l x = some v := by exact rfl) (hdN : d < N := by decide) (hg : o.guard = none := by exact rfl) :
    wpList P ops Q (o :: rest) a w := r_assign (st_listV hg) hR hd ho hx hdN k
theorem wt {j : Nat} {b : Bool} {oj : Oper} {dj : Nat} (hR : Reg a N l) (hg : o.guard = some (j, b) := by exact rfl) (hj : ops[j]? = some oj := by exact rfl) (hdj : oj.dst = some dj := by exact rfl) (hdN : dj < N := by decide) (hv : l.lookup dj = some (.bool b) := by exact rfl) : Region.wanted o (yielded ops a.tmps) = true := want_t hR hg hj hdj hdN hv
theorem wff {j : Nat} {b b' : Bool} {oj : Oper} {dj : Nat} (hR : Reg a N l) (hg : o.guard = some (j, b) := by exact rfl) (hj : ops[j]? = some oj := by exact rfl) (hdj : oj.dst = some dj := by exact rfl) (hdN : dj < N := by decide) (hv : l.lookup dj = some (.bool b') := by exact rfl) (hb : (b' == b) = false := by exact rfl) : Region.wanted o (yielded ops a.tmps) = false := want_f hR hg hj hdj hdN hv hb
theorem wu {j : Nat} {b : Bool} {oj : Oper} {dj : Nat} (hR : Reg a N l) (hg : o.guard = some (j, b) := by exact rfl) (hj : ops[j]? = some oj := by exact rfl) (hdj : oj.dst = some dj := by exact rfl) (hdN : dj < N := by decide) (hv : l.lookup dj = some undef := by exact rfl) : Region.wanted o (yielded ops a.tmps) = false := want_u hR hg hj hdj hdN hv
theorem sps (hR : Reg a N l) (hw : Region.wanted o (yielded ops a.tmps) = false) (k : ∀ a', Reg a' N ((d, undef) :: l) → wpList P ops Q rest a' w) (hd : o.dst = some d := by exact rfl) (hdN : d < N := by decide) : wpList P ops Q (o :: rest) a w := s_pass hR hd hdN hw k
theorem sy {V : Value} (hR : Reg a N l) (hd : o.dst = some d := by exact rfl) (hdN : d < N := by decide) : SteV P ((execOp a.eval o).run P w = .ok (.value V) w) (fun a' w' => a'.tmps.getD d undef = V ∧ w' = w) o a w := st_yield hR hd hdN
theorem gt {V : Value} (hd : d ≠ 1000000 := by decide) : ∀ a', Reg a' N ((d, V) :: l) → (a'.tmps.getD d undef = V ∧ w = w) := fun _ h => ⟨h.get _ _ hd lookup_eq, rfl⟩
section
variable {S : World → Prop} {oi : Oper} {fuel : Nat} {listed : Array Bool}
theorem dt (i : Nat) (hi : ops[i]? = some oi) (hP : PanOK Q) (hR : Reg a N l) (hw : Region.wanted oi (yielded ops a.tmps) = true) (hy : ∀ x, S x → (execOp a.eval oi).run P x = .ok (.value v) x) (hS : S w)
    (h : ∀ a', Reg a' N ((d, v) :: l) → wpAnyH P .any ops Q S fuel (listed.setIfInBounds i true) a' w) (hd : oi.dst = some d := by exact rfl) (hdN : d < N := by decide) (hs : Region.noSelect ops = true := by kernel_rfl) (hf : Region.free .any ops listed i = true := by kernel_rfl) (hr : (Region.ready .any ops listed).contains i = true := by kernel_rfl) : wpAnyH P .any ops Q S (fuel + 1) listed a w :=
  d_take hi hs hf hr (fun c a w h => hP c _ _ _ _ h) hd hdN hR hw hy hS h
theorem dp (i : Nat) (hi : ops[i]? = some oi) (hP : PanOK Q) (hR : Reg a N l) (hw : Region.wanted oi (yielded ops a.tmps) = false) (hS : S w)
    (h : ∀ a', Reg a' N ((d, undef) :: l) → wpAnyH P .any ops Q S fuel (listed.setIfInBounds i true) a' w) (hd : oi.dst = some d := by exact rfl) (hdN : d < N := by decide) (hs : Region.noSelect ops = true := by kernel_rfl) (hf : Region.free .any ops listed i = true := by kernel_rfl) (hr : (Region.ready .any ops listed).contains i = true := by kernel_rfl) : wpAnyH P .any ops Q S (fuel + 1) listed a w :=
  d_pass hi hs hf hr (fun c a w h => hP c _ _ _ _ h) hd hdN hR hw hS h
end
/-- The laws of truths that joins use. -/
theorem bl : (∀ b, (true && b) = b) ∧ (∀ b, (b && true) = b) ∧ (∀ b, (false && b) = false) ∧ (∀ b, (b && false) = false) ∧ (∀ b, (true || b) = true) ∧ (∀ b, (b || true) = true) ∧ (∀ b, (false || b) = b) ∧ (∀ b, (b || false) = b) ∧ ((!true) = false) ∧ ((!false) = true) ∧ (∀ a b : Int, (if True then a else b) = a) ∧ (∀ a b : Int, (if False then a else b) = b) ∧ ((false = true) = False) ∧ (∀ a b : Bool, (if True then a else b) = a) ∧ (∀ a b : Bool, (if False then a else b) = b) := by simp
/-- Old blocks are as they were. -/
def agr (w : World) (J : Nat → Prop) (x : World) : Prop := w.heap.size ≤ x.heap.size ∧ ∀ k, J k → x.heap[k]? = w.heap[k]?
/-- What a cell holds. -/
def cel (g j : Nat) (v : Value) (x : World) : Prop := x.cell? ⟨g, j, none⟩ = some v
/-- All of a list of slots is known. -/
def subR (l : List (Nat × Value)) : List (Nat × Value) → Prop
  | [] => True
  | (i, v) :: l' => l.lookup i = some v ∧ subR l l'
theorem rnl : subR l [] := trivial
theorem rc {i : Nat} (h : l.lookup i = some v) (h' : subR l l') : subR l ((i, v) :: l') := ⟨h, h'⟩
theorem rb {i : Nat} {B b : Bool} (hv : l.lookup i = some (.bool B)) (hb : b = B) : l.lookup i = some (.bool b) := by rw [hv, hb]
theorem ri {i : Nat} {kd : IntKind} {B b : Int} (hv : l.lookup i = some (.int kd B)) (hb : b = B) : l.lookup i = some (.int kd b) := by rw [hv, hb]
theorem rs {i : Nat} {A : Option Addr} {n n' c : Nat} (hv : l.lookup i = some (.slice A n c)) (hn : n' = n) : l.lookup i = some (.slice A n' c) := by rw [hv, hn]
theorem Reg.sub (h : Reg a N l) : ∀ {l'}, subR l l' → Reg a N l'
  | [], _ => h.nil
  | (_, _) :: _, hs => h.cons (h.sub hs.2) hs.1
end
end Go.Proofs.YtobgdeffhdefeaaDoor
/- Plain laws of levels, names and fields. -/
namespace Go.Proofs.YtobgdeffhdefeaaDoor
set_option linter.unusedSimpArgs false
set_option linter.unusedVariables false
def lvIndex : List Int → Int
  | [] => -1
  | n :: t => if 0 ≤ n ∧ n ≤ 9 then (let r := lvIndex t; if r < 0 then r else r + 1) else 0
def lvChk (n : Int) : Int := if 0 ≤ n ∧ n ≤ 9 then 0 else 1
theorem lvIndex_ge (t : List Int) : -1 ≤ lvIndex t := by
  induction t with
  | nil => simp [lvIndex]
  | cons n t ih =>
    simp only [lvIndex]
    split
    · split <;> omega
    · omega
theorem drop_nthI {t : List Int} {k : Nat} (hk : k < t.length) : t.drop k = nthI t k :: t.drop (k + 1) := by
  rw [List.drop_eq_getElem_cons hk]
  simp [nthI, hk]
theorem lvIndex_step {t : List Int} {k : Nat} (hi : lvIndex t = (let r := lvIndex (t.drop k); if r < 0 then r else r + (k : Int))) (hk : k < t.length) (h : 0 ≤ nthI t k ∧ nthI t k ≤ 9) :
    lvIndex t = (let r := lvIndex (t.drop (k + 1)); if r < 0 then r else r + ((k + 1 : Nat) : Int)) := by
  rw [drop_nthI hk] at hi
  simp only [lvIndex, if_pos h] at hi
  rw [hi]
  simp only
  generalize lvIndex (t.drop (k + 1)) = r
  by_cases h0 : r < 0
  · simp [h0]
  · simp [h0, show ¬ (r + 1 < 0) by omega]
    omega
theorem lvIndex_here {t : List Int} {k : Nat} (hi : lvIndex t = (let r := lvIndex (t.drop k); if r < 0 then r else r + (k : Int))) (hk : k < t.length) (h : 0 ≤ nthI t k → 9 < nthI t k) : lvIndex t = (k : Int) := by
  rw [drop_nthI hk] at hi
  simp only [lvIndex, if_neg (show ¬ (0 ≤ nthI t k ∧ nthI t k ≤ 9) by omega)] at hi
  rw [hi]
  simp
theorem lvIndex_none {t : List Int} {k : Nat} (hi : lvIndex t = (let r := lvIndex (t.drop k); if r < 0 then r else r + (k : Int))) (hk : t.length ≤ k) : lvIndex t = -1 := by
  rw [List.drop_eq_nil_of_le hk] at hi
  rw [hi]
  simp [lvIndex]
theorem lvChk_bad {n : Int} (h : 0 ≤ lvIndex [n]) : lvChk n = 1 := by
  unfold lvChk
  simp only [lvIndex] at h
  split <;> simp_all
theorem lvChk_good {n : Int} (h : lvIndex [n] < 0) : lvChk n = 0 := by
  unfold lvChk
  simp only [lvIndex] at h
  split <;> simp_all

/-- May a byte stand in a name, at this place? -/
def okC (c i : Nat) : Prop := (97 ≤ orB c 32 ∧ orB c 32 ≤ 122) ∨ c = 95 ∨ (i ≠ 0 ∧ 48 ≤ c ∧ c ≤ 57)
def nameTo (s : ByteArray) (k : Nat) : Prop := ∀ i, i < k → okC (byteAt s i) i
theorem nameTo_zero (s : ByteArray) : nameTo s 0 := fun i h => by omega
theorem nameTo_step {s : ByteArray} {k : Nat} (hi : nameTo s k) (h : okC (byteAt s k) k) : nameTo s (k + 1) := fun i hk => by
  by_cases hik : i = k
  · subst hik; exact h
  · exact hi i (by omega)
set_option maxRecDepth 100000 in
theorem okC_iff (c : UInt8) (i : Nat) : okC c.toNat i ↔ (letter c = true ∨ (i ≠ 0 ∧ digit c = true)) := by
  have h := letter_or ⟨c.toNat, UInt8.toNat_lt c⟩
  simp only [UInt8.ofNat_toNat] at h
  have hd : digit c = true ↔ 48 ≤ c.toNat ∧ c.toNat ≤ 57 := by
    unfold digit
    simp [UInt8.le_iff_toNat_le]
  unfold okC
  rw [← h, hd]
  omega
theorem byteAt_eq {s : ByteArray} {i : Nat} {c : UInt8} (h : s.data.toList[i]? = some c) : byteAt s i = c.toNat := by
  obtain ⟨hlt, h2⟩ := List.getElem?_eq_some_iff.1 h
  have hl : i < s.size := by rw [Array.length_toList] at hlt; exact hlt
  unfold byteAt
  rw [dif_pos hl]
  congr 1
theorem name_iff (s : ByteArray) : nameOk s = true ↔ 0 < s.size ∧ s.size ≤ 16 ∧ nameTo s s.size := by
  have hsz : s.size = s.data.toList.length := by rw [Array.length_toList]; rfl
  unfold nameOk
  cases hl : s.data.toList with
  | nil =>
    rw [hl] at hsz
    simp at hsz
    simp [hsz]
  | cons c r =>
    have h0 : byteAt s 0 = c.toNat := byteAt_eq (by rw [hl]; rfl)
    rw [hl] at hsz
    have hsz' : s.size = r.length + 1 := hsz
    clear hsz
    simp only [Bool.and_eq_true, decide_eq_true_eq, List.all_eq_true, Bool.or_eq_true]
    constructor
    · rintro ⟨⟨h1, h2⟩, h3⟩
      refine ⟨by omega, h1, fun i hi => ?_⟩
      cases i with
      | zero => rw [h0, okC_iff]; exact .inl h2
      | succ i =>
        have hlt : i < r.length := by omega
        rw [byteAt_eq (c := r[i]) (by rw [hl]; simp [hlt]), okC_iff]
        rcases h3 _ (List.getElem_mem hlt) with h | h
        · exact .inl h
        · exact .inr ⟨by omega, h⟩
    · rintro ⟨h1, h2, h3⟩
      refine ⟨⟨h2, ?_⟩, fun x hx => ?_⟩
      · have := h3 0 h1
        rw [h0, okC_iff] at this
        rcases this with h | h
        · exact h
        · exact absurd rfl h.1
      · obtain ⟨i, hlt, rfl⟩ := List.mem_iff_getElem.1 hx
        have := h3 (i + 1) (by omega)
        rw [byteAt_eq (c := r[i]) (by rw [hl]; simp [hlt]), okC_iff] at this
        rcases this with h | h
        · exact .inl h
        · exact .inr h.2
theorem name_bad {s : ByteArray} {k : Nat} (hk : k < s.size) (h : ¬ okC (byteAt s k) k) : nameOk s = false := by
  rw [Bool.eq_false_iff]
  intro e
  exact h ((name_iff s).1 e |>.2.2 k hk)
theorem size_nil {s : ByteArray} : s = (⟨#[]⟩ : ByteArray) ↔ s.size = 0 := by
  constructor
  · rintro rfl; rfl
  · intro h
    cases s with
    | mk d =>
      have h' : d.size = 0 := h
      rw [Array.size_eq_zero_iff.1 h']
theorem name_end {s : ByteArray} {k : Nat} (hi : nameTo s k) (hk : s.size ≤ k) : nameOk s = ((!decide (s = (⟨#[]⟩ : ByteArray))) && decide (((s.size : Nat) : Int) ≤ 16)) := by
  rw [Bool.eq_iff_iff, name_iff]
  simp only [Bool.and_eq_true, Bool.not_eq_true', decide_eq_true_eq, decide_eq_false_iff_not, size_nil]
  constructor
  · rintro ⟨h1, h2, _⟩; omega
  · rintro ⟨h1, h2⟩; exact ⟨by omega, by omega, fun i h => hi i (by omega)⟩

/-- The document's own words. -/
def letN (c : Nat) : Bool := ((decide ((97 : Int) ≤ c) && decide ((c : Int) ≤ 122)) || (decide ((65 : Int) ≤ c) && decide ((c : Int) ≤ 90))) || decide ((c : Int) = 95)
def plainB (n : Nd) : Bool := decide (n.N = 0) && decide (n.M = 0) && decide (n.S = (⟨#[]⟩ : ByteArray))
set_option maxRecDepth 100000 in
theorem letN_or : ∀ c : Fin 256, letN c.val = true ↔ ((97 ≤ orB c.val 32 ∧ orB c.val 32 ≤ 122) ∨ c.val = 95) := by decide
theorem okC_of {c i : Nat} (hc : c < 256) : okC c i ↔ (letN c = true ∨ (i ≠ 0 ∧ 48 ≤ c ∧ c ≤ 57)) := by
  have h := letN_or ⟨c, hc⟩
  simp only at h
  unfold okC
  rw [h]
  omega
def bindL (n : Nd) : List Int := if n.K = 26 ∨ n.K = 27 then (if right n then binds n else []) else if 0 ≤ n.K ∧ n.K < 30 then (shp n.K.toNat).b else []
theorem bindL_right {n : Nd} (h : right n = true) : bindL n = binds n := by
  have := right_K h
  unfold bindL binds
  by_cases h1 : n.K = 26
  · simp [h1, h, binds]
  · by_cases h2 : n.K = 27
    · simp [h2, h, binds]
    · simp [h1, h2, this]

/-- Has a node a field that its kind has not, or a bad name? -/
def fieldsBad (n : Nd) : Bool :=
  (((!((shp (((n.K)).toNat)).n)) && (!(decide ((n.N) = 0)))) || (((!((shp (((n.K)).toNat)).m)) && (!(decide ((n.M) = 0)))) || (((!((shp (((n.K)).toNat)).s)) && (!(decide (n.S = (⟨#[]⟩ : ByteArray))))) || ((shp (((n.K)).toNat)).s && (!(nameOk n.S))))))
theorem right_split (n : Nd) : right n = true ↔ (0 ≤ n.K ∧ n.K < 30) ∧ fieldsBad n = false ∧ ((shp n.K.toNat).n = true → 0 ≤ n.N ∧ n.N ≤ if n.K = 2 then 9 else most n.K) ∧ ((shp n.K.toNat).m = true → 0 ≤ n.M ∧ n.M ≤ 6) := by
  unfold right fieldsBad
  have hS : n.S = (⟨#[]⟩ : ByteArray) ↔ n.S.size = 0 := size_nil
  simp only [Bool.and_eq_true, decide_eq_true_eq]
  rw [and_assoc, and_assoc, ← and_assoc (a := 0 ≤ n.K)]
  refine and_congr_right fun _ => ?_
  cases h1 : (shp n.K.toNat).n <;> cases h2 : (shp n.K.toNat).m <;> cases h3 : (shp n.K.toNat).s <;> simp [hS] <;> try (constructor <;> (rintro ⟨h4, h5, h6⟩; simp_all))
theorem shp_m (k : Nat) : (shp k).m = true ↔ k = 26 ∨ k = 27 := by
  unfold shp
  split <;> simp_all
theorem right_bad {n : Nd} (h : n.K < 0 ∨ 30 ≤ n.K) : right n = false := by
  rw [Bool.eq_false_iff]
  intro e
  have := ((right_split n).1 e).1
  omega
theorem right_big {n : Nd} (h : fieldsBad n = true) : right n = false := by
  rw [Bool.eq_false_iff]
  intro e
  have := ((right_split n).1 e).2.1
  rw [h] at this
  cases this
theorem right_sort {n : Nd} (h : fieldsBad n = false) (hk : n.K = 2) : right n = decide (lvChk n.N = 0) := by
  rw [Bool.eq_iff_iff, right_split]
  simp [h, hk, shp, lvChk]
theorem right_con' {n : Nd} (h : fieldsBad n = false) (hk : n.K = 26) : right n = decide (0 ≤ n.N ∧ n.N ≤ most n.K ∧ 0 ≤ n.M ∧ n.M ≤ 6) := by
  rw [Bool.eq_iff_iff, right_split]
  simp [h, hk, shp]
  omega
theorem right_elim' {n : Nd} (h : fieldsBad n = false) (hk : n.K = 27) : right n = decide (0 ≤ n.M ∧ n.M ≤ 6) := by
  rw [Bool.eq_iff_iff, right_split]
  simp [h, hk, shp]
theorem right_oth {n : Nd} (h : fieldsBad n = false) (h0 : 0 ≤ n.K) (h1 : n.K < 30) (hk : ¬ n.K = 2) (hk1 : ¬ n.K = 26) (hk2 : ¬ n.K = 27) : right n = (!(shp n.K.toNat).n || decide (0 ≤ n.N ∧ n.N ≤ most n.K)) := by
  have hm : (shp n.K.toNat).m = false := by
    rw [Bool.eq_false_iff]
    intro e
    rw [shp_m] at e
    omega
  rw [Bool.eq_iff_iff, right_split]
  simp only [h, hk, hm, h0, h1]
  cases (shp n.K.toNat).n <;> simp
theorem rname_step {s : ByteArray} {k : Nat} (h0 : letN (byteAt s 0) = true) (h : letN (byteAt s k) = true ∨ (48 ≤ byteAt s k ∧ byteAt s k ≤ 57)) : okC (byteAt s k) k := by
  rw [okC_of (byteAt_lt _ _)]
  by_cases hk : k = 0
  · subst hk; exact .inl h0
  · rcases h with h | h
    · exact .inl h
    · exact .inr ⟨hk, h⟩
theorem rname_bad {s : ByteArray} {k : Nat} (hk : k < s.size) (h1 : letN (byteAt s k) = false) (h2 : byteAt s k < 48 ∨ 57 < byteAt s k) : nameOk s = false := by
  refine name_bad hk ?_
  rw [okC_of (byteAt_lt _ _), h1]
  simp
  omega
theorem rname_bad0 {s : ByteArray} (h : (s.size < 1 ∨ 16 < s.size) ∨ letN (byteAt s 0) = false) : nameOk s = false := by
  rw [Bool.eq_false_iff]
  intro e
  obtain ⟨h1, h2, h3⟩ := (name_iff s).1 e
  rcases h with h | h
  · omega
  · have := (okC_of (byteAt_lt s 0)).1 (h3 0 h1)
    rw [h] at this
    simp at this
theorem rname_end {s : ByteArray} {k : Nat} (hi : nameTo s k) (hk : s.size ≤ k) (h1 : 1 ≤ s.size) (h2 : s.size ≤ 16) : nameOk s = true :=
  (name_iff s).2 ⟨by omega, h2, fun i h => hi i (by omega)⟩
theorem right_var {n : Nd} (h : n.K = 0) : right n = decide (0 ≤ n.N ∧ n.N ≤ 99 ∧ n.M = 0 ∧ n.S = (⟨#[]⟩ : ByteArray)) := by
  rw [Bool.eq_iff_iff]; simp [right, h, shp, most, size_nil, and_assoc]
theorem right_str {n : Nd} (h : n.K = 1 ∨ n.K = 25) : right n = decide (n.N = 0 ∧ n.M = 0 ∧ nameOk n.S = true) := by
  rw [Bool.eq_iff_iff]; rcases h with h | h <;> simp [right, h, shp, and_assoc]
theorem right_sortR {n : Nd} (h : n.K = 2) : right n = decide (lvChk n.N = 0 ∧ n.M = 0 ∧ n.S = (⟨#[]⟩ : ByteArray)) := by
  rw [Bool.eq_iff_iff]; simp [right, h, shp, lvChk, size_nil, and_assoc]
theorem right_pi {n : Nd} (h : n.K = 3 ∨ n.K = 6) : right n = decide (0 ≤ n.N ∧ n.N ≤ 3 ∧ n.M = 0 ∧ n.S = (⟨#[]⟩ : ByteArray)) := by
  rw [Bool.eq_iff_iff]; rcases h with h | h <;> simp [right, h, shp, most, size_nil, and_assoc]
theorem right_con2 {n : Nd} (h : n.K = 26) : right n = decide (nameOk n.S = true ∧ 0 ≤ n.N ∧ n.N < 6 ∧ 0 ≤ n.M ∧ n.M ≤ 6) := by
  rw [Bool.eq_iff_iff]
  simp [right, h, shp, most]
  constructor
  · rintro ⟨⟨⟨h1, h2⟩, h3, h4⟩, h5⟩; exact ⟨h5, h1, by omega, h3, h4⟩
  · rintro ⟨h5, h1, h2, h3, h4⟩; exact ⟨⟨⟨h1, by omega⟩, h3, h4⟩, h5⟩
theorem right_elim2 {n : Nd} (h : n.K = 27) : right n = decide (nameOk n.S = true ∧ n.N = 0 ∧ 0 ≤ n.M ∧ n.M ≤ 6) := by
  rw [Bool.eq_iff_iff]
  simp [right, h, shp]
  constructor
  · rintro ⟨⟨h1, h3, h4⟩, h5⟩; exact ⟨h5, h1, h3, h4⟩
  · rintro ⟨h5, h1, h3, h4⟩; exact ⟨⟨h1, h3, h4⟩, h5⟩
theorem shp_plain (k : Nat) (h : k ≠ 0 ∧ k ≠ 1 ∧ k ≠ 2 ∧ k ≠ 3 ∧ k ≠ 6 ∧ k ≠ 25 ∧ k ≠ 26 ∧ k ≠ 27) : (shp k).n = false ∧ (shp k).m = false ∧ (shp k).s = false := by
  unfold shp
  split <;> simp_all
theorem right_plain {n : Nd} (h1 : 0 ≤ n.K) (h2 : n.K < 30) (h : n.K ≠ 0 ∧ n.K ≠ 1 ∧ n.K ≠ 2 ∧ n.K ≠ 3 ∧ n.K ≠ 6 ∧ n.K ≠ 25 ∧ n.K ≠ 26 ∧ n.K ≠ 27) : right n = plainB n := by
  obtain ⟨h3, h4, h5⟩ := shp_plain n.K.toNat (by omega)
  rw [Bool.eq_iff_iff]
  simp [right, plainB, h1, h2, h3, h4, h5, size_nil]
theorem bindL_none {n : Nd} (h : n.K < 0 ∨ 30 ≤ n.K) : bindL n = [] := by
  unfold bindL
  rw [if_neg (by omega), if_neg (by omega)]
theorem bindL_bad {n : Nd} (h : n.K = 26 ∨ n.K = 27) (hr : right n = false) : bindL n = [] := by
  unfold bindL
  rw [if_pos h, if_neg (by simp [hr])]
theorem bindL_con {n : Nd} (h : n.K = 26) (hr : right n = true) : bindL n = List.replicate n.M.toNat 0 := by
  unfold bindL
  rw [if_pos (.inl h), if_pos hr]
  simp [binds, h]
theorem bindL_elim {n : Nd} (h : n.K = 27) (hr : right n = true) : bindL n = [1] ++ List.replicate (n.M.toNat + 1) 0 := by
  unfold bindL
  rw [if_pos (.inr h), if_pos hr]
  simp [binds, h]
end Go.Proofs.YtobgdeffhdefeaaDoor
/- Plain laws of measures: where each node's term begins, and how deep it is. -/
namespace Go.Proofs.YtobgdeffhdefeaaDoor
set_option linter.unusedSimpArgs false
set_option linter.unusedVariables false
def meas (o : Int) : List T → List (Int × Int)
  | [] => []
  | t :: l => (o, (t.deep : Int)) :: meas (o + t.flat.length) l
mutual
def allT (o : Int) : T → List (Int × Int)
  | .mk _ l => allTs o l ++ [(o, ((T.deeps l + 1 : Nat) : Int))]
def allTs (o : Int) : List T → List (Int × Int)
  | [] => []
  | t :: l => allT o t ++ allTs (o + t.flat.length) l
end
theorem meas_length (o : Int) (l : List T) : (meas o l).length = l.length := by
  induction l generalizing o with
  | nil => rfl
  | cons t l ih => simp [meas, ih]
theorem meas_append (o : Int) (a b : List T) : meas o (a ++ b) = meas o a ++ meas (o + (T.flats a).length) b := by
  induction a generalizing o with
  | nil => simp [meas, T.flats_nil]
  | cons t a ih => simp [meas, ih, T.flats_cons, Int.add_assoc]
theorem allTs_append (o : Int) (a b : List T) : allTs o (a ++ b) = allTs o a ++ allTs (o + (T.flats a).length) b := by
  induction a generalizing o with
  | nil => simp [allTs, T.flats_nil]
  | cons t a ih => simp [allTs, ih, T.flats_cons, Int.add_assoc]
mutual
theorem allT_length (o : Int) : ∀ t : T, (allT o t).length = t.flat.length
  | .mk n l => by
    simp only [allT, T.flat_mk, List.length_append, allTs_length o l]
    rfl
theorem allTs_length (o : Int) : ∀ l : List T, (allTs o l).length = (T.flats l).length
  | [] => by simp [allTs, T.flats_nil]
  | t :: l => by simp only [allTs, T.flats_cons, List.length_append, allT_length o t, allTs_length _ l]
end
theorem deep_mk (n : Nd) (l : List T) : (T.mk n l).deep = T.deeps l + 1 := by simp [T.deep]
theorem deeps_le {t : T} {l : List T} (h : t ∈ l) : t.deep ≤ T.deeps l := by
  induction l with
  | nil => cases h
  | cons u l ih =>
    simp only [T.deeps]
    rcases List.mem_cons.1 h with rfl | h
    · omega
    · have := ih h; omega
mutual
theorem deep_flat : ∀ t : T, t.deep ≤ t.flat.length
  | .mk n l => by
    have := deeps_flat l
    simp only [T.deep, T.flat_mk, List.length_append, List.length_singleton]
    omega
theorem deeps_flat : ∀ l : List T, T.deeps l ≤ (T.flats l).length
  | [] => by simp [T.deeps]
  | t :: l => by
    have h1 := deep_flat t
    have h2 := deeps_flat l
    simp only [T.deeps, T.flats_cons, List.length_append]
    omega
end
def fromQ (k : Nat) (L : List (Int × Int)) (b q : Nat) : Int := if q = 0 then k else (nthM L b).1
def deepQ (L : List (Int × Int)) (b : Nat) : Nat → Int
  | 0 => 1
  | q + 1 => max (deepQ L b q) ((nthM L (b + q)).2 + 1)
theorem nthM_meas {st : List T} {i : Nat} (h : i < st.length) : ∃ o, nthM (meas 0 st) i = (o, (st[i].deep : Int)) ∧ o = ((T.flats (st.take i)).length : Int) := by
  have h1 : meas 0 st = meas 0 (st.take i) ++ meas (0 + (T.flats (st.take i)).length) (st.drop i) := by
    rw [← meas_append, List.take_append_drop]
  have h2 : st.drop i = st[i] :: st.drop (i + 1) := List.drop_eq_getElem_cons h
  have hl : (meas 0 (st.take i)).length = i := by rw [meas_length, List.length_take]; omega
  refine ⟨_, ?_, rfl⟩
  rw [nthM, h1, h2, meas, List.getD_eq_getElem?_getD, List.getElem?_append_right (by omega), hl]
  simp
theorem meas_deep_le {st : List T} {i : Nat} : 0 ≤ (nthM (meas 0 st) i).2 ∧ (nthM (meas 0 st) i).2 ≤ (T.flats st).length := by
  by_cases h : i < st.length
  · obtain ⟨o, h1, _⟩ := nthM_meas h
    rw [h1]
    have h2 := deeps_le (List.getElem_mem h)
    have h3 := deeps_flat st
    constructor
    · simp
    · simp only
      omega
  · have : nthM (meas 0 st) i = (0, 0) := by
      rw [nthM, List.getD_eq_getElem?_getD, List.getElem?_eq_none (by rw [meas_length]; omega)]
      rfl
    rw [this]
    simp
theorem deepQ_le {st : List T} {b q : Nat} : 1 ≤ deepQ (meas 0 st) b q ∧ deepQ (meas 0 st) b q ≤ (T.flats st).length + 1 := by
  induction q with
  | zero => simp only [deepQ]; omega
  | succ q ih =>
    have := meas_deep_le (st := st) (i := b + q)
    simp only [deepQ]
    omega
theorem deepQ_drop {st : List T} {b : Nat} : ∀ {q : Nat}, b + q ≤ st.length → deepQ (meas 0 st) b q = ((T.deeps ((st.drop b).take q) + 1 : Nat) : Int)
  | 0, _ => by simp [deepQ, T.deeps]
  | q + 1, h => by
    have ih := deepQ_drop (st := st) (b := b) (q := q) (by omega)
    obtain ⟨o, h1, _⟩ := nthM_meas (st := st) (i := b + q) (by omega)
    have ht : (st.drop b).take (q + 1) = (st.drop b).take q ++ [st[b + q]] := by
      rw [List.take_add_one, List.getElem?_drop, List.getElem?_eq_getElem (by omega)]
      rfl
    have hd : ∀ a b : List T, T.deeps (a ++ b) = max (T.deeps a) (T.deeps b) := by
      intro a b
      induction a with
      | nil => simp [T.deeps]
      | cons t a ih => simp [T.deeps, ih, Nat.max_assoc]
    simp only [deepQ, ih, h1, ht, hd, T.deeps]
    omega
/-- A stack, and one node more. -/
theorem push_meas {st st' : List T} {n : Nd} {k : Nat} (h : pushT st n = some st') (hk : (T.flats st).length = k) :
    meas 0 st' = (meas 0 st).take (st.length - many n) ++ [(fromQ k (meas 0 st) (st.length - many n) (many n), deepQ (meas 0 st) (st.length - many n) (many n))] ∧
    allTs 0 st' = allTs 0 st ++ [(fromQ k (meas 0 st) (st.length - many n) (many n), deepQ (meas 0 st) (st.length - many n) (many n))] := by
  unfold pushT at h
  split at h
  · rename_i hc
    simp only [Bool.and_eq_true, decide_eq_true_eq] at hc
    obtain rfl := Option.some.inj h
    have hb : st.length - many n + many n ≤ st.length := by omega
    have hd := deepQ_drop hb
    rw [List.take_of_length_le (by rw [List.length_drop]; omega)] at hd
    rw [hd]
    have hf : fromQ k (meas 0 st) (st.length - many n) (many n) = 0 + ((T.flats (st.take (st.length - many n))).length : Int) := by
      unfold fromQ
      split
      · rename_i h0
        rw [h0, Nat.sub_zero, List.take_length, hk]
        omega
      · obtain ⟨o, h1, h2⟩ := nthM_meas (st := st) (i := st.length - many n) (by omega)
        rw [h1, h2]
        omega
    have e1 : (meas 0 st).take (st.length - many n) = meas 0 (st.take (st.length - many n)) := by
      have hm : meas 0 st = meas 0 (st.take (st.length - many n)) ++ meas (0 + (T.flats (st.take (st.length - many n))).length) (st.drop (st.length - many n)) := by
        rw [← meas_append, List.take_append_drop]
      rw [hm, List.take_left' (by rw [meas_length, List.length_take]; omega)]
    have e2 : allTs 0 st = allTs 0 (st.take (st.length - many n)) ++ allTs (0 + (T.flats (st.take (st.length - many n))).length) (st.drop (st.length - many n)) := by
      rw [← allTs_append, List.take_append_drop]
    constructor
    · rw [meas_append, hf, e1]
      simp [meas, deep_mk]
    · rw [allTs_append, hf, e2, List.append_assoc]
      simp [allTs, allT]
  · cases h
def measL (t : List Nd) : List (Int × Int) := match scanT [] t with
  | some st => allTs 0 st
  | none => []
def measB (t : List Nd) : Bool := match scanT [] t with
  | some [_] => true
  | _ => false
theorem take_nth {t : List Nd} {k : Nat} (h : k < t.length) : t.take (k + 1) = t.take k ++ [nth t k] := by
  rw [List.take_add_one, List.getElem?_eq_getElem h]
  simp [nth, h]
theorem scan_step {t : List Nd} {k : Nat} {st : List T} (h : scanT [] (t.take k) = some st) (hk : k < t.length) : scanT [] (t.take (k + 1)) = pushT st (nth t k) := by
  rw [take_nth hk, scanT_append, h]
  simp only [Option.bind_some, scanT]
  cases pushT st (nth t k) <;> rfl
theorem scan_none {t : List Nd} {k : Nat} {st : List T} (h : scanT [] (t.take k) = some st) (hk : k < t.length) (hp : pushT st (nth t k) = none) : scanT [] t = none := by
  have : t = t.take (k + 1) ++ t.drop (k + 1) := (List.take_append_drop _ _).symm
  rw [this, scanT_append, scan_step h hk, hp]
  rfl
theorem scan_flats {t : List Nd} {k : Nat} {st : List T} (h : scanT [] (t.take k) = some st) (hk : k ≤ t.length) : (T.flats st).length = k := by
  rw [(scanT_flat h (by simp [T.wfs])).1]
  simp [T.flats_nil, hk]
theorem push_none {st : List T} {n : Nd} (h : right n = false ∨ st.length < many n) : pushT st n = none := by
  unfold pushT
  rw [if_neg]
  simp only [Bool.and_eq_true, decide_eq_true_eq]
  rintro ⟨h1, h2⟩
  rcases h with h | h
  · rw [h1] at h; cases h
  · omega
theorem push_some {st : List T} {n : Nd} (h : right n = true) (h2 : many n ≤ st.length) : ∃ st', pushT st n = some st' ∧ st'.length = st.length - many n + 1 := by
  unfold pushT
  rw [if_pos (by simp [h, h2])]
  exact ⟨_, rfl, by simp⟩
/-- Strings of nodes are no longer than any that is. -/
def sml (t : List Nd) : Prop := ∀ k, k < t.length → (nth t k).S.size < 1000000
theorem measL_end {t : List Nd} {st : List T} (h : scanT [] t = some st) : measL t = allTs 0 st := by
  unfold measL
  rw [h]
theorem measB_end {t : List Nd} {st : List T} (h : scanT [] t = some st) : measB t = decide (((st.length : Nat) : Int) = 1) := by
  unfold measB
  rw [h]
  cases st with
  | nil => rfl
  | cons a l => cases l with
    | nil => simp
    | cons b l => simp; omega
theorem meas_bad {t : List Nd} (h : scanT [] t = none) : measL t = [] ∧ measB t = false := by
  unfold measL measB
  rw [h]
  exact ⟨rfl, rfl⟩
theorem measB_tree {t : List Nd} (h : measB t = true) : ∃ x : T, scanT [] t = some [x] ∧ measL t = allT 0 x ∧ x.wf = true ∧ x.flat = t := by
  unfold measB at h
  split at h
  · rename_i x hs
    have := scanT_flat hs (by simp [T.wfs])
    simp [T.flats, T.wfs] at this
    exact ⟨x, hs, by unfold measL; rw [hs]; simp [allTs], this.2, this.1⟩
  · cases h
theorem allT_last (x : T) : nthM (allT 0 x) ((allT 0 x).length - 1) = (0, (x.deep : Int)) ∧ 0 < (allT 0 x).length := by
  cases x with
  | mk n l =>
    simp only [allT, deep_mk]
    constructor
    · simp [nthM]
    · simp
theorem measL_pos {t : List Nd} (h : measB t = true) : 0 < (measL t).length := by
  obtain ⟨x, _, h2, _⟩ := measB_tree h
  rw [h2]
  exact (allT_last x).2
theorem measL_length {t : List Nd} (h : measB t = true) : (measL t).length = t.length := by
  obtain ⟨x, _, h2, _, h4⟩ := measB_tree h
  rw [h2, allT_length, h4]
theorem chk_form {t : List Nd} (hl : t.length ≤ 4000) (h : measB t = false) : chk t = 20 := by
  unfold chk
  rw [if_neg (by omega)]
  unfold measB at h
  rcases hs : scanT [] t with _ | _ | ⟨x, _ | ⟨y, l⟩⟩
  · rfl
  · rfl
  · rw [hs] at h; cases h
  · rfl
theorem chk_deep {t : List Nd} (hl : t.length ≤ 4000) (h : measB t = true) (hd : 60 < (nthM (measL t) ((measL t).length - 1)).2) : chk t = 22 := by
  obtain ⟨x, hs, h2, _⟩ := measB_tree h
  rw [h2, (allT_last x).1] at hd
  unfold chk
  rw [if_neg (by omega), hs]
  simp only
  rw [if_pos]
  simp only at hd
  omega
theorem chk_good {t : List Nd} (hl : t.length ≤ 4000) (h : measB t = true) (hd : ¬ 60 < (nthM (measL t) ((measL t).length - 1)).2) : chk t = 0 := by
  obtain ⟨x, hs, h2, _⟩ := measB_tree h
  rw [h2, (allT_last x).1] at hd
  unfold chk
  rw [if_neg (by omega), hs]
  simp only
  rw [if_neg]
  simp only at hd
  omega
theorem chk_size {t : List Nd} (hl : 4000 < t.length) : chk t = 21 := by
  unfold chk
  rw [if_pos (by omega)]
def lookL (t : List Nd) : List (Int × Int) := if chk t = 0 then measL t else []
theorem lookL_bad {t : List Nd} (h : ¬ chk t = 0) : lookL t = [] := by unfold lookL; rw [if_neg h]
theorem lookL_good {t : List Nd} (h : chk t = 0) : lookL t = measL t := by unfold lookL; rw [if_pos h]
theorem chk_pos {t : List Nd} (h : chk t = 0) : 0 < t.length := by
  obtain ⟨x, _, rfl, _⟩ := chk_ok.1 h
  exact T.flat_pos x
end Go.Proofs.YtobgdeffhdefeaaDoor
/- Plain laws of the document's check. -/
namespace Go.Proofs.YtobgdeffhdefeaaDoor
set_option linter.unusedSimpArgs false
set_option linter.unusedVariables false
theorem bindL_many {n : Nd} (h : right n = true) : (bindL n).length = many n := by
  rw [bindL_right h]
  rfl
theorem bindL_le (n : Nd) : (bindL n).length ≤ 8 := by
  by_cases h : right n = true
  · rw [bindL_many h]; exact many_le h
  · unfold bindL
    have := shp_le n.K.toNat
    split
    · simp
    · split
      · omega
      · simp
def dl (st : List T) : List Int := st.map fun x => (x.deep : Int)
theorem dl_length (st : List T) : (dl st).length = st.length := by simp [dl]
theorem deeps_append (a b : List T) : T.deeps (a ++ b) = max (T.deeps a) (T.deeps b) := by
  induction a with
  | nil => simp [T.deeps]
  | cons t a ih => simp [T.deeps, ih, Nat.max_assoc]
/-- The greatest depth of the last so many. -/
def maxB (st : List T) (j : Nat) : Int := (T.deeps (st.drop (st.length - j)) : Int)
theorem maxB_zero (st : List T) : maxB st 0 = 0 := by simp [maxB, T.deeps]
theorem maxB_step {st : List T} {j : Nat} (h : j < st.length) : max (maxB st j) (nthI (dl st) (st.length - j - 1)) = maxB st (j + 1) := by
  have h1 : st.length - j - 1 < st.length := by omega
  have h2 : nthI (dl st) (st.length - j - 1) = (st[st.length - j - 1].deep : Int) := by simp [nthI, dl, h1]
  have h3 : st.drop (st.length - (j + 1)) = st[st.length - j - 1] :: st.drop (st.length - j) := by
    rw [show st.length - (j + 1) = st.length - j - 1 by omega, List.drop_eq_getElem_cons h1, show st.length - j - 1 + 1 = st.length - j by omega]
  rw [h2, maxB, maxB, h3, T.deeps]
  omega
theorem maxB_le {st : List T} {j : Nat} : 0 ≤ maxB st j ∧ maxB st j ≤ (T.flats st).length := by
  have h1 := deeps_flat (st.drop (st.length - j))
  have h2 : (T.flats st).length = (T.flats (st.take (st.length - j))).length + (T.flats (st.drop (st.length - j))).length := by
    rw [← List.length_append, ← T.flats_append, List.take_append_drop]
  unfold maxB
  omega
theorem push_dl {st st' : List T} {n : Nd} (h : pushT st n = some st') : dl st' = (dl st).take (st.length - many n) ++ [maxB st (many n) + 1] ∧ T.deeps st ≤ T.deeps st' ∧ maxB st (many n) + 1 ≤ (T.deeps st' : Int) := by
  unfold pushT at h
  split at h
  · rename_i hc
    simp only [Bool.and_eq_true, decide_eq_true_eq] at hc
    obtain rfl := Option.some.inj h
    have hs : st = st.take (st.length - many n) ++ st.drop (st.length - many n) := (List.take_append_drop _ _).symm
    have h1 : T.deeps st = max (T.deeps (st.take (st.length - many n))) (T.deeps (st.drop (st.length - many n))) := by rw [← deeps_append, List.take_append_drop]
    refine ⟨?_, ?_, ?_⟩
    · simp [dl, maxB, deep_mk, List.map_take]
    · rw [deeps_append, h1]
      simp only [T.deeps, deep_mk]
      omega
    · rw [deeps_append]
      simp only [T.deeps, deep_mk, maxB]
      omega
  · cases h
theorem scan_deeps {t : List Nd} : ∀ {st st' : List T}, scanT st t = some st' → T.deeps st ≤ T.deeps st' := by
  induction t with
  | nil => intro st st' h; simp only [scanT] at h; obtain rfl := Option.some.inj h; exact Nat.le_refl _
  | cons n t ih =>
    intro st st' h
    simp only [scanT] at h
    cases hp : pushT st n with
    | none => simp [hp] at h
    | some s =>
      simp only [hp] at h
      exact Nat.le_trans (push_dl hp).2.1 (ih h)
def deepB (t : List Nd) : Bool := match scanT [] t with
  | some [x] => decide (60 < x.deep)
  | _ => false
theorem deepB_true {t : List Nd} {k : Nat} {st : List T} (hb : measB t = true) (h : scanT [] (t.take k) = some st) (hk : k < t.length) (hr : right (nth t k) = true) (hm : many (nth t k) ≤ st.length) (hd : 60 < maxB st (many (nth t k)) + 1) : deepB t = true := by
  obtain ⟨x, hs, _⟩ := measB_tree hb
  obtain ⟨st', hp, _⟩ := push_some hr hm
  have h1 := scan_step h hk
  rw [hp] at h1
  have h2 : scanT st' (t.drop (k + 1)) = some [x] := by
    have := hs
    rw [show t = t.take (k + 1) ++ t.drop (k + 1) from (List.take_append_drop _ _).symm, scanT_append, h1] at this
    simpa using this
  have h3 := scan_deeps h2
  have h4 := (push_dl hp).2.2
  unfold deepB
  rw [hs]
  simp only [T.deeps] at h3
  simp only [decide_eq_true_eq]
  omega
/-- All of the stack is no deeper than may be. -/
def shallow (st : List T) : Prop := ∀ x ∈ st, x.deep ≤ 60
theorem shallow_push {st st' : List T} {n : Nd} (h : pushT st n = some st') (hs : shallow st) (hd : ¬ 60 < maxB st (many n) + 1) : shallow st' := by
  unfold pushT at h
  split at h
  · obtain rfl := Option.some.inj h
    intro x hx
    rcases List.mem_append.1 hx with hx | hx
    · exact hs x (List.mem_of_mem_take hx)
    · rw [List.mem_singleton] at hx
      subst hx
      rw [deep_mk]
      unfold maxB at hd
      omega
  · cases h
theorem deepB_false {t : List Nd} {st : List T} (h : scanT [] t = some st) (hs : shallow st) : deepB t = false := by
  unfold deepB
  rw [h]
  match st, hs with
  | [], _ => rfl
  | [x], hs => simp [hs x (by simp)]
  | x :: y :: l, _ => rfl
theorem chk_whole {t : List Nd} (hl : t.length ≤ 4000) (h : measB t = true) : chk t = if deepB t = true then 22 else 0 := by
  obtain ⟨x, hs, _⟩ := measB_tree h
  unfold chk deepB
  rw [if_neg (by omega), hs]
  simp only [decide_eq_true_eq]
theorem whole_no {t : List Nd} {k : Nat} {st : List T} (h : scanT [] (t.take k) = some st) (hk : k < t.length) (hq : right (nth t k) = false ∨ ((st.length : Nat) : Int) < (((bindL (nth t k)).length : Nat) : Int)) : measB t = false := by
  refine (meas_bad (scan_none h hk (push_none ?_))).2
  rcases Bool.eq_false_or_eq_true (right (nth t k)) with hr | hr
  · rcases hq with h | h
    · exact .inl h
    · rw [bindL_many hr] at h
      exact .inr (by omega)
  · exact .inl hr
theorem measB_at {t : List Nd} {k : Nat} {st : List T} (hb : measB t = true) (h : scanT [] (t.take k) = some st) (hk : k < t.length) : right (nth t k) = true ∧ many (nth t k) ≤ st.length := by
  obtain ⟨x, hs, _⟩ := measB_tree hb
  cases hp : pushT st (nth t k) with
  | none => rw [scan_none h hk hp] at hs; cases hs
  | some s =>
    unfold pushT at hp
    split at hp
    · rename_i hc
      simp only [Bool.and_eq_true, decide_eq_true_eq] at hc
      exact hc
    · cases hp
theorem same_step {t u : List Nd} {k : Nat} (hi : t.take k = u.take k) (hk : k < t.length) (hu : k < u.length) (h : nth t k = nth u k) : t.take (k + 1) = u.take (k + 1) := by
  rw [take_nth hk, take_nth hu, hi, h]
theorem same_len {t u : List Nd} (h : ¬ t.length = u.length) : decide (t = u) = false := by
  rw [decide_eq_false_iff_not]
  rintro rfl
  exact h rfl
theorem same_no {t u : List Nd} {k : Nat} (hk : k < t.length) (hu : k < u.length) (h : ¬ nth t k = nth u k) : decide (t = u) = false := by
  rw [decide_eq_false_iff_not]
  rintro rfl
  exact h rfl
theorem same_end {t u : List Nd} {k : Nat} (hi : t.take k = u.take k) (hk : t.length ≤ k) (hu : u.length ≤ k) : decide (t = u) = true := by
  rw [List.take_of_length_le hk, List.take_of_length_le hu] at hi
  simpa using hi
def heavyB (b : Nat) (t : List Nd) : Bool := decide (b < t.length) || t.any fun n => decide (100 < n.S.size)
def lightTo (t : List Nd) (k : Nat) : Prop := ∀ i, i < k → (nth t i).S.size ≤ 100
theorem light_step {t : List Nd} {k : Nat} (hi : lightTo t k) (h : (nth t k).S.size ≤ 100) : lightTo t (k + 1) := fun i hik => by
  by_cases e : i = k
  · subst e; exact h
  · exact hi i (by omega)
theorem nth_mem {t : List Nd} {k : Nat} (h : k < t.length) : nth t k ∈ t := by
  have : nth t k = t[k] := by simp [nth, h]
  rw [this]
  exact List.getElem_mem h
theorem heavy_len {b : Nat} {t : List Nd} (h : b < t.length) : heavyB b t = true := by simp [heavyB, h]
theorem heavy_at {b : Nat} {t : List Nd} {k : Nat} (hk : k < t.length) (h : 100 < (nth t k).S.size) : heavyB b t = true := by
  unfold heavyB
  rw [Bool.or_eq_true, List.any_eq_true]
  exact .inr ⟨_, nth_mem hk, by simpa using h⟩
theorem heavy_no {b : Nat} {t : List Nd} {k : Nat} (hi : lightTo t k) (hk : t.length ≤ k) (hl : t.length ≤ b) : heavyB b t = false := by
  unfold heavyB
  rw [Bool.or_eq_false_iff]
  refine ⟨by simpa using hl, ?_⟩
  rw [List.any_eq_false]
  intro n hn
  obtain ⟨i, hlt, rfl⟩ := List.mem_iff_getElem.1 hn
  have := hi i (by omega)
  have e : nth t i = t[i] := by simp [nth, hlt]
  rw [e] at this
  simp
  omega
theorem heavy_false {b : Nat} {t : List Nd} (h : heavyB b t = false) : t.length ≤ b ∧ sml t := by
  unfold heavyB at h
  rw [Bool.or_eq_false_iff] at h
  refine ⟨by simpa using h.1, fun k hk => ?_⟩
  have := List.any_eq_false.1 h.2 _ (nth_mem hk)
  simp at this
  omega
theorem flat_step {p : List Sl} {k : Nat} (h : k < p.length) : (lsts (p.take (k + 1))).flatten = (lsts (p.take k)).flatten ++ (nthS p k).2.2 := by
  have e : p.take (k + 1) = p.take k ++ [nthS p k] := by
    rw [List.take_add_one, List.getElem?_eq_getElem h]
    simp [nthS, h]
  rw [e]
  simp only [lsts, List.map_append, List.flatten_append, List.map_cons, List.map_nil, List.flatten_cons, List.flatten_nil, List.append_nil]
theorem flat_le {p : List Sl} {k b : Nat} (hb : ∀ s ∈ p, s.2.2.length ≤ b) (h : k ≤ p.length) : (lsts (p.take k)).flatten.length ≤ k * b ∧ (nthS p k).2.2.length ≤ b := by
  constructor
  · induction k with
    | zero => simp [lsts]
    | succ k ih =>
      rw [flat_step (by omega), List.length_append, Nat.add_mul]
      have := ih (by omega)
      have := hb _ (nthS_mem (t := p) (k := k) (by omega))
      omega
  · by_cases hk : k < p.length
    · exact hb _ (nthS_mem hk)
    · have : nthS p k = slz := by simp [nthS, List.getD_eq_getElem?_getD, List.getElem?_eq_none (by omega : p.length ≤ k)]
      rw [this]
      simp [slz]
theorem sml_tick : sml [(⟨29, 0, 0, ⟨#[]⟩⟩ : Nd)] := fun k hk => by
  have : k = 0 := by simpa using hk
  subst this
  decide
theorem chk_tick : chk [(⟨29, 0, 0, ⟨#[]⟩⟩ : Nd)] = 0 := chk_ok.2 ⟨.mk ⟨29, 0, 0, ⟨#[]⟩⟩ [], by decide, by simp [T.flat, T.flats], by simp, by simp [T.deep, T.deeps]⟩
theorem chk_nat : chk [(⟨10, 0, 0, ⟨#[]⟩⟩ : Nd)] = 0 := chk_ok.2 ⟨.mk ⟨10, 0, 0, ⟨#[]⟩⟩ [], by decide, by simp [T.flat, T.flats], by simp, by simp [T.deep, T.deeps]⟩
theorem chk_v3 : chk [(⟨0, 3, 0, ⟨#[]⟩⟩ : Nd)] = 0 := chk_ok.2 ⟨.mk ⟨0, 3, 0, ⟨#[]⟩⟩ [], by decide, by simp [T.flat, T.flats], by simp, by simp [T.deep, T.deeps]⟩
theorem sml_nat : sml [(⟨10, 0, 0, ⟨#[]⟩⟩ : Nd)] := fun k hk => by
  have : k = 0 := by simpa using hk
  subst this
  decide
theorem sml_v3 : sml [(⟨0, 3, 0, ⟨#[]⟩⟩ : Nd)] := fun k hk => by
  have : k = 0 := by simpa using hk
  subst this
  decide
theorem nth_one (n : Nd) : nth [n] ([n].length - 1) = n := rfl
theorem root_tick : nth [(⟨29, 0, 0, ⟨#[]⟩⟩ : Nd)] 0 = ⟨29, 0, 0, ⟨#[]⟩⟩ := rfl
theorem root_nat : nth [(⟨10, 0, 0, ⟨#[]⟩⟩ : Nd)] 0 = ⟨10, 0, 0, ⟨#[]⟩⟩ := rfl
theorem root_v3 : nth [(⟨0, 3, 0, ⟨#[]⟩⟩ : Nd)] 0 = ⟨0, 3, 0, ⟨#[]⟩⟩ := rfl
theorem many_tick {n : Nd} (h : n.K = 29) : many n = 0 := by simp [many, binds, h, shp]
theorem tick_only {t : List Nd} (h : chk t = 0) : ¬ (nth t (t.length - 1)).K = 29 ∨ [(⟨29, 0, 0, ⟨#[]⟩⟩ : Nd)] = t := by
  by_cases hk : (nth t (t.length - 1)).K = 29
  · right
    obtain ⟨⟨n, l⟩, hw, rfl, _⟩ := chk_ok.1 h
    have hr : nth (T.mk n l).flat ((T.mk n l).flat.length - 1) = n := by simp [T.flat_mk, nth]
    rw [hr] at hk
    rw [T.wf_mk] at hw
    simp only [Bool.and_eq_true, beq_iff_eq] at hw
    have hm := many_tick hk
    rw [hm] at hw
    have hl : l = [] := List.eq_nil_of_length_eq_zero hw.1.2.symm
    subst hl
    have hp : plainB n = true := by rw [← right_plain (by omega) (by omega) (by omega)]; exact hw.1.1
    simp only [plainB, Bool.and_eq_true, decide_eq_true_eq] at hp
    obtain ⟨K, N, M, S⟩ := n
    obtain ⟨⟨h1, h2⟩, h3⟩ := hp
    simp only at hk h1 h2 h3
    subst hk h1 h2 h3
    simp [T.flat, T.flats]
  · exact .inl hk
end Go.Proofs.YtobgdeffhdefeaaDoor
/- Code in a round of a loop over a function. -/
namespace Go.Proofs.YtobgdeffhdefeaaDoor
set_option linter.unusedSimpArgs false
set_option linter.unusedVariables false
open Go Go.RowKit
/-- The fence of a round. -/
abbrev rI (l : Nat) : Fence := Fence.wide.inRound l
def notDefer (o : Oper) : Bool := match o.op with
  | .defer _ => false
  | _ => true
theorem notDefer_ne {o : Oper} (h : notDefer o = true) : ∀ c, o.op ≠ .defer c := fun c e => by
  unfold notDefer at h
  rw [e] at h
  cases h
/-- Nothing outgrows. -/
def NoOut (Q : Exit → Act → World → Prop) : Prop := ∀ a w, ¬ Q .outgrown a w
theorem out_then {K : Act → World → Prop} {Q : Exit → Act → World → Prop} (h : NoOut Q) : NoOut (Exit.then K Q) := fun a w hq => h a w hq
theorem out_block {id : Nat} {Q : Exit → Act → World → Prop} (h : NoOut Q) : NoOut (Exit.inBlock id Q) := fun a w hq => h a w hq
section
variable {P : Program} {ops : Array Oper} {Q : Exit → Act → World → Prop} {l : Nat} {n : Nat}
theorem oper_in {o : Oper} (hnd : notDefer o = true) {K K' : Act → World → Prop} (hK : ∀ a w, K a w → K' a w) {a : Act} {w : World} (h : o.wp P a w K Q) : o.wpIn (rI l) n P a w K' Q := by
  refine ⟨fun _ _ => trivial, ?_⟩
  rw [Oper.semAt_eq _ _ _ (notDefer_ne hnd)]
  unfold Oper.wp at h
  generalize (execOp a.eval o).run P w = r at *
  cases r with
  | ok x w' =>
    cases x with
    | value v => exact hK _ _ h
    | skip => exact hK _ _ h
    | defer d => exact hK _ _ h
    | enter f args =>
      refine ⟨(fun hd => by cases hd), CallsIn.inRound l (callsIn_wide.2 (Calls.mono h fun e w' he => ?_))⟩
      cases e with
      | returned v => exact hK _ _ he
      | panicked c => exact he
      | outgrown => exact he
    | row r args =>
      refine ⟨(fun hd => by cases hd), ?_⟩
      have h2 : RowsIn Fence.wide (n - 1) P r args w' fun v w'' => K' (a.put o.dst v) w'' := fun c cs _ => by
        obtain ⟨v, w'', hr, hs⟩ := Rows.mono h (fun v w'' he => hK _ _ he) c cs
        exact ⟨v, w'', hr, stepsIn_wide.2 hs⟩
      exact h2
    | _ => exact h.elim
  | halt x w' =>
    cases x with
    | panic v => exact h
    | _ => exact h.elim
theorem ops_in (hnd : ops.all notDefer = true) (hQ : NoOut Q) : ∀ (is : List Nat) (a : Act) (w : World), wpOps P ops Q is a w → wpOpsIn (rI l) n P ops Q is a w
  | [], _, _, h => h
  | i :: rest, a, w, h => by
    unfold wpOps at h
    unfold wpOpsIn
    cases ho : ops[i]? with
    | none => rw [ho] at h; exact ops_in hnd hQ rest a w h
    | some o =>
      rw [ho] at h
      simp only at h ⊢
      have hno : notDefer o = true := by
        rw [Array.all_eq_true] at hnd
        obtain ⟨hlt, hoe⟩ := Array.getElem?_eq_some_iff.1 ho
        rw [← hoe]
        exact hnd i hlt
      split
      · rename_i hw
        rw [if_pos hw] at h
        rcases h with h | ⟨_, a', w', hl⟩
        · exact oper_in hno (fun a w => ops_in hnd hQ rest a w) h
        · exact absurd hl (hQ a' w')
      · rename_i hw
        rw [if_neg hw] at h
        exact ⟨fun _ _ => trivial, ops_in hnd hQ rest _ w h⟩
end
section
variable {P : Program} {Q : Exit → Act → World → Prop} {a : Act} {w : World} {l n : Nat}
theorem wpOps_of_list {ops : Array Oper} : ∀ (k : Nat) (a : Act) (w : World), wpList P ops Q (ops.toList.drop k) a w → wpOps P ops Q ((List.range ops.size).drop k) a w := by
  intro k
  induction hd : ops.size - k generalizing k with
  | zero =>
    intro a w h
    rw [List.drop_eq_nil_of_le (by simp; omega)] at h
    rw [List.drop_eq_nil_of_le (by simp; omega)]
    exact h
  | succ m ih =>
    intro a w h
    have hk : k < ops.size := by omega
    have e1 : ops.toList.drop k = ops[k] :: ops.toList.drop (k + 1) := by
      rw [List.drop_eq_getElem_cons (by simpa using hk)]
      simp
    have e2 : (List.range ops.size).drop k = k :: (List.range ops.size).drop (k + 1) := by
      rw [List.drop_eq_getElem_cons (by simpa using hk)]
      simp
    rw [e1] at h
    rw [e2]
    unfold wpOps
    rw [Array.getElem?_eq_getElem hk]
    unfold wpList at h
    simp only
    split
    · rename_i hw
      rw [if_pos hw] at h
      exact h.imp (fun h => Oper.wp_mono (fun a w => ih (k + 1) (by omega) a w) h) id
    · rename_i hw
      rw [if_neg hw] at h
      exact ih (k + 1) (by omega) _ _ h
/-- A region in a round. -/
theorem ci_region {id : Nat} {ls : List Oper} (hnd : ls.toArray.all notDefer = true) (hQ : NoOut Q) (h : wpList P ls.toArray Q ls a w) : (Code.region id ls.toArray false).wpIn (rI l) n P Q a w :=
  wpIn_region (ops_in hnd hQ _ _ _ (by have := wpOps_of_list (P := P) (ops := ls.toArray) (Q := Q) 0 a w (by simpa using h); simpa using this))
/-- A region in a round that draws its order. -/
theorem di_region2 {ops : Array Oper} {S : World → Prop} {w0 : World} {Z M : Nat → Prop} {m : List Res} {ds : List Dat}
    {id k : Nat} (hm : P.follows .mixedOrders = true) (hn : ops.size = k) (hnd : ops.all notDefer = true) (hS : St w0 Z M w m ds) (hp : PanOK Q) (hQ : NoOut Q)
    (h : ∀ (Q' : Exit → Act → World → Prop), PanOK Q' → (∀ a w, Q .normal a w → Q' .normal a w) → ∀ w', St w0 Z M w' m ds → wpAnyH P .any ops Q' S k (Array.replicate k false) a w') : (Code.region id ops true).wpIn (rI l) n P Q a w := by
  refine wpIn_region_draw fun t => ops_in hnd hQ _ _ _ ?_
  simp only [Region.schedule, hm, Bool.true_or, if_true]
  refine wpAny_sound ops.size t _ a _ (wpAny_of_held (S := S) _ _ _ _ ?_)
  subst hn
  exact h Q hp (fun _ _ h => h) _ hS.drew
theorem ci_join {x y : Code} (I : Act → World → Prop) (h : x.wpIn (rI l) n P (Exit.then I Q) a w) (k : ∀ a w, I a w → y.wpIn (rI l) n P Q a w) : (Code.seq x y).wpIn (rI l) n P Q a w :=
  wpIn_seq (wpIn_mono h fun e a w he => by
    cases e with
    | normal => exact k _ _ he
    | _ => exact he)
end
end Go.Proofs.YtobgdeffhdefeaaDoor
/- Iterators: what they hand to whatever loop; the call of yield. -/
namespace Go.Proofs.YtobgdeffhdefeaaDoor
set_option linter.unusedSimpArgs false
set_option linter.unusedVariables false
open Go Go.RowKit
/-- What may have changed of what a caller has, between two worlds: C: what it leans on; Mc: what it may change. -/
structure Chg (C Mc : Nat → Prop) (W W' : World) (C' Mc' : Nat → Prop) : Prop where
  os : W'.os = W.os
  tape : W'.tape = W.tape
  output : W'.output = W.output
  size : W.heap.size ≤ W'.heap.size
  old : ∀ k, k < W.heap.size → ¬ Mc k → W'.heap[k]? = W.heap[k]?
  c : ∀ k, C' k → C k ∨ W.heap.size ≤ k
  m : ∀ k, Mc' k → Mc k ∨ W.heap.size ≤ k
/-- A caller's invariant: of what has come, of the world, of what it leans on and may change. -/
structure JF (α : Type) where
  J : List α → World → (Nat → Prop) → (Nat → Prop) → Prop
  abide : ∀ s W W' C Mc, J s W C Mc → W.heap.size ≤ W'.heap.size → (∀ k, C k → W'.heap[k]? = W.heap[k]?) → J s W' C Mc
  sub : ∀ s W C Mc, J s W C Mc → (∀ k, Mc k → C k) ∧ (∀ k, C k → k < W.heap.size)
/-- Of what is not the heap nothing has changed. -/
def SameOs (W W' : World) : Prop := W'.os = W.os ∧ W'.tape = W.tape ∧ W'.output = W.output
/-- AN ITERATOR's CONTRACT: it hands the elements of xs in their order to whatever round, till one says no. -/
def Yields {α : Type} (P : Program) (g : Nat) (lb : Array Value) (encs : α → Array Value) (xs : List α) (Zd : Nat → Prop) (W0 : World) : Prop :=
  ∀ (l : Nat) (jf jx : JF α) (W : World) (C Mc : Nat → Prop), W0.heap.size ≤ W.heap.size → (∀ k, Zd k → W.heap[k]? = W0.heap[k]?) → (∀ k, Zd k → k < W.heap.size ∧ ¬ Mc k) →
    jf.J [] W C Mc →
    (∀ pre x W1 C1 M1, jf.J pre W1 C1 M1 → SameOs W W1 → pre ++ [x] <+: xs → YieldAt Fence.wide 0 P l (encs x) W1 fun e W' => ∃ C' M', Chg C1 M1 W1 W' C' M' ∧
      ((e = .returned (.bool true) ∧ jf.J (pre ++ [x]) W' C' M') ∨ (e = .returned (.bool false) ∧ jx.J (pre ++ [x]) W' C' M'))) →
    CallsIn Fence.wide 0 P g (#[.func (.yield l) #[] #[]] ++ lb) W fun e W' => (∃ v, e = .returned v) ∧ ∃ C' M', Chg C Mc W W' C' M' ∧
      (jf.J xs W' C' M' ∨ ∃ pre, pre <+: xs ∧ jx.J pre W' C' M')
/-- The caller's invariant as a datum of the iterator's walk. -/
def dJ {α : Type} (jf : JF α) (s : List α) (C0 M0 : Nat → Prop) (s0 : Nat) : Dat :=
  ⟨fun w I => ∃ C Mc, jf.J s w C Mc ∧ (∀ k, C k → I k) ∧ (∀ k, C k → C0 k ∨ s0 ≤ k) ∧ (∀ k, Mc k → M0 k ∨ s0 ≤ k), fun w w' I I' hs h hk => by
    obtain ⟨C, Mc, h1, h2, h3, h4⟩ := h
    exact ⟨C, Mc, jf.abide s w w' C Mc h1 hs (fun k hC => (hk k (h2 k hC)).2), fun k hC => (hk k (h2 k hC)).1, h3, h4⟩⟩
section
variable {P : Program} {ops : Array Oper} {Q : Exit → Act → World → Prop} {rest : List Oper} {o : Oper} {a : Act} {w w0 : World} {N : Nat} {ls : List (Nat × Value)} {d : Nat} {m : List Res} {ds ds0 : List Dat}
theorem run_yieldcall {o : Oper} {xs : List Operand} {ts : Array TypeId} {vs : List Value} {lp : Nat} {t : Operand} {r : Result Next} (hR : Reg a N ls) (ho : o.op = .call { callee := .value t, args := xs.toArray, argTypes := ts })
    (ht : ev ls t = some (.func (.yield lp) #[] #[])) (hx : evs ls xs = some vs) (hy : (Instr.yield lp vs.toArray).run P w = r) : (execOp a.eval o).run P w = r := by
  have hm : xs.toArray.map a.eval = vs.toArray := by rw [← hR.evs hx]; simp
  unfold execOp
  rw [ho]
  simp only [resolve, hm, hR.ev ht, Deferred.ofValue, Sem.run_bind, Sem.run_pure, Result.andThen_ok, invoke, Array.append_empty, Array.empty_append]
  exact hy
/-- What the walk of an iterator keeps from the start: where it began, and what data its caller gave. -/
structure Ys {α : Type} (P : Program) (lp : Nat) (encs : α → Array Value) (xs : List α) (jf jx : JF α) (w0 : World) (C0 M0 Zd : Nat → Prop) : Prop where
  zd : ∀ k, Zd k → k < w0.heap.size ∧ ¬ M0 k
  c0 : ∀ k, C0 k → k < w0.heap.size
  y : ∀ pre x W1 C1 M1, jf.J pre W1 C1 M1 → SameOs w0 W1 → pre ++ [x] <+: xs → YieldAt Fence.wide 0 P lp (encs x) W1 fun e W' => ∃ C' M', Chg C1 M1 W1 W' C' M' ∧
      ((e = .returned (.bool true) ∧ jf.J (pre ++ [x]) W' C' M') ∨ (e = .returned (.bool false) ∧ jx.J (pre ++ [x]) W' C' M'))
/-- The blocks that lay where a walk began. -/
abbrev oldB (w0 : World) : Nat → Prop := fun k => k < w0.heap.size
theorem st_yield_next {α : Type} {jf jf' : JF α} {pre pre' : List α} {C0 M0 Zd : Nat → Prop} {w' : World} {C1 M1 C' M' : Nat → Prop} (hS : St w0 (oldB w0) M0 w m ds)
    (hC : ∀ k, C1 k → imm (oldB w0) w0 m w k) (h0 : ∀ k, C1 k → C0 k ∨ w0.heap.size ≤ k) (h1 : ∀ k, M1 k → M0 k ∨ w0.heap.size ≤ k) (hMC : ∀ k, M1 k → C1 k)
    (hc : Chg C1 M1 w w' C' M') (hj' : jf'.J pre' w' C' M')
    (hz : ∀ k, Zd k → k < w0.heap.size ∧ ¬ M0 k) (hds : ∀ d ∈ ds0, d.φ w0 Zd) : St w0 (oldB w0) M0 w' m (dJ jf' pre' C0 M0 w0.heap.size :: ds0) := by
  have hown : ∀ r ∈ m, ∀ k, r.blk = some k → w'.heap[k]? = w.heap[k]? := fun r hr k e => by
    refine hc.old k (hS.own r hr k e).1 (fun hM => ?_)
    exact (hC k (hMC k hM)).2.2 r hr e
  have hhold : ∀ r ∈ m, r.holds w' := fun r hr => by
    have hh := hS.hold r hr
    cases r with
    | box g t cs => exact (hown _ hr g rfl).trans hh
    | row A n cap e size xs =>
      refine ⟨hh.1, ?_⟩
      rcases hh.2 with q1 | ⟨g, cap', cur, hv, q1, q2, q3⟩
      · exact .inl q1
      · refine .inr ⟨g, cap', cur, hv, q1, ?_, q3⟩
        have hA : A = some ⟨g, 0, none⟩ := by injection hv
        exact (hown _ hr g (by simp [Res.blk, hA])).trans q2
  have hold : ∀ k, k < w0.heap.size → ¬ M0 k → w'.heap[k]? = w0.heap[k]? := fun k hk hM => by
    refine (hc.old k (Nat.lt_of_lt_of_le hk hS.size) (fun hM1 => ?_)).trans (hS.old k hk hM)
    rcases h1 k hM1 with q | q
    · exact hM q
    · omega
  refine ⟨hc.os.trans hS.os, hc.tape.trans hS.tape, hc.output.trans hS.output, Nat.le_trans hS.size hc.size, hold, hhold,
    fun r hr k e => ⟨Nat.lt_of_lt_of_le (hS.own r hr k e).1 hc.size, (hS.own r hr k e).2⟩, hS.apart, fun d hd => ?_⟩
  rcases List.mem_cons.1 hd with rfl | hd
  · refine ⟨C', M', hj', fun k hk => ⟨(jf'.sub _ _ _ _ hj').2 k hk, fun hlt => hlt, fun r hr e => ?_⟩, fun k hk => ?_, fun k hk => ?_⟩
    · rcases hc.c k hk with q | q
      · exact (hC k q).2.2 r hr e
      · have := (hS.own r hr k e).1
        omega
    · rcases hc.c k hk with q | q
      · exact h0 k q
      · exact .inr (Nat.le_trans hS.size q)
    · rcases hc.m k hk with q | q
      · exact h1 k q
      · exact .inr (Nat.le_trans hS.size q)
  · refine d.mono _ _ _ _ (Nat.le_trans hS.size hc.size) (hds d hd) fun k hk => ⟨⟨Nat.lt_of_lt_of_le (hz k hk).1 (Nat.le_trans hS.size hc.size), fun _ => (hz k hk).1, fun r hr e => ?_⟩, hold k (hz k hk).1 (hz k hk).2⟩
    rcases (hS.own r hr k e).2 with q | q
    · have := (hz k hk).1
      omega
    · exact (hz k hk).2 q
/-- A call of yield, in a list of operations. -/
theorem y_call {α : Type} {ro : Option Nat} {lp : Nat} {encs : α → Array Value} {xl : List α} {jf jx : JF α} {C0 M0 Zd : Nat → Prop} {t : Operand} {xs : List Operand} {ts : Array TypeId} {vs : List Value} {pre : List α} {i : Nat}
    (hY : Ys P lp encs xl jf jx w0 C0 M0 Zd) (hg : o.guard = none) (hR : Reg a N ls) (hS : St w0 (oldB w0) M0 w m ds) (hd : o.dst = some d)
    (ho : o.op = .call { callee := .value t, args := xs.toArray, argTypes := ts }) (ht : ev ls t = some (.func (.yield lp) #[] #[])) (hx : evs ls xs = some vs) (hdN : d < N)
    (x : α) (he : vs.toArray = encs x) (hi : ds[i]? = some (dJ jf pre C0 M0 w0.heap.size)) (hp : pre ++ [x] <+: xl) (hds : ∀ d ∈ ds0, d.φ w0 Zd)
    (kt : ∀ a' w', Reg a' N ((d, .bool true) :: ls) → St w0 (oldB w0) M0 w' m (dJ jf (pre ++ [x]) C0 M0 w0.heap.size :: ds0) → wpListIn (wf ro) 0 P ops Q rest a' w')
    (kf : ∀ a' w', Reg a' N ((d, .bool false) :: ls) → St w0 (oldB w0) M0 w' m (dJ jx (pre ++ [x]) C0 M0 w0.heap.size :: ds0) → wpListIn (wf ro) 0 P ops Q rest a' w') :
    wpListIn (wf ro) 0 P ops Q (o :: rest) a w := by
  obtain ⟨C1, M1, hj, hC, h0, h1⟩ := hS.get hi
  obtain ⟨fn, tmps, assign, body, hrun, hround⟩ := hY.y pre x w C1 M1 hj ⟨hS.os, hS.tape, hS.output⟩ hp
  rw [← he] at hrun
  have hrun' := run_yieldcall hR ho ht hx hrun
  have hnd : ∀ c, o.op ≠ .defer c := fun c e => by rw [ho] at e; cases e
  unfold wpListIn
  rw [if_pos (by simp [Region.wanted, hg])]
  refine ⟨fun _ _ => trivial, ?_⟩
  rw [Oper.semAt_eq _ _ _ hnd, hrun']
  refine ⟨fun hd => by simp [wf, Fence.wide] at hd, ?_⟩
  have hround' : RoundIn (wf ro) 0 P lp fn tmps assign body w fun e W' => ∃ C' M', Chg C1 M1 w W' C' M' ∧
      ((e = .returned (.bool true) ∧ jf.J (pre ++ [x]) W' C' M') ∨ (e = .returned (.bool false) ∧ jx.J (pre ++ [x]) W' C' M')) := by
    cases ro <;> exact hround
  refine hround'.mono ?_
  rintro e W' ⟨C', M', hc, ⟨rfl, hj'⟩ | ⟨rfl, hj'⟩⟩
  · rw [hd]
    exact kt _ _ (hR.put hdN _) (st_yield_next (jf := jf) (pre := pre) hS hC h0 h1 (jf.sub _ _ _ _ hj).1 hc hj' hY.zd hds)
  · rw [hd]
    exact kf _ _ (hR.put hdN _) (st_yield_next (jf := jf) (pre := pre) hS hC h0 h1 (jf.sub _ _ _ _ hj).1 hc hj' hY.zd hds)
end
end Go.Proofs.YtobgdeffhdefeaaDoor
/- A loop over an iterator: the caller's law. -/
namespace Go.Proofs.YtobgdeffhdefeaaDoor
set_option linter.unusedSimpArgs false
set_option linter.unusedVariables false
open Go Go.RowKit
def ownB (m : List Res) (k : Nat) : Prop := ∃ r ∈ m, r.blk = some k
/-- What a caller has between two rounds: I0: what nobody changes; wl: where the loop began, with m0. -/
structure CSt (w0 : World) (M I0 : Nat → Prop) (wl : World) (m0 : List Res) (W : World) (m : List Res) (ds : List Dat) : Prop where
  hold : ∀ r ∈ m, r.holds W
  own : ∀ r ∈ m, ∀ k, r.blk = some k → k < W.heap.size ∧ ¬ I0 k ∧ (w0.heap.size ≤ k ∨ M k) ∧ (ownB m0 k ∨ wl.heap.size ≤ k)
  apart : m.Pairwise fun r s => ∀ k, r.blk = some k → s.blk ≠ some k
  dat : ∀ d ∈ ds, d.φ W I0
  low : ∀ k, k < wl.heap.size → k < W.heap.size
  old : ∀ k, k < wl.heap.size → ¬ ownB m0 k → W.heap[k]? = wl.heap[k]?
theorem Res.cells_at {r : Res} {w : World} {k : Nat} (h : r.holds w) (hk : r.blk = some k) : ∃ cs t fz, w.heap[k]? = some (.cells cs t fz) := by
  cases r with
  | box g t cs =>
    have : g = k := by simpa [Res.blk] using hk
    subst this
    exact ⟨_, _, _, h⟩
  | row A n cap e size xs =>
    rcases h.2 with ⟨q1, _⟩ | ⟨g, cap', cur, hv, _, q2, _⟩
    · have : A = none := by injection q1
      subst this
      cases hk
    · have hA : A = some ⟨g, 0, none⟩ := by injection hv
      subst hA
      have : g = k := by simpa [Res.blk] using hk
      subst this
      exact ⟨_, _, _, q2⟩
theorem Res.holds_keep {r : Res} {w w' : World} (h : r.holds w) (hk : ∀ k, r.blk = some k → w'.heap[k]? = w.heap[k]?) : r.holds w' := by
  cases r with
  | box g t cs => exact (hk g rfl).trans h
  | row A n cap e size xs =>
    refine ⟨h.1, ?_⟩
    rcases h.2 with q1 | ⟨g, cap', cur, hv, q1, q2, q3⟩
    · exact .inl q1
    · refine .inr ⟨g, cap', cur, hv, q1, ?_, q3⟩
      have hA : A = some ⟨g, 0, none⟩ := by injection hv
      exact (hk g (by simp [Res.blk, hA])).trans q2
theorem lt_keep {w w' : World} {k : Nat} (h : k < w.heap.size) (hk : w'.heap[k]? = w.heap[k]?) : k < w'.heap.size := by
  rw [Array.getElem?_eq_getElem h] at hk
  exact (Array.getElem?_eq_some_iff.1 hk).1
section
variable {I0 : Nat → Prop} {W W' w w0 wl : World} {m m' m0 : List Res} {ds ds' : List Dat} {Z M : Nat → Prop}
theorem CSt.keep (h : CSt w0 M I0 wl m0 W m ds) (hs : W.heap.size ≤ W'.heap.size) (hI0 : ∀ k, I0 k → k < wl.heap.size) (hI : ∀ k, k < wl.heap.size → W'.heap[k]? = W.heap[k]?) (hm : ∀ k, ownB m k → W'.heap[k]? = W.heap[k]?) : CSt w0 M I0 wl m0 W' m ds :=
  ⟨fun r hr => Res.holds_keep (h.hold r hr) (fun k e => hm k ⟨r, hr, e⟩), fun r hr k e => ⟨lt_keep (h.own r hr k e).1 (hm k ⟨r, hr, e⟩), (h.own r hr k e).2⟩, h.apart,
    fun d hd => d.mono _ _ _ _ hs (h.dat d hd) (fun k hk => ⟨hk, hI k (hI0 k hk)⟩), fun k hk => lt_keep (h.low k hk) (hI k hk), fun k hk hn => (hI k hk).trans (h.old k hk hn)⟩
/-- Where a round, or a part of one, begins. -/
theorem CSt.st (h : CSt w0 M (imm Z w0 m0 wl) wl m0 W m ds) (hl : St w0 Z M wl m0 ds') (ho : SameOs wl W) (hsz : wl.heap.size ≤ W.heap.size) : St w0 Z M W m (ds ++ [dAg W (imm Z w0 m W)]) := by
  have hI : ∀ k, imm Z w0 m0 wl k → imm Z w0 m W k := fun k hk => ⟨h.low k hk.1, hk.2.1, fun r hr e => (h.own r hr k e).2.1 hk⟩
  refine ⟨ho.1.trans hl.os, ho.2.1.trans hl.tape, ho.2.2.trans hl.output, Nat.le_trans hl.size hsz, fun k hk hM => ?_, h.hold, fun r hr k e => ⟨(h.own r hr k e).1, (h.own r hr k e).2.2.1⟩, h.apart, fun d hd => ?_⟩
  · refine (h.old k (Nat.lt_of_lt_of_le hk hl.size) (fun ⟨r, hr, e⟩ => ?_)).trans (hl.old k hk hM)
    rcases (hl.own r hr k e).2 with q | q
    · omega
    · exact hM q
  · rcases List.mem_append.1 hd with hd | hd
    · exact d.mono _ _ _ _ (Nat.le_refl _) (h.dat d hd) (fun k hk => ⟨hI k hk, rfl⟩)
    · rw [List.mem_singleton] at hd
      subst hd
      exact ⟨Nat.le_refl _, fun k hk => ⟨hk, rfl⟩⟩
/-- What a part of a round has changed. -/
theorem CSt.chg (hS : St w0 Z M W m ds) (hS' : St w0 Z M W' m' ds') {i : Nat} (hi : ds'[i]? = some (dAg W (imm Z w0 m W))) (hM : ∀ k, M k → ownB m k) :
    (∀ k, k < W.heap.size → ¬ ownB m k → W'.heap[k]? = W.heap[k]?) ∧ (∀ k, ownB m' k → ownB m k ∨ W.heap.size ≤ k) ∧ W.heap.size ≤ W'.heap.size := by
  have hag := hS'.get hi
  have him : ∀ k, k < W.heap.size → ¬ ownB m k → (k < w0.heap.size → Z k) → imm Z w0 m W k := fun k h1 h2 h3 => ⟨h1, h3, fun r hr e => h2 ⟨r, hr, e⟩⟩
  have h1 : ∀ k, k < W.heap.size → ¬ ownB m k → W'.heap[k]? = W.heap[k]? := fun k hk hn => by
    by_cases hq : k < w0.heap.size
    · have hMk : ¬ M k := fun q => hn (hM k q)
      exact (hS'.old k hq hMk).trans (hS.old k hq hMk).symm
    · exact (hag.2 k (him k hk hn (fun q => absurd q hq))).2
  refine ⟨h1, fun k ⟨r, hr, e⟩ => ?_, ?_⟩
  · by_cases hn : ownB m k
    · exact .inl hn
    · right
      refine Nat.le_of_not_lt fun hk => ?_
      rcases (hS'.own r hr k e).2 with q | q
      · exact (hag.2 k (him k hk hn (fun q' => by omega))).1.2.2 r hr e
      · exact hn (hM k q)
  · exact hag.1
end
/-- The mark of a loop over a function: the block for the rounds' deferred calls. -/
def dMark (B D : Nat) : Dat := ⟨fun w I => B ≤ D ∧ I D ∧ w.heap[D]? = some (.deferred (some [])), fun _ _ _ _ _ h hk => ⟨h.1, (hk D h.2.1).1, (hk D h.2.1).2.trans h.2.2⟩⟩
abbrev mark (D : Nat) : Deferred := { target := .collected D, args := #[] }
/-- How a round's body is left. -/
def rPost {α : Type} (Inv : List α → List Res → Prop) (Ix : Code → List α → List Res → Prop) (w0 : World) (Z M : Nat → Prop) (s : List α) (W : World) (m : List Res) : Exit → Act → World → Prop
  | .normal, _, W' => ∃ (m3 : List Res) (ds3 : List Dat) (i : Nat), St w0 Z M W' m3 ds3 ∧ ds3[i]? = some (dAg W (imm Z w0 m W)) ∧ Inv s m3
  | .ret, _, W' => ∃ (m3 : List Res) (ds3 : List Dat) (i : Nat), St w0 Z M W' m3 ds3 ∧ ds3[i]? = some (dAg W (imm Z w0 m W)) ∧ Ix .ret s m3
  | .exit id, _, W' => ∃ (m3 : List Res) (ds3 : List Dat) (i : Nat), St w0 Z M W' m3 ds3 ∧ ds3[i]? = some (dAg W (imm Z w0 m W)) ∧ Ix (.exit id) s m3
  | .goto t, _, W' => ∃ (m3 : List Res) (ds3 : List Dat) (i : Nat), St w0 Z M W' m3 ds3 ∧ ds3[i]? = some (dAg W (imm Z w0 m W)) ∧ Ix (.goto t) s m3
  | .panic _, _, _ => False
  | .outgrown, _, _ => False
theorem out_rPost {α : Type} {Inv : List α → List Res → Prop} {Ix : Code → List α → List Res → Prop} {w0 : World} {Z M : Nat → Prop} {s : List α} {W : World} {m : List Res} : NoOut (rPost Inv Ix w0 Z M s W m) := fun _ _ h => h
theorem pan_rPost {α : Type} {Inv : List α → List Res → Prop} {Ix : Code → List α → List Res → Prop} {w0 : World} {Z M : Nat → Prop} {s : List α} {W : World} {m : List Res} : PanOK (rPost Inv Ix w0 Z M s W m) := fun _ _ _ _ _ h => h
/-- The invariant, with the loop's own two blocks beside it. -/
def rJ {α γ : Type} (K : γ → List α → List Res → Prop) (w0 : World) (Z M : Nat → Prop) (wl : World) (m0 : List Res) (ds : List Dat) (l D : Nat) (o : γ → Obj) : JF α where
  J s W C Mc := ∃ c m1, K c s m1 ∧ CSt w0 M (imm Z w0 m0 wl) wl m0 W m1 ds ∧ wl.heap.size ≤ W.heap.size ∧ W.heap[l]? = some (o c) ∧ W.heap[D]? = some (.deferred (some [])) ∧ C = (fun k => k < wl.heap.size ∨ ownB m1 k ∨ k = l ∨ k = D) ∧ Mc = (fun k => ownB m1 k ∨ k = l)
  abide s W W' C Mc h hs hk := by
    obtain ⟨c, m1, h1, h2, h5, h3, h4, rfl, rfl⟩ := h
    exact ⟨c, m1, h1, h2.keep hs (fun k q => q.1) (fun k q => hk k (.inl q)) (fun k q => hk k (.inr (.inl q))), Nat.le_trans h5 hs, (hk l (.inr (.inr (.inl rfl)))).trans h3, (hk D (.inr (.inr (.inr rfl)))).trans h4, rfl, rfl⟩
  sub s W C Mc h := by
    obtain ⟨c, m1, h1, h2, h5, h3, h4, rfl, rfl⟩ := h
    refine ⟨fun k q => ?_, fun k q => ?_⟩
    · rcases q with q | q
      · exact .inr (.inl q)
      · exact .inr (.inr (.inl q))
    · rcases q with q | ⟨r, hr, e⟩ | rfl | rfl
      · exact h2.low k q
      · exact (h2.own r hr k e).1
      · exact (Array.getElem?_eq_some_iff.1 h3).1
      · exact (Array.getElem?_eq_some_iff.1 h4).1
theorem own_ne {W : World} {m : List Res} {l : Nat} {o : Obj} (hm : ∀ r ∈ m, r.holds W) (h : W.heap[l]? = some o) (ho : ∀ cs t fz, o ≠ .cells cs t fz) : ¬ ownB m l := fun ⟨r, hr, e⟩ => by
  obtain ⟨cs, t, fz, hc⟩ := Res.cells_at (hm r hr) e
  rw [h] at hc
  exact ho _ _ _ (Option.some.inj hc)
/-- Behind a part of a round. -/
theorem CSt.back {w0 wl W W' : World} {Z M : Nat → Prop} {m0 m m' : List Res} {ds ds' : List Dat} (h : CSt w0 M (imm Z w0 m0 wl) wl m0 W m ds) (hS' : St w0 Z M W' m' ds') (hlz : wl.heap.size ≤ W.heap.size)
    (h1 : ∀ k, k < W.heap.size → ¬ ownB m k → W'.heap[k]? = W.heap[k]?) (h2 : ∀ k, ownB m' k → ownB m k ∨ W.heap.size ≤ k) (h3 : W.heap.size ≤ W'.heap.size) : CSt w0 M (imm Z w0 m0 wl) wl m0 W' m' ds := by
  have hI : ∀ k, imm Z w0 m0 wl k → W'.heap[k]? = W.heap[k]? := fun k hk => h1 k (h.low k hk.1) (fun ⟨r, hr, e⟩ => (h.own r hr k e).2.1 hk)
  refine ⟨hS'.hold, fun r hr k e => ⟨(hS'.own r hr k e).1, fun hk => ?_, (hS'.own r hr k e).2, ?_⟩, hS'.apart, fun d hd => d.mono _ _ _ _ h3 (h.dat d hd) (fun k hk => ⟨hk, hI k hk⟩), fun k hk => Nat.lt_of_lt_of_le (h.low k hk) h3, fun k hk hn => ?_⟩
  · rcases h2 k ⟨r, hr, e⟩ with ⟨r', hr', e'⟩ | q
    · exact (h.own r' hr' k e').2.1 hk
    · have := h.low k hk.1
      omega
  · rcases h2 k ⟨r, hr, e⟩ with ⟨r', hr', e'⟩ | q
    · exact (h.own r' hr' k e').2.2.2
    · exact .inr (Nat.le_trans hlz q)
  · refine (h1 k (h.low k hk) (fun ⟨r, hr, e⟩ => ?_)).trans (h.old k hk hn)
    rcases (h.own r hr k e).2.2.2 with q | q
    · exact hn q
    · omega
theorem St.cst {w0 wl : World} {Z M : Nat → Prop} {m : List Res} {ds : List Dat} (h : St w0 Z M wl m ds) : CSt w0 M (imm Z w0 m wl) wl m wl m ds :=
  ⟨h.hold, fun r hr k e => ⟨(h.own r hr k e).1, fun hk => hk.2.2 r hr e, (h.own r hr k e).2, .inl ⟨r, hr, e⟩⟩, h.apart, h.dat, fun _ hk => hk, fun _ _ _ => rfl⟩
end Go.Proofs.YtobgdeffhdefeaaDoor
/- The law of a loop over an iterator. -/
namespace Go.Proofs.YtobgdeffhdefeaaDoor
set_option linter.unusedSimpArgs false
set_option linter.unusedVariables false
open Go Go.RowKit
/-- A round's resources behind the assignment to the loop's variables, and the body from there. -/
def rBody {α : Type} (P : Program) (l : Nat) (body : Code) (Inv : List α → List Res → Prop) (Ix : Code → List α → List Res → Prop) (w0 : World) (Z M : Nat → Prop) (ds : List Dat) (s : List α) (W : World) (m1 : List Res) (a1 : Act) (W1 : World) : Prop :=
  ∃ (m2 : List Res) (ds2 : List Dat) (i : Nat), St w0 Z M W1 m2 ds2 ∧ ds2[i]? = some (dAg W (imm Z w0 m1 W)) ∧ (∀ k, M k → ownB m1 k) ∧ (∀ k, M k → ownB m2 k) ∧
    ∀ W2, St w0 Z M W2 m2 (ds ++ [dAg W2 (imm Z w0 m2 W2)]) → body.wpIn (rI l) 0 P (rPost Inv Ix w0 Z M s W2 m2) a1 W2
theorem loop_ne {r : Loop} : ∀ cs t fz, (Obj.loop r) ≠ .cells cs t fz := fun _ _ _ h => by cases h
theorem def_ne {r : Option (List Deferred)} : ∀ cs t fz, (Obj.deferred r) ≠ .cells cs t fz := fun _ _ _ h => by cases h
section
variable {P : Program}
theorem w_range {α : Type} {g : Operand} {ps : Array Tmp} {assign body : Code} {Q : Exit → Act → World → Prop} {a : Act} {w w0 : World} {Z M Zd : Nat → Prop} {m : List Res} {ds : List Dat} {gf : Nat} {lb : Array Value} {encs : α → Array Value} {xs : List α}
    (hg : a.eval g = .func (.func gf) #[] lb) (hok : FOK P gf) (hseq : Yields P gf lb encs xs Zd w) (hps : ∀ x, (encs x).size = ps.size)
    (hS : St w0 Z M w m ds) (hZd : ∀ k, Zd k → imm Z w0 m w k) (Inv : List α → List Res → Prop) (Ix : Code → List α → List Res → Prop) (h0 : Inv [] m)
    (hround : ∀ (l : Nat) (pre : List α) (x : α) (W : World) (m1 : List Res), pre ++ [x] <+: xs → Inv pre m1 → St w0 Z M W m1 (ds ++ [dAg W (imm Z w0 m1 W)]) →
      assign.wpIn (rI l) 0 P (Exit.then (rBody P l body Inv Ix w0 Z M ds (pre ++ [x]) W m1) (fun _ _ _ => False)) { tmps := (ps.zip (encs x)).foldl (fun t (p, v) => t.setIfInBounds p v) a.tmps, defers := [] } W)
    (hdone : ∀ (D : Nat) (m' : List Res) (W : World), Inv xs m' → St w0 Z M W m' (ds ++ [dMark w0.heap.size D]) → Q .normal { a with defers := mark D :: a.defers } W)
    (hstop : ∀ (D : Nat) (c : Code) (pre : List α) (m' : List Res) (W : World), pre <+: xs → Ix c pre m' → St w0 Z M W m' (ds ++ [dMark w0.heap.size D]) → c.wp P Q { a with defers := mark D :: a.defers } W) :
    (Code.rangeFunc g ps assign body).wp P Q a w := by
  refine (wpIn_wide (n := 0)).1 (wpIn_rangeFunc ?_)
  intro fn _
  obtain ⟨rec, hrec⟩ : ∃ rec : LoopState → Option Code → Loop, rec = fun st pe => { state := st, pending := pe, fn, tmps := a.tmps, params := ps, assign, body, defers := w.heap.size } := ⟨_, rfl⟩
  obtain ⟨W1, hW1⟩ : ∃ W1, (w.alloc (.deferred (some []))).alloc (.loop (rec .ready none)) = W1 := ⟨_, rfl⟩
  have hsz1 : W1.heap.size = w.heap.size + 2 := by rw [← hW1]; simp
  have hL1 : W1.heap[w.heap.size + 1]? = some (.loop (rec .ready none)) := by
    rw [← hW1]; have := World.alloc_heap_new (w.alloc (.deferred (some []))) (.loop (rec .ready none)); rwa [World.size_alloc] at this
  have hK1 : W1.heap[w.heap.size]? = some (.deferred (some [])) := by
    rw [← hW1]; exact (Below.heap_alloc _ _ _ (by simp)).trans (World.alloc_heap_new w _)
  have hb1 : Below w.heap.size w W1 := by
    rw [← hW1]; exact (((Below.refl _ w).alloc (Nat.le_refl _) _).alloc (by simp) _)
  have hold1 : ∀ k, k < w.heap.size → W1.heap[k]? = w.heap[k]? := fun k hk => hb1.block k hk
  have hc0 := hS.cst
  have hso1 : SameOs w W1 := ⟨hb1.os, hb1.tape, hb1.output⟩
  have hc1 : CSt w0 M (imm Z w0 m w) w m W1 m ds := hc0.keep (by omega) (fun k hk => hk.1) hold1 (fun k ⟨r, hr, e⟩ => hold1 k (hS.own r hr k e).1)
  refine ⟨w.heap.size + 1, [mark w.heap.size], W1, { target := .fn (.func gf) lb, args := #[.func (.yield (w.heap.size + 1)) #[] #[]] }, W1, gf,
    #[.func (.yield (w.heap.size + 1)) #[] #[]] ++ lb, W1, ?_, ?_, (fun _ _ => trivial), ?_, (fun h => by cases h), ?_⟩
  · rw [← hW1, hrec]; exact run_enterLoop_outer _ _ _ _ _
  · simp only [resolve, hg]
    simp [go_sem]
  · simp [invoke, go_sem, hok _ _]
  · refine (hseq (w.heap.size + 1) (rJ (fun (_ : Unit) => Inv) w0 Z M w m ds (w.heap.size + 1) w.heap.size (fun _ => .loop (rec .ready none)))
      (rJ Ix w0 Z M w m ds (w.heap.size + 1) w.heap.size (fun c => .loop (rec .done (some c)))) W1 _ _ (by omega) ?_ ?_ ⟨(), m, h0, hc1, by omega, hL1, hK1, rfl, rfl⟩ ?_).mono ?_
    · intro k hk
      exact hold1 k (hZd k hk).1
    · intro k hk
      have hi := hZd k hk
      have hlt : k < w.heap.size := hi.1
      refine ⟨by omega, ?_⟩
      rintro (⟨r, hr, e⟩ | rfl)
      · exact hi.2.2 r hr e
      · omega
    · -- one round
      rintro pre x W C1 M1 ⟨⟨⟩, m1, hinv, hcst, hlz, hl, hk, rfl, rfl⟩ hso hp
      have hy := run_yield (P := P) (args := encs x) hl (by rw [hrec]; exact hps x)
      rw [hrec] at hy
      have hnl : ¬ ownB m1 (w.heap.size + 1) := own_ne hcst.hold hl loop_ne
      have hnd : ¬ ownB m1 w.heap.size := own_ne hcst.hold hk def_ne
      have hso' : SameOs w W := ⟨hso.1.trans hso1.1, hso.2.1.trans hso1.2.1, hso.2.2.trans hso1.2.2⟩
      have hS1 := hcst.st hS hso' hlz
      refine ⟨fn, _, assign, body, hy, roundIn_of_wpIn trivial (wpIn_mono (hround (w.heap.size + 1) pre x W m1 hp hinv hS1) ?_)⟩
      rintro e a1 Wa he
      cases e with
      | normal =>
        obtain ⟨m2, ds2, i2, hSa, hi2, hM1, hM2, hbody⟩ := he
        obtain ⟨q1, q2, q3⟩ := CSt.chg hS1 hSa hi2 hM1
        have hla : Wa.heap[w.heap.size + 1]? = some (.loop (rec .ready none)) := (q1 _ (Array.getElem?_eq_some_iff.1 hl).1 hnl).trans hl
        have hka : Wa.heap[w.heap.size]? = some (.deferred (some [])) := (q1 _ (Array.getElem?_eq_some_iff.1 hk).1 hnd).trans hk
        have hlt : w.heap.size + 1 < Wa.heap.size := (Array.getElem?_eq_some_iff.1 hla).1
        refine ⟨_, run_beginRound hla (by rw [hrec]), ?_⟩
        have hca := hcst.back hSa hlz q1 q2 q3
        have hnl2 : ¬ ownB m2 (w.heap.size + 1) := own_ne hca.hold hla loop_ne
        have hnd2 : ¬ ownB m2 w.heap.size := own_ne hca.hold hka def_ne
        have hput : ∀ k, k ≠ w.heap.size + 1 → (Wa.putObj (w.heap.size + 1) (.loop { rec .ready none with state := .busy })).heap[k]? = Wa.heap[k]? := fun k h => World.putObj_heap_other h
        have hcb : CSt w0 M (imm Z w0 m w) w m (Wa.putObj (w.heap.size + 1) (.loop { rec .ready none with state := .busy })) m2 ds :=
          hca.keep (by rw [World.putObj_size]; omega) (fun k hk => hk.1) (fun k hk => hput k (by omega)) (fun k hk => hput k (fun e => hnl2 (e ▸ hk)))
        have hsa : SameOs w (Wa.putObj (w.heap.size + 1) (.loop { rec .ready none with state := .busy })) := ⟨hSa.os.trans hS.os.symm, hSa.tape.trans hS.tape.symm, hSa.output.trans hS.output.symm⟩
        have hS2 := hcb.st hS hsa (by rw [World.putObj_size]; omega)
        refine wpIn_mono (hbody _ hS2) ?_
        have hl2 : (Wa.putObj (w.heap.size + 1) (.loop { rec .ready none with state := .busy })).heap[w.heap.size + 1]? = some (.loop { rec .ready none with state := .busy }) := World.putObj_heap_same hlt
        have hk2 : (Wa.putObj (w.heap.size + 1) (.loop { rec .ready none with state := .busy })).heap[w.heap.size]? = some (.deferred (some [])) := (hput _ (by omega)).trans hka
        have fin : ∀ (jump : Option Code) (W3 : World) (m3 : List Res) (ds3 : List Dat) (i3 : Nat), St w0 Z M W3 m3 ds3 → ds3[i3]? = some (dAg (Wa.putObj (w.heap.size + 1) (.loop { rec .ready none with state := .busy })) (imm Z w0 m2 (Wa.putObj (w.heap.size + 1) (.loop { rec .ready none with state := .busy })))) →
            (Instr.endRound (w.heap.size + 1) jump).run P W3 = .ok (.bool jump.isNone) (W3.putObj (w.heap.size + 1) (.loop (rec (if jump.isNone then .ready else .done) jump))) ∧
            CSt w0 M (imm Z w0 m w) w m (W3.putObj (w.heap.size + 1) (.loop (rec (if jump.isNone then .ready else .done) jump))) m3 ds ∧
            w.heap.size ≤ (W3.putObj (w.heap.size + 1) (.loop (rec (if jump.isNone then .ready else .done) jump))).heap.size ∧
            (W3.putObj (w.heap.size + 1) (.loop (rec (if jump.isNone then .ready else .done) jump))).heap[w.heap.size + 1]? = some (.loop (rec (if jump.isNone then .ready else .done) jump)) ∧
            (W3.putObj (w.heap.size + 1) (.loop (rec (if jump.isNone then .ready else .done) jump))).heap[w.heap.size]? = some (.deferred (some [])) ∧
            Chg (fun k => k < w.heap.size ∨ ownB m1 k ∨ k = w.heap.size + 1 ∨ k = w.heap.size) (fun k => ownB m1 k ∨ k = w.heap.size + 1) W (W3.putObj (w.heap.size + 1) (.loop (rec (if jump.isNone then .ready else .done) jump)))
              (fun k => k < w.heap.size ∨ ownB m3 k ∨ k = w.heap.size + 1 ∨ k = w.heap.size) (fun k => ownB m3 k ∨ k = w.heap.size + 1) := fun jump W3 m3 ds3 i3 hS3 hi3 => by
          obtain ⟨p1, p2, p3⟩ := CSt.chg hS2 hS3 hi3 hM2
          rw [World.putObj_size] at p3
          have hl3 : W3.heap[w.heap.size + 1]? = some (.loop { rec .ready none with state := .busy }) := (p1 _ (by simpa using hlt) hnl2).trans hl2
          have hk3 : W3.heap[w.heap.size]? = some (.deferred (some [])) := (p1 _ (Array.getElem?_eq_some_iff.1 hk2).1 hnd2).trans hk2
          have hr := run_endRound (P := P) jump hl3
          have hlt3 := (Array.getElem?_eq_some_iff.1 hl3).1
          have hc3 := hcb.back hS3 (by rw [World.putObj_size]; omega) p1 p2 (by rw [World.putObj_size]; exact p3)
          have hnl3 : ¬ ownB m3 (w.heap.size + 1) := own_ne hc3.hold hl3 loop_ne
          have hput3 : ∀ k, k ≠ w.heap.size + 1 → (W3.putObj (w.heap.size + 1) (.loop (rec (if jump.isNone then .ready else .done) jump))).heap[k]? = W3.heap[k]? := fun k h => World.putObj_heap_other h
          have hown3 : ∀ k, ownB m3 k → ownB m1 k ∨ W.heap.size ≤ k := fun k q => by
            rcases p2 k q with q | q
            · exact q2 k q
            · rw [World.putObj_size] at q
              right; omega
          refine ⟨by rw [hrec] at hr ⊢; exact hr, hc3.keep (by rw [World.putObj_size]; omega) (fun k hk => hk.1) (fun k hk => hput3 k (by omega)) (fun k hk => hput3 k (fun e => hnl3 (e ▸ hk))), by rw [World.putObj_size]; omega, World.putObj_heap_same hlt3, (hput3 _ (by omega)).trans hk3, ?_⟩
          refine ⟨hS3.os.trans hS1.os.symm, hS3.tape.trans hS1.tape.symm, hS3.output.trans hS1.output.symm, by rw [World.putObj_size]; omega, fun k hk hM => ?_, fun k q => ?_, fun k q => ?_⟩
          · have hkl : k ≠ w.heap.size + 1 := fun e => hM (.inr e)
            have hk1 : ¬ ownB m1 k := fun e => hM (.inl e)
            have hka' : k < Wa.heap.size := Nat.lt_of_lt_of_le hk q3
            have hn2 : ¬ ownB m2 k := fun q => by
              rcases q2 k q with q | q
              · exact hk1 q
              · omega
            rw [hput3 k hkl, p1 k (by rw [World.putObj_size]; exact hka') hn2, hput k hkl]
            exact q1 k hk hk1
          · rcases q with q | q | q
            · exact .inl (.inl q)
            · rcases hown3 k q with q | q
              · exact .inl (.inr (.inl q))
              · exact .inr q
            · exact .inl (.inr (.inr q))
          · rcases q with q | q
            · rcases hown3 k q with q | q
              · exact .inl (.inl q)
              · exact .inr q
            · exact .inl (.inr q)
        rintro e a3 W3 hp3
        cases e with
        | normal =>
          obtain ⟨m3, ds3, i3, hS3, hi3, hv3⟩ := hp3
          obtain ⟨hr, hc3, hz3, hl4, hk4, hch⟩ := fin none W3 m3 ds3 i3 hS3 hi3
          exact ⟨_, _, hr, _, _, hch, .inl ⟨rfl, (), m3, hv3, hc3, hz3, hl4, hk4, rfl, rfl⟩⟩
        | ret =>
          obtain ⟨m3, ds3, i3, hS3, hi3, hv3⟩ := hp3
          obtain ⟨hr, hc3, hz3, hl4, hk4, hch⟩ := fin (some .ret) W3 m3 ds3 i3 hS3 hi3
          exact ⟨_, _, hr, _, _, hch, .inr ⟨rfl, .ret, m3, hv3, hc3, hz3, hl4, hk4, rfl, rfl⟩⟩
        | exit id =>
          obtain ⟨m3, ds3, i3, hS3, hi3, hv3⟩ := hp3
          obtain ⟨hr, hc3, hz3, hl4, hk4, hch⟩ := fin (some (.exit id)) W3 m3 ds3 i3 hS3 hi3
          exact ⟨_, _, hr, _, _, hch, .inr ⟨rfl, .exit id, m3, hv3, hc3, hz3, hl4, hk4, rfl, rfl⟩⟩
        | goto t =>
          obtain ⟨m3, ds3, i3, hS3, hi3, hv3⟩ := hp3
          obtain ⟨hr, hc3, hz3, hl4, hk4, hch⟩ := fin (some (.goto t)) W3 m3 ds3 i3 hS3 hi3
          exact ⟨_, _, hr, _, _, hch, .inr ⟨rfl, .goto t, m3, hv3, hc3, hz3, hl4, hk4, rfl, rfl⟩⟩
        | panic ch => exact hp3.elim
        | outgrown => exact hp3.elim
      | _ => exact he.elim
    · -- behind the iterator
      have after : ∀ (rc : Loop) (m' : List Res) (W' : World) (C' M' : Nat → Prop), CSt w0 M (imm Z w0 m w) w m W' m' ds → W'.heap[w.heap.size + 1]? = some (.loop rc) → W'.heap[w.heap.size]? = some (.deferred (some [])) →
          (∀ k, ownB m' k → C' k) → Chg (fun k => k < w.heap.size ∨ ownB m k ∨ k = w.heap.size + 1 ∨ k = w.heap.size) (fun k => ownB m k ∨ k = w.heap.size + 1) W1 W' C' M' →
          St w0 Z M (W'.putObj (w.heap.size + 1) (.loop { rc with state := .exhausted })) m' (ds ++ [dMark w0.heap.size w.heap.size]) := fun rc m' W' C' M' hc hl hk hC hch => by
        have hnl : ¬ ownB m' (w.heap.size + 1) := own_ne hc.hold hl loop_ne
        have hnd : ¬ ownB m' w.heap.size := own_ne hc.hold hk def_ne
        have hput : ∀ k, k ≠ w.heap.size + 1 → (W'.putObj (w.heap.size + 1) (.loop { rc with state := .exhausted })).heap[k]? = W'.heap[k]? := fun k h => World.putObj_heap_other h
        have hsz := hch.size
        have hS' : St w0 Z M (W'.putObj (w.heap.size + 1) (.loop { rc with state := .exhausted })) m' ds := by
          refine hS.step (hch.os.trans hb1.os) (hch.tape.trans hb1.tape) (hch.output.trans hb1.output) (by rw [World.putObj_size]; omega) (fun k hk hne => ?_)
            (fun r hr => Res.holds_keep (hc.hold r hr) (fun k e => hput k (fun e' => hnl (e' ▸ ⟨r, hr, e⟩)))) (fun r hr k e => ⟨by rw [World.putObj_size]; exact (hc.own r hr k e).1, ?_⟩) hc.apart
          · rw [hput k (by omega), hch.old k (by omega) (by rintro (⟨r, hr, e⟩ | rfl); exact hne r hr e; omega)]
            exact hold1 k hk
          · exact (hc.own r hr k e).2.2.2.imp (fun ⟨r', hr', e'⟩ => ⟨r', hr', e'⟩) id
        refine hS'.data _ ⟨hS.size, ⟨?_, fun hlt => ?_, fun r hr e => hnd ⟨r, hr, e⟩⟩, (hput _ (by omega)).trans hk⟩
        · rw [World.putObj_size]; exact (Array.getElem?_eq_some_iff.1 hk).1
        · have := hS.size
          omega
      rintro e W' ⟨⟨v, rfl⟩, C', M', hch, ⟨⟨⟩, m', hinv, hc, _, hl, hk, rfl, rfl⟩ | ⟨pre, hpre, c, m', hix, hc, _, hl, hk, rfl, rfl⟩⟩
      · have he := run_endLoop (P := P) hl (by rw [hrec]; simp)
        rw [hrec] at he
        refine ⟨none, _, he, hdone _ m' _ hinv ?_⟩
        have := after _ m' W' _ _ hc hl hk (fun k q => .inr (.inl q)) hch
        rw [hrec] at this
        exact this
      · have he := run_endLoop (P := P) hl (by rw [hrec]; simp)
        rw [hrec] at he
        refine ⟨some c, _, he, wpIn_wide.2 (hstop _ c pre m' _ hpre hix ?_)⟩
        have := after _ m' W' _ _ hc hl hk (fun k q => .inr (.inl q)) hch
        rw [hrec] at this
        exact this
end
end Go.Proofs.YtobgdeffhdefeaaDoor
/- Iterators' walks: how they begin and end; functions that hold a loop over a function. -/
namespace Go.Proofs.YtobgdeffhdefeaaDoor
set_option linter.unusedSimpArgs false
set_option linter.unusedVariables false
open Go Go.RowKit
section
variable {α : Type} {P : Program} {jf jx : JF α} {W w w' w0 : World} {C Mc C0 M0 Zd Z M : Nat → Prop} {m : List Res} {ds ds0 : List Dat} {xs s : List α} {N : Nat} {l : List (Nat × Value)} {a : Act}
theorem it_start (hj : jf.J [] W C Mc) (hds : ∀ d ∈ ds0, d.φ W Zd) (hz : ∀ k, Zd k → k < W.heap.size ∧ ¬ Mc k) : St W (oldB W) Mc W [] (dJ jf [] C Mc W.heap.size :: ds0) := by
  refine St.start W _ _ _ fun d hd => ?_
  rcases List.mem_cons.1 hd with rfl | hd
  · exact ⟨C, Mc, hj, fun k hC => ⟨(jf.sub _ _ _ _ hj).2 k hC, fun h => h, fun _ h => by cases h⟩, fun _ h => .inl h, fun _ h => .inl h⟩
  · exact d.mono _ _ _ _ (Nat.le_refl _) (hds d hd) fun k hk => ⟨⟨(hz k hk).1, fun h => h, fun _ h => by cases h⟩, rfl⟩
/-- What is said of an iterator's end. -/
def itPost (jf jx : JF α) (xs : List α) (C0 M0 : Nat → Prop) (w0 : World) (e : Ending) (W' : World) : Prop :=
  (∃ v, e = .returned v) ∧ ∃ C' M', Chg C0 M0 w0 W' C' M' ∧ (jf.J xs W' C' M' ∨ ∃ pre, pre <+: xs ∧ jx.J pre W' C' M')
theorem it_chg {jf : JF α} {i : Nat} (hS : St w0 (oldB w0) M0 w m ds) (hi : ds[i]? = some (dJ jf s C0 M0 w0.heap.size)) : ∃ C' M', Chg C0 M0 w0 w C' M' ∧ jf.J s w C' M' := by
  obtain ⟨C', M', h1, h2, h3, h4⟩ := hS.get hi
  exact ⟨C', M', ⟨hS.os, hS.tape, hS.output, hS.size, hS.old, h3, h4⟩, h1⟩
theorem it_all {v : Value} {i : Nat} (hS : St w0 (oldB w0) M0 w m ds) (hi : ds[i]? = some (dJ jf s C0 M0 w0.heap.size)) (h : s = xs) : itPost jf jx xs C0 M0 w0 (.returned v) w := by
  subst h
  obtain ⟨C', M', h1, h2⟩ := it_chg hS hi
  exact ⟨⟨v, rfl⟩, C', M', h1, .inl h2⟩
theorem it_stop {v : Value} {i : Nat} (hS : St w0 (oldB w0) M0 w m ds) (hi : ds[i]? = some (dJ jx s C0 M0 w0.heap.size)) (h : s <+: xs) : itPost jf jx xs C0 M0 w0 (.returned v) w := by
  obtain ⟨C', M', h1, h2⟩ := it_chg hS hi
  exact ⟨⟨v, rfl⟩, C', M', h1, .inr ⟨s, h, h2⟩⟩
theorem yields_of {g : Nat} {fn : Func} {c : Code} {lb : List Value} {encs : α → Array Value} {W0 : World} (hf : P.funcs[g]? = some fn) (hb : fn.body = some c) (hN : fn.ntmps = N) (hsz : decide (lb.length + 1 ≤ N ∧ N ≤ 1000000) = true)
    (ds0 : List Dat) (hds : ∀ d ∈ ds0, d.φ W0 Zd)
    (h : ∀ (lp : Nat) (jf jx : JF α) (w0 : World) (C0 M0 : Nat → Prop), Ys P lp encs xs jf jx w0 C0 M0 Zd → (∀ d ∈ ds0, d.φ w0 Zd) → ∀ a, Reg a N ((1000000, .bool false) :: idx 0 (.func (.yield lp) #[] #[] :: lb)) →
      St w0 (oldB w0) M0 w0 [] (dJ jf [] C0 M0 w0.heap.size :: ds0) → c.wp P (bodyPost P fn (itPost jf jx xs C0 M0 w0)) a w0) : Yields P g lb.toArray encs xs Zd W0 := by
  intro lp jf jx W C Mc hs hag hz hj hY
  have hds' : ∀ d ∈ ds0, d.φ W Zd := fun d hd => d.mono _ _ _ _ hs (hds d hd) fun k hk => ⟨hk, hag k hk⟩
  have h1 : (#[.func (.yield lp) #[] #[]] ++ lb.toArray : Array Value) = (Value.func (.yield lp) #[] #[] :: lb).toArray := by simp
  rw [h1]
  refine callsIn_wide.2 (c_enter hf hb hN (by simpa using hsz) fun a hR => ?_)
  exact h lp jf jx W C Mc ⟨hz, (jf.sub _ _ _ _ hj).2, hY⟩ hds' a hR (it_start hj hds' hz)
end
section
variable {P : Program} {ops : Array Oper} {Q : Exit → Act → World → Prop} {a : Act} {w : World} {rest : List Oper} {o : Oper} {ro : Option Nat}
/-- A region in which yield is called. -/
theorem cy_region {id : Nat} {ls : List Oper} (h : wpListIn (wf none) 0 P ls.toArray Q ls a w) : (Code.region id ls.toArray false).wp P Q a w :=
  (wpIn_wide (n := 0)).1 (wpIn_region_lit h)
theorem cyi_region {id l : Nat} {ls : List Oper} (h : wpListIn (wf (some l)) 0 P ls.toArray Q ls a w) : (Code.region id ls.toArray false).wpIn (rI l) 0 P Q a w := wpIn_region_lit h
theorem li_nil {F : Fence} {n : Nat} (h : Q .normal a w) : wpListIn F n P ops Q [] a w := h
theorem st_listIn (hg : o.guard = none) (hnd : notDefer o = true) : Ste P (wpListIn (wf ro) 0 P ops Q (o :: rest) a w) (wpListIn (wf ro) 0 P ops Q rest) o a w :=
  st_listIn_w (notDefer_ne hnd) (by simp [Region.wanted, hg])
theorem st_listInV (hg : o.guard = none) (hnd : notDefer o = true) : SteV P (wpListIn (wf ro) 0 P ops Q (o :: rest) a w) (wpListIn (wf ro) 0 P ops Q rest) o a w := (st_listIn hg hnd).toSteV
end
/-! ### Functions that hold a loop over a function -/
section
variable {P : Program} {fn : Func} {R : Ending → World → Prop} {N : Nat} {l : List (Nat × Value)} {a : Act} {w : World}
/-- What a body must come to; it does not panic. -/
def bodyM (P : Program) (fn : Func) (R : Ending → World → Prop) : Exit → Act → World → Prop
  | .panic _, _, _ => False
  | .outgrown, _, _ => False
  | e, a, w => bodyPostM Fence.wide 0 P fn R e a w
theorem pan_bodyM : PanOK (bodyM P fn R) := fun _ _ _ _ _ h => h
theorem bodyM_le {e : Exit} (h : bodyM P fn R e a w) : bodyPostM Fence.wide 0 P fn R e a w := by
  cases e with
  | panic _ => exact h.elim
  | outgrown => exact h.elim
  | _ => exact h
theorem c_enterM {f : FuncId} {c : Code} {vs : List Value} (hf : P.funcs[f]? = some fn) (hb : fn.body = some c) (hN : fn.ntmps = N) (hsz : (decide (vs.length ≤ N ∧ N ≤ 1000000)) = true)
    (h : ∀ a, Reg a N ((1000000, .bool false) :: idx 0 vs) → c.wp P (bodyM P fn R) a w) : Calls P f vs.toArray w R := by
  subst hN
  have hsz0 := of_decide_eq_true hsz
  refine (callsIn_wide (n := 0)).1 (callsIn_of_wp_marks hf hb trivial (wpIn_wide.2 (wp_mono (h _ (Reg.start vs.toArray fn.ntmps (by simpa using hsz0.1) hsz0.2 _ fun i v hv => ?_)) (fun _ _ _ h => bodyM_le h))))
  obtain ⟨_, h2⟩ := idx_get vs 0 i v hv
  have h3 : vs[i]? = some v := by simpa using h2
  obtain ⟨hlt, h4⟩ := List.getElem?_eq_some_iff.1 h3
  simp [Array.getElem?_append, hlt, h4]
/-- The world when the mark is come to. -/
abbrev shut (w : World) (D : Nat) : World := w.putObj D (.deferred none)
theorem m_none {v : Value} {how : Exit} (hhow : how = .ret ∨ how = .normal) (hR : Reg a N l) (h0 : l.lookup 1000000 = some (.bool false)) (hr : (results fn a.tmps).run P w = .ok v w) (h : R (.returned v) w) : bodyM P fn R how a w := by
  have h1 : LeavesInM Fence.wide 0 P fn a.tmps R a.defers .returning w := by
    rw [hR.dfr h0]
    exact ⟨v, hr, h⟩
  rcases hhow with rfl | rfl <;> exact h1
theorem m_mark {v : Value} {D : Nat} {how : Exit} (hhow : how = .ret ∨ how = .normal) (hR : Reg a N l) (h0 : l.lookup 1000000 = some (.int .i64 (D : Int))) (hD : w.heap[D]? = some (.deferred (some []))) (hr : (results fn a.tmps).run P (shut w D) = .ok v (shut w D)) (h : R (.returned v) (shut w D)) : bodyM P fn R how a w := by
  have h1 : LeavesInM Fence.wide 0 P fn a.tmps R a.defers .returning w := by
    rw [hR.dfr1 D h0]
    exact ⟨by simp, .inl ⟨D, _, rfl, run_takeDeferred hD, v, hr, h⟩⟩
  rcases hhow with rfl | rfl <;> exact h1
theorem res0 (hr : fn.results = #[]) (w : World) : (results fn a.tmps).run P w = .ok (.tuple #[]) w := results_none hr _ _ _
theorem res1 {t : Nat} {v : Value} (hR : Reg a N l) (hr : fn.results = #[.tmp t]) (hv : ev l (.tmp t) = some v) (w : World) : (results fn a.tmps).run P w = .ok v w := by
  have h1 : a.tmps.getD t undef = v := hR.ev hv
  rw [results_tmp hr, h1]
theorem res2 {t u : Nat} {v v' : Value} (hR : Reg a N l) (hr : fn.results = #[.tmp t, .tmp u]) (hv : ev l (.tmp t) = some v) (hv' : ev l (.tmp u) = some v') (w : World) : (results fn a.tmps).run P w = .ok (.tuple #[v, v']) w := by
  have h1 : a.tmps.getD t undef = v := hR.ev hv
  have h2 : a.tmps.getD u undef = v' := hR.ev hv'
  rw [results_tmp2 hr, h1, h2]
def IsCells (w : World) (k : Nat) : Prop := ∃ (cs : Array Value) (t : TypeId) (fz : Nat × Nat), w.heap[k]? = some (.cells cs t fz)
/-- Data that lie in cells alone. -/
def DatC (d : Dat) : Prop := ∀ (w w' : World) (I : Nat → Prop), d.φ w I → (∀ k, IsCells w k → w'.heap[k]? = w.heap[k]?) → d.φ w' I
theorem rowI_c {w w' : World} {I : Nat → Prop} {size : Nat} {A : Option Addr} {n : Nat} {xs : List Value} (h : RowI w I size A n xs) (hs : size ≠ 0) (hk : ∀ k, IsCells w k → w'.heap[k]? = w.heap[k]?) : RowI w' I size A n xs :=
  ⟨h.1, fun hn => by
    obtain ⟨ad, rfl, hI, hc⟩ := h.2 hn
    refine ⟨ad, rfl, hI, hc.keep (hk _ ?_)⟩
    have hlen : 0 < xs.length := by rw [h.1]; exact Nat.mul_pos hn (Nat.pos_of_ne_zero hs)
    have h0 := hc 0 xs[0] (List.getElem?_eq_getElem hlen)
    rw [add_zero_addr] at h0
    unfold World.cell? at h0
    cases ho : w.heap[ad.block]? with
    | none => simp [ho] at h0
    | some o =>
      cases o with
      | cells cs t fz => exact ⟨cs, t, fz, ho⟩
      | _ => simp [ho] at h0⟩
theorem datC_row {size : Nat} (hs : size ≠ 0) (A : Option Addr) (n cap : Nat) (xs : List Value) : DatC (dRow size A n cap xs) := fun _ _ _ h hk => ⟨h.1, rowI_c h.2 hs hk⟩
theorem datC_all (t : List Sl) : DatC (dAll t) := fun _ _ _ h hk s hs => ⟨(h s hs).1, rowI_c (h s hs).2 (by decide) hk⟩
theorem datC_box {g : Nat} {v : Value} {cs : List Value} : DatC (dBox g (v :: cs)) := fun w w' I h hk => ⟨h.1, h.2.keep (hk g (by
  have h0 := h.2 0 v rfl
  rw [add_zero_addr] at h0
  unfold World.cell? at h0
  cases ho : w.heap[g]? with
  | none => simp [ho] at h0
  | some o =>
    cases o with
    | cells cs t fz => exact ⟨cs, t, fz, ho⟩
    | _ => simp [ho] at h0))⟩
/-- The state when the mark is come to. -/
theorem St.shut {w0 w : World} {Z M : Nat → Prop} {m : List Res} {ds : List Dat} {D i : Nat} (h : St w0 Z M w m ds) (hi : ds[i]? = some (dMark w0.heap.size D)) (ds' : List Dat) (hd : ∀ d ∈ ds', d ∈ ds ∧ DatC d) : w.heap[D]? = some (.deferred (some [])) ∧ St w0 Z M (shut w D) m ds' := by
  obtain ⟨hB, hI, hD⟩ := h.get hi
  have hne : ∀ k, IsCells w k → (YtobgdeffhdefeaaDoor.shut w D).heap[k]? = w.heap[k]? := fun k ⟨cs, t, fz, hk⟩ => World.putObj_heap_other (fun e => by
    subst e
    rw [hD] at hk
    cases hk)
  have hblk : ∀ r ∈ m, ∀ k, r.blk = some k → (YtobgdeffhdefeaaDoor.shut w D).heap[k]? = w.heap[k]? := fun r hr k e => hne k (Res.cells_at (h.hold r hr) e)
  refine ⟨hD, h.os, h.tape, h.output, by rw [World.putObj_size]; exact h.size, fun k hk hM => (World.putObj_heap_other (by omega)).trans (h.old k hk hM), fun r hr => Res.holds_keep (h.hold r hr) (hblk r hr),
    fun r hr k e => ⟨by rw [World.putObj_size]; exact (h.own r hr k e).1, (h.own r hr k e).2⟩, h.apart, fun d hdm => ?_⟩
  have h1 := (hd d hdm).2 w (YtobgdeffhdefeaaDoor.shut w D) _ (h.dat d (hd d hdm).1) hne
  have himm : imm Z w0 m (YtobgdeffhdefeaaDoor.shut w D) = imm Z w0 m w := by
    funext k
    unfold imm
    rw [World.putObj_size]
  rw [himm]
  exact h1
end
end Go.Proofs.YtobgdeffhdefeaaDoor
/- Slices held against nil; rows that a call hands over. -/
namespace Go.Proofs.YtobgdeffhdefeaaDoor
set_option linter.unusedSimpArgs false
set_option linter.unusedVariables false
open Go Go.RowKit
section
variable {P : Program} {X : Prop} {Next : Act → World → Prop} {o : Oper} {a : Act} {w w' w0 : World} {N : Nat} {l : List (Nat × Value)} {d : Nat} {Z M : Nat → Prop} {m : List Res} {ds : List Dat}
theorem run_slc {op : BinOp} {t u : TypeId} {x y : Operand} {v : Value} {A A2 : Option Addr} {n c n2 c2 : Nat} (hR : Reg a N l) (ho : o.op = .binOp op t x y u) (hx : ev l x = some (.slice A n c)) (hy : ev l y = some (.slice A2 n2 c2))
    (h : (binOp op t (.slice A n c) (.slice A2 n2 c2)).run P w = .ok v w) : (execOp a.eval o).run P w = .ok (.value v) w := by
  have hg : (eqGuard op t x y (.slice A n c) (.slice A2 n2 c2)).run P w = .ok () w := by
    unfold eqGuard
    cases op <;> rfl
  unfold execOp
  rw [ho]
  simp only [hR.ev hx, hR.ev hy, Sem.run_bind, hg, Result.andThen_ok, h, Sem.run_pure]
theorem r_eqlNil {t u e : TypeId} {x y : Operand} {A : Option Addr} {n c n2 c2 : Nat} (hs : SteV P X Next o a w) (hR : Reg a N l) (hd : o.dst = some d) (ho : o.op = .binOp .eql t x y u) (hx : ev l x = some (.slice A n c)) (hy : ev l y = some (.slice none n2 c2))
    (ht : P.underlying t = some (.slice e)) (hdN : d < N) (k : ∀ a', Reg a' N ((d, .bool A.isNone) :: l) → Next a' w) : X :=
  r_pure hs hR hd hdN (run_slc hR ho hx hy (Lib.run_eql_slice_nil w t e A n c n2 c2 ht)) k
theorem r_neqNil {t u e : TypeId} {x y : Operand} {A : Option Addr} {n c n2 c2 : Nat} (hs : SteV P X Next o a w) (hR : Reg a N l) (hd : o.dst = some d) (ho : o.op = .binOp .neq t x y u) (hx : ev l x = some (.slice A n c)) (hy : ev l y = some (.slice none n2 c2))
    (ht : P.underlying t = some (.slice e)) (hdN : d < N) (k : ∀ a', Reg a' N ((d, .bool (!A.isNone)) :: l) → Next a' w) : X :=
  r_pure hs hR hd hdN (run_slc hR ho hx hy (run_neq_slice_nil_any w t e A n c n2 c2 ht)) k
theorem nil_len {I : Nat → Prop} {size : Nat} {A : Option Addr} {n cap : Nat} {xs : List Value} (h : (dRow size A n cap xs).φ w I) (hA : A.isNone = true) : n = 0 := by
  refine Nat.eq_zero_of_not_pos fun hn => ?_
  obtain ⟨ad, rfl, _⟩ := h.2.2 hn
  cases hA
theorem nil_own {size : Nat} {A : Option Addr} {n cap e : Nat} {xs : List Value} (h : (Res.row A n cap e size xs).holds w) (hA : A.isNone = true) : n = 0 := by
  rcases h.2 with ⟨q, rfl⟩ | ⟨g, cap', cur, hv, _⟩
  · injection q
  · have : A = some ⟨g, 0, none⟩ := by injection hv
    subst this
    cases hA
/-- A call that hands over a row. -/
theorem St.callO (h : St w0 Z M w m ds) {r : Res} (hf : Fr none_ w w') (hr : r.holds w') (hfr : ∀ k, r.blk = some k → w.heap.size ≤ k) : St w0 Z M w' (m ++ [r]) ds := by
  have hb := hf.below
  refine h.step hf.os hf.tape hf.output hf.size (fun k hk _ => hb.block k hk) ?_ ?_ ?_
  · intro s hs
    rcases List.mem_append.1 hs with hs | hs
    · exact Res.holds_below (h.hold s hs) hb (fun k e => (h.own s hs k e).1)
    · rw [List.mem_singleton] at hs
      subst hs
      exact hr
  · intro s hs k e
    rcases List.mem_append.1 hs with hs | hs
    · exact ⟨Nat.lt_of_lt_of_le (h.own s hs k e).1 hf.size, .inl ⟨s, hs, e⟩⟩
    · rw [List.mem_singleton] at hs
      subst hs
      obtain ⟨cs, t, fz, hc⟩ := Res.cells_at hr e
      exact ⟨(Array.getElem?_eq_some_iff.1 hc).1, .inr (hfr k e)⟩
  · rw [List.pairwise_append]
    refine ⟨h.apart, by simp, fun s hs t ht k e e' => ?_⟩
    rw [List.mem_singleton] at ht
    subst ht
    have := (h.own s hs k e).1
    have := hfr k e'
    omega
theorem St.fresh {i : Nat} {r : Res} (h : St w0 Z none_ w m ds) (hi : m[i]? = some r) (k : Nat) (hk : r.blk = some k) : w0.heap.size ≤ k :=
  ((h.own r (List.mem_of_getElem? hi) k hk).2).resolve_right (fun x => x)
/-- The front of a row of the call's own. -/
theorem St.trim (h : St w0 Z M w m ds) {α : Type} {f : α → List Value} {size : Nat} (hf : ∀ x, (f x).length = size) {i e cap : Nat} {A : Option Addr} {L : List α} (hi : m[i]? = some (.row A L.length cap e size (L.flatMap f))) (q : Nat) (hq : q ≤ L.length) :
    St w0 Z M w (m.set i (.row A (L.take q).length cap e size ((L.take q).flatMap f))) ds := by
  have h1 : w.ownsRow 0 e size (.slice A L.length cap) L.length (L.flatMap f) := h.res hi
  have h2 := own_take h1 hq
  have hl : (L.take q).length = q := by rw [List.length_take]; omega
  rw [enc_take hf] at h2
  refine h.turn hi rfl rfl rfl (Nat.le_refl _) (fun _ _ _ => rfl) ?_ (fun k hk => ?_)
  · rw [hl]
    exact h2
  · have hk' : (Res.row A L.length cap e size (L.flatMap f)).blk = some k := hk
    exact ⟨(h.own _ (List.mem_of_getElem? hi) k hk').1, .inl hk'⟩
theorem Reg.conss {l' : List (Nat × Value)} (h : Reg a N l) (h' : Reg a N l') {i : Nat} {A : Option Addr} {n n' c : Nat} (hv : l.lookup i = some (.slice A n c)) (hn : n' = n) : Reg a N ((i, .slice A n' c) :: l') := h.cons h' (by rw [hv, hn])
theorem Reg.round2n {p q : Nat} {v0 u v : Value} {l' : List (Nat × Value)} (h : Reg a N ((1000000, v0) :: l')) (hp : p < N) (hq : q < N) (hk : l'.lookup 1000000 = none) :
    Reg { tmps := (#[p, q].zip #[u, v]).foldl (fun t (p, v) => t.setIfInBounds p v) a.tmps, defers := [] } N ((q, v) :: (p, u) :: (1000000, .bool false) :: l') :=
  h.round2 hp hq u v (fun i w hi hw => by rw [lookup_ne hi]; exact hw) hk
theorem Reg.marked {l' : List (Nat × Value)} (h : Reg a N ((1000000, .bool false) :: l')) (D : Nat) : Reg { a with defers := mark D :: a.defers } N ((1000000, .int .i64 (D : Int)) :: l') := by
  refine ⟨fun q => ?_, fun D' q => ?_, h.top, h.size, fun i v hi hv => h.get i v hi (by rw [lookup_ne hi] at hv ⊢; exact hv)⟩
  · rw [lookup_eq] at q
    cases q
  · rw [lookup_eq] at q
    have : D = D' := by
      injection q with q
      injection q with _ q
      omega
    subst this
    show mark D :: a.defers = _
    rw [h.dfr lookup_eq]
theorem nil_row1 {w : World} {e size : Nat} : (Res.row none 0 0 e size []).holds w := ⟨by simp, .inl ⟨rfl, rfl⟩⟩
theorem nil_row2 {w0 : World} {e size : Nat} : ∀ k, (Res.row none 0 0 e size []).blk = some k → w0.heap.size ≤ k := fun k hk => by cases hk
end
theorem x_scope_n {Q : Exit → Act → World → Prop} {a : Act} {w : World} (h : Q .normal a w) : Exit.noGoto Q .normal a w := h
theorem x_scope_r {Q : Exit → Act → World → Prop} {a : Act} {w : World} (h : Q .ret a w) : Exit.noGoto Q .ret a w := h
theorem x_scope_e {Q : Exit → Act → World → Prop} {a : Act} {w : World} {i : Nat} (h : Q (.exit i) a w) : Exit.noGoto Q (.exit i) a w := h
theorem pan_scope {Q : Exit → Act → World → Prop} (h : PanOK Q) : PanOK (Exit.noGoto Q) := fun c a d v w hq => h c a d v w hq
end Go.Proofs.YtobgdeffhdefeaaDoor
/- What iterators hand over: plain lists. -/
namespace Go.Proofs.YtobgdeffhdefeaaDoor
set_option linter.unusedSimpArgs false
set_option linter.unusedVariables false
/-- The nodes of a slice from its end, with their places. -/
def bwL (t : List Nd) : List (Int × Nd) := (List.range t.length).map fun i => (((t.length - 1 - i : Nat) : Int), nth t (t.length - 1 - i))
theorem bwL_length (t : List Nd) : (bwL t).length = t.length := by simp [bwL]
theorem bwL_at {t : List Nd} {k : Nat} (h : k < t.length) : (bwL t)[k]? = some (((t.length - 1 - k : Nat) : Int), nth t (t.length - 1 - k)) := by simp [bwL, h]
theorem bwL_step {t : List Nd} {k : Nat} {n : Nat} {i : Int} (h : k < t.length ∧ i = (t.length : Int) - (k : Int) - 1 ∧ n = t.length - (k + 1)) : (bwL t).take k ++ [(i, nth t n)] = (bwL t).take (k + 1) := by
  rw [List.take_add_one, bwL_at h.1]
  obtain ⟨h1, rfl, rfl⟩ := h
  simp only [Option.toList_some]
  congr 3
  · omega
  · congr 1
    omega
theorem bwL_prefix {t : List Nd} {k : Nat} {n : Nat} {i : Int} (h : k < t.length ∧ i = (t.length : Int) - (k : Int) - 1 ∧ n = t.length - (k + 1)) : (bwL t).take k ++ [(i, nth t n)] <+: bwL t := by
  rw [bwL_step h]
  exact List.take_prefix _ _
theorem bwL_all {t : List Nd} {k : Nat} (h : t.length ≤ k) : (bwL t).take k = bwL t := List.take_of_length_le (by rw [bwL_length]; exact h)
mutual
/-- The nodes of a tree from its root on, with their places and how many binders each is under. -/
def visT (o u : Int) : T → List (Int × Int)
  | .mk n l => (o + (T.flats l).length, u) :: visTs o l ((binds n).map (u + ·))
def visTs (o : Int) : List T → List Int → List (Int × Int)
  | [], _ => []
  | _ :: _, [] => []
  | t :: l, u :: us => visTs (o + t.flat.length) l us ++ visT o u t
end
theorem visTs_append (o : Int) (A B : List T) (us vs : List Int) (h : A.length = us.length) : visTs o (A ++ B) (us ++ vs) = visTs (o + (T.flats A).length) B vs ++ visTs o A us := by
  induction A generalizing o us with
  | nil =>
    cases us with
    | nil => simp [visTs, T.flats_nil]
    | cons _ _ => simp at h
  | cons t A ih =>
    cases us with
    | nil => simp at h
    | cons u us =>
      simp only [List.cons_append, visTs, ih (o + t.flat.length) us (by simpa using h), T.flats_cons, List.length_append, List.append_assoc]
      congr 2
      omega
theorem visTs_one (o u : Int) (t : T) : visTs o [t] [u] = visT o u t := by simp [visTs]
def treeOf (t : List Nd) : T := match scanT [] t with
  | some [x] => x
  | _ => .mk ndz []
theorem treeOf_flat {x : T} (h : x.wf = true) : treeOf x.flat = x := by
  unfold treeOf
  rw [scanT_tree [] x h]
  rfl
theorem treeOf_ok {t : List Nd} (h : chk t = 0) : (treeOf t).wf = true ∧ (treeOf t).flat = t ∧ (treeOf t).deep ≤ 60 ∧ t.length ≤ 4000 := by
  obtain ⟨x, hw, rfl, hl, hd⟩ := chk_ok.1 h
  rw [treeOf_flat hw]
  exact ⟨hw, rfl, hd, hl⟩
/-- The nodes of a term from its root on. -/
def nodesL (t : List Nd) : List (Int × Int) := visT 0 0 (treeOf t)
/-- What is left when k nodes have been seen: trees, and how many binders each is under. -/
structure VInv (t : List Nd) (k : Nat) (A : List T) (us : List Int) : Prop where
  len : A.length = us.length
  flat : T.flats A = t.take (t.length - k)
  wfs : T.wfs A = true
  rest : nodesL t = (nodesL t).take k ++ visTs 0 A us
  klen : ((nodesL t).take k).length = k
  bd : ∀ u ∈ us, 0 ≤ u ∧ u ≤ 2 * (k : Int)
theorem VInv.zero {t : List Nd} (h : chk t = 0) : VInv t 0 [treeOf t] [0] := by
  obtain ⟨h1, h2, _, _⟩ := treeOf_ok h
  refine ⟨rfl, by rw [T.flats_one, h2]; simp, by simp [T.wfs, h1], by rw [visTs_one]; rfl, rfl, fun u hu => ?_⟩
  rw [List.mem_singleton] at hu
  subst hu
  simp
theorem shp_b (k : Nat) : ∀ b ∈ (shp k).b, 0 ≤ b ∧ b ≤ 2 := by
  unfold shp
  split <;> simp
theorem binds_b (n : Nd) : ∀ b ∈ binds n, 0 ≤ b ∧ b ≤ 2 := by
  intro b hb
  unfold binds at hb
  split at hb
  · have := List.eq_of_mem_replicate hb
    omega
  · split at hb
    · rcases List.mem_cons.1 hb with rfl | hb
      · omega
      · have := List.eq_of_mem_replicate hb
        omega
    · exact shp_b _ _ hb
theorem snoc_last {α : Type} {L : List α} (h : 0 < L.length) : ∃ p x, L = p ++ [x] := by
  rcases List.eq_nil_or_concat L with rfl | ⟨p, x, rfl⟩
  · simp at h
  · exact ⟨p, x, by simp⟩
theorem take_cons_at {α : Type} {Y X R : List α} {e : α} {k : Nat} (h : Y = X ++ e :: R) (hk : X.length = k) : Y.take (k + 1) = X ++ [e] := by
  subst hk
  rw [h, List.take_append, List.take_of_length_le (by omega)]
  simp
/-- The binders, where the fields are right. -/
def bindsR (n : Nd) : List Int := if right n = true then binds n else []
theorem bindsR_eq {n : Nd} (h : right n = true) : bindsR n = binds n := if_pos h
theorem bindsR_le (n : Nd) : (bindsR n).length ≤ 8 := by
  unfold bindsR
  split
  · rename_i h; exact many_le h
  · simp
theorem VInv.step {t : List Nd} {k : Nat} {A : List T} {us : List Int} (h : VInv t k A us) (hk : k < t.length) :
    right (nth t (t.length - (k + 1))) = true ∧ 0 < us.length ∧ us.length ≤ t.length ∧ (0 ≤ nthI us (us.length - 1) ∧ nthI us (us.length - 1) ≤ 2 * (k : Int)) ∧
    (nodesL t).take k ++ [((t.length : Int) - (k : Int) - 1, nthI us (us.length - 1))] = (nodesL t).take (k + 1) ∧
    ∃ A', VInv t (k + 1) A' (us.take (us.length - 1) ++ (bindsR (nth t (t.length - (k + 1)))).map (nthI us (us.length - 1) + ·)) := by
  have hfl : (T.flats A).length = t.length - k := by rw [h.flat, List.length_take]; omega
  have hA : 0 < A.length := by
    cases A with
    | nil => simp [T.flats_nil] at hfl; omega
    | cons _ _ => simp
  obtain ⟨Ap, ⟨n, l⟩, rfl⟩ := snoc_last hA
  have hu : 0 < us.length := by rw [← h.len]; exact hA
  obtain ⟨up, u, rfl⟩ := snoc_last hu
  have hlen : Ap.length = up.length := by have := h.len; simpa using this
  have hlast : nthI (up ++ [u]) ((up ++ [u]).length - 1) = u := by simp [nthI]
  have htk : (up ++ [u]).take ((up ++ [u]).length - 1) = up := by simp
  have hf2 : T.flats Ap ++ (T.flats l ++ [n]) = t.take (t.length - k) := by
    have := h.flat
    rwa [T.flats_append, T.flats_one, T.flat_mk] at this
  have hf3 : (T.flats (Ap ++ l)) ++ [n] = t.take (t.length - k) := by rw [T.flats_append, List.append_assoc]; exact hf2
  have hl3 : (T.flats (Ap ++ l)).length = t.length - (k + 1) := by
    have := congrArg List.length hf3
    rw [List.length_append, List.length_take, List.length_singleton] at this
    omega
  have hn : nth t (t.length - (k + 1)) = n := by
    have h1 : (t.take (t.length - k))[t.length - (k + 1)]? = some n := by
      rw [← hf3, ← hl3]
      simp
    rw [List.getElem?_take_of_lt (by omega)] at h1
    simp [nth, h1]
  have hf4 : T.flats (Ap ++ l) = t.take (t.length - (k + 1)) := by
    have h1 := congrArg (List.take (t.length - (k + 1))) hf3
    rw [List.take_append_of_le_length (by omega), List.take_of_length_le (by omega), List.take_take] at h1
    rw [h1]
    congr 1
    omega
  have hw := h.wfs
  rw [T.wfs_append, Bool.and_eq_true] at hw
  have hw2 : (T.mk n l).wf = true := by simpa [T.wfs] using hw.2
  rw [T.wf_mk] at hw2
  simp only [Bool.and_eq_true, beq_iff_eq] at hw2
  have hv : visTs 0 (Ap ++ [T.mk n l]) (up ++ [u]) = ((t.length : Int) - (k : Int) - 1, u) :: visTs 0 (Ap ++ l) (up ++ (binds n).map (u + ·)) := by
    rw [visTs_append _ _ _ _ _ hlen, visTs_append _ _ _ _ _ hlen, visTs_one, visT]
    simp only [List.cons_append, List.cons.injEq, Prod.mk.injEq, and_true]
    rw [T.flats_append, List.length_append] at hl3
    omega
  have hr := h.rest
  rw [hv] at hr
  have htake : (nodesL t).take (k + 1) = (nodesL t).take k ++ [((t.length : Int) - (k : Int) - 1, u)] := by
    exact take_cons_at hr h.klen
  have hbu := h.bd u (by simp)
  rw [hn, hlast, htk, bindsR_eq hw2.1.1]
  refine ⟨hw2.1.1, by simp, ?_, hbu, htake.symm, Ap ++ l, ⟨?_, hf4, ?_, ?_, ?_, ?_⟩⟩
  · have h1 := flats_len_ge (Ap ++ [T.mk n l])
    rw [hfl, h.len] at h1
    omega
  · rw [List.length_append, List.length_append, List.length_map, hlen]
    have : (binds n).length = l.length := hw2.1.2
    omega
  · rw [T.wfs_append, hw.1, hw2.2]; rfl
  · rw [htake, List.append_assoc]
    exact hr
  · rw [htake, List.length_append, h.klen]; rfl
  · intro v hvm
    rcases List.mem_append.1 hvm with hvm | hvm
    · have := h.bd v (List.mem_append_left _ hvm)
      omega
    · obtain ⟨b, hb, rfl⟩ := List.mem_map.1 hvm
      have := binds_b n b hb
      omega
theorem VInv.all {t : List Nd} {k : Nat} {A : List T} {us : List Int} (h : VInv t k A us) (hk : t.length ≤ k) : (nodesL t).take k = nodesL t := by
  have hfl := h.flat
  rw [show t.length - k = 0 by omega, List.take_zero] at hfl
  cases A with
  | nil =>
    have := h.rest
    simpa [visTs] using this.symm
  | cons x A =>
    rw [T.flats_cons] at hfl
    have := T.flat_ne x
    simp_all
theorem map_step {u : Int} {bs : List Int} {j : Nat} (h : j < bs.length) : (bs.take (j + 1)).map (u + ·) = (bs.take j).map (u + ·) ++ [u + nthI bs j] := by
  have hn : nthI bs j = bs[j] := by simp [nthI, h]
  rw [List.take_add_one, List.getElem?_eq_getElem h, hn, List.map_append]
  rfl
theorem binds_nth {n : Nd} (j : Nat) : 0 ≤ nthI (binds n) j ∧ nthI (binds n) j ≤ 2 := by
  by_cases h : j < (binds n).length
  · have : nthI (binds n) j = (binds n)[j] := by simp [nthI, h]
    rw [this]
    exact binds_b n _ (List.getElem_mem h)
  · have : nthI (binds n) j = 0 := by simp [nthI, List.getD_eq_getElem?_getD, List.getElem?_eq_none (by omega : (binds n).length ≤ j)]
    omega
theorem bindsR_nth {n : Nd} (j : Nat) : 0 ≤ nthI (bindsR n) j ∧ nthI (bindsR n) j ≤ 2 := by
  unfold bindsR
  split
  · exact binds_nth j
  · simp [nthI]

/-! ### The proofs of a slice of nodes -/
/-- One node more: what was found, where the root of the proof at hand is (below 0: none), how many terms more it needs. -/
def prStep (t : List Nd) (k : Nat) (x : List (Int × Int) × Int × Int) : List (Int × Int) × Int × Int :=
  if x.2.1 < 0 ∧ (nth t (t.length - (k + 1))).K ≠ 28 then x else
    if 0 < (if x.2.1 < 0 then 1 else x.2.2) + ((bindsR (nth t (t.length - (k + 1)))).length : Int) - 1 then
      (x.1, (if x.2.1 < 0 then ((t.length - (k + 1) : Nat) : Int) else x.2.1), (if x.2.1 < 0 then 1 else x.2.2) + ((bindsR (nth t (t.length - (k + 1)))).length : Int) - 1)
    else (x.1 ++ [(((t.length - (k + 1) : Nat) : Int), (if x.2.1 < 0 then ((t.length - (k + 1) : Nat) : Int) else x.2.1))], -1, (if x.2.1 < 0 then 1 else x.2.2) + ((bindsR (nth t (t.length - (k + 1)))).length : Int) - 1)
def prS (t : List Nd) : Nat → List (Int × Int) × Int × Int
  | 0 => ([], -1, 0)
  | k + 1 => prStep t k (prS t k)
def prfL (t : List Nd) : List (Int × Int) := (prS t t.length).1
theorem prS_bound (t : List Nd) : ∀ k, k ≤ t.length → -1 ≤ (prS t k).2.1 ∧ (prS t k).2.1 < t.length ∧ -(k : Int) ≤ (prS t k).2.2 ∧ (prS t k).2.2 ≤ 8 * (k : Int) + 1
  | 0, _ => by simp [prS]; omega
  | k + 1, hk => by
    obtain ⟨h1, h2, h3, h4⟩ := prS_bound t k (by omega)
    have hb := bindsR_le (nth t (t.length - (k + 1)))
    show -1 ≤ (prStep t k (prS t k)).2.1 ∧ (prStep t k (prS t k)).2.1 < t.length ∧ -((k + 1 : Nat) : Int) ≤ (prStep t k (prS t k)).2.2 ∧ (prStep t k (prS t k)).2.2 ≤ 8 * ((k + 1 : Nat) : Int) + 1
    unfold prStep
    by_cases hr : (prS t k).2.1 < 0
    · simp only [hr, true_and, if_true]
      split
      · omega
      · split <;> simp only [] <;> omega
    · simp only [hr, false_and, if_false]
      split <;> simp only [] <;> omega
theorem prStep_pre (t : List Nd) (k : Nat) (x : List (Int × Int) × Int × Int) : x.1 <+: (prStep t k x).1 := by
  unfold prStep
  (repeat' split) <;> first | exact List.prefix_refl _ | exact List.prefix_append _ _
theorem prS_pre (t : List Nd) (k j : Nat) : (prS t k).1 <+: (prS t (k + j)).1 := by
  induction j with
  | zero => exact List.prefix_refl _
  | succ j ih => exact ih.trans (prStep_pre t _ _)
theorem prS_prfL {t : List Nd} {k : Nat} (h : k ≤ t.length) : (prS t k).1 <+: prfL t := by
  have := prS_pre t k (t.length - k)
  rwa [show k + (t.length - k) = t.length by omega] at this
theorem prS_same {t : List Nd} {k : Nat} (h1 : (prS t k).2.1 < 0) (h2 : (nth t (t.length - (k + 1))).K ≠ 28) : prS t (k + 1) = prS t k := by
  show prStep t k (prS t k) = _
  unfold prStep
  rw [if_pos ⟨h1, h2⟩]
theorem prS_new1 {t : List Nd} {k : Nat} {n r : Int} (h1 : (prS t k).2.1 < 0) (h2 : (nth t (t.length - (k + 1))).K = 28) (h3 : 0 < n) (hn : n = (bindsR (nth t (t.length - (k + 1)))).length) (hr : r = ((t.length - (k + 1) : Nat) : Int)) : prS t (k + 1) = ((prS t k).1, r, n) := by
  show prStep t k (prS t k) = _
  unfold prStep
  simp only [h1, h2, true_and, if_true, ne_eq, not_true_eq_false, if_false]
  rw [if_pos (by omega)]
  congr 2
  · exact hr.symm
  · omega
theorem prS_new0 {t : List Nd} {k : Nat} {n r : Int} (h1 : (prS t k).2.1 < 0) (h2 : (nth t (t.length - (k + 1))).K = 28) (h3 : ¬ 0 < n) (hn : n = (bindsR (nth t (t.length - (k + 1)))).length) (hr : r = ((t.length - (k + 1) : Nat) : Int)) : prS t (k + 1) = ((prS t k).1 ++ [(r, r)], -1, n) := by
  show prStep t k (prS t k) = _
  unfold prStep
  simp only [h1, h2, true_and, if_true, ne_eq, not_true_eq_false, if_false]
  rw [if_neg (by omega), hr]
  congr 2
  omega
theorem prS_on {t : List Nd} {k : Nat} {n : Int} (h1 : ¬ (prS t k).2.1 < 0) (h3 : 0 < n) (hn : n = (prS t k).2.2 + (bindsR (nth t (t.length - (k + 1)))).length - 1) : prS t (k + 1) = ((prS t k).1, (prS t k).2.1, n) := by
  show prStep t k (prS t k) = _
  unfold prStep
  simp only [h1, false_and, if_false]
  rw [if_pos (by omega), hn]
theorem prS_end {t : List Nd} {k : Nat} {n i : Int} (h1 : ¬ (prS t k).2.1 < 0) (h3 : ¬ 0 < n) (hn : n = (prS t k).2.2 + (bindsR (nth t (t.length - (k + 1)))).length - 1) (hi : i = ((t.length - (k + 1) : Nat) : Int)) : prS t (k + 1) = ((prS t k).1 ++ [(i, (prS t k).2.1)], -1, n) := by
  show prStep t k (prS t k) = _
  unfold prStep
  simp only [h1, false_and, if_false]
  rw [if_neg (by omega), hn, hi]
end Go.Proofs.YtobgdeffhdefeaaDoor
/- What is left when the marks of proofs are taken out. -/
namespace Go.Proofs.YtobgdeffhdefeaaDoor
set_option linter.unusedSimpArgs false
set_option linter.unusedVariables false
def isPrf (n : Nd) : Bool := decide (n.K = 28)
def nPrf (n : Nd) : Bool := !isPrf n
/-- Where the first mark of a proof is. -/
def ixP (t : List Nd) : Int := if t.findIdx isPrf < t.length then (t.findIdx isPrf : Int) else -1
theorem nth_lt {t : List Nd} {k : Nat} (h : k < t.length) : nth t k = t[k] := by simp [nth, h]
theorem ixP_here {t : List Nd} {k : Nat} (hk : k < t.length) (h : ∀ i, i < k → (nth t i).K ≠ 28) (hK : (nth t k).K = 28) : ixP t = k := by
  have : t.findIdx isPrf = k := by
    rw [List.findIdx_eq hk]
    refine ⟨by rw [nth_lt hk] at hK; simp [isPrf, hK], fun j hj => ?_⟩
    have := h j hj
    rw [nth_lt (by omega)] at this
    simp [isPrf, this]
  unfold ixP
  rw [this, if_pos hk]
theorem ixP_none {t : List Nd} (h : ∀ i, i < t.length → (nth t i).K ≠ 28) : ixP t = -1 := by
  have : t.findIdx isPrf = t.length := by
    rw [List.findIdx_eq_length]
    intro x hx
    obtain ⟨i, hi, rfl⟩ := List.getElem_of_mem hx
    have := h i hi
    rw [nth_lt hi] at this
    simp [isPrf, this]
  unfold ixP
  rw [this, if_neg (by omega)]
theorem ixP_pos {t : List Nd} (h : ¬ ixP t = -1) : 0 ≤ ixP t ∧ ixP t < t.length ∧ t.take (ixP t).toNat = (t.take ((ixP t).toNat + 1)).filter nPrf := by
  unfold ixP at h ⊢
  split at h
  · rename_i hlt
    rw [if_pos hlt]
    refine ⟨by omega, by omega, ?_⟩
    have h1 : isPrf t[t.findIdx isPrf] = true := List.findIdx_getElem
    rw [Int.toNat_natCast, List.take_add_one, List.getElem?_eq_getElem hlt, Option.toList_some, List.filter_append]
    have h2 : ([t[t.findIdx isPrf]].filter nPrf) = [] := by simp [nPrf, h1]
    rw [h2, List.append_nil]
    symm
    rw [List.filter_eq_self]
    intro x hx
    obtain ⟨i, hi, rfl⟩ := List.getElem_of_mem hx
    rw [List.getElem_take]
    have := List.not_of_lt_findIdx (p := isPrf) (xs := t) (i := i) (by rw [List.length_take] at hi; omega)
    simp [nPrf, this]
  · exact absurd rfl h
theorem ixP_all {t : List Nd} (h : ixP t = -1) : t.filter nPrf = t := by
  unfold ixP at h
  split at h
  · omega
  · rename_i hn
    have h1 : t.findIdx isPrf = t.length := by have := List.findIdx_le_length (xs := t) (p := isPrf); omega
    rw [List.findIdx_eq_length] at h1
    rw [List.filter_eq_self]
    intro x hx
    simp [nPrf, h1 x hx]
/-- One node more is looked at: it is kept. -/
theorem del_keep {t R : List Nd} {i j : Nat} (h1 : R.length = t.length) (h2 : R.take i = (t.take j).filter nPrf) (h3 : R.drop j = t.drop j) (hij : i < j) (hj : j < t.length) (hK : ¬ (nth R j).K = 28) :
    (R.set i (nth R j)).take (i + 1) = (t.take (j + 1)).filter nPrf ∧ (R.set i (nth R j)).drop (j + 1) = t.drop (j + 1) := by
  have e : nth R j = t[j] := by
    rw [nth_lt (by omega)]
    have := congrArg (fun l => l[0]?) h3
    simp only [List.getElem?_drop, Nat.add_zero] at this
    rw [List.getElem?_eq_getElem (by omega), List.getElem?_eq_getElem hj] at this
    exact Option.some.inj this
  constructor
  · rw [List.take_add_one, List.take_set_of_le (Nat.le_refl _), h2, List.getElem?_set_self (by omega), List.take_add_one, List.getElem?_eq_getElem hj, List.filter_append]
    rw [e] at hK ⊢
    simp [nPrf, isPrf, hK]
  · rw [List.drop_set_of_lt (by omega)]
    have := congrArg (List.drop 1) h3
    simpa using this
theorem del_drop {t R : List Nd} {i j : Nat} (h1 : R.length = t.length) (h2 : R.take i = (t.take j).filter nPrf) (h3 : R.drop j = t.drop j) (hj : j < t.length) (hK : (nth R j).K = 28) :
    R.take i = (t.take (j + 1)).filter nPrf ∧ R.drop (j + 1) = t.drop (j + 1) := by
  have e : nth R j = t[j] := by
    rw [nth_lt (by omega)]
    have := congrArg (fun l => l[0]?) h3
    simp only [List.getElem?_drop, Nat.add_zero] at this
    rw [List.getElem?_eq_getElem (by omega), List.getElem?_eq_getElem hj] at this
    exact Option.some.inj this
  constructor
  · rw [h2, List.take_add_one, List.getElem?_eq_getElem hj, List.filter_append]
    rw [e] at hK
    simp [nPrf, isPrf, hK]
  · have := congrArg (List.drop 1) h3
    simpa using this
/-! ### What slices.Replace makes -/
section
variable {α : Type} {t v z : List α} {i j q : Nat}
theorem rep_end {B : List α} (hi : i ≤ t.length) (hj : j = t.length) (hB : B = t.take i ++ v ++ t.drop (i + v.length)) : B.take (i + v.length) = t.take i ++ v ++ t.drop j := by
  subst hB
  rw [List.take_left' (by rw [List.length_append, List.length_take]; omega), List.drop_eq_nil_of_le (by omega), List.append_nil]
theorem rep_end2 {B C : List α} (hi : i ≤ t.length) (hj : j = t.length) (hB : B = t.take i ++ v ++ t.drop (i + v.length)) (hC : C = B.take (i + v.length) ++ z) : C.take (i + v.length) = t.take i ++ v ++ t.drop j := by
  rw [hC, List.take_left', ← rep_end hi hj hB]
  rw [hB]; simp; omega
/-- v is laid onto the row, then what was behind the cut; the rest is cleared. -/
theorem rep_mid {B C : List α} {D : Nat} (h1 : i + v.length ≤ j) (h2 : j ≤ t.length) (hB : B = t.take i ++ v ++ t.drop (i + v.length)) (hC : C = B.take (i + v.length) ++ t.drop j ++ z) (hD : D = t.length - (j - i) + v.length) : C.take D = t.take i ++ v ++ t.drop j := by
  have hBt : B.take (i + v.length) = t.take i ++ v := by
    rw [hB, List.take_left']
    rw [List.length_append, List.length_take]; omega
  rw [hC, hBt, List.take_left']
  simp
  omega
theorem rep_mid2 {B K C E z2 : List α} {D : Nat} (h1 : i + v.length ≤ j) (h2 : j ≤ t.length) (hD : D = i + v.length + t.length - j) (hB : B = t.take i ++ v ++ t.drop (i + v.length)) (hK : K = (B.drop j).take (t.length - j))
    (hC : C = B.take (i + v.length) ++ K ++ B.drop (i + v.length + K.length)) (hE : E = C.take D ++ z ++ z2) : E.take D = t.take i ++ v ++ t.drop j := by
  have hX : (t.take i ++ v).length = i + v.length := by rw [List.length_append, List.length_take]; omega
  have hK' : K = t.drop j := by
    rw [hK, hB, ← hX, List.drop_append, List.drop_eq_nil_of_le (by omega), List.nil_append, List.drop_drop, hX, show i + v.length + (j - (i + v.length)) = j by omega]
    exact List.take_of_length_le (by rw [List.length_drop]; omega)
  have hBt : B.take (i + v.length) = t.take i ++ v := by rw [hB]; exact List.take_left' hX
  have hCt : C.take D = t.take i ++ v ++ t.drop j := by
    rw [hC, hK', hBt]
    exact List.take_left' (by rw [List.length_append, hX, List.length_drop]; omega)
  rw [hE, hCt, List.append_assoc]
  exact List.take_left' (by rw [List.length_append, hX, List.length_drop]; omega)
end
end Go.Proofs.YtobgdeffhdefeaaDoor
/- The proofs of a slice, and what is erased: plain lists. -/
namespace Go.Proofs.YtobgdeffhdefeaaDoor
set_option linter.unusedSimpArgs false
set_option linter.unusedVariables false
/-- What is known of the proofs that were found. -/
structure PInv (t : List Nd) (k : Nat) (x : List (Int × Int) × Int × Int) : Prop where
  bd : ∀ y ∈ x.1, (t.length : Int) - k ≤ y.1 ∧ y.1 ≤ y.2 ∧ y.2 < t.length
  srt : x.1.Pairwise fun a b => b.2 < a.1
  cur : 0 ≤ x.2.1 → (t.length : Int) - k ≤ x.2.1 ∧ x.2.1 < t.length ∧ ∀ y ∈ x.1, x.2.1 < y.1
theorem prS_inv (t : List Nd) : ∀ k, k ≤ t.length → PInv t k (prS t k)
  | 0, _ => ⟨(fun _ h => by cases h), List.Pairwise.nil, (fun h => by simp [prS] at h)⟩
  | k + 1, hk => by
    have ih := prS_inv t k (by omega)
    rcases hx : prS t k with ⟨L, r, n⟩
    rw [hx] at ih
    obtain ⟨h1, h2, h3⟩ := ih
    simp only at h1 h2 h3
    have hst : prS t (k + 1) = prStep t k (L, r, n) := by rw [← hx]; rfl
    rw [hst]
    unfold prStep
    simp only
    by_cases hr : r < 0
    · simp only [hr, true_and, if_true]
      split
      · exact ⟨fun y hy => by have := h1 y hy; (try simp only at this ⊢); omega, h2, fun h => by (try simp only at h); omega⟩
      · split
        · exact ⟨fun y hy => by have := h1 y hy; omega, h2, fun _ => ⟨by (try simp only); omega, by (try simp only); omega, fun y hy => by have := h1 y hy; (try simp only); omega⟩⟩
        · refine ⟨fun y hy => ?_, ?_, fun h => by (try simp only at h); omega⟩
          · rcases List.mem_append.1 hy with hy | hy
            · have := h1 y hy; omega
            · rw [List.mem_singleton] at hy; subst hy; (try simp only); omega
          · refine List.pairwise_append.2 ⟨h2, by simp, fun a ha b hb => ?_⟩
            rw [List.mem_singleton] at hb; subst hb
            have := h1 a ha
            (try simp only)
            omega
    · obtain ⟨h4, h5, h6⟩ := h3 (by omega)
      simp only [hr, false_and, if_false]
      split
      · exact ⟨fun y hy => by have := h1 y hy; omega, h2, fun _ => ⟨by (try simp only); omega, h5, h6⟩⟩
      · refine ⟨fun y hy => ?_, ?_, fun h => by (try simp only at h); omega⟩
        · rcases List.mem_append.1 hy with hy | hy
          · have := h1 y hy; omega
          · rw [List.mem_singleton] at hy; subst hy; (try simp only); omega
        · refine List.pairwise_append.2 ⟨h2, by simp, fun a ha b hb => ?_⟩
          rw [List.mem_singleton] at hb; subst hb
          exact h6 a ha
/-- A proof that comes up, as numbers; those before it lie behind it. -/
theorem prfL_nat {t : List Nd} {pre : List (Int × Int)} {x : Int × Int} (h : pre ++ [x] <+: prfL t) : ∃ i j : Nat, x = ((i : Int), (j : Int)) ∧ i ≤ j ∧ j < t.length ∧ ∀ y ∈ pre, (j : Int) < y.1 := by
  have hi := prS_inv t t.length (Nat.le_refl _)
  obtain ⟨rest, hr⟩ := h
  have hb := hi.bd x (by show x ∈ prfL t; rw [← hr]; simp)
  have hs : (prfL t).Pairwise fun a b => b.2 < a.1 := hi.srt
  rw [← hr, List.append_assoc, List.pairwise_append] at hs
  refine ⟨x.1.toNat, x.2.toNat, ?_, by omega, by omega, fun y hy => ?_⟩
  · ext <;> simp only [] <;> omega
  · have := hs.2.2 y hy x (by simp)
    omega
abbrev tick : Nd := ⟨29, 0, 0, ⟨#[]⟩⟩
def repF (o : List Nd) (x : Int × Int) : List Nd := o.take x.1.toNat ++ [tick] ++ o.drop (x.2.toNat + 1)
def repP (t : List Nd) (pre : List (Int × Int)) : List Nd := pre.foldl repF t
theorem repP_snoc (t : List Nd) (pre : List (Int × Int)) (x : Int × Int) : repP t (pre ++ [x]) = repF (repP t pre) x := by simp [repP]
theorem repP_take (t : List Nd) (pre : List (Int × Int)) : ∀ m : Nat, (∀ y ∈ pre, (m : Int) ≤ y.1) → m ≤ t.length → (repP t pre).take m = t.take m := by
  induction h : pre.length generalizing pre with
  | zero =>
    have : pre = [] := List.eq_nil_of_length_eq_zero h
    subst this
    intro m _ _
    rfl
  | succ n ih =>
    obtain ⟨p, x, rfl⟩ : ∃ p x, pre = p ++ [x] := ⟨pre.dropLast, pre.getLast (by intro e; subst e; simp at h), (List.dropLast_concat_getLast _).symm⟩
    intro m hm hmt
    have h1 := ih p (by simpa using h) m (fun y hy => hm y (List.mem_append_left _ hy)) hmt
    have hx := hm x (by simp)
    have hl : m ≤ (repP t p).length := by
      have := congrArg List.length h1
      rw [List.length_take, List.length_take] at this
      omega
    rw [repP_snoc, repF, List.append_assoc, List.take_append_of_le_length (by rw [List.length_take]; omega), List.take_take, Nat.min_eq_left (by omega), h1]
theorem repP_len {t : List Nd} {pre : List (Int × Int)} {j : Nat} (hj : j < t.length) (h : ∀ y ∈ pre, (j : Int) < y.1) : j + 1 ≤ (repP t pre).length := by
  have h1 := repP_take t pre (j + 1) (fun y hy => by have := h y hy; omega) hj
  have := congrArg List.length h1
  rw [List.length_take, List.length_take] at this
  omega
theorem repP_le {t : List Nd} {pre : List (Int × Int)} (h : pre <+: prfL t) : (repP t pre).length ≤ t.length := by
  induction hn : pre.length generalizing pre with
  | zero =>
    have : pre = [] := List.eq_nil_of_length_eq_zero hn
    subst this
    exact Nat.le_refl _
  | succ n ih =>
    obtain ⟨p, x, rfl⟩ : ∃ p x, pre = p ++ [x] := ⟨pre.dropLast, pre.getLast (by intro e; subst e; simp at hn), (List.dropLast_concat_getLast _).symm⟩
    obtain ⟨i, j, rfl, hij, hj, hy⟩ := prfL_nat h
    have h1 := ih (List.IsPrefix.trans (List.prefix_append _ _) h) (by simpa using hn)
    have h2 := repP_len hj hy
    rw [repP_snoc, repF]
    simp only [List.length_append, List.length_take, List.length_drop, List.length_singleton, Int.toNat_natCast]
    omega
theorem repP_step {t : List Nd} {pre : List (Int × Int)} {i j : Nat} : (repP t pre).take i ++ [tick] ++ (repP t pre).drop (j + 1) = repP t (pre ++ [((i : Int), (j : Int))]) := by
  rw [repP_snoc]
  rfl
/-- The proofs themselves. -/
def prfsOf (t : List Nd) (pre : List (Int × Int)) : List (List Nd) := pre.map fun x => (t.drop x.1.toNat).take (x.2.toNat + 1 - x.1.toNat)
theorem prfs_step {t : List Nd} {pre : List (Int × Int)} {Ls : List Sl} {A : Option Addr} {c i j : Nat} (h : lsts Ls = prfsOf t pre) :
    lsts (Ls ++ [((A, c, (t.drop i).take (j + 1 - i)) : Sl)]) = prfsOf t (pre ++ [((i : Int), (j : Int))]) := by
  simp only [lsts, prfsOf] at h ⊢
  rw [List.map_append, List.map_append, h]
  rfl
theorem prfL_len {t : List Nd} {pre : List (Int × Int)} (h : pre <+: prfL t) : pre.length ≤ t.length := by
  have h1 := h.length_le
  have h2 : ∀ k, (prS t k).1.length ≤ k := fun k => by
    induction k with
    | zero => simp [prS]
    | succ k ih =>
      show (prStep t k (prS t k)).1.length ≤ k + 1
      unfold prStep
      (repeat' split) <;> (try simp) <;> omega
  have := h2 t.length
  exact Nat.le_trans h1 this
end Go.Proofs.YtobgdeffhdefeaaDoor
/- Regions that draw their order and, last of all, change what they have read. -/
namespace Go.Proofs.YtobgdeffhdefeaaDoor
set_option linter.unusedSimpArgs false
set_option linter.unusedVariables false
open Go Go.RowKit
section
variable {P : Program} {ops : Array Oper} {Q : Exit → Act → World → Prop} {S : World → Prop} {late : List Nat} {a : Act} {w w0 : World} {N : Nat} {l : List (Nat × Value)} {d : Nat} {Z M : Nat → Prop} {m : List Res} {ds : List Dat} {oi : Oper} {i fuel : Nat} {listed : Array Bool}
/-- Whatever order comes: S holds behind each operation but the late ones. -/
def wpAnyL (P : Program) (ops : Array Oper) (Q : Exit → Act → World → Prop) (S : World → Prop) (late : List Nat) : Nat → Array Bool → Act → World → Prop
  | 0, listed, a, w => Region.ready .any ops listed = [] ∧ Q .normal a w
  | fuel + 1, listed, a, w => (Region.ready .any ops listed = [] → Q .normal a w) ∧
      ∀ j ∈ Region.ready .any ops listed, wpOp P ops Q j (fun a' w' => (late.contains j = false → S w → S w') ∧ wpAnyL P ops Q S late fuel (listed.setIfInBounds j true) a' w') a w
theorem wpAny_of_late : ∀ (fuel : Nat) (listed : Array Bool) (a : Act) (w : World), wpAnyL P ops Q S late fuel listed a w → wpAny P .any ops Q fuel listed a w
  | 0, _, _, _, h => h
  | fuel + 1, _, _, _, h => ⟨h.1, fun i hi => wpOp_mono (fun _ _ h' => wpAny_of_late fuel _ _ _ h'.2) (h.2 i hi)⟩
/-- The late ones wait for number i. -/
def waits (ops : Array Oper) (late : List Nat) (i : Nat) : Bool := late.all fun j => match ops[j]? with
  | some oj => oj.after.toList.any fun e => Region.binds .any e && e.on == i
  | none => true
theorem waits_not {j : Nat} {oj : Oper} (hl : waits ops late i = true) (hj : late.contains j = true) (ho : ops[j]? = some oj) : ¬ ∀ e ∈ oj.after, Region.binds .any e = true → e.on ≠ i := by
  unfold waits at hl
  rw [List.all_eq_true] at hl
  have h1 := hl j (by simpa using hj)
  simp only [ho] at h1
  intro hall
  obtain ⟨e, he, hb⟩ := List.any_eq_true.1 h1
  rw [Bool.and_eq_true, beq_iff_eq] at hb
  exact hall e (by simpa using he) hb.1 hb.2
theorem late_first {v : Value} (hi : ops[i]? = some oi) (hsel : ∀ (j : Nat) (o : Oper) cs b, ops[j]? = some o → o.op ≠ .select cs b) (hl : waits ops late i = true)
    (hQ : ∀ c a w, Q (.panic c) (a.put oi.dst v) w → Q (.panic c) a w) : ∀ (fuel : Nat) (listed : Array Bool) (a : Act) (w : World),
      (∀ j oj, ops[j]? = some oj → j ≠ i → listed.getD j true = false → (∀ e ∈ oj.after, Region.binds .any e = true → e.on ≠ i) → oi.apart ops oj = true) →
      i ∈ Region.ready .any ops listed → YieldsIf P ops S oi v a → S w →
      wpAnyL P ops Q S late fuel (listed.setIfInBounds i true) (a.put oi.dst v) w → wpAnyL P ops Q S late (fuel + 1) listed a w
  | 0, listed, a, w, _, hr, hy, hS, H => by
    refine ⟨fun h => (by rw [h] at hr; cases hr), fun j hj => ?_⟩
    by_cases hji : j = i
    · subst hji; exact hy.wpOp hi hS ⟨fun _ h => h, H⟩
    · have := ready_mono hj hji
      rw [H.1] at this
      cases this
  | fuel + 1, listed, a, w, hfree, hr, hy, hS, H => by
    refine ⟨fun h => (by rw [h] at hr; cases hr), fun j hj => ?_⟩
    by_cases hji : j = i
    · subst hji; exact hy.wpOp hi hS ⟨fun _ h => h, H⟩
    · obtain ⟨hjun, oj, hoj, hall⟩ := mem_ready.1 hj
      have hnot : ∀ e ∈ oj.after, Region.binds .any e = true → e.on ≠ i := fun e he hb heq => by
        have h1 := hall e he hb
        have h0 := (mem_ready.1 hr).1
        rw [heq] at h1
        rcases Nat.lt_or_ge i listed.size with h' | h'
        · simp [h'] at h0 h1; rw [h0] at h1; cases h1
        · simp [Array.getElem?_eq_none h'] at h1
      have hnl : late.contains j = false := by
        cases hc : late.contains j with
        | false => rfl
        | true => exact absurd hnot (waits_not hl hc hoj)
      refine wpOp_mono (fun a' w' h3 => ⟨h3.2.1, late_first hi hsel hl hQ fuel (listed.setIfInBounds j true) a' w' (fun k ok hk hki hun hno => hfree k ok hk hki ?_ hno) (ready_mono hr (Ne.symm hji)) h3.1 (h3.2.1 hnl hS) ?_⟩)
        (wpOp_putIf hoj (hfree j oj hoj hji hjun hnot) (fun cs b => hsel i oi cs b hi) (fun cs b => hsel j oj cs b hoj) hQ hy (H.2 j (ready_mono hj hji)))
      · by_cases hjk : j = k
        · subst hjk; exact hjun
        · rw [getD_set_ne true hjk] at hun; exact hun
      · rw [Array.setIfInBounds_comm _ _ hji]
        exact h3.2.2
/-- What yields in whatever world may be taken first, whether the late ones wait for it or not. -/
theorem late_any {v : Value} (hi : ops[i]? = some oi) (hsel : ∀ (j : Nat) (o : Oper) cs b, ops[j]? = some o → o.op ≠ .select cs b)
    (hQ : ∀ c a w, Q (.panic c) (a.put oi.dst v) w → Q (.panic c) a w) : ∀ (fuel : Nat) (listed : Array Bool) (a : Act) (w : World),
      (∀ j oj, ops[j]? = some oj → j ≠ i → listed.getD j true = false → (∀ e ∈ oj.after, Region.binds .any e = true → e.on ≠ i) → oi.apart ops oj = true) →
      i ∈ Region.ready .any ops listed → YieldsIf P ops (fun _ => True) oi v a →
      wpAnyL P ops Q S late fuel (listed.setIfInBounds i true) (a.put oi.dst v) w → wpAnyL P ops Q S late (fuel + 1) listed a w
  | 0, listed, a, w, _, hr, hy, H => by
    refine ⟨fun h => (by rw [h] at hr; cases hr), fun j hj => ?_⟩
    by_cases hji : j = i
    · subst hji; exact hy.wpOp hi trivial ⟨fun _ h => h, H⟩
    · have := ready_mono hj hji
      rw [H.1] at this
      cases this
  | fuel + 1, listed, a, w, hfree, hr, hy, H => by
    refine ⟨fun h => (by rw [h] at hr; cases hr), fun j hj => ?_⟩
    by_cases hji : j = i
    · subst hji; exact hy.wpOp hi trivial ⟨fun _ h => h, H⟩
    · obtain ⟨hjun, oj, hoj, hall⟩ := mem_ready.1 hj
      have hnot : ∀ e ∈ oj.after, Region.binds .any e = true → e.on ≠ i := fun e he hb heq => by
        have h1 := hall e he hb
        have h0 := (mem_ready.1 hr).1
        rw [heq] at h1
        rcases Nat.lt_or_ge i listed.size with h' | h'
        · simp [h'] at h0 h1; rw [h0] at h1; cases h1
        · simp [Array.getElem?_eq_none h'] at h1
      refine wpOp_mono (fun a' w' h3 => ⟨h3.2.1, late_any hi hsel hQ fuel (listed.setIfInBounds j true) a' w' (fun k ok hk hki hun hno => hfree k ok hk hki ?_ hno) (ready_mono hr (Ne.symm hji)) h3.1 ?_⟩)
        (wpOp_putIf hoj (hfree j oj hoj hji hjun hnot) (fun cs b => hsel i oi cs b hi) (fun cs b => hsel j oj cs b hoj) hQ hy (H.2 j (ready_mono hj hji)))
      · by_cases hjk : j = k
        · subst hjk; exact hjun
        · rw [getD_set_ne true hjk] at hun; exact hun
      · rw [Array.setIfInBounds_comm _ _ hji]
        exact h3.2.2
theorem dl_takeA {v : Value} (hi : ops[i]? = some oi) (hs : Region.noSelect ops = true) (hf : Region.free .any ops listed i = true) (hr : (Region.ready .any ops listed).contains i = true)
    (hQ : ∀ c a w, Q (.panic c) (a.put oi.dst v) w → Q (.panic c) a w) (hd : oi.dst = some d) (hdN : d < N) (hR : Reg a N l) (hw : Region.wanted oi (yielded ops a.tmps) = true) (hy : ∀ x, (execOp a.eval oi).run P x = .ok (.value v) x)
    (h : ∀ a', Reg a' N ((d, v) :: l) → wpAnyL P ops Q S late fuel (listed.setIfInBounds i true) a' w) : wpAnyL P ops Q S late (fuel + 1) listed a w :=
  late_any hi (Region.noSelect_spec hs) hQ fuel listed a w (Region.free_spec hi hf) (by simpa using hr) (.inl ⟨hw, fun x _ => hy x⟩) (by rw [hd]; exact h _ (hR.put hdN v))
theorem dl_region2 {id n : Nat} (late : List Nat) (hm : P.follows .mixedOrders = true) (hn : ops.size = n) (hS : St w0 Z M w m ds) (hp : PanOK Q)
    (h : ∀ (Q' : Exit → Act → World → Prop), PanOK Q' → (∀ a w, Q .normal a w → Q' .normal a w) → ∀ w', St w0 Z M w' m ds → wpAnyL P ops Q' S late n (Array.replicate n false) a w') : (Code.region id ops true).wp P Q a w :=
  wp_region_any hm (wpAny_of_late _ _ _ _ (by rw [hn]; exact h Q hp (fun _ _ h => h) _ hS.drew))
theorem dli_region2 {l n k id : Nat} (late : List Nat) (hm : P.follows .mixedOrders = true) (hn : ops.size = k) (hnd : ops.all notDefer = true) (hS : St w0 Z M w m ds) (hp : PanOK Q) (hQ : NoOut Q)
    (h : ∀ (Q' : Exit → Act → World → Prop), PanOK Q' → (∀ a w, Q .normal a w → Q' .normal a w) → ∀ w', St w0 Z M w' m ds → wpAnyL P ops Q' S late k (Array.replicate k false) a w') : (Code.region id ops true).wpIn (rI l) n P Q a w := by
  refine wpIn_region_draw fun t => ops_in hnd hQ _ _ _ ?_
  simp only [Region.schedule, hm, Bool.true_or, if_true]
  refine wpAny_sound ops.size t _ a _ (wpAny_of_late (S := S) (late := late) _ _ _ _ ?_)
  subst hn
  exact h Q hp (fun _ _ h => h) _ hS.drew
theorem dl_take {v : Value} (hi : ops[i]? = some oi) (hs : Region.noSelect ops = true) (hf : Region.free .any ops listed i = true) (hr : (Region.ready .any ops listed).contains i = true) (hl : waits ops late i = true)
    (hQ : ∀ c a w, Q (.panic c) (a.put oi.dst v) w → Q (.panic c) a w) (hd : oi.dst = some d) (hdN : d < N) (hR : Reg a N l) (hw : Region.wanted oi (yielded ops a.tmps) = true) (hy : ∀ x, S x → (execOp a.eval oi).run P x = .ok (.value v) x) (hS : S w)
    (h : ∀ a', Reg a' N ((d, v) :: l) → wpAnyL P ops Q S late fuel (listed.setIfInBounds i true) a' w) : wpAnyL P ops Q S late (fuel + 1) listed a w :=
  late_first hi (Region.noSelect_spec hs) hl hQ fuel listed a w (Region.free_spec hi hf) (by simpa using hr) (.inl ⟨hw, hy⟩) hS (by rw [hd]; exact h _ (hR.put hdN v))
theorem dl_pass (hi : ops[i]? = some oi) (hs : Region.noSelect ops = true) (hf : Region.free .any ops listed i = true) (hr : (Region.ready .any ops listed).contains i = true) (hl : waits ops late i = true)
    (hQ : ∀ c a w, Q (.panic c) (a.put oi.dst undef) w → Q (.panic c) a w) (hd : oi.dst = some d) (hdN : d < N) (hR : Reg a N l) (hw : Region.wanted oi (yielded ops a.tmps) = false) (hS : S w)
    (h : ∀ a', Reg a' N ((d, undef) :: l) → wpAnyL P ops Q S late fuel (listed.setIfInBounds i true) a' w) : wpAnyL P ops Q S late (fuel + 1) listed a w :=
  late_first hi (Region.noSelect_spec hs) hl hQ fuel listed a w (Region.free_spec hi hf) (by simpa using hr) (.inr ⟨hw, rfl⟩) hS (by rw [hd]; exact h _ (hR.put hdN _))
theorem dl_all {rs : List Nat} (hr : Region.ready .any ops listed = rs) (hne : rs ≠ [])
    (h : ∀ i ∈ rs, wpOp P ops Q i (fun a' w' => (late.contains i = false → S w → S w') ∧ wpAnyL P ops Q S late fuel (listed.setIfInBounds i true) a' w') a w) : wpAnyL P ops Q S late (fuel + 1) listed a w :=
  ⟨fun h0 => absurd (hr ▸ h0) hne, hr ▸ h⟩
theorem dl_one (hr : Region.ready .any ops listed = [i]) (h : wpOp P ops Q i (fun a' w' => (late.contains i = false → S w → S w') ∧ wpAnyL P ops Q S late fuel (listed.setIfInBounds i true) a' w') a w) : wpAnyL P ops Q S late (fuel + 1) listed a w :=
  dl_all hr (by simp) (fun j hj => by rw [List.mem_singleton] at hj; subst hj; exact h)
theorem dl_done (hr : Region.ready .any ops listed = []) (h : Q .normal a w) : ∀ fuel, wpAnyL P ops Q S late fuel listed a w
  | 0 => ⟨hr, h⟩
  | _ + 1 => ⟨fun _ => h, by rw [hr]; simp⟩
end
end Go.Proofs.YtobgdeffhdefeaaDoor
/- Rows changed in place; a row of the caller's that a call changes. -/
namespace Go.Proofs.YtobgdeffhdefeaaDoor
set_option linter.unusedSimpArgs false
set_option linter.unusedVariables false
open Go Go.RowKit
section
variable {P : Program} {X : Prop} {Next : Act → World → Prop} {op : Oper} {a : Act} {w w' w0 : World} {N : Nat} {l : List (Nat × Value)} {d : Nat} {Z M : Nat → Prop} {m : List Res} {ds : List Dat}
theorem over_list {α : Type} (xs rest vs : List α) (o : Nat) (h : o + vs.length ≤ xs.length) : (((xs ++ rest).take o ++ vs ++ (xs ++ rest).drop (o + vs.length)).take xs.length = xs.take o ++ vs ++ xs.drop (o + vs.length)) ∧
    ((xs ++ rest).take o ++ vs ++ (xs ++ rest).drop (o + vs.length)).length = (xs ++ rest).length := by
  have h1 : (xs ++ rest).take o = xs.take o := List.take_append_of_le_length (by omega)
  have h2 : (xs ++ rest).drop (o + vs.length) = xs.drop (o + vs.length) ++ rest := List.drop_append_of_le_length h
  rw [h1, h2, ← List.append_assoc]
  have h3 : (xs.take o ++ vs ++ xs.drop (o + vs.length)).length = xs.length := by simp; omega
  refine ⟨?_, by rw [List.length_append, h3, List.length_append]⟩
  rw [← h3, List.take_left']
  rfl
theorem addr0 (g o : Nat) : (⟨g, 0, none⟩ : Addr).add o = ⟨g, o, none⟩ := by unfold Addr.add; split <;> simp_all
/-- Cells of an own row are overwritten. -/
theorem St.over (hS : St w0 Z M w m ds) {i : Nat} {A : Option Addr} {n cap e size : Nat} {xs : List Value} {ad : Addr} (hi : m[i]? = some (.row A n cap e size xs)) (hA : A = some ad) (o : Nat) (vs : List Value) (hfit : o + vs.length ≤ xs.length)
    (h1 : ∀ v ∈ vs, v.oneCell' = true) : ∃ w', (storeCells (ad.add o) vs).run P w = .ok () w' ∧ St w0 Z M w' (m.set i (.row A n cap e size (xs.take o ++ vs ++ xs.drop (o + vs.length)))) ds := by
  have hr : w.ownsRow 0 e size (.slice A n cap) n xs := hS.res hi
  rcases hr.2 with ⟨h2, h3⟩ | ⟨g, cap', cur, hv, h2, h3, h4, h5, h6, h7⟩
  · injection h2 with ha
    rw [ha] at hA
    cases hA
  · injection hv with ha hb hc
    subst hc
    rw [ha] at hA
    obtain rfl := Option.some.inj hA
    have hcur : cur.toList = xs ++ cur.toList.drop (n * size) := by rw [← h7, List.take_append_drop]
    have hlen : xs.length = n * size := hr.1
    have hl2 : xs.length + (cur.toList.drop (n * size)).length = cur.size := by
      have := congrArg List.length hcur
      simpa using this.symm
    obtain ⟨ho1, ho2⟩ := over_list xs (cur.toList.drop (n * size)) vs o hfit
    rw [← hcur] at ho1 ho2
    have hadd : (⟨g, 0, none⟩ : Addr).add o = ⟨g, o, none⟩ := addr0 g o
    refine ⟨_, by rw [hadd]; exact run_storeCells_at P g o e vs 0 cur w h3 (by omega) h1, ?_⟩
    simp only [Nat.add_zero]
    refine hS.turn hi rfl rfl rfl (by simp) (fun k hk hne => setRow_other w g k _ (fun e' => hne (by rw [e', ha]; rfl))) ⟨?_, .inr ⟨g, cap, _, by rw [ha], Nat.zero_le _, setRow_heap w g _ _ e (0, 0) h3, h4, h5, ?_, ?_⟩⟩ (fun k hk => ?_)
    · simp; omega
    · simpa [h6] using ho2
    · rw [← hlen]
      simpa using ho1
    · have hk' : (Res.row A n cap e size xs).blk = some k := hk
      exact ⟨by simpa using (hS.own _ (List.mem_of_getElem? hi) k hk').1, .inl hk'⟩
theorem St.overF {α : Type} {f : α → List Value} (hS : St w0 Z M w m ds) {i cap e size : Nat} {A : Option Addr} {L : List α} {ad : Addr} (hi : m[i]? = some (.row A L.length cap e size (L.flatMap f))) (hA : A = some ad) (hf : ∀ x, (f x).length = size)
    (hone : ∀ x, ∀ v ∈ f x, v.oneCell' = true) (k : Nat) (K : List α) (hfit : k + K.length ≤ L.length) (L' : List α) (hL : L.take k ++ K ++ L.drop (k + K.length) = L') :
    ∃ w', (storeCells (ad.add (k * size)) (K.flatMap f)).run P w = .ok () w' ∧ St w0 Z M w' (m.set i (.row A L'.length cap e size (L'.flatMap f))) ds := by
  subst hL
  have hK : (K.flatMap f).length = K.length * size := enc_length hf K
  obtain ⟨w', h1, h2⟩ := St.over (P := P) hS hi hA (k * size) (K.flatMap f) (by rw [hK, enc_length hf, ← Nat.add_mul]; exact Nat.mul_le_mul_right _ hfit) (fun v hv => by
    obtain ⟨x, _, hx⟩ := List.mem_flatMap.1 hv
    exact hone x v hx)
  refine ⟨w', h1, ?_⟩
  rw [hK, ← Nat.add_mul, enc_take hf, enc_drop hf] at h2
  have hl : (L.take k ++ K ++ L.drop (k + K.length)).length = L.length := by simp; omega
  rw [hl, List.flatMap_append, List.flatMap_append]
  exact h2
theorem row_some (hS : St w0 Z M w m ds) {i n cap e size : Nat} {A : Option Addr} {xs : List Value} (hi : m[i]? = some (.row A n cap e size xs)) (hn : 0 < n) : ∃ ad, A = some ad := by
  have hr : w.ownsRow 0 e size (.slice A n cap) n xs := hS.res hi
  obtain ⟨g, rfl⟩ := own_some hr hn
  exact ⟨_, rfl⟩
/-- An element of an own row is stored. -/
theorem m_storeE {α : Type} {f : α → List Value} {t : TypeId} {x y : Operand} {A : Option Addr} {L : List α} {i j k cap e size : Nat} {v : Value} {z : α} (hs : Ste P X Next op a w) (hR : Reg a N l) (hS : St w0 Z M w m ds) (hd : op.dst = none) (ho : op.op = .store t x y)
    (hx : ev l x = some (.pointer (eP A j))) (hy : ev l y = some v) (hi : m[i]? = some (.row A L.length cap e size (L.flatMap f))) (hj : j = k * size) (hk : k < L.length) (hf : ∀ x, (f x).length = size) (hone : ∀ x, ∀ v ∈ f x, v.oneCell' = true)
    (hv : v.cells.toList = f z) (hsz : (P.info? t).map (·.size) = some size)
    (kk : ∀ a' w', Reg a' N l → St w0 Z M w' (m.set i (.row A (L.set k z).length cap e size ((L.set k z).flatMap f))) ds → Next a' w') : X := by
  subst hj
  obtain ⟨ad, rfl⟩ := row_some hS hi (by omega)
  obtain ⟨w', h1, h2⟩ := St.overF (P := P) hS hi rfl hf hone k [z] (by rw [List.length_singleton]; omega) (L.set k z) (by rw [List.set_eq_take_append_cons_drop, if_pos hk]; simp)
  cases hq : P.info? t with
  | none => simp [hq] at hsz
  | some inf =>
    have hii : inf.size = size := by simpa [hq] using hsz
    have hvs : v.cells.size = inf.size := by
      have := congrArg List.length hv
      rw [hf] at this
      simpa [hii] using this
    have h3 : (storeVar t (ad.add (k * size)) v).run P w = .ok () w' := by
      rw [List.flatMap_cons, List.flatMap_nil, List.append_nil, ← hv] at h1
      simp [storeVar, Sem.run_bind, sizeOf, typeInfo, hq, hvs, h1]
    refine hs.skip w' ?_ ?_
    · unfold execOp; rw [ho]
      simp only [hR.ev hx, hR.ev hy, eP, Option.map_some, Instr.storeAt, Instr.sureAddr, Sem.run_bind, Sem.run_pure, Result.andThen_ok, h3]
    · rw [hd]
      exact kk _ _ (hR.put_none _) h2
/-! ### A row of the caller's -/
abbrev rM (A : Option Addr) : Nat → Prop := fun k => A.map (·.block) = some k
theorem row_lt {A : Option Addr} {n cap e size : Nat} {xs : List Value} (h : (Res.row A n cap e size xs).holds w) {k : Nat} (hk : rM A k) : k < w.heap.size := by
  obtain ⟨cs, t, fz, hc⟩ := Res.cells_at h (k := k) hk
  exact (Array.getElem?_eq_some_iff.1 hc).1
theorem St.startR (w0 : World) (Z : Nat → Prop) (ds : List Dat) (A : Option Addr) (n cap e size : Nat) (xs : List Value) (hb : (Res.row A n cap e size xs).holds w0) (h : ∀ d ∈ ds, d.φ w0 (imm Z w0 [.row A n cap e size xs] w0)) : St w0 Z (rM A) w0 [.row A n cap e size xs] ds :=
  ⟨rfl, rfl, rfl, Nat.le_refl _, fun _ _ _ => rfl, (fun r h => by rw [List.mem_singleton] at h; subst h; exact hb), (fun r h k e => by
    rw [List.mem_singleton] at h; subst h
    exact ⟨row_lt hb e, .inr e⟩), .cons (fun _ h => by cases h) .nil, h⟩
theorem imm_startR {A : Option Addr} {n cap e size : Nat} {xs : List Value} (hZ : ∀ k, Z k → k < w0.heap.size) (hg : ∀ k, rM A k → ¬ Z k) {k : Nat} (hk : Z k) : imm Z w0 [.row A n cap e size xs] w0 k ∧ w0.heap[k]? = w0.heap[k]? :=
  ⟨⟨hZ k hk, fun _ => hk, fun r hr e => by
    rw [List.mem_singleton] at hr; subst hr
    exact hg k e hk⟩, rfl⟩
theorem St.callR (h : St w0 Z M w m ds) {i n n' cap e size : Nat} {A : Option Addr} {xs xs' : List Value} (hi : m[i]? = some (.row A n cap e size xs)) (hf : Fr (rM A) w w') (hb : (Res.row A n' cap e size xs').holds w') : St w0 Z M w' (m.set i (.row A n' cap e size xs')) ds :=
  h.turn hi hf.os hf.tape hf.output hf.size (fun k hk hne => hf.old k hk (fun e => hne e)) hb (fun k hk => ⟨row_lt hb hk, .inl hk⟩)
theorem imm_row {i n cap e size : Nat} {A : Option Addr} {xs : List Value} (hi : m[i]? = some (.row A n cap e size xs)) : ∀ k, rM A k → ¬ imm Z w0 m w k := fun k hk h => h.2.2 _ (List.mem_of_getElem? hi) hk
end
end Go.Proofs.YtobgdeffhdefeaaDoor
