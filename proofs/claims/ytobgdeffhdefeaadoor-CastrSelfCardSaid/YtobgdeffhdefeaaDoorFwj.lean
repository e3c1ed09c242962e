import Derived.Test.YtobgdeffhdefeaaDoorFwi
/- Cuts of slices, and appends, by lists. -/
namespace Go.Proofs.YtobgdeffhdefeaaDoor
set_option linter.unusedSimpArgs false
set_option linter.unusedVariables false
open Go Go.RowKit
section
variable {P : Program} {X : Prop} {Next : Act → World → Prop} {o : Oper} {a : Act} {w w0 : World} {N : Nat} {l : List (Nat × Value)} {d : Nat} {Z M : Nat → Prop} {m : List Res} {ds : List Dat}

theorem m_sliceA {t e : TypeId} {x : Operand} {lo hi : Option Operand} {vlo vhi : Option Value} {A : Option Addr} {n cap size : Nat} {kd kd' : IntKind} (hs : SteV P X Next o a w) (hR : Reg a N l) (hd : o.dst = some d)
    (ho : o.op = .slice t x lo hi none) (hx : ev l x = some (.slice A n cap)) (hvlo : lo.map (ev l) = vlo.map some) (hvhi : hi.map (ev l) = vhi.map some) (k q : Nat)
    (hlo : vlo = some (.int kd (k : Int)) ∨ vlo = none ∧ k = 0) (hhi : vhi = some (.int kd' ((k + q : Nat) : Int)) ∨ vhi = none ∧ k + q = n)
    (ht : P.underlying t = some (.slice e)) (hsz : (P.info? e).map (·.size) = some size) (hm : k + q ≤ cap) (hdN : d < N)
    (kk : ∀ a', Reg a' N ((d, .slice (if cap = k then A else A.map (·.add (k * size))) q (cap - k)) :: l) → Next a' w) : X := by
  have hl : lo.map a.eval = vlo := by
    cases lo <;> cases vlo <;> simp_all
    exact hR.ev hvlo
  have hh : hi.map a.eval = vhi := by
    cases hi <;> cases vhi <;> simp_all
    exact hR.ev hvhi
  have hrun := run_sliceAt (P := P) (w := w) (A := A) (n := n) (cap := cap) (k := k) (m := k + q) (kd := kd) (kd' := kd') vlo vhi ht hsz (by omega) (by omega) hlo hhi
  rw [show k + q - k = q by omega] at hrun
  refine r_pure hs hR hd hdN ?_ kk
  unfold execOp; rw [ho]
  simp only [hR.ev hx, hl, hh, Option.map_none, Sem.run_bind, hrun, Result.andThen_ok, Sem.run_pure]

theorem add_zero_addr (ad : Addr) : ad.add 0 = ad := by simp [Addr.add]
/-- The front of a slice. -/
theorem m_sliceP {t e : TypeId} {x y : Operand} {A : Option Addr} {n cap size : Nat} {kd : IntKind} {p : Int} (hs : SteV P X Next o a w) (hR : Reg a N l) (hd : o.dst = some d)
    (ho : o.op = .slice t x none (some y) none) (hx : ev l x = some (.slice A n cap)) (hy : ev l y = some (.int kd p)) (q : Nat) (hp : p = (q : Int))
    (ht : P.underlying t = some (.slice e)) (hsz : (P.info? e).map (·.size) = some size) (hm : q ≤ cap) (hdN : d < N)
    (kk : ∀ a', Reg a' N ((d, .slice A q cap) :: l) → Next a' w) : X := by
  subst hp
  refine m_sliceA (vlo := none) (vhi := some (.int kd (q : Int))) (kd := .i64) (kd' := kd) hs hR hd ho hx rfl (by simp [hy]) 0 q (.inr ⟨rfl, rfl⟩) (.inl (by simp)) ht hsz (by omega) hdN (fun a' hR' => kk a' ?_)
  have : (if cap = 0 then A else A.map (·.add (0 * size))) = A := by
    split
    · rfl
    · cases A <;> simp [add_zero_addr]
  rw [this] at hR'
  simpa using hR'

/-- What lies where, of a cut. -/
def Cut (size : Nat) (A A' : Option Addr) (k q : Nat) : Prop := ∀ j, j < q → A'.map (·.add (j * size)) = A.map (·.add ((k + j) * size))
theorem Cut.elem {size k q j : Nat} {A A' : Option Addr} (h : Cut size A A' k q) {w : World} {vs : List Value} (hj : j < q) (he : ElemAt w A ((k + j) * size) vs) : ElemAt w A' (j * size) vs := by
  obtain ⟨ad, rfl, hc⟩ := he
  have h1 := h j hj
  cases A' with
  | none => cases h1
  | some ad' =>
    have h2 : ad'.add (j * size) = ad.add ((k + j) * size) := by simpa using h1
    exact ⟨ad', rfl, by rw [h2]; exact hc⟩
theorem m_sliceV {t e : TypeId} {x : Operand} {lo hi : Option Operand} {vlo vhi : Option Value} {A : Option Addr} {n cap size : Nat} {kd kd' : IntKind} (hs : SteV P X Next o a w) (hR : Reg a N l) (hd : o.dst = some d)
    (ho : o.op = .slice t x lo hi none) (hx : ev l x = some (.slice A n cap)) (hvlo : lo.map (ev l) = vlo.map some) (hvhi : hi.map (ev l) = vhi.map some) (k q : Nat)
    (hlo : vlo = some (.int kd (k : Int)) ∨ vlo = none ∧ k = 0) (hhi : vhi = some (.int kd' ((k + q : Nat) : Int)) ∨ vhi = none ∧ k + q = n)
    (ht : P.underlying t = some (.slice e)) (hsz : (P.info? e).map (·.size) = some size) (hm : k + q ≤ cap) (hdN : d < N)
    (kk : ∀ a' A' c', q ≤ c' → Cut size A A' k q → Reg a' N ((d, .slice A' q c') :: l) → Next a' w) : X :=
  m_sliceA hs hR hd ho hx hvlo hvhi k q hlo hhi ht hsz hm hdN (fun a' hR' => kk a' _ _ (by omega) (fun j hj => by
    rw [if_neg (by omega)]
    cases A with
    | none => rfl
    | some ad => simp [add_of_add, Nat.add_mul]) hR')
/-- A cut of data. -/
theorem m_sliceD {α : Type} {f : α → List Value} {t e : TypeId} {x : Operand} {lo hi : Option Operand} {vlo vhi : Option Value} {A : Option Addr} {cap size : Nat} {kd kd' : IntKind} {I : Nat → Prop} {L : List α} (hs : SteV P X Next o a w) (hR : Reg a N l) (hd : o.dst = some d)
    (ho : o.op = .slice t x lo hi none) (hx : ev l x = some (.slice A L.length cap)) (hvlo : lo.map (ev l) = vlo.map some) (hvhi : hi.map (ev l) = vhi.map some) (k q : Nat)
    (hlo : vlo = some (.int kd (k : Int)) ∨ vlo = none ∧ k = 0) (hhi : vhi = some (.int kd' ((k + q : Nat) : Int)) ∨ vhi = none ∧ k + q = L.length)
    (M' : List α) (hM : (L.drop k).take q = M') (hf : ∀ x, (f x).length = size)
    (hrow : L.length ≤ cap ∧ RowI w I size A L.length (L.flatMap f)) (ht : P.underlying t = some (.slice e)) (hsz : (P.info? e).map (·.size) = some size) (hm : k + q ≤ L.length) (hdN : d < N)
    (kk : ∀ a' A' c', M'.length ≤ c' ∧ RowI w I size A' M'.length (M'.flatMap f) → Reg a' N ((d, .slice A' M'.length c') :: l) → Next a' w) : X := by
  subst hM
  have hq : ((L.drop k).take q).length = q := by rw [List.length_take, List.length_drop]; omega
  refine m_slice hs hR hd ho hx hvlo hvhi k q hlo hhi hrow.2 ht hsz hm hrow.1 hdN (fun a' A' c' hc hr hR' => kk a' A' c' ?_ ?_)
  · rw [hq, ← enc_take hf, ← enc_drop hf]
    exact ⟨hc, hr⟩
  · rw [hq]; exact hR'

/-- An append onto a whole row of the call's own. -/
theorem m_appendF {α : Type} {f : α → List Value} {t e : TypeId} {x y : Operand} {A A2 : Option Addr} {cap c2 size bytes i : Nat} {z : Value} (L M' : List α) (hs : SteV P X Next o a w) (hR : Reg a N l) (hS : St w0 Z M w m ds) (hd : o.dst = some d)
    (ho : o.op = .call { callee := .builtin .append, args := #[x, y], argTypes := #[t, t] }) (hx : ev l x = some (.slice A L.length cap)) (hy : ev l y = some (.slice A2 M'.length c2)) (hi : m[i]? = some (.row A L.length cap e size (L.flatMap f)))
    (hf : ∀ x, (f x).length = size) (h1 : ∀ u ∈ M'.flatMap f, u.oneCell' = true)
    (ht : P.underlying t = some (.slice e)) (hinf : (P.info? e).map (fun i => (i.zero, i.size, i.bytes)) = some (some z, size, bytes)) (hzs : (z.cells.size == size) = true) (hsz : (size == 0) = false)
    (hr : 0 < M'.length → ∃ ad, A2 = some ad ∧ CellsAt w ad (M'.flatMap f)) (hby : decide (bytes ≤ 1000) = true) (hb : L.length + M'.length ≤ 100000000) (hdN : d < N)
    (k : ∀ a' w' A' cap', (L ++ M').length ≤ cap' → Reg a' N ((d, .slice A' (L ++ M').length cap') :: l) → St w0 Z M w' (m.set i (.row A' (L ++ M').length cap' e size ((L ++ M').flatMap f))) ds → Next a' w') : X := by
  refine m_append (news := M'.flatMap f) hs hR hS hd ho hx hy hi (Nat.le_refl _) ht hinf hzs hsz (enc_length hf M') hr h1 hby hb hdN (fun a' w' A' cap' hc hR' hS' => k a' w' A' cap' ?_ ?_ ?_)
  · rw [List.length_append]; exact hc
  · rw [List.length_append]; exact hR'
  · rw [List.length_append, List.flatMap_append]
    rw [enc_take hf, List.take_length] at hS'
    exact hS'
/-- An append onto the front of a row of the call's own. -/
theorem m_appendC {α : Type} {f : α → List Value} {t e : TypeId} {x y : Operand} {A A2 : Option Addr} {n cap c2 size bytes i : Nat} {z : Value} (L M' : List α) (hs : SteV P X Next o a w) (hR : Reg a N l) (hS : St w0 Z M w m ds) (hd : o.dst = some d)
    (ho : o.op = .call { callee := .builtin .append, args := #[x, y], argTypes := #[t, t] }) (hx : ev l x = some (.slice A n cap)) (hy : ev l y = some (.slice A2 M'.length c2)) (hi : m[i]? = some (.row A L.length cap e size (L.flatMap f)))
    (hn : n ≤ L.length) (hf : ∀ x, (f x).length = size) (h1 : ∀ u ∈ M'.flatMap f, u.oneCell' = true)
    (ht : P.underlying t = some (.slice e)) (hinf : (P.info? e).map (fun i => (i.zero, i.size, i.bytes)) = some (some z, size, bytes)) (hzs : (z.cells.size == size) = true) (hsz : (size == 0) = false)
    (hr : 0 < M'.length → ∃ ad, A2 = some ad ∧ CellsAt w ad (M'.flatMap f)) (hby : decide (bytes ≤ 1000) = true) (hb : n + M'.length ≤ 100000000) (hdN : d < N)
    (k : ∀ a' w' A' cap', (L.take n ++ M').length ≤ cap' → Reg a' N ((d, .slice A' (L.take n ++ M').length cap') :: l) → St w0 Z M w' (m.set i (.row A' (L.take n ++ M').length cap' e size ((L.take n ++ M').flatMap f))) ds → Next a' w') : X := by
  have hl : (L.take n ++ M').length = n + M'.length := by rw [List.length_append, List.length_take, Nat.min_eq_left hn]
  refine m_append (news := M'.flatMap f) hs hR hS hd ho hx hy hi hn ht hinf hzs hsz (enc_length hf M') hr h1 hby hb hdN (fun a' w' A' cap' hc hR' hS' => k a' w' A' cap' ?_ ?_ ?_)
  · rw [hl]; exact hc
  · rw [hl]; exact hR'
  · rw [hl, List.flatMap_append]
    rw [enc_take hf] at hS'
    exact hS'
theorem own_lnews {α : Type} {f : α → List Value} {w : World} {A : Option Addr} {n cap e size : Nat} {xs : List Value} (h : (Res.row A n cap e size xs).holds w) : 0 < n → ∃ ad, A = some ad ∧ CellsAt w ad xs := own_news h
end
theorem not_t {b : Bool} (h : (!b) = true) : b = false := by cases b <;> simp_all
theorem not_f {b : Bool} (h : (!b) = false) : b = true := by cases b <;> simp_all
theorem or_fl {a b : Bool} (h : (a || b) = false) : a = false := by cases a <;> simp_all
theorem or_fr {a b : Bool} (h : (a || b) = false) : b = false := by cases b <;> simp_all
theorem and_tl {a b : Bool} (h : (a && b) = true) : a = true := by cases a <;> simp_all
theorem and_tr {a b : Bool} (h : (a && b) = true) : b = true := by cases b <;> simp_all
end Go.Proofs.YtobgdeffhdefeaaDoor
