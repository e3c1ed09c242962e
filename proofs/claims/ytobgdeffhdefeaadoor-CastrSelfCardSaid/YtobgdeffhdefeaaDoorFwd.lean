import Derived.Test.YtobgdeffhdefeaaDoorFwc
import Derived.Maps.AppendAt
/- The operations, one rule each: memory. -/
namespace Go.Proofs.YtobgdeffhdefeaaDoor
set_option linter.unusedSimpArgs false
set_option linter.unusedVariables false
open Go.RowKit

/-- The cells that lie at an address. -/
def CellsAt (w : World) (p : Addr) (xs : List Value) : Prop := ∀ j u, xs[j]? = some u → w.cell? (p.add j) = some u

theorem block_of_add (a : Addr) (n : Nat) : (a.add n).block = a.block := by unfold Addr.add; split <;> rfl
theorem add_of_add (a : Addr) (i j : Nat) : (a.add i).add j = a.add (i + j) := by
  unfold Addr.add
  by_cases hi : i = 0 <;> by_cases hj : j = 0 <;> simp [hi, hj, Nat.add_assoc]

/-- A place so many cells behind an address. -/
def eP (A : Option Addr) (j : Nat) : Option Addr := A.map (·.add j)
/-- What lies so many cells behind an address. -/
def ElemAt (w : World) (A : Option Addr) (j : Nat) (vs : List Value) : Prop := ∃ ad, A = some ad ∧ CellsAt w (ad.add j) vs

/-- A row of cells that nobody changes: n elements of so many cells each. -/
def RowI (w : World) (I : Nat → Prop) (size : Nat) (A : Option Addr) (n : Nat) (xs : List Value) : Prop :=
  xs.length = n * size ∧ (0 < n → ∃ ad, A = some ad ∧ I ad.block ∧ CellsAt w ad xs)

section
variable {w w' : World} {I I' : Nat → Prop} {size n : Nat} {A : Option Addr} {xs : List Value}
theorem CellsAt.keep {p : Addr} (h : CellsAt w p xs) (hk : w'.heap[p.block]? = w.heap[p.block]?) : CellsAt w' p xs :=
  fun j u hu => (World.cell?_of_block (by rw [block_of_add]; exact hk)).trans (h j u hu)
theorem CellsAt.drop {p : Addr} (h : CellsAt w p xs) (k : Nat) : CellsAt w (p.add k) (xs.drop k) := fun j u hu => by
  rw [add_of_add]; exact h _ u (by rw [← hu, List.getElem?_drop])
theorem CellsAt.take {p : Addr} (h : CellsAt w p xs) (k : Nat) : CellsAt w p (xs.take k) := fun j u hu => by
  refine h j u ?_
  rw [List.getElem?_take] at hu
  split at hu
  · exact hu
  · cases hu
theorem RowI.mono (h : RowI w I size A n xs) (hk : ∀ k, I k → I' k ∧ w'.heap[k]? = w.heap[k]?) : RowI w' I' size A n xs :=
  ⟨h.1, fun hn => by
    obtain ⟨ad, e, hb, hc⟩ := h.2 hn
    exact ⟨ad, e, (hk _ hb).1, hc.keep (hk _ hb).2⟩⟩
theorem RowI.nil (w : World) (I : Nat → Prop) (size : Nat) (A : Option Addr) : RowI w I size A 0 [] := ⟨by simp, fun h => absurd h (by omega)⟩
theorem RowI.some_ (h : RowI w I size A n xs) (hn : 0 < n) : A.isSome = true := by
  obtain ⟨ad, rfl, _⟩ := h.2 hn
  rfl
theorem RowI.elem (h : RowI w I size A n xs) {k : Nat} (hk : k < n) : ElemAt w A (k * size) ((xs.drop (k * size)).take size) := by
  obtain ⟨ad, rfl, hb, hc⟩ := h.2 (by omega)
  exact ⟨ad, rfl, (hc.drop (k * size)).take size⟩
theorem RowI.from_ (h : RowI w I size A n xs) {k cap : Nat} (hk : k ≤ n) (hc : n ≤ cap) : RowI w I size (if cap = k then A else A.map (·.add (k * size))) (n - k) (xs.drop (k * size)) := by
  refine ⟨by rw [List.length_drop, h.1, Nat.sub_mul], fun hn => ?_⟩
  obtain ⟨ad, rfl, hb, hcell⟩ := h.2 (by omega)
  rw [if_neg (by omega)]
  exact ⟨ad.add (k * size), rfl, by rw [block_of_add]; exact hb, hcell.drop _⟩
theorem RowI.take (h : RowI w I size A n xs) {k : Nat} (hk : k ≤ n) : RowI w I size A k (xs.take (k * size)) := by
  refine ⟨by rw [List.length_take, h.1]; exact Nat.min_eq_left (Nat.mul_le_mul_right _ hk), fun hn => ?_⟩
  obtain ⟨ad, rfl, hb, hcell⟩ := h.2 (by omega)
  exact ⟨ad, rfl, hb, hcell.take _⟩
theorem own_some {e cap : Nat} {base : Nat} (h : w.ownsRow base e size (.slice A n cap) n xs) (hn : 0 < n) : ∃ g, A = some ⟨g, 0, none⟩ := by
  rcases h.2 with ⟨h1, h2⟩ | ⟨g, cap', cur, hv, h1, h2, h3, h4, h5, h6⟩
  · omega
  · exact ⟨g, by injection hv⟩
/-- A row of the call's own is read. -/
theorem own_elem {e cap : Nat} {base : Nat} (h : w.ownsRow base e size (.slice A n cap) n xs) {k : Nat} (hk : k < n) : ElemAt w A (k * size) ((xs.drop (k * size)).take size) := by
  obtain ⟨g, rfl⟩ := own_some h (by omega)
  have hc : CellsAt w ⟨g, 0, none⟩ xs := fun j u hu => h.cells (g := g) rfl j u hu
  exact ⟨_, rfl, (hc.drop (k * size)).take size⟩
theorem own_news {e cap : Nat} {base : Nat} (h : w.ownsRow base e size (.slice A n cap) n xs) : 0 < n → ∃ ad, A = some ad ∧ CellsAt w ad xs := fun hn => by
  obtain ⟨g, rfl⟩ := own_some h hn
  exact ⟨_, rfl, fun j u hu => h.cells (g := g) rfl j u hu⟩
theorem own_take {e base : Nat} {cap : Nat} (h : w.ownsRow base e size (.slice A n cap) n xs) {k : Nat} (hk : k ≤ n) : w.ownsRow base e size (.slice A k cap) k (xs.take (k * size)) := by
  have hl : (xs.take (k * size)).length = k * size := by
    rw [List.length_take, h.1]; exact Nat.min_eq_left (Nat.mul_le_mul_right _ hk)
  refine ⟨hl, ?_⟩
  rcases h.2 with ⟨h1, h2⟩ | ⟨g, cap', cur, hv, h1, h2, h3, h4, h5, h6⟩
  · injection h1 with ha hb hc
    subst ha; subst hc
    exact .inl ⟨by rw [show k = 0 by omega], by omega⟩
  · injection hv with ha hb hc
    subst ha; subst hc
    refine .inr ⟨g, cap, cur, rfl, h1, h2, by omega, h4, h5, ?_⟩
    rw [← h6, List.take_take, Nat.min_eq_left (Nat.mul_le_mul_right _ hk)]
theorem own_form {base e : Nat} {v : Value} (h : w.ownsRow base e size v n xs) : ∃ A cap, v = .slice A n cap ∧ n ≤ cap ∧ w.ownsRow base e size (.slice A n cap) n xs := by
  rcases h.2 with ⟨rfl, rfl⟩ | ⟨g, cap, cur, rfl, h1, h2, h3, h4, h5⟩
  · exact ⟨none, 0, rfl, Nat.le_refl _, h⟩
  · exact ⟨some ⟨g, 0, none⟩, cap, rfl, h3, h⟩
theorem own_cap {base e cap : Nat} (h : w.ownsRow base e size (.slice A n cap) n xs) : n ≤ cap := by
  obtain ⟨A', c', hv, hle, _⟩ := own_form h
  injection hv with _ _ hc
  omega
end

/-- A row that is let go. -/
theorem St.row_data {w0 w : World} {Z M : Nat → Prop} {m : List Res} {ds : List Dat} (h : St w0 Z M w m ds) {i : Nat} {A : Option Addr} {n cap e size : Nat} {xs : List Value}
    (hi : m[i]? = some (.row A n cap e size xs)) (hM : ∀ k, ¬ M k) : St w0 Z M w (m.eraseIdx i) ds ∧ RowI w (imm Z w0 (m.eraseIdx i) w) size A n xs := by
  have hr : w.ownsRow 0 e size (.slice A n cap) n xs := h.res hi
  refine ⟨h.drop _ (List.eraseIdx_sublist m i), hr.1, fun hn => ?_⟩
  obtain ⟨g, rfl⟩ := own_some hr hn
  refine ⟨_, rfl, ⟨(h.own _ (List.mem_of_getElem? hi) g rfl).1, fun hlt => ?_, fun r hmem e => ?_⟩, fun j u hu => hr.cells (g := g) rfl j u hu⟩
  · rcases (h.own _ (List.mem_of_getElem? hi) g rfl).2 with h1 | h1
    · have hlt' : g < w0.heap.size := hlt
      omega
    · exact absurd h1 (hM g)
  obtain ⟨j, hj⟩ := List.mem_iff_getElem?.1 hmem
  rw [List.getElem?_eraseIdx] at hj
  by_cases hji : j < i
  · rw [if_pos hji] at hj
    exact apart_get h.apart (by omega : j ≠ i) hj hi e rfl
  · rw [if_neg hji] at hj
    exact apart_get h.apart (by omega : j + 1 ≠ i) hj hi e rfl
/-- A nil slice is a row of the call's own. -/
theorem St.nilrow {w0 w : World} {Z M : Nat → Prop} {m : List Res} {ds : List Dat} (h : St w0 Z M w m ds) (e size : Nat) : St w0 Z M w (m ++ [.row none 0 0 e size []]) ds :=
  h.step rfl rfl rfl (Nat.le_refl _) (fun _ _ _ => rfl)
    (fun r hr => by
      rcases List.mem_append.1 hr with hr | hr
      · exact h.hold r hr
      · rw [List.mem_singleton] at hr; subst hr
        exact ⟨by simp, .inl ⟨rfl, rfl⟩⟩)
    (fun r hr k e => by
      rcases List.mem_append.1 hr with hr | hr
      · exact ⟨(h.own r hr k e).1, .inl ⟨r, hr, e⟩⟩
      · rw [List.mem_singleton] at hr; subst hr
        cases e)
    (by
      rw [List.pairwise_append]
      refine ⟨h.apart, by simp, fun r _ s hs k _ e' => ?_⟩
      rw [List.mem_singleton] at hs; subst hs
      cases e')

section
variable {P : Program} {X : Prop} {Next : Act → World → Prop} {o : Oper} {a : Act} {w w0 : World} {N : Nat} {l : List (Nat × Value)} {d : Nat} {Z M : Nat → Prop} {m : List Res} {ds : List Dat}

theorem run_newVar (w : World) (e : TypeId) (v : Value) : (newVar e v).run P w = .ok ⟨w.heap.size, 0, none⟩ (w.alloc (.cells v.cells e)) := rfl

theorem m_alloc {e : TypeId} {z : Value} {cs : List Value} (hs : SteV P X Next o a w) (hR : Reg a N l) (hS : St w0 Z M w m ds) (hd : o.dst = some d) (ho : o.op = .alloc e) (hz : (P.info? e).map (·.zero) = some (some z)) (hc : z.cells.toList = cs) (hdN : d < N)
    (k : ∀ a' w' g, Reg a' N ((d, .pointer (some ⟨g, 0, none⟩)) :: l) → St w0 Z M w' (m ++ [.box g e cs]) ds → Next a' w') : X := by
  cases hq : P.info? e with
  | none => simp [hq] at hz
  | some i =>
    have hzi : i.zero = some z := by simpa [hq] using hz
    refine hs.val (.pointer (some ⟨w.heap.size, 0, none⟩)) (w.alloc (.cells z.cells e)) ?_ ?_
    · unfold execOp; rw [ho]
      simp [Instr.alloc, zeroValue, typeInfo, hq, hzi, run_newVar]
    · rw [hd]
      refine k _ _ _ (hR.put hdN _) (hS.alloc (.box w.heap.size e cs) _ ?_ rfl)
      subst hc
      simpa [Res.holds] using heap_alloc_new w (.cells z.cells e)
theorem m_box {e : TypeId} {x : Operand} {v : Value} {cs : List Value} (hs : SteV P X Next o a w) (hR : Reg a N l) (hS : St w0 Z M w m ds) (hd : o.dst = some d) (ho : o.op = .box e x) (hx : ev l x = some v) (hc : v.cells.toList = cs) (hdN : d < N)
    (k : ∀ a' w' g, Reg a' N ((d, .pointer (some ⟨g, 0, none⟩)) :: l) → St w0 Z M w' (m ++ [.box g e cs]) ds → Next a' w') : X := by
  refine hs.val (.pointer (some ⟨w.heap.size, 0, none⟩)) (w.alloc (.cells v.cells e)) ?_ ?_
  · unfold execOp; rw [ho]
    simp [Instr.box, hR.ev hx, run_newVar]
  · rw [hd]
    refine k _ _ _ (hR.put hdN _) (hS.alloc (.box w.heap.size e cs) _ ?_ rfl)
    subst hc
    simpa [Res.holds] using heap_alloc_new w (.cells v.cells e)

theorem m_field {t : TypeId} {x : Operand} {f : Nat} {fs : Array Field} {fl : Field} {g j j' : Nat} {sz : Nat} (hs : SteV P X Next o a w) (hR : Reg a N l) (hd : o.dst = some d) (ho : o.op = .fieldAddr t x f) (hx : ev l x = some (.pointer (some ⟨g, j, none⟩)))
    (ht : P.underlying t = some (.struct fs)) (hf : fs[f]? = some fl) (hsz : (P.info? fl.type).map (·.size) = some sz) (hsz0 : (sz == 0) = false) (hj : (j + fl.offset == j') = true) (hdN : d < N)
    (k : ∀ a', Reg a' N ((d, .pointer (some ⟨g, j', none⟩)) :: l) → Next a' w) : X := by
  cases hq : P.info? fl.type with
  | none => simp [hq] at hsz
  | some i =>
    have hi : i.size = sz := by simpa [hq] using hsz
    have h0 : sz ≠ 0 := by simpa using hsz0
    have hjj : j + fl.offset = j' := by simpa using hj
    subst hjj
    refine r_pure hs hR hd hdN ?_ k
    have hadd : (⟨g, j, none⟩ : Addr).add fl.offset = ⟨g, j + fl.offset, none⟩ := by unfold Addr.add; split <;> simp_all
    unfold execOp; rw [ho]
    simp [Instr.fieldAt, hR.ev hx, Instr.sureAddr, run_underlying ht, hf, fieldPlace, sizeOf, typeInfo, hq, hi, h0, hadd]
/-- A field of an element. -/
theorem m_fieldE {t : TypeId} {x : Operand} {f : Nat} {fs : Array Field} {fl : Field} {A : Option Addr} {j j' : Nat} {sz : Nat} (hs : SteV P X Next o a w) (hR : Reg a N l) (hd : o.dst = some d) (ho : o.op = .fieldAddr t x f) (hx : ev l x = some (.pointer (eP A j))) (hA : A.isSome = true)
    (ht : P.underlying t = some (.struct fs)) (hf : fs[f]? = some fl) (hsz : (P.info? fl.type).map (·.size) = some sz) (hsz0 : (sz == 0) = false) (hj : j + fl.offset = j') (hdN : d < N)
    (k : ∀ a', Reg a' N ((d, .pointer (eP A j')) :: l) → Next a' w) : X := by
  obtain ⟨ad, rfl⟩ := Option.isSome_iff_exists.1 hA
  cases hq : P.info? fl.type with
  | none => simp [hq] at hsz
  | some i =>
    have hi : i.size = sz := by simpa [hq] using hsz
    have h0 : sz ≠ 0 := by simpa using hsz0
    subst hj
    refine r_pure hs hR hd hdN ?_ k
    unfold execOp; rw [ho]
    simp [Instr.fieldAt, hR.ev hx, Instr.sureAddr, run_underlying ht, hf, fieldPlace, sizeOf, typeInfo, hq, hi, h0, eP, add_of_add]

def isAggD : TypeDesc → Bool
  | .struct _ | .array _ _ => true
  | _ => false
theorem run_isAgg {t : TypeId} {dsc : TypeDesc} (h : P.underlying t = some dsc) (w : World) : (isAgg t).run P w = .ok (isAggD dsc) w := by
  unfold isAgg
  rw [Sem.run_bind, run_underlying h w]
  cases dsc <;> rfl
theorem run_load1 {t : TypeId} {dsc : TypeDesc} {p : Addr} {v : Value} {w : World} (ht : P.underlying t = some dsc) (hd : isAggD dsc = false) (hc : w.cell? p = some v) : (loadVar t p).run P w = .ok v w := by
  simp [loadVar, Sem.run_bind, run_isAgg ht, hd, load, Sem.run, hc]
theorem run_loadN {t : TypeId} {dsc : TypeDesc} {p : Addr} {vs : List Value} {w : World} (ht : P.underlying t = some dsc) (hd : isAggD dsc = true) (hsz : (P.info? t).map (·.size) = some vs.length) (hc : CellsAt w p vs) :
    (loadVar t p).run P w = .ok (.agg vs.toArray) w := by
  cases hq : P.info? t with
  | none => simp [hq] at hsz
  | some i =>
    have hi : i.size = vs.length := by simpa [hq] using hsz
    have hl : (loadCells p vs.length).run P w = .ok vs.toArray w := run_loadCells_list (P := P) w p vs hc
    simp [loadVar, Sem.run_bind, run_isAgg ht, hd, sizeOf, typeInfo, hq, hi, hl]

theorem box_cells {g : Nat} {e : TypeId} {cs : List Value} (h : (Res.box g e cs).holds w) : CellsAt w ⟨g, 0, none⟩ cs := fun j u hu => by
  have : (⟨g, 0, none⟩ : Addr).add j = ⟨g, j, none⟩ := by unfold Addr.add; split <;> simp_all
  rw [this, cell_of_row w g j cs.toArray e (0, 0) h]
  simpa using hu

/-- A variable in a block of the call's own is read: one cell. -/
theorem m_load {t : TypeId} {x : Operand} {g j i : Nat} {e : TypeId} {cs : List Value} {v : Value} {dsc : TypeDesc} (hs : SteV P X Next o a w) (hR : Reg a N l) (hS : St w0 Z M w m ds) (hd : o.dst = some d) (ho : o.op = .load t x) (hx : ev l x = some (.pointer (some ⟨g, j, none⟩)))
    (hi : m[i]? = some (.box g e cs)) (hv : cs[j]? = some v) (ht : P.underlying t = some dsc) (hag : isAggD dsc = false) (hdN : d < N) (k : ∀ a', Reg a' N ((d, v) :: l) → Next a' w) : X := by
  refine r_pure hs hR hd hdN ?_ k
  have hc : w.cell? ⟨g, j, none⟩ = some v := by
    have hb : w.heap[g]? = some (.cells cs.toArray e (0, 0)) := hS.res hi
    rw [cell_of_row w g j cs.toArray e (0, 0) hb]
    simpa using hv
  unfold execOp; rw [ho]
  simp only [hR.ev hx, Instr.loadAt, Instr.sureAddr, Sem.run_bind, Sem.run_pure, Result.andThen_ok, run_load1 ht hag hc]
/-- The same, a struct. -/
theorem m_loadN {t : TypeId} {x : Operand} {g j i : Nat} {e : TypeId} {cs vs : List Value} {dsc : TypeDesc} (hs : SteV P X Next o a w) (hR : Reg a N l) (hS : St w0 Z M w m ds) (hd : o.dst = some d) (ho : o.op = .load t x) (hx : ev l x = some (.pointer (some ⟨g, j, none⟩)))
    (hi : m[i]? = some (.box g e cs)) (hv : (cs.drop j).take vs.length = vs) (ht : P.underlying t = some dsc) (hag : isAggD dsc = true) (hsz : (P.info? t).map (·.size) = some vs.length) (hdN : d < N) (k : ∀ a', Reg a' N ((d, .agg vs.toArray) :: l) → Next a' w) : X := by
  refine r_pure hs hR hd hdN ?_ k
  have hc : CellsAt w ⟨g, j, none⟩ vs := by
    have h1 := ((box_cells (hS.res hi)).drop j).take vs.length
    rw [hv] at h1
    have : (⟨g, 0, none⟩ : Addr).add j = ⟨g, j, none⟩ := by unfold Addr.add; split <;> simp_all
    rwa [this] at h1
  unfold execOp; rw [ho]
  simp only [hR.ev hx, Instr.loadAt, Instr.sureAddr, Sem.run_bind, Sem.run_pure, Result.andThen_ok, run_loadN ht hag hsz hc]
/-- An element is read: one cell of it. -/
theorem m_loadE {t : TypeId} {x : Operand} {A : Option Addr} {j : Nat} {vs : List Value} {v : Value} {dsc : TypeDesc} (hs : SteV P X Next o a w) (hR : Reg a N l) (hd : o.dst = some d) (ho : o.op = .load t x) (hx : ev l x = some (.pointer (eP A j)))
    (i : Nat) (j0 : Nat) (he : ElemAt w A j0 vs) (hj : j = j0 + i) (hv : vs[i]? = some v) (ht : P.underlying t = some dsc) (hag : isAggD dsc = false) (hdN : d < N) (k : ∀ a', Reg a' N ((d, v) :: l) → Next a' w) : X := by
  obtain ⟨ad, rfl, hc⟩ := he
  subst hj
  refine r_pure hs hR hd hdN ?_ k
  have h1 := hc i v hv
  rw [add_of_add] at h1
  unfold execOp; rw [ho]
  simp only [hR.ev hx, eP, Option.map_some, Instr.loadAt, Instr.sureAddr, Sem.run_bind, Sem.run_pure, Result.andThen_ok, run_load1 ht hag h1]
theorem m_loadEN {t : TypeId} {x : Operand} {A : Option Addr} {j : Nat} {vs : List Value} {dsc : TypeDesc} (hs : SteV P X Next o a w) (hR : Reg a N l) (hd : o.dst = some d) (ho : o.op = .load t x) (hx : ev l x = some (.pointer (eP A j)))
    (he : ElemAt w A j vs) (ht : P.underlying t = some dsc) (hag : isAggD dsc = true) (hsz : (P.info? t).map (·.size) = some vs.length) (hdN : d < N) (k : ∀ a', Reg a' N ((d, .agg vs.toArray) :: l) → Next a' w) : X := by
  obtain ⟨ad, rfl, hc⟩ := he
  refine r_pure hs hR hd hdN ?_ k
  unfold execOp; rw [ho]
  simp only [hR.ev hx, eP, Option.map_some, Instr.loadAt, Instr.sureAddr, Sem.run_bind, Sem.run_pure, Result.andThen_ok, run_loadN ht hag hsz hc]

/-- A variable in a block of the call's own is written. -/
theorem m_store {t : TypeId} {x y : Operand} {g j i : Nat} {e : TypeId} {cs cs' : List Value} {v : Value} (hs : Ste P X Next o a w) (hR : Reg a N l) (hS : St w0 Z M w m ds) (hd : o.dst = none) (ho : o.op = .store t x y) (hx : ev l x = some (.pointer (some ⟨g, j, none⟩))) (hy : ev l y = some v)
    (hi : m[i]? = some (.box g e cs)) (hsz : (P.info? t).map (·.size) = some v.cells.toList.length) (hone : v.cells.toList.all Value.oneCell' = true) (hfit : decide (j + v.cells.toList.length ≤ cs.length) = true) (hcs : cs.take j ++ v.cells.toList ++ cs.drop (j + v.cells.toList.length) = cs')
    (k : ∀ a' w', Reg a' N l → St w0 Z M w' (m.set i (.box g e cs')) ds → Next a' w') : X := by
  have hb : w.heap[g]? = some (.cells cs.toArray e (0, 0)) := hS.res hi
  have hfit' : j + v.cells.toList.length ≤ cs.length := by simpa using hfit
  cases hq : P.info? t with
  | none => simp [hq] at hsz
  | some inf =>
    have hii : inf.size = v.cells.toList.length := by simpa [hq] using hsz
    have hrun : (storeVar t ⟨g, j, none⟩ v).run P w = .ok () (w.setRow g cs'.toArray) := by
      have h1 := run_storeCells_at P g j e v.cells.toList 0 cs.toArray w hb (by simpa using hfit') (List.all_eq_true.1 hone)
      simp only [Nat.add_zero] at h1
      rw [hcs] at h1
      have hii' : v.cells.size = inf.size := by simpa using hii.symm
      simp [storeVar, Sem.run_bind, sizeOf, typeInfo, hq, hii', h1]
    refine hs.skip (w.setRow g cs'.toArray) ?_ ?_
    · unfold execOp; rw [ho]
      simp only [hR.ev hx, hR.ev hy, Instr.storeAt, Instr.sureAddr, Sem.run_bind, Sem.run_pure, Result.andThen_ok, hrun]
    · rw [hd]
      refine k _ _ (hR.put_none _) ?_
      refine hS.turn hi rfl rfl rfl (by simp) (fun k' hk' hne => setRow_other w g k' _ (fun e' => hne (by rw [e']; rfl))) (setRow_heap w g _ _ e (0, 0) hb) (fun k' hk' => ?_)
      have : g = k' := by simpa [Res.blk] using hk'
      subst this
      exact ⟨by simpa using (hS.own _ (List.mem_of_getElem? hi) g rfl).1, .inl rfl⟩

/-- The place of an element. -/
theorem m_index {t : TypeId} {x y : Operand} {A : Option Addr} {n c j i size : Nat} {p : Int} {ki : IntKind} {e : TypeId} (hs : SteV P X Next o a w) (hR : Reg a N l) (hd : o.dst = some d) (ho : o.op = .indexAddr t x y) (hx : ev l x = some (.slice A n c)) (hy : ev l y = some (.int ki p))
    (ht : P.underlying t = some (.slice e)) (hsz : (P.info? e).map (·.size) = some size) (hp : p = (i : Int)) (hi : i < n) (hA : A.isSome = true) (hj : i * size = j) (hdN : d < N)
    (k : ∀ a', Reg a' N ((d, .pointer (eP A j)) :: l) → Next a' w) : X := by
  obtain ⟨ad, rfl⟩ := Option.isSome_iff_exists.1 hA
  subst hj
  subst hp
  cases hq : P.info? e with
  | none => simp [hq] at hsz
  | some inf =>
    have hii : inf.size = size := by simpa [hq] using hsz
    refine r_pure hs hR hd hdN ?_ k
    unfold execOp; rw [ho]
    simp [hR.ev hx, hR.ev hy, Instr.indexAt, asIntOf, run_underlying ht, hi, sizeOf, typeInfo, hq, hii, eP]
/-- The place of an element of an array. -/
theorem m_indexA {t : TypeId} {x y : Operand} {g n j i size : Nat} {p : Int} {ki : IntKind} {e : TypeId} (hs : SteV P X Next o a w) (hR : Reg a N l) (hd : o.dst = some d) (ho : o.op = .indexAddr t x y) (hx : ev l x = some (.pointer (some ⟨g, 0, none⟩))) (hy : ev l y = some (.int ki p))
    (ht : P.underlying t = some (.array n e)) (hsz : (P.info? e).map (·.size) = some size) (hp : p = (i : Int)) (hi : i < n) (hj : i * size = j) (hdN : d < N)
    (k : ∀ a', Reg a' N ((d, .pointer (eP (some ⟨g, 0, none⟩) j)) :: l) → Next a' w) : X := by
  subst hj
  subst hp
  cases hq : P.info? e with
  | none => simp [hq] at hsz
  | some inf =>
    have hii : inf.size = size := by simpa [hq] using hsz
    refine r_pure hs hR hd hdN ?_ k
    unfold execOp; rw [ho]
    simp [hR.ev hx, hR.ev hy, Instr.indexAt, Instr.sureAddr, asIntOf, run_underlying ht, hi, sizeOf, typeInfo, hq, hii, eP]

theorem run_sliceAt {t e : TypeId} {size n cap k m : Nat} {kd kd' : IntKind} {A : Option Addr} {w : World} (lo hi : Option Value) (ht : P.underlying t = some (.slice e)) (hs : (P.info? e).map (·.size) = some size) (hk : k ≤ m) (hm : m ≤ cap)
    (hlo : lo = some (.int kd (k : Int)) ∨ lo = none ∧ k = 0) (hhi : hi = some (.int kd' (m : Int)) ∨ hi = none ∧ m = n) :
    (Instr.sliceAt t (.slice A n cap) lo hi none).run P w = .ok (.slice (if cap = k then A else A.map (·.add (k * size))) (m - k) (cap - k)) w := by
  cases hq : P.info? e with
  | none => simp [hq] at hs
  | some i =>
    have hsz : i.size = size := by simpa [hq] using hs
    rcases hlo with rfl | ⟨rfl, rfl⟩ <;> rcases hhi with rfl | ⟨rfl, rfl⟩ <;>
      simp [Instr.sliceAt, Instr.slice, Instr.sliceBounds, Instr.sliceBound, asIntOf, run_underlying ht, sizeOf, typeInfo, hq, hsz, hk, hm]
/-- A slice is cut. -/
theorem m_slice {t e : TypeId} {x : Operand} {lo hi : Option Operand} {vlo vhi : Option Value} {A : Option Addr} {n cap size : Nat} {kd kd' : IntKind} {xs : List Value} {I : Nat → Prop} (hs : SteV P X Next o a w) (hR : Reg a N l) (hd : o.dst = some d)
    (ho : o.op = .slice t x lo hi none) (hx : ev l x = some (.slice A n cap)) (hvlo : lo.map (ev l) = vlo.map some) (hvhi : hi.map (ev l) = vhi.map some) (k q : Nat)
    (hlo : vlo = some (.int kd (k : Int)) ∨ vlo = none ∧ k = 0) (hhi : vhi = some (.int kd' ((k + q : Nat) : Int)) ∨ vhi = none ∧ k + q = n)
    (hrow : RowI w I size A n xs) (ht : P.underlying t = some (.slice e)) (hsz : (P.info? e).map (·.size) = some size) (hm : k + q ≤ n) (hc : n ≤ cap) (hdN : d < N)
    (kk : ∀ a' A' c', q ≤ c' → RowI w I size A' q ((xs.drop (k * size)).take (q * size)) → Reg a' N ((d, .slice A' q c') :: l) → Next a' w) : X := by
  have hr := (hrow.from_ (k := k) (by omega) hc).take (k := q) (by omega)
  have hl : lo.map a.eval = vlo := by
    cases lo <;> cases vlo <;> simp_all
    exact hR.ev hvlo
  have hh : hi.map a.eval = vhi := by
    cases hi <;> cases vhi <;> simp_all
    exact hR.ev hvhi
  have hrun := run_sliceAt (P := P) (w := w) (A := A) (n := n) (cap := cap) (k := k) (m := k + q) (kd := kd) (kd' := kd') vlo vhi ht hsz (by omega) (by omega) hlo hhi
  rw [show k + q - k = q by omega] at hrun
  refine r_pure hs hR hd hdN ?_ (fun a' hR' => kk a' _ (cap - k) (by omega) hr hR')
  unfold execOp; rw [ho]
  simp only [hR.ev hx, hl, hh, Option.map_none, Sem.run_bind, hrun, Result.andThen_ok, Sem.run_pure]
end
end Go.Proofs.YtobgdeffhdefeaaDoor
