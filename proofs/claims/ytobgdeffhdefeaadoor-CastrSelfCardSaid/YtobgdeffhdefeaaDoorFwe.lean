import Derived.Test.YtobgdeffhdefeaaDoorFwd
import Derived.Deep.LoopGhost
/- The operations, one rule each: what makes rows; pieces of code. -/
namespace Go.Proofs.YtobgdeffhdefeaaDoor
set_option linter.unusedSimpArgs false
set_option linter.unusedVariables false
open Go.RowKit

section
variable {P : Program} {X : Prop} {Next : Act → World → Prop} {o : Oper} {a : Act} {w w0 : World} {N : Nat} {l : List (Nat × Value)} {d : Nat} {Z M : Nat → Prop} {m : List Res} {ds : List Dat}

/-- The operands of a literal's parts. -/
def evp (l : List (Nat × Value)) : List (Nat × Operand) → Option (List (Nat × Value))
  | [] => some []
  | (i, x) :: xs => match ev l x, evp l xs with
    | some v, some vs => some ((i, v) :: vs)
    | _, _ => none
theorem Reg.evp (h : Reg a N l) : ∀ {ps : List (Nat × Operand)} {vs : List (Nat × Value)}, evp l ps = some vs → ps.map (fun (i, x) => (i, a.eval x)) = vs
  | [], vs, hx => by simpa [YtobgdeffhdefeaaDoor.evp] using hx
  | (i, x) :: xs, vs, hx => by
    simp only [YtobgdeffhdefeaaDoor.evp] at hx
    cases h1 : YtobgdeffhdefeaaDoor.ev l x with
    | none => simp [h1] at hx
    | some v =>
      cases h2 : YtobgdeffhdefeaaDoor.evp l xs with
      | none => simp [h1, h2] at hx
      | some us =>
        simp only [h1, h2] at hx
        obtain rfl := Option.some.inj hx
        rw [List.map_cons, h.evp h2]
        simp only [h.ev h1]

/-- A struct is built. -/
theorem m_build {t : TypeId} {ps : List (Nat × Operand)} {vs : List (Nat × Value)} {v : Value} (hs : SteV P X Next o a w) (hR : Reg a N l) (hd : o.dst = some d) (ho : o.op = .build t ps.toArray) (hx : evp l ps = some vs)
    (hrun : ∀ w, (Instr.build t vs.toArray).run P w = .ok v w) (hdN : d < N) (k : ∀ a', Reg a' N ((d, v) :: l) → Next a' w) : X := by
  refine r_pure hs hR hd hdN ?_ k
  have hm : ps.toArray.map (fun (i, x) => (i, a.eval x)) = vs.toArray := by
    rw [← hR.evp hx]; simp
  unfold execOp; rw [ho]
  simp only [hm, Sem.run_bind, hrun, Result.andThen_ok, Sem.run_pure]
/-- A part of a struct's value. -/
theorem m_fieldV {t : TypeId} {x : Operand} {f : Nat} {v u : Value} (hs : SteV P X Next o a w) (hR : Reg a N l) (hd : o.dst = some d) (ho : o.op = .field t x f) (hx : ev l x = some u)
    (hrun : ∀ w, (Instr.field t u f).run P w = .ok v w) (hdN : d < N) (k : ∀ a', Reg a' N ((d, v) :: l) → Next a' w) : X := by
  refine r_pure hs hR hd hdN ?_ k
  unfold execOp; rw [ho]
  simp only [hR.ev hx, Sem.run_bind, hrun, Result.andThen_ok, Sem.run_pure]

theorem ownsRow_new (w : World) (e size n : Nat) (cs : List Value) (hl : cs.length = n * size) (hn : n ≤ maxLen) : (w.alloc (.cells cs.toArray e)).ownsRow 0 e size (.slice (some ⟨w.heap.size, 0, none⟩) n n) n cs :=
  ⟨hl, .inr ⟨w.heap.size, n, cs.toArray, rfl, Nat.zero_le _, heap_alloc_new w _, Nat.le_refl _, hn, by simpa using hl, by simp [← hl]⟩⟩

/-- A slice is built of its elements. -/
theorem m_buildSlice {t e : TypeId} {n size : Nat} {ps : List (Nat × Operand)} {vs : List (Nat × Value)} {z : Value} {bytes : Nat} {cs : List Value} (hs : SteV P X Next o a w) (hR : Reg a N l) (hS : St w0 Z M w m ds) (hd : o.dst = some d) (ho : o.op = .buildSlice t n ps.toArray) (hx : evp l ps = some vs)
    (ht : P.underlying t = some (.slice e)) (hi : (P.info? e).map (fun i => (i.zero, i.size, i.bytes)) = some (some z, size, bytes)) (hn : decide (n * size ≤ 1000000) = true) (hn1 : decide (n ≤ 1000000) = true)
    (hf : Instr.fill (fun i => some (i * size, size)) ((Array.range (n * size)).map fun i => (if n * size = 0 then #[] else z.cells)[i % (if n * size = 0 then (#[] : Array Value) else z.cells).size]!) vs = some cs.toArray) (hl : (cs.length == n * size) = true) (hdN : d < N)
    (k : ∀ a' w' g, Reg a' N ((d, .slice (some ⟨g, 0, none⟩) n n) :: l) → St w0 Z M w' (m ++ [.row (some ⟨g, 0, none⟩) n n e size cs]) ds → Next a' w') : X := by
  have hn' : n * size ≤ 1000000 := by simpa using hn
  have hn1' : n ≤ 1000000 := by simpa using hn1
  have hl' : cs.length = n * size := by simpa using hl
  cases hq : P.info? e with
  | none => simp [hq] at hi
  | some inf =>
    simp only [hq, Option.map_some, Option.some.injEq, Prod.mk.injEq] at hi
    obtain ⟨hz, hsz, hby⟩ := hi
    have hm : ps.toArray.map (fun (i, x) => (i, a.eval x)) = vs.toArray := by
      rw [← hR.evp hx]; simp
    refine hs.val (.slice (some ⟨w.heap.size, 0, none⟩) n n) (w.alloc (.cells cs.toArray e)) ?_ ?_
    · unfold execOp; rw [ho]
      have h24 : ¬ n * size > 2 ^ 24 := by omega
      simp only [hm, Instr.buildSlice, Sem.run_bind, run_underlying ht, Result.andThen_ok, sizeOf, typeInfo, hq, hsz, Sem.run_pure, program, Sem.run, h24, ↓reduceIte]
      by_cases h0 : n * size = 0
      · simp only [h0, ↓reduceIte] at hf ⊢
        simp only [Sem.run_bind, Sem.run_pure, Result.andThen_ok, hf]
        rfl
      · simp only [h0, ↓reduceIte] at hf ⊢
        simp [zeroValue, typeInfo, hq, hz, hf, newRow, newObj]; rfl
    · rw [hd]
      exact k _ _ _ (hR.put hdN _) (hS.alloc (.row (some ⟨w.heap.size, 0, none⟩) n n e size cs) _ (ownsRow_new w e size n cs hl' (by unfold maxLen; omega)) rfl)

/-- A slice that was made: so many zeros. -/
theorem m_makeSlice {t e : TypeId} {n size : Nat} {x y : Operand} {p q : Int} {kx ky : IntKind} {z : Value} {bytes : Nat} (hs : SteV P X Next o a w) (hR : Reg a N l) (hS : St w0 Z M w m ds) (hd : o.dst = some d) (ho : o.op = .makeSlice t x y) (hx : ev l x = some (.int kx p)) (hy : ev l y = some (.int ky q))
    (hp : p = (n : Int)) (hq' : q = (n : Int)) (ht : P.underlying t = some (.slice e)) (hi : (P.info? e).map (fun i => (i.zero, i.size, i.bytes)) = some (some z, size, bytes)) (hzs : z.cells.size = size) (hsz1 : (size == 1) = true) (hby : decide (bytes ≤ 1000) = true) (hn : n ≤ 1000000) (hdN : d < N)
    (k : ∀ a' w' g, Reg a' N ((d, .slice (some ⟨g, 0, none⟩) n n) :: l) → St w0 Z M w' (m ++ [.row (some ⟨g, 0, none⟩) n n e size (List.replicate n (z.cells.getD 0 undef))]) ds → Next a' w') : X := by
  subst hp
  subst hq'
  have hby' : bytes ≤ 1000 := by simpa using hby
  have hs1 : size = 1 := by simpa using hsz1
  cases hq : P.info? e with
  | none => simp [hq] at hi
  | some inf =>
    simp only [hq, Option.map_some, Option.some.injEq, Prod.mk.injEq] at hi
    obtain ⟨hz, hsz, hbb⟩ := hi
    have hb2 : (inf.bytes : Int) * (n : Int) ≤ 281474976710656 := by
      have h1 : inf.bytes * n ≤ 1000 * 1000000 := Nat.mul_le_mul (by omega) hn
      have h : ((inf.bytes * n : Nat) : Int) ≤ 281474976710656 := by omega
      rwa [Int.natCast_mul] at h
    have hr := run_make (P := P) w t e inf z ht hq hz kx ky n n (by omega) (by omega) hb2 (by omega)
    simp only [Int.toNat_natCast] at hr
    refine hs.val (.slice (some ⟨w.heap.size, 0, none⟩) n n) (w.alloc (.cells (madeCells z.cells (n * inf.size)) e)) ?_ ?_
    · unfold execOp; rw [ho]
      simp only [hR.ev hx, hR.ev hy, Sem.run_bind, hr, Result.andThen_ok, Sem.run_pure]
    · rw [hd]
      have hcells : madeCells z.cells (n * inf.size) = (List.replicate n (z.cells.getD 0 undef)).toArray := by
        have hz1 : z.cells = #[z.cells.getD 0 undef] := by
          have h1 : z.cells.size = 1 := by omega
          apply Array.ext
          · simpa using h1
          · intro i h2 h3
            have : i = 0 := by omega
            subst this
            simp [Array.getD, h1]
        rw [hsz, hs1, Nat.mul_one]
        conv => lhs; rw [hz1]
        apply Array.toList_inj.1
        rw [toList_madeCells_one]
      rw [hcells]
      refine k _ _ _ (hR.put hdN _) (hS.alloc (.row (some ⟨w.heap.size, 0, none⟩) n n e size _) _ (ownsRow_new w e size n _ (by simp [hs1]) (by unfold maxLen; omega)) rfl)

/-- What is appended: cells that lie somewhere. -/
theorem run_append_any' (base : Nat) (t ty e : TypeId) (i : TypeInfo) (z : Value) (size bytes : Nat) (ht : P.underlying t = some (.slice e)) (hi : P.info? e = some i) (hz : i.zero = some z)
    (hsize : i.size = size) (hby : i.bytes = bytes) (hzs : z.cells.size = size) (hsz : 0 < size)
    (v : Value) (n : Nat) (xs : List Value) (hown : w.ownsRow base e size v n xs)
    (A : Option Addr) (q c : Nat) (news : List Value) (hl : news.length = q * size) (hr : 0 < q → ∃ ad, A = some ad ∧ CellsAt w ad news) (h1 : ∀ u ∈ news, u.oneCell' = true)
    (h63 : n + q ≤ maxLen) (hbytes : (n + q) * bytes ≤ 140737488355328) (hbase : base ≤ w.heap.size) :
    ∃ v' w', (Builtin.append_ #[t, t] ty #[v, .slice A q c]).run P w = .ok v' w' ∧ w'.ownsRow base e size v' (n + q) (xs ++ news) ∧ w.grownBy w' v.ownBlock ∧
      (v'.ownBlock = v.ownBlock ∨ v'.ownBlock = some w.heap.size) := by
  by_cases hq : q = 0
  · subst hq
    have hn : news = [] := List.eq_nil_of_length_eq_zero (by simpa using hl)
    subst hn
    rcases A with _ | ad
    · refine ⟨v, w, ?_, by simpa using hown, World.grownBy.refl w _, .inl rfl⟩
      rcases hown.2 with ⟨rfl, rfl⟩ | ⟨g, cap, cur, rfl, _, _, hnc, _⟩
      · simp [Builtin.append_, run_underlying ht, sizeOf, typeInfo, hi, Builtin.lenOf, Builtin.firstCells]
      · simp [Builtin.append_, run_underlying ht, sizeOf, typeInfo, hi, Builtin.lenOf, Builtin.firstCells, hnc, storeCells]
    · obtain ⟨v', w', hrun, h2, h3, _, h5⟩ := run_append_own_at (P := P) w base t ty e i z size bytes ht hi hz hsize hby hzs hsz v n xs hown ad 0 c [] hl (by simp) h1 h63 hbytes hbase
      exact ⟨v', w', hrun, h2, h3, h5⟩
  · obtain ⟨ad, rfl, hc⟩ := hr (by omega)
    obtain ⟨v', w', hrun, h2, h3, _, h5⟩ := run_append_own_at (P := P) w base t ty e i z size bytes ht hi hz hsize hby hzs hsz v n xs hown ad q c news hl hc h1 h63 hbytes hbase
    exact ⟨v', w', hrun, h2, h3, h5⟩

theorem own_blk {w : World} {e size n cap : Nat} {A : Option Addr} {xs : List Value} (h : w.ownsRow 0 e size (.slice A n cap) n xs) : (Value.slice A n cap).ownBlock = (Res.row A n cap e size xs).blk := by
  cases A <;> rfl

/-- An append onto a row of the call's own (or onto its front). -/
theorem m_append {t e : TypeId} {x y : Operand} {A A2 : Option Addr} {n n0 cap q c2 size bytes i : Nat} {xs news : List Value} {z : Value} (hs : SteV P X Next o a w) (hR : Reg a N l) (hS : St w0 Z M w m ds) (hd : o.dst = some d)
    (ho : o.op = .call { callee := .builtin .append, args := #[x, y], argTypes := #[t, t] }) (hx : ev l x = some (.slice A n cap)) (hy : ev l y = some (.slice A2 q c2)) (hi : m[i]? = some (.row A n0 cap e size xs)) (hn : n ≤ n0)
    (ht : P.underlying t = some (.slice e)) (hinf : (P.info? e).map (fun i => (i.zero, i.size, i.bytes)) = some (some z, size, bytes)) (hzs : (z.cells.size == size) = true) (hsz : (size == 0) = false)
    (hl : news.length = q * size) (hr : 0 < q → ∃ ad, A2 = some ad ∧ CellsAt w ad news) (h1 : ∀ u ∈ news, u.oneCell' = true) (hby : decide (bytes ≤ 1000) = true) (hb : n + q ≤ 100000000) (hdN : d < N)
    (k : ∀ a' w' A' cap', n + q ≤ cap' → Reg a' N ((d, .slice A' (n + q) cap') :: l) → St w0 Z M w' (m.set i (.row A' (n + q) cap' e size (xs.take (n * size) ++ news))) ds → Next a' w') : X := by
  have hzs' : z.cells.size = size := by simpa using hzs
  have hsz' : size ≠ 0 := by simpa using hsz
  have hby' : bytes ≤ 1000 := by simpa using hby
  cases hq : P.info? e with
  | none => simp [hq] at hinf
  | some inf =>
    simp only [hq, Option.map_some, Option.some.injEq, Prod.mk.injEq] at hinf
    obtain ⟨hz, hs2, hb2⟩ := hinf
    have hown0 : w.ownsRow 0 e size (.slice A n0 cap) n0 xs := hS.res hi
    have hown := own_take hown0 hn
    have hbytes : (n + q) * bytes ≤ 140737488355328 := by
      have : (n + q) * bytes ≤ 100000000 * 1000 := Nat.mul_le_mul hb hby'
      omega
    obtain ⟨v', w', hrun, h2, h3, h4⟩ := run_append_any' (P := P) (w := w) 0 t o.type e inf z size bytes ht hq hz hs2 hb2 hzs' (by omega) (.slice A n cap) n (xs.take (n * size)) hown A2 q c2 news hl hr h1 (by unfold maxLen; omega) hbytes (Nat.zero_le _)
    obtain ⟨A', cap', rfl, hcap, h2'⟩ := own_form h2
    refine hs.val (.slice A' (n + q) cap') w' ?_ ?_
    · unfold execOp; rw [ho]
      simp only [resolve, invoke, builtin, Sem.run_bind, Sem.run_pure, Result.andThen_ok, List.map_toArray, List.map_cons, List.map_nil, hR.ev hx, hR.ev hy, hrun]
    · rw [hd]
      refine k _ _ _ _ hcap (hR.put hdN _) (hS.turn hi h3.os h3.tape h3.output h3.size (fun k' hk' hne => h3.block k' hk' ?_) h2' (fun k' hk' => ?_))
      · intro e'
        refine hne ?_
        cases A with
        | none => cases e'
        | some ad => rw [e']; rfl
      · have hown' : (Value.slice A' (n + q) cap').ownBlock = some k' := by
          cases A' with
          | none => cases hk'
          | some ad => exact hk'
        refine ⟨(h2.lt k' hown').2, ?_⟩
        rcases h4 with h4 | h4
        · left
          rw [h4] at hown'
          cases A with
          | none => cases hown'
          | some ad => exact hown'
        · right
          rw [hown'] at h4
          have := Option.some.inj h4
          omega
end

/-! ### Pieces of code -/
section
variable {P : Program} {Q : Exit → Act → World → Prop} {a : Act} {w : World} {N : Nat} {l : List (Nat × Value)}
theorem c_cond {c : Operand} {x y : Code} {b : Bool} (hR : Reg a N l) (hc : ev l c = some (.bool b)) (ht : b = true → x.wp P Q a w) (hf : b = false → y.wp P Q a w) : (Code.cond c x y).wp P Q a w :=
  wp_cond (hR.ev hc) (by cases b with | true => exact ht rfl | false => exact hf rfl)
theorem c_region {id : Nat} {ls : List Oper} (h : wpList P ls.toArray Q ls a w) : (Code.region id ls.toArray false).wp P Q a w := wp_region_lit h
theorem c_loop {c : Code} {α : Type} (I : α → Act → World → Prop) (μ : α → Nat) (x0 : α) (h0 : I x0 a w)
    (h : ∀ x a w, I x a w → c.wp P (Exit.then (fun a' w' => ∃ x', I x' a' w' ∧ μ x' < μ x) Q) a w) : (Code.loop c).wp P Q a w := by
  refine wp_loop_ghost (fun n a w => ∃ x, μ x = n ∧ I x a w) (μ x0) ⟨x0, rfl, h0⟩ fun n a w ⟨x, hx, hi⟩ => wp_mono (h x a w hi) fun e a2 w2 he => ?_
  cases e with
  | normal =>
    obtain ⟨x', hi', hlt⟩ := he
    exact ⟨μ x', by omega, x', rfl, hi'⟩
  | _ => exact he
end
end Go.Proofs.YtobgdeffhdefeaaDoor
