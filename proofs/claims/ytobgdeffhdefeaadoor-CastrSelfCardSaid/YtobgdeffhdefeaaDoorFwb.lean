import Derived.Test.YtobgdeffhdefeaaDoorFwa
/- Resources: what the call owns, and data that nobody changes. -/
namespace Go.Proofs.YtobgdeffhdefeaaDoor
set_option linter.unusedSimpArgs false
set_option linter.unusedVariables false
open Go.RowKit

/-- What the call owns: a block of cells known whole; a row that is appended to. -/
inductive Res where
  | box (g : Nat) (t : TypeId) (cs : List Value)
  | row (A : Option Addr) (n cap : Nat) (e size : Nat) (xs : List Value)

def Res.blk : Res → Option Nat
  | .box g _ _ => some g
  | .row A _ _ _ _ _ => A.map (·.block)

def Res.holds (w : World) : Res → Prop
  | .box g t cs => w.heap[g]? = some (.cells cs.toArray t (0, 0))
  | .row A n cap e size xs => w.ownsRow 0 e size (.slice A n cap) n xs

/-- What nobody changes: all but what is owned. -/
def imm (Z : Nat → Prop) (w0 : World) (m : List Res) (w : World) (k : Nat) : Prop := k < w.heap.size ∧ (k < w0.heap.size → Z k) ∧ ∀ r ∈ m, r.blk ≠ some k
/-- What a call hands back of what nobody changes. -/
def nxt (Z : Nat → Prop) (w0 w : World) (k : Nat) : Prop := k < w.heap.size ∧ (k < w0.heap.size → Z k)

/-- Data that stay as long as their blocks do. -/
structure Dat where
  φ : World → (Nat → Prop) → Prop
  mono : ∀ w w' I I', φ w I → (∀ k, I k → I' k ∧ w'.heap[k]? = w.heap[k]?) → φ w' I'

/-- The state of a walk: w0: where the call began; M: which old blocks it may change; m: what it owns; ds: the data. -/
structure St (w0 : World) (Z M : Nat → Prop) (w : World) (m : List Res) (ds : List Dat) : Prop where
  os : w.os = w0.os
  tape : w.tape = w0.tape
  output : w.output = w0.output
  size : w0.heap.size ≤ w.heap.size
  old : ∀ k, k < w0.heap.size → ¬ M k → w.heap[k]? = w0.heap[k]?
  hold : ∀ r ∈ m, r.holds w
  own : ∀ r ∈ m, ∀ k, r.blk = some k → k < w.heap.size ∧ (w0.heap.size ≤ k ∨ M k)
  apart : m.Pairwise fun r s => ∀ k, r.blk = some k → s.blk ≠ some k
  dat : ∀ d ∈ ds, d.φ w (imm Z w0 m w)

/-- What a call may have changed. -/
structure Fr (M : Nat → Prop) (w w' : World) : Prop where
  os : w'.os = w.os
  tape : w'.tape = w.tape
  output : w'.output = w.output
  size : w.heap.size ≤ w'.heap.size
  old : ∀ k, k < w.heap.size → ¬ M k → w'.heap[k]? = w.heap[k]?

abbrev none_ : Nat → Prop := fun _ => False

theorem Fr.refl (M : Nat → Prop) (w : World) : Fr M w w := ⟨rfl, rfl, rfl, Nat.le_refl _, fun _ _ _ => rfl⟩
theorem Fr.below {w w' : World} (h : Fr none_ w w') : Below w.heap.size w w' := ⟨h.os, h.tape, h.output, h.size, fun k hk => h.old k hk (fun x => x)⟩
theorem Fr.of_below {M : Nat → Prop} {w w' : World} (h : Below w.heap.size w w') : Fr M w w' := ⟨h.os, h.tape, h.output, h.size, fun k hk _ => h.block k hk⟩

section
variable {w0 w w' : World} {Z M : Nat → Prop} {m m' : List Res} {ds : List Dat}

theorem St.fr (h : St w0 Z M w m ds) : Fr M w0 w := ⟨h.os, h.tape, h.output, h.size, h.old⟩
theorem St.start (w0 : World) (Z M : Nat → Prop) (ds : List Dat) (h : ∀ d ∈ ds, d.φ w0 (imm Z w0 [] w0)) : St w0 Z M w0 [] ds :=
  ⟨rfl, rfl, rfl, Nat.le_refl _, fun _ _ _ => rfl, (fun _ h => by cases h), (fun _ h => by cases h), .nil, h⟩

/-- From one world to the next. -/
theorem St.step (h : St w0 Z M w m ds) (hos : w'.os = w.os) (htape : w'.tape = w.tape) (hout : w'.output = w.output) (hsize : w.heap.size ≤ w'.heap.size)
    (hblk : ∀ k, k < w.heap.size → (∀ r ∈ m, r.blk ≠ some k) → w'.heap[k]? = w.heap[k]?)
    (hhold : ∀ r ∈ m', r.holds w')
    (hown : ∀ r ∈ m', ∀ k, r.blk = some k → k < w'.heap.size ∧ ((∃ r' ∈ m, r'.blk = some k) ∨ w.heap.size ≤ k))
    (hap : m'.Pairwise fun r s => ∀ k, r.blk = some k → s.blk ≠ some k) : St w0 Z M w' m' ds := by
  have himm : ∀ k, imm Z w0 m w k → imm Z w0 m' w' k ∧ w'.heap[k]? = w.heap[k]? := fun k hk => by
    refine ⟨⟨Nat.lt_of_lt_of_le hk.1 hsize, hk.2.1, fun r hr e => ?_⟩, hblk k hk.1 hk.2.2⟩
    rcases (hown r hr k e).2 with ⟨r', hr', e'⟩ | hge
    · exact hk.2.2 r' hr' e'
    · exact absurd hk.1 (by omega)
  refine ⟨hos.trans h.os, htape.trans h.tape, hout.trans h.output, Nat.le_trans h.size hsize, fun k hk hM => ?_, hhold, fun r hr k e => ⟨(hown r hr k e).1, ?_⟩, hap, fun d hd => d.mono _ _ _ _ (h.dat d hd) himm⟩
  · refine (hblk k (Nat.lt_of_lt_of_le hk h.size) (fun r hr e => ?_)).trans (h.old k hk hM)
    rcases (h.own r hr k e).2 with h1 | h1
    · omega
    · exact hM h1
  · rcases (hown r hr k e).2 with ⟨r', hr', e'⟩ | hge
    · exact (h.own r' hr' k e').2
    · exact .inl (Nat.le_trans h.size hge)

theorem Res.holds_below {r : Res} {B : Nat} (h : r.holds w) (hb : Below B w w') (hk : ∀ k, r.blk = some k → k < B) : r.holds w' := by
  cases r with
  | box g t cs => exact (hb.block g (hk g rfl)).trans h
  | row A n cap e size xs =>
    refine ⟨h.1, ?_⟩
    rcases h.2 with h1 | ⟨g, cap', cur, hv, h1, h2, h3⟩
    · exact .inl h1
    · refine .inr ⟨g, cap', cur, hv, h1, ?_, h3⟩
      have hA : A = some ⟨g, 0, none⟩ := by injection hv
      exact (hb.block g (hk g (by simp [Res.blk, hA]))).trans h2

/-- A call that changes nothing old. -/
theorem St.below (h : St w0 Z M w m ds) (hb : Below w.heap.size w w') : St w0 Z M w' m ds :=
  h.step hb.os hb.tape hb.output hb.size (fun k hk _ => hb.block k hk) (fun r hr => Res.holds_below (h.hold r hr) hb (fun k e => (h.own r hr k e).1))
    (fun r hr k e => ⟨Nat.lt_of_lt_of_le (h.own r hr k e).1 hb.size, .inl ⟨r, hr, e⟩⟩) h.apart

/-- A draw. -/
theorem St.drew (h : St w0 Z M w m ds) : St w0 Z M w.drew m ds := h.below ((Below.refl _ _).drew)

theorem alloc_at_old (w : World) (o : Obj) (k : Nat) (hk : k < w.heap.size) : (w.alloc o).heap[k]? = w.heap[k]? := Below.heap_alloc w o k hk

/-- A new block. -/
theorem St.alloc (h : St w0 Z M w m ds) (r : Res) (o : Obj) (hr : r.holds (w.alloc o)) (hb : r.blk = some w.heap.size) : St w0 Z M (w.alloc o) (m ++ [r]) ds := by
  have hbel : Below w.heap.size w (w.alloc o) := (Below.refl _ _).alloc (Nat.le_refl _) _
  refine h.step rfl rfl rfl (by simp) (fun k hk _ => alloc_at_old w o k hk) ?_ ?_ ?_
  · intro s hs
    rcases List.mem_append.1 hs with hs | hs
    · exact Res.holds_below (h.hold s hs) hbel (fun k e => (h.own s hs k e).1)
    · rw [List.mem_singleton] at hs
      subst hs
      exact hr
  · intro s hs k e
    rcases List.mem_append.1 hs with hs | hs
    · exact ⟨by have := (h.own s hs k e).1; simp; omega, .inl ⟨s, hs, e⟩⟩
    · rw [List.mem_singleton] at hs
      subst hs
      rw [hb] at e
      obtain rfl := Option.some.inj e
      exact ⟨by simp, .inr (Nat.le_refl _)⟩
  · rw [List.pairwise_append]
    refine ⟨h.apart, by simp, fun s hs t ht k e e' => ?_⟩
    rw [List.mem_singleton] at ht
    subst ht
    rw [hb] at e'
    obtain rfl := Option.some.inj e'
    have := (h.own s hs _ e).1
    omega

theorem apart_get (h : m.Pairwise fun r s => ∀ k, r.blk = some k → s.blk ≠ some k) {i j : Nat} (hij : i ≠ j) {r s : Res} (hi : m[i]? = some r) (hj : m[j]? = some s) {k : Nat} (hk : r.blk = some k) : s.blk ≠ some k := by
  rw [List.pairwise_iff_getElem] at h
  obtain ⟨hil, rfl⟩ := List.getElem?_eq_some_iff.1 hi
  obtain ⟨hjl, rfl⟩ := List.getElem?_eq_some_iff.1 hj
  rcases Nat.lt_or_ge i j with hlt | hge
  · exact h i j hil hjl hlt k hk
  · intro e
    exact h j i hjl hil (by omega) k e hk

/-- One of what is owned turns into another thing, at the same block or at a new one. -/
theorem St.turn (h : St w0 Z M w m ds) {i : Nat} {r r' : Res} (hi : m[i]? = some r) (hos : w'.os = w.os) (htape : w'.tape = w.tape) (hout : w'.output = w.output) (hsize : w.heap.size ≤ w'.heap.size)
    (hold : ∀ k, k < w.heap.size → r.blk ≠ some k → w'.heap[k]? = w.heap[k]?) (hr' : r'.holds w')
    (hb : ∀ k, r'.blk = some k → k < w'.heap.size ∧ (r.blk = some k ∨ w.heap.size ≤ k)) : St w0 Z M w' (m.set i r') ds := by
  have hmem : r ∈ m := List.mem_of_getElem? hi
  have hil : i < m.length := (List.getElem?_eq_some_iff.1 hi).1
  have other : ∀ s ∈ m.set i r', s = r' ∨ ∃ j, j ≠ i ∧ m[j]? = some s := fun s hs => by
    obtain ⟨j, hj⟩ := List.mem_iff_getElem?.1 hs
    rw [List.getElem?_set] at hj
    by_cases hij : i = j
    · subst hij
      rw [if_pos rfl, if_pos hil] at hj
      exact .inl (Option.some.inj hj).symm
    · rw [if_neg hij] at hj
      exact .inr ⟨j, Ne.symm hij, hj⟩
  refine h.step hos htape hout hsize (fun k hk hk2 => hold k hk (hk2 r hmem)) ?_ ?_ ?_
  · intro s hs
    rcases other s hs with rfl | ⟨j, hji, hj⟩
    · exact hr'
    · have hsm : s ∈ m := List.mem_of_getElem? hj
      have hsh := h.hold s hsm
      have hne : ∀ k, s.blk = some k → w'.heap[k]? = w.heap[k]? := fun k e =>
        hold k (h.own s hsm k e).1 (fun e' => apart_get h.apart hji hj hi e e')
      cases s with
      | box g t cs => exact (hne g rfl).trans hsh
      | row A n cap e size xs =>
        refine ⟨hsh.1, ?_⟩
        rcases hsh.2 with h1 | ⟨g, cap', cur, hv, h1, h2, h3⟩
        · exact .inl h1
        · refine .inr ⟨g, cap', cur, hv, h1, ?_, h3⟩
          have hA : A = some ⟨g, 0, none⟩ := by injection hv
          exact (hne g (by simp [Res.blk, hA])).trans h2
  · intro s hs k e
    rcases other s hs with rfl | ⟨j, hji, hj⟩
    · refine ⟨(hb k e).1, ?_⟩
      rcases (hb k e).2 with h1 | h1
      · exact .inl ⟨r, hmem, h1⟩
      · exact .inr h1
    · have hsm : s ∈ m := List.mem_of_getElem? hj
      exact ⟨Nat.lt_of_lt_of_le (h.own s hsm k e).1 hsize, .inl ⟨s, hsm, e⟩⟩
  · rw [List.pairwise_iff_getElem]
    intro a b ha hb' hab k e e'
    rw [List.length_set] at ha hb'
    have hga : m[a]? = some m[a] := List.getElem?_eq_getElem ha
    have hgb : m[b]? = some m[b] := List.getElem?_eq_getElem hb'
    by_cases hai : a = i
    · subst hai
      rw [List.getElem_set_self] at e
      rw [List.getElem_set_ne (by omega)] at e'
      rcases (hb k e).2 with h1 | h1
      · exact apart_get h.apart (by omega : a ≠ b) hi hgb h1 e'
      · have := (h.own _ (List.mem_of_getElem? hgb) k e').1
        omega
    · rw [List.getElem_set_ne (by omega)] at e
      by_cases hbi : b = i
      · subst hbi
        rw [List.getElem_set_self] at e'
        rcases (hb k e').2 with h1 | h1
        · exact apart_get h.apart (by omega : a ≠ b) hga hi e h1
        · have := (h.own _ (List.mem_of_getElem? hga) k e).1
          omega
      · rw [List.getElem_set_ne (by omega)] at e'
        exact apart_get h.apart (by omega : a ≠ b) hga hgb e e'

/-- More data. -/
theorem St.data (h : St w0 Z M w m ds) (d : Dat) (hd : d.φ w (imm Z w0 m w)) : St w0 Z M w m (ds ++ [d]) :=
  ⟨h.os, h.tape, h.output, h.size, h.old, h.hold, h.own, h.apart, fun x hx => by
    rcases List.mem_append.1 hx with hx | hx
    · exact h.dat x hx
    · rw [List.mem_singleton] at hx
      subst hx
      exact hd⟩
/-- Other data, each of which is had. -/
theorem St.datas (h : St w0 Z M w m ds) (ds' : List Dat) (hd : ∀ d ∈ ds', d.φ w (imm Z w0 m w)) : St w0 Z M w m ds' :=
  ⟨h.os, h.tape, h.output, h.size, h.old, h.hold, h.own, h.apart, hd⟩
theorem St.get (h : St w0 Z M w m ds) {i : Nat} {d : Dat} (hi : ds[i]? = some d) : d.φ w (imm Z w0 m w) := h.dat d (List.mem_of_getElem? hi)
theorem St.res (h : St w0 Z M w m ds) {i : Nat} {r : Res} (hi : m[i]? = some r) : r.holds w := h.hold r (List.mem_of_getElem? hi)

/-- Of what is owned some is let go: nobody changes it any more. -/
theorem St.drop (h : St w0 Z M w m ds) (m' : List Res) (hs : m'.Sublist m) : St w0 Z M w m' ds :=
  h.step rfl rfl rfl (Nat.le_refl _) (fun _ _ _ => rfl) (fun r hr => h.hold r (hs.subset hr)) (fun r hr k e => ⟨(h.own r (hs.subset hr) k e).1, .inl ⟨r, hs.subset hr, e⟩⟩) (h.apart.sublist hs)
end
end Go.Proofs.YtobgdeffhdefeaaDoor
