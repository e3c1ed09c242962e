import Derived.Test.YtobgdeffhdefeaaDoorZxb
/- copy and clear on rows of the call's own. -/
namespace Go.Proofs.YtobgdeffhdefeaaDoor
set_option linter.unusedSimpArgs false
set_option linter.unusedVariables false
open Go Go.RowKit
section
variable {P : Program} {X : Prop} {Next : Act → World → Prop} {op : Oper} {a : Act} {w w' w0 : World} {N : Nat} {l : List (Nat × Value)} {d : Nat} {Z M : Nat → Prop} {m : List Res} {ds : List Dat}
theorem zeroCells_list (z : Array Value) (n : Nat) : (Builtin.zeroCells z n).toList = (List.replicate n z.toList).flatten := by
  unfold Builtin.zeroCells
  rw [Array.toList_map, Array.toList_range]
  induction n with
  | zero => simp
  | succ n ih =>
    rw [Nat.succ_mul, List.range_add, List.map_append, ih, List.replicate_succ', List.flatten_append, List.flatten_singleton]
    congr 1
    rw [List.map_map]
    apply List.ext_getElem
    · simp
    · intro i h1 h2
      have hi : i < z.size := by simpa using h1
      simp [Nat.mul_add_mod_of_lt hi, hi]
theorem cut_addr {size k q : Nat} {A A' : Option Addr} {ad : Addr} (h : Cut size A A' k q) (hA : A = some ad) (hq : 0 < q) : A' = some (ad.add (k * size)) := by
  subst hA
  have h1 := h 0 hq
  cases A' with
  | none => cases h1
  | some ad' =>
    rw [Nat.zero_mul, Nat.add_zero] at h1
    simpa [add_zero_addr] using h1
theorem cut_self {size q : Nat} {A : Option Addr} : Cut size A A 0 q := fun j _ => by rw [Nat.zero_add]
/-- clear: the elements of a view of an own row are zeros. -/
theorem m_clear {α : Type} {f : α → List Value} {t : TypeId} {x : Operand} {A A' : Option Addr} {L : List α} {i k q c' cap e size bytes : Nat} {z : Value} {z0 : α} (hs : SteV P X Next op a w) (hR : Reg a N l) (hS : St w0 Z M w m ds) (hd : op.dst = none)
    (ho : op.op = .call { callee := .builtin .clear, args := #[x], argTypes := #[t] }) (hx : ev l x = some (.slice A' q c')) (hi : m[i]? = some (.row A L.length cap e size (L.flatMap f))) (hcut : Cut size A A' k q) (hkq : k + q ≤ L.length)
    (ht : P.underlying t = some (.slice e)) (hinf : (P.info? e).map (fun i => (i.zero, i.size, i.bytes)) = some (some z, size, bytes)) (hf : ∀ x, (f x).length = size) (hone : ∀ x, ∀ v ∈ f x, v.oneCell' = true) (hz : z.cells.toList = f z0)
    (L' : List α) (hL : L.take k ++ List.replicate q z0 ++ L.drop (k + q) = L')
    (kk : ∀ a' w', Reg a' N l → St w0 Z M w' (m.set i (.row A L'.length cap e size (L'.flatMap f))) ds → Next a' w') : X := by
  have hkey : ∃ w', (Builtin.clear_ #[t] op.type #[.slice A' q c']).run P w = .ok (.tuple #[]) w' ∧ St w0 Z M w' (m.set i (.row A L'.length cap e size (L'.flatMap f))) ds := by
    rcases Nat.eq_zero_or_pos q with rfl | hq
    · refine ⟨w, ?_, ?_⟩
      · cases A' <;> simp [Builtin.clear_, run_underlying ht]
      · have : L' = L := by rw [← hL]; simp
        subst this
        have hset : m.set i (.row A L'.length cap e size (L'.flatMap f)) = m := by
          obtain ⟨hlt, he⟩ := List.getElem?_eq_some_iff.1 hi
          rw [← he, List.set_getElem_self]
        rw [hset]
        exact hS
    · obtain ⟨ad, rfl⟩ := row_some hS hi (by omega)
      obtain rfl := cut_addr hcut rfl hq
      obtain ⟨w', h1, h2⟩ := St.overF (P := P) hS hi rfl hf hone k (List.replicate q z0) (by rw [List.length_replicate]; exact hkq) L' (by rw [List.length_replicate]; exact hL)
      refine ⟨w', ?_, h2⟩
      have hv : (zeroValue e).run P w = .ok z w := by
        cases hqi : P.info? e with
        | none => simp [hqi] at hinf
        | some inf =>
          simp only [hqi, Option.map_some, Option.some.injEq, Prod.mk.injEq] at hinf
          simp [zeroValue, typeInfo, hqi, hinf.1]
      have hzc : (Builtin.zeroCells z.cells q).toList = (List.replicate q z0).flatMap f := by
        rw [zeroCells_list, hz, List.flatMap_def, List.map_replicate]
      obtain ⟨q', rfl⟩ : ∃ q', q = q' + 1 := ⟨q - 1, by omega⟩
      simp [Builtin.clear_, run_underlying ht, hv, hzc, h1]
  obtain ⟨w', h1, h2⟩ := hkey
  refine hs.val (.tuple #[]) w' ?_ ?_
  · unfold execOp; rw [ho]
    simp only [resolve, invoke, builtin, Sem.run_bind, Sem.run_pure, Result.andThen_ok, List.map_toArray, List.map_cons, List.map_nil, hR.ev hx, h1]
  · rw [hd]
    exact kk _ _ (hR.put_none _) h2
/-- copy: onto a view of an own row. -/
theorem m_copy {α : Type} {f : α → List Value} {t t2 : TypeId} {x y : Operand} {A A' B : Option Addr} {L K : List α} {i k q c' s c2 cap e size : Nat} (hs : SteV P X Next op a w) (hR : Reg a N l) (hS : St w0 Z M w m ds) (hd : op.dst = some d)
    (ho : op.op = .call { callee := .builtin .copy, args := #[x, y], argTypes := #[t, t2] }) (hx : ev l x = some (.slice A' q c')) (hy : ev l y = some (.slice B s c2)) (hi : m[i]? = some (.row A L.length cap e size (L.flatMap f))) (hcut : Cut size A A' k q) (hkq : k + q ≤ L.length)
    (ht : P.underlying t = some (.slice e)) (hsz : (P.info? e).map (·.size) = some size) (hf : ∀ x, (f x).length = size) (hone : ∀ x, ∀ v ∈ f x, v.oneCell' = true) (hK : K.length = Nat.min s q) (hsrc : 0 < K.length → ∃ ad, B = some ad ∧ CellsAt w ad (K.flatMap f))
    (L' : List α) (hL : L.take k ++ K ++ L.drop (k + K.length) = L') (hdN : d < N)
    (kk : ∀ a' w', Reg a' N ((d, .int .i64 (K.length : Int)) :: l) → St w0 Z M w' (m.set i (.row A L'.length cap e size (L'.flatMap f))) ds → Next a' w') : X := by
  have hKq : K.length ≤ q := hK ▸ Nat.min_le_right _ _
  have hkey : ∃ w', (Builtin.copy_ #[t, t2] op.type #[.slice A' q c', .slice B s c2]).run P w = .ok (.int .i64 (K.length : Int)) w' ∧ St w0 Z M w' (m.set i (.row A L'.length cap e size (L'.flatMap f))) ds := by
    cases hqi : P.info? e with
    | none => simp [hqi] at hsz
    | some inf =>
      have hii : inf.size = size := by simpa [hqi] using hsz
      rcases Nat.eq_zero_or_pos K.length with h0 | hpos
      · have hK0 : K = [] := List.eq_nil_of_length_eq_zero h0
        subst hK0
        refine ⟨w, ?_, ?_⟩
        · have hm : Nat.min s q = 0 := hK.symm
          have hl0 : ∀ b, (loadCells b 0).run P w = .ok #[] w := fun b => run_loadCells_list (P := P) w b [] (by simp)
          cases A' <;> cases B <;> simp [Builtin.copy_, run_underlying ht, Builtin.lenOf, Builtin.firstCells, sizeOf, typeInfo, hqi, hm, storeCells, goInt, hl0]
        · have : L' = L := by rw [← hL]; simp
          subst this
          have hset : m.set i (.row A L'.length cap e size (L'.flatMap f)) = m := by
            obtain ⟨hlt, he⟩ := List.getElem?_eq_some_iff.1 hi
            rw [← he, List.set_getElem_self]
          rw [hset]
          exact hS
      · obtain ⟨ad, rfl⟩ := row_some hS hi (by omega)
        obtain rfl := cut_addr hcut rfl (by omega)
        obtain ⟨w', h1, h2⟩ := St.overF (P := P) hS hi rfl hf hone k K (by omega) L' hL
        obtain ⟨bd, rfl, hc⟩ := hsrc hpos
        refine ⟨w', ?_, h2⟩
        have hl := run_loadCells_list (P := P) w bd (K.flatMap f) hc
        rw [enc_length hf] at hl
        simp [Builtin.copy_, run_underlying ht, Builtin.lenOf, Builtin.firstCells, sizeOf, typeInfo, hqi, hii, ← hK, hl, h1, goInt]
  obtain ⟨w', h1, h2⟩ := hkey
  refine hs.val (.int .i64 (K.length : Int)) w' ?_ ?_
  · unfold execOp; rw [ho]
    simp only [resolve, invoke, builtin, Sem.run_bind, Sem.run_pure, Result.andThen_ok, List.map_toArray, List.map_cons, List.map_nil, hR.ev hx, hR.ev hy, h1]
  · rw [hd]
    exact kk _ _ (hR.put hdN _) h2
theorem one1 {α : Type} {f : α → List Value} (h : ∀ l : List α, ∀ u ∈ l.flatMap f, u.oneCell' = true) (x : α) : ∀ v ∈ f x, v.oneCell' = true := fun v hv => h [x] v (by simpa using hv)
theorem own_cut_cells {α : Type} {f : α → List Value} {A A' : Option Addr} {L : List α} {i k q cap e size : Nat} (hS : St w0 Z M w m ds) (hi : m[i]? = some (.row A L.length cap e size (L.flatMap f))) (hcut : Cut size A A' k q) (hf : ∀ x, (f x).length = size) (hkq : k + q ≤ L.length) :
    0 < ((L.drop k).take q).length → ∃ ad, A' = some ad ∧ CellsAt w ad (((L.drop k).take q).flatMap f) := fun hpos => by
  have hq : 0 < q := by rw [List.length_take] at hpos; omega
  have h1 : w.ownsRow 0 e size (.slice A L.length cap) L.length (L.flatMap f) := hS.res hi
  obtain ⟨ad, rfl, hc⟩ := own_news h1 (by omega)
  refine ⟨_, cut_addr hcut rfl hq, ?_⟩
  rw [← enc_take hf, ← enc_drop hf]
  exact (hc.drop _).take _
theorem ret_s {A : Option Addr} {n n' c : Nat} (h : n = n') : Value.slice A n c = .slice A n' c := by rw [h]
/-- An append onto the front of an own row, where what is known of the row goes as far: in place. -/
theorem m_appendFit {α : Type} {f : α → List Value} {t : TypeId} {x y : Operand} {A B : Option Addr} {L K : List α} {i n s c2 cap e size : Nat} (hs : SteV P X Next op a w) (hR : Reg a N l) (hS : St w0 Z M w m ds) (hd : op.dst = some d)
    (ho : op.op = .call { callee := .builtin .append, args := #[x, y], argTypes := #[t, t] }) (hx : ev l x = some (.slice A n cap)) (hy : ev l y = some (.slice B s c2)) (hi : m[i]? = some (.row A L.length cap e size (L.flatMap f))) (hfit : n + s ≤ L.length) (hpos : 0 < s)
    (ht : P.underlying t = some (.slice e)) (hsz : (P.info? e).map (·.size) = some size) (hf : ∀ x, (f x).length = size) (hone : ∀ x, ∀ v ∈ f x, v.oneCell' = true) (hK : K.length = s) (hsrc : 0 < K.length → ∃ ad, B = some ad ∧ CellsAt w ad (K.flatMap f))
    (L' : List α) (hL : L.take n ++ K ++ L.drop (n + K.length) = L') (hdN : d < N)
    (kk : ∀ a' w', Reg a' N ((d, .slice A (n + s) cap) :: l) → St w0 Z M w' (m.set i (.row A L'.length cap e size (L'.flatMap f))) ds → Next a' w') : X := by
  subst hK
  have hcap : L.length ≤ cap := own_cap (hS.res hi)
  obtain ⟨ad, rfl⟩ := row_some hS hi (by omega)
  obtain ⟨bd, rfl, hc⟩ := hsrc hpos
  obtain ⟨w', h1, h2⟩ := St.overF (P := P) hS hi rfl hf hone n K (by omega) L' hL
  cases hqi : P.info? e with
  | none => simp [hqi] at hsz
  | some inf =>
    have hii : inf.size = size := by simpa [hqi] using hsz
    have hl := run_loadCells_list (P := P) w bd (K.flatMap f) hc
    rw [enc_length hf] at hl
    have hcl : n + K.length ≤ cap := by omega
    have hrun : (Builtin.append_ #[t, t] op.type #[.slice (some ad) n cap, .slice (some bd) K.length c2]).run P w = .ok (.slice (some ad) (n + K.length) cap) w' := by
      simp [Builtin.append_, run_underlying ht, Builtin.lenOf, Builtin.firstCells, sizeOf, typeInfo, hqi, hii, hl, hcl, h1]
    refine hs.val (.slice (some ad) (n + K.length) cap) w' ?_ ?_
    · unfold execOp; rw [ho]
      simp only [resolve, invoke, builtin, Sem.run_bind, Sem.run_pure, Result.andThen_ok, List.map_toArray, List.map_cons, List.map_nil, hR.ev hx, hR.ev hy, hrun]
    · rw [hd]
      exact kk _ _ (hR.put hdN _) h2
theorem cut_A {size k q cap : Nat} {A : Option Addr} (h : k + q ≤ cap) : Cut size A (if cap = k then A else A.map (·.add (k * size))) k q := fun j hj => by
  rw [if_neg (by omega)]
  cases A with
  | none => rfl
  | some ad => simp [add_of_add, Nat.add_mul]
theorem r_cap {t u : TypeId} {x : Operand} {A : Option Addr} {n c : Nat} {e : TypeId} (hs : SteV P X Next op a w) (hR : Reg a N l) (hd : op.dst = some d) (ho : op.op = .call { callee := .builtin .cap, args := #[x], argTypes := #[t] }) (_hu : op.type = u)
    (hx : ev l x = some (.slice A n c)) (ht : P.underlying t = some (.slice e)) (hdN : d < N) (k : ∀ a', Reg a' N ((d, .int .i64 (c : Int)) :: l) → Next a' w) : X :=
  r_pure hs hR hd hdN (by
    unfold execOp; rw [ho]
    simp only [resolve, invoke, builtin, Sem.run_bind, Sem.run_pure, Result.andThen_ok, List.map_toArray, List.map_cons, List.map_nil, hR.ev hx, Builtin.cap_]
    simp [run_underlying ht, goInt]) k
end
end Go.Proofs.YtobgdeffhdefeaaDoor
/- Rows of nodes that are kept from round to round: a tail of the resources. -/
namespace Go.Proofs.YtobgdeffhdefeaaDoor
set_option linter.unusedSimpArgs false
set_option linter.unusedVariables false
open Go Go.RowKit
section
variable {w w' w0 : World} {Z M : Nat → Prop} {m m' : List Res} {ds : List Dat}
/-- The order of what is owned does not count. -/
theorem St.perm (h : St w0 Z M w m ds) (hp : m.Perm m') : St w0 Z M w m' ds := by
  have hmem : ∀ r, r ∈ m' ↔ r ∈ m := fun r => hp.symm.mem_iff
  have himm : imm Z w0 m' w = imm Z w0 m w := by
    funext k
    unfold imm
    refine propext ⟨fun q => ⟨q.1, q.2.1, fun r hr => q.2.2 r ((hmem r).2 hr)⟩, fun q => ⟨q.1, q.2.1, fun r hr => q.2.2 r ((hmem r).1 hr)⟩⟩
  refine ⟨h.os, h.tape, h.output, h.size, h.old, fun r hr => h.hold r ((hmem r).1 hr), fun r hr => h.own r ((hmem r).1 hr), ?_, fun d hd => by rw [himm]; exact h.dat d hd⟩
  refine (hp.pairwise_iff ?_).1 h.apart
  intro r s hrs k e e'
  exact hrs k e' e
/-- A new resource is set ahead of the tail. -/
theorem St.rot {A T : List Res} {r : Res} (h : St w0 Z M w ((A ++ T) ++ [r]) ds) : St w0 Z M w ((A ++ [r]) ++ T) ds :=
  h.perm (by
    rw [List.append_assoc, List.append_assoc]
    exact List.Perm.append_left A List.perm_append_comm)
/-- The row of a slice of nodes. -/
def rowOf (e : Nat) (s : Sl) : Res := .row s.1 s.2.2.length s.2.1 e 4 (encNs s.2.2)
/-- A row joins the tail. -/
theorem St.absorb {e : Nat} {A : List Res} {Ls : List Sl} {B : Option Addr} {c : Nat} {L : List Nd} (h : St w0 Z M w ((A ++ [.row B L.length c e 4 (encNs L)]) ++ Ls.map (rowOf e)) ds) : St w0 Z M w (A ++ (Ls ++ [((B, c, L) : Sl)]).map (rowOf e)) ds :=
  h.perm (by
    rw [List.map_append, List.append_assoc]
    exact List.Perm.append_left A List.perm_append_comm)
/-- The tail is let go: data. -/
theorem St.tail_data {e : Nat} {A : List Res} {Ls : List Sl} (h : St w0 Z M w (A ++ Ls.map (rowOf e)) ds) (hM : ∀ k, ¬ M k) : St w0 Z M w A (ds ++ [dAll Ls]) := by
  have h1 : St w0 Z M w A ds := h.drop A (List.sublist_append_left _ _)
  refine h1.data _ fun s hs => ?_
  have hmem : rowOf e s ∈ A ++ Ls.map (rowOf e) := List.mem_append_right _ (List.mem_map_of_mem hs)
  have hr : w.ownsRow 0 e 4 (.slice s.1 s.2.2.length s.2.1) s.2.2.length (encNs s.2.2) := h.hold _ hmem
  refine ⟨own_cap hr, hr.1, fun hn => ?_⟩
  obtain ⟨g, hg⟩ := own_some hr hn
  have hblk : (rowOf e s).blk = some g := by show s.1.map (·.block) = some g; rw [hg]; rfl
  have hown := h.own _ hmem g hblk
  refine ⟨_, hg, ⟨hown.1, fun hlt => ?_, fun r hr' e' => ?_⟩, fun j u hu => hr.cells (g := g) (by rw [hg]; rfl) j u hu⟩
  · have hlt' : g < w0.heap.size := hlt
    rcases hown.2 with q | q
    · omega
    · exact absurd q (hM g)
  · have hap := h.apart
    rw [List.pairwise_append] at hap
    exact hap.2.2 r hr' _ (List.mem_map_of_mem hs) g e' hblk
/-- A cut of data, at its own place. -/
theorem cut_row {α : Type} {f : α → List Value} {size k q cap : Nat} {A : Option Addr} {L : List α} {I : Nat → Prop} (h : (dRow size A L.length cap (L.flatMap f)).φ w I) (hf : ∀ x, (f x).length = size) (hkq : k + q ≤ L.length) :
    (dRow size (if cap = k then A else A.map (·.add (k * size))) ((L.drop k).take q).length (cap - k) (((L.drop k).take q).flatMap f)).φ w I := by
  have hq : ((L.drop k).take q).length = q := by rw [List.length_take, List.length_drop]; omega
  rw [hq, ← enc_take hf, ← enc_drop hf]
  have hc : L.length ≤ cap := h.1
  exact ⟨by omega, (h.2.from_ (k := k) (by omega) hc).take (k := q) (by omega)⟩
end
end Go.Proofs.YtobgdeffhdefeaaDoor
/- A row turned round in place. -/
namespace Go.Proofs.YtobgdeffhdefeaaDoor
set_option linter.unusedSimpArgs false
set_option linter.unusedVariables false
/-- So many places were exchanged on either side. -/
structure RevTo (t R : List Sl) (k : Nat) : Prop where
  len : R.length = t.length
  at_ : ∀ i, i < t.length → nthS R i = if i < k ∨ t.length - k ≤ i then nthS t (t.length - 1 - i) else nthS t i
theorem nthS_set {R : List Sl} {i j : Nat} {u : Sl} (hi : i < R.length) : nthS (R.set i u) j = if i = j then u else nthS R j := by
  unfold nthS
  rw [List.getD_eq_getElem?_getD, List.getElem?_set, List.getD_eq_getElem?_getD]
  split
  · simp [*]
  · rfl
theorem RevTo.zero (t : List Sl) : RevTo t t 0 := ⟨rfl, fun i hi => by rw [if_neg (by omega)]⟩
theorem RevTo.step {t R : List Sl} {k j : Nat} {u v : Sl} (h : RevTo t R k) (hk : 2 * k + 1 < t.length) (hj : j = t.length - 1 - k) (hu : u = nthS R j) (hv : v = nthS R k) : RevTo t ((R.set k u).set j v) (k + 1) := by
  subst hj
  obtain ⟨h1, h2⟩ := h
  refine ⟨by simp [h1], fun i hi => ?_⟩
  rw [nthS_set (by rw [List.length_set]; omega), nthS_set (by omega), hu, hv, h2 _ (by omega), h2 _ (by omega), h2 i hi]
  by_cases e1 : t.length - 1 - k = i
  · subst e1
    rw [if_pos rfl, if_neg (by omega), if_pos (by omega)]
    congr 1
    omega
  · rw [if_neg e1]
    by_cases e2 : k = i
    · subst e2
      rw [if_pos rfl, if_neg (by omega), if_pos (by omega)]
    · rw [if_neg e2]
      by_cases e3 : i < k ∨ t.length - k ≤ i
      · rw [if_pos e3, if_pos (by omega)]
      · rw [if_neg e3, if_neg (by omega)]
theorem RevTo.done {t R : List Sl} {k : Nat} (h : RevTo t R k) (hk : t.length ≤ 2 * k + 1) : R = t.reverse := by
  obtain ⟨h1, h2⟩ := h
  apply List.ext_getElem
  · simp [h1]
  · intro i hi hi'
    have h3 := h2 i (by omega)
    have h4 : nthS R i = R[i] := by simp [nthS, hi]
    have h5 : nthS t (t.length - 1 - i) = t[t.length - 1 - i] := by
      have : t.length - 1 - i < t.length := by omega
      simp [nthS, this]
    rw [List.getElem_reverse, ← h4, h3, ← h5]
    split
    · rfl
    · congr 1
      omega
theorem all_rev {w : World} {I : Nat → Prop} {t : List Sl} (h : (dAll t).φ w I) : (dAll t.reverse).φ w I := fun s hs => h s (List.mem_reverse.1 hs)
theorem lsts_rev {t : List Sl} : lsts t.reverse = (lsts t).reverse := by simp [lsts]
end Go.Proofs.YtobgdeffhdefeaaDoor
/- What cornicelaw11.shown asks. -/
namespace Go.Proofs.YtobgdeffhdefeaaDoor
set_option linter.unusedSimpArgs false
set_option linter.unusedVariables false
abbrev starN : Nd := ⟨17, 0, 0, ⟨#[]⟩⟩
abbrev prfN : Nd := ⟨28, 0, 0, ⟨#[]⟩⟩
theorem chk_sp : chk [starN, prfN] = 0 := by rfl
theorem prfL_sp : prfL [starN, prfN] = [(0, 1)] := by rfl
theorem rep_sp : repP [starN, prfN] (prfL [starN, prfN]) = [tick] := by rw [prfL_sp]; rfl
theorem sml_sp : sml [starN, prfN] := fun k hk => by
  have : k = 0 ∨ k = 1 := by simp at hk; omega
  rcases this with rfl | rfl <;> decide
end Go.Proofs.YtobgdeffhdefeaaDoor
/- What is erased, stripped, and the proofs: trees. -/
namespace Go.Proofs.YtobgdeffhdefeaaDoor
set_option linter.unusedSimpArgs false
set_option linter.unusedVariables false
mutual
/-- The proofs of a tree, the last one first, as places. -/
def prT (o : Nat) : T → List (Int × Int)
  | .mk n l => if n.K = 28 then [((o : Int), ((o + (T.flats l).length : Nat) : Int))] else prTs o l
def prTs (o : Nat) : List T → List (Int × Int)
  | [] => []
  | t :: l => prTs (o + t.flat.length) l ++ prT o t
end
mutual
/-- The tree, erased. -/
def erT : T → T
  | .mk n l => if n.K = 28 then .mk tick [] else .mk n (erTs l)
def erTs : List T → List T
  | [] => []
  | t :: l => erT t :: erTs l
end
mutual
/-- The proofs, in their order. -/
def prfT : T → List (List Nd)
  | .mk n l => if n.K = 28 then [T.flats l ++ [n]] else prfTs l
def prfTs : List T → List (List Nd)
  | [] => []
  | t :: l => prfT t ++ prfTs l
end
mutual
/-- The tree without marks. -/
def stT : T → T
  | .mk n l => if n.K = 28 then stH l else .mk n (stTs l)
def stH : List T → T
  | [] => .mk tick []
  | t :: _ => stT t
def stTs : List T → List T
  | [] => []
  | t :: l => stT t :: stTs l
end
theorem many_28 {n : Nd} (h : n.K = 28) : many n = 1 := by simp [many, binds, h, shp]
theorem wf_cons {t : T} {l : List T} (h : T.wfs (t :: l) = true) : t.wf = true ∧ T.wfs l = true := by simpa [T.wfs] using h
theorem wf_parts {n : Nd} {l : List T} (h : (T.mk n l).wf = true) : right n = true ∧ many n = l.length ∧ T.wfs l = true := by
  rw [T.wf_mk] at h
  simp only [Bool.and_eq_true, beq_iff_eq] at h
  exact ⟨h.1.1, h.1.2, h.2⟩
/-- The node that is met behind so many. -/
theorem nth_met {t u v : List Nd} {n : Nd} (h : t = u ++ [n] ++ v) : nth t (t.length - (v.length + 1)) = n ∧ t.length - (v.length + 1) = u.length := by
  subst h
  have : (u ++ [n] ++ v).length - (v.length + 1) = u.length := by simp
  rw [this]
  exact ⟨by simp [nth], rfl⟩
theorem prS_snoc (t : List Nd) (k : Nat) : prS t (k + 1) = prStep t k (prS t k) := rfl
mutual
/-- Within a proof: a tree is passed, and the proof is over where no more is needed. -/
theorem prS_inT (t : List Nd) (L : List (Int × Int)) (r : Int) (hr : 0 ≤ r) : ∀ (x : T) (u v : List Nd) (n : Int), x.wf = true → t = u ++ x.flat ++ v → prS t v.length = (L, r, n) → 1 ≤ n →
    prS t (v.length + x.flat.length) = if 1 < n then (L, r, n - 1) else (L ++ [((u.length : Int), r)], -1, 0)
  | .mk m l, u, v, n, hw, ht, hs, hn => by
    obtain ⟨h1, h2, h3⟩ := wf_parts hw
    have ht' : t = (u ++ T.flats l) ++ [m] ++ v := by rw [ht, T.flat_mk]; simp
    obtain ⟨hm, hp⟩ := nth_met ht'
    have hst : prS t (v.length + 1) = prStep t v.length (L, r, n) := by rw [prS_snoc, hs]
    have hb : ((bindsR m).length : Int) = l.length := by rw [bindsR_eq h1, ← h2]; rfl
    unfold prStep at hst
    simp only [show ¬ r < 0 by omega, false_and, if_false, hm, hb] at hst
    rw [T.flat_mk, List.length_append, List.length_singleton, show v.length + ((T.flats l).length + 1) = ([m] ++ v).length + (T.flats l).length by simp; omega]
    cases l with
    | nil =>
      rw [hp] at hst
      simp only [T.flats_nil, List.length_nil, Nat.add_zero, List.length_append, List.length_singleton] at hst ⊢
      rw [show 1 + v.length = v.length + 1 by omega, hst]
      by_cases h : 1 < n
      · rw [if_pos (by omega), if_pos h]
        simp
      · rw [if_neg (by omega), if_neg h]
        simp
        omega
    | cons y l =>
      simp only [List.length_cons] at hst
      rw [if_pos (by omega)] at hst
      have hv : ([m] ++ v).length = v.length + 1 := by simp
      have := prS_inTs t L r hr (y :: l) u ([m] ++ v) (n + ((y :: l).length : Int) - 1) h3 (by rw [ht']; simp) (by rw [hv, hst]; simp) (by simp; omega) (by simp)
      rw [this]
      by_cases h : 1 < n
      · rw [if_pos (by simp; omega), if_pos h]
        congr 2
        simp
        omega
      · rw [if_neg (by simp; omega), if_neg h]
theorem prS_inTs (t : List Nd) (L : List (Int × Int)) (r : Int) (hr : 0 ≤ r) : ∀ (l : List T) (u v : List Nd) (n : Int), T.wfs l = true → t = u ++ T.flats l ++ v → prS t v.length = (L, r, n) → (l.length : Int) ≤ n → l ≠ [] →
    prS t (v.length + (T.flats l).length) = if (l.length : Int) < n then (L, r, n - l.length) else (L ++ [((u.length : Int), r)], -1, 0)
  | [], _, _, _, _, _, _, _, h => absurd rfl h
  | [y], u, v, n, hw, ht, hs, hn, _ => by
    have := prS_inT t L r hr y u v n (wf_cons hw).1 (by rw [ht, T.flats_one]) hs (by simpa using hn)
    rw [T.flats_one]
    simpa using this
  | y :: z :: l, u, v, n, hw, ht, hs, hn, _ => by
    obtain ⟨h1, h2⟩ := wf_cons hw
    have ih := prS_inTs t L r hr (z :: l) (u ++ y.flat) v n h2 (by rw [ht, T.flats_cons]; simp) hs (by simp at hn ⊢; omega) (by simp)
    rw [if_pos (by simp at hn ⊢; omega)] at ih
    have := prS_inT t L r hr y u (T.flats (z :: l) ++ v) (n - ((z :: l).length : Int)) h1 (by rw [ht, T.flats_cons]; simp) (by rw [List.length_append, Nat.add_comm, ih]) (by simp at hn ⊢; omega)
    rw [T.flats_cons, List.length_append, show v.length + (y.flat.length + (T.flats (z :: l)).length) = (T.flats (z :: l) ++ v).length + y.flat.length by simp; omega, this]
    simp only [List.length_cons] at hn ⊢
    by_cases h : ((l.length + 1 + 1 : Nat) : Int) < n
    · rw [if_pos h, if_pos (by omega)]
      congr 2
      omega
    · rw [if_neg h, if_neg (by omega)]
end
mutual
/-- Beside proofs: the proofs of a tree are found, the last one first. -/
theorem prS_T (t : List Nd) : ∀ (x : T) (u v : List Nd), x.wf = true → t = u ++ x.flat ++ v → (prS t v.length).2.1 < 0 →
    (prS t (v.length + x.flat.length)).1 = (prS t v.length).1 ++ prT u.length x ∧ (prS t (v.length + x.flat.length)).2.1 < 0
  | .mk m l, u, v, hw, ht, hs => by
    obtain ⟨h1, h2, h3⟩ := wf_parts hw
    have ht' : t = (u ++ T.flats l) ++ [m] ++ v := by rw [ht, T.flat_mk]; simp
    obtain ⟨hm, hp⟩ := nth_met ht'
    have hb : ((bindsR m).length : Int) = l.length := by rw [bindsR_eq h1, ← h2]; rfl
    have hv : ([m] ++ v).length = v.length + 1 := by simp
    rw [T.flat_mk, List.length_append, List.length_singleton, show v.length + ((T.flats l).length + 1) = ([m] ++ v).length + (T.flats l).length by rw [hv]; omega]
    by_cases hk : m.K = 28
    · have hl := h2
      rw [many_28 hk] at hl
      match l, hl with
      | [y], _ =>
        have hst : prS t (v.length + 1) = ((prS t v.length).1, ((u.length + (T.flats [y]).length : Nat) : Int), 1) := by
          rw [prS_snoc]
          unfold prStep
          rw [hm]
          simp only [hs, true_and, if_true, hk, hb, hp]
          simp
        have := prS_inTs t (prS t v.length).1 ((u.length + (T.flats [y]).length : Nat) : Int) (by omega) [y] u ([m] ++ v) 1 h3 (by rw [ht']; simp) (by rw [hv]; exact hst) (by simp) (by simp)
        rw [this]
        simp [prT, hk]
    · have hst : prS t (v.length + 1) = prS t v.length := by
        rw [prS_snoc]
        unfold prStep
        rw [hm, if_pos ⟨hs, hk⟩]
      have := prS_Ts t l u ([m] ++ v) h3 (by rw [ht']; simp) (by rw [hv, hst]; exact hs)
      rw [hv, hst] at this
      rw [hv]
      simpa [prT, hk] using this
theorem prS_Ts (t : List Nd) : ∀ (l : List T) (u v : List Nd), T.wfs l = true → t = u ++ T.flats l ++ v → (prS t v.length).2.1 < 0 →
    (prS t (v.length + (T.flats l).length)).1 = (prS t v.length).1 ++ prTs u.length l ∧ (prS t (v.length + (T.flats l).length)).2.1 < 0
  | [], u, v, _, _, hs => by simp [T.flats_nil, prTs, hs]
  | y :: l, u, v, hw, ht, hs => by
    obtain ⟨h1, h2⟩ := wf_cons hw
    have ih := prS_Ts t l (u ++ y.flat) v h2 (by rw [ht, T.flats_cons]; simp) hs
    have := prS_T t y u (T.flats l ++ v) h1 (by rw [ht, T.flats_cons]; simp) (by rw [List.length_append, Nat.add_comm]; exact ih.2)
    rw [T.flats_cons, List.length_append, show v.length + (y.flat.length + (T.flats l).length) = (T.flats l ++ v).length + y.flat.length by simp; omega]
    refine ⟨?_, this.2⟩
    rw [this.1, List.length_append, Nat.add_comm (T.flats l).length, ih.1]
    simp [prTs]
end
theorem prfL_tree {x : T} (h : x.wf = true) : prfL x.flat = prT 0 x := by
  have := (prS_T x.flat x [] [] h (by simp) (by simp [prS])).1
  simpa [prfL, prS] using this
mutual
theorem repP_T : ∀ (x : T) (u v : List Nd), (prT u.length x).foldl repF (u ++ x.flat ++ v) = u ++ (erT x).flat ++ v
  | .mk m l, u, v => by
    by_cases hk : m.K = 28
    · simp only [prT, erT, hk, if_true, List.foldl_cons, List.foldl_nil, repF, T.flat_mk, Int.toNat_natCast, T.flats_nil, List.nil_append]
      have e1 : u.length + (T.flats l).length + 1 = (u ++ (T.flats l ++ [m])).length := by simp; omega
      rw [e1, List.drop_left' rfl, List.append_assoc u, List.take_left' rfl]
    · simp only [prT, erT, hk, if_false, T.flat_mk]
      have := repP_Ts l u ([m] ++ v)
      simpa using this
theorem repP_Ts : ∀ (l : List T) (u v : List Nd), (prTs u.length l).foldl repF (u ++ T.flats l ++ v) = u ++ T.flats (erTs l) ++ v
  | [], u, v => by simp [prTs, erTs, T.flats_nil]
  | y :: l, u, v => by
    simp only [prTs, erTs, T.flats_cons, List.foldl_append]
    have h1 := repP_Ts l (u ++ y.flat) v
    have h2 := repP_T y u (T.flats (erTs l) ++ v)
    rw [List.length_append] at h1
    rw [show u ++ (y.flat ++ T.flats l) ++ v = u ++ y.flat ++ T.flats l ++ v by simp, h1, show u ++ y.flat ++ T.flats (erTs l) ++ v = u ++ y.flat ++ (T.flats (erTs l) ++ v) by simp, h2]
    simp
end
theorem erase_tree {x : T} (h : x.wf = true) : repP x.flat (prfL x.flat) = (erT x).flat := by
  rw [prfL_tree h]
  have := repP_T x [] []
  simpa [repP] using this
mutual
theorem prfs_T (t : List Nd) : ∀ (x : T) (u v : List Nd), t = u ++ x.flat ++ v → (prfsOf t (prT u.length x)) = (prfT x).reverse
  | .mk m l, u, v, ht => by
    by_cases hk : m.K = 28
    · simp only [prT, prfT, hk, if_true, prfsOf, List.map_cons, List.map_nil, Int.toNat_natCast, List.reverse_singleton]
      rw [ht, T.flat_mk, List.append_assoc, List.drop_left' rfl, show u.length + (T.flats l).length + 1 - u.length = (T.flats l ++ [m]).length by simp; omega, List.take_left' rfl]
    · simp only [prT, prfT, hk, if_false]
      exact prfs_Ts t l u ([m] ++ v) (by rw [ht, T.flat_mk]; simp)
theorem prfs_Ts (t : List Nd) : ∀ (l : List T) (u v : List Nd), t = u ++ T.flats l ++ v → (prfsOf t (prTs u.length l)) = (prfTs l).reverse
  | [], u, v, _ => by simp [prTs, prfTs, prfsOf]
  | y :: l, u, v, ht => by
    have h1 := prfs_Ts t l (u ++ y.flat) v (by rw [ht, T.flats_cons]; simp)
    have h2 := prfs_T t y u (T.flats l ++ v) (by rw [ht, T.flats_cons]; simp)
    rw [List.length_append] at h1
    simp only [prTs, prfTs, List.reverse_append]
    rw [← h1, ← h2]
    simp [prfsOf]
end
theorem proofs_tree {x : T} (h : x.wf = true) : (prfsOf x.flat (prfL x.flat)).reverse = prfT x := by
  rw [prfL_tree h]
  have := prfs_T x.flat x [] [] (by simp)
  simp only [List.length_nil] at this
  rw [this, List.reverse_reverse]
theorem right_tick : right tick = true := by decide
mutual
theorem erT_ok : ∀ x : T, x.wf = true → (erT x).wf = true ∧ (erT x).deep ≤ x.deep ∧ (erT x).flat.length ≤ x.flat.length
  | .mk m l, hw => by
    obtain ⟨h1, h2, h3⟩ := wf_parts hw
    by_cases hk : m.K = 28
    · simp only [erT, hk, if_true, T.wf_mk, T.wfs, T.deep, T.deeps, T.flat_mk, T.flats_nil, List.length_append, List.length_nil, List.length_singleton, Bool.and_true]
      refine ⟨by decide, by omega, by omega⟩
    · obtain ⟨i1, i2, i3, i4⟩ := erTs_ok l h3
      simp only [erT, hk, if_false, T.wf_mk, T.deep, T.flat_mk, List.length_append, List.length_singleton, Bool.and_eq_true, beq_iff_eq]
      exact ⟨⟨⟨h1, by omega⟩, i1⟩, by omega, by omega⟩
theorem erTs_ok : ∀ l : List T, T.wfs l = true → T.wfs (erTs l) = true ∧ T.deeps (erTs l) ≤ T.deeps l ∧ (T.flats (erTs l)).length ≤ (T.flats l).length ∧ (erTs l).length = l.length
  | [], _ => by simp [erTs, T.wfs]
  | y :: l, hw => by
    obtain ⟨h1, h2⟩ := wf_cons hw
    obtain ⟨a1, a2, a3⟩ := erT_ok y h1
    obtain ⟨b1, b2, b3, b4⟩ := erTs_ok l h2
    simp only [erTs, T.wfs, T.deeps, T.flats_cons, List.length_append, List.length_cons, a1, b1, Bool.and_self, true_and]
    refine ⟨by omega, by omega, by omega⟩
end
mutual
theorem stT_ok : ∀ x : T, x.wf = true → (stT x).wf = true ∧ (stT x).deep ≤ x.deep ∧ (stT x).flat = x.flat.filter nPrf
  | .mk m l, hw => by
    obtain ⟨h1, h2, h3⟩ := wf_parts hw
    by_cases hk : m.K = 28
    · have hl := h2
      rw [many_28 hk] at hl
      match l, hl with
      | [y], _ =>
        obtain ⟨a1, a2, a3⟩ := stT_ok y (wf_cons h3).1
        simp only [stT, stH, hk, if_true, T.deep, T.deeps, T.flat_mk, T.flats_one, List.filter_append]
        refine ⟨a1, by omega, ?_⟩
        rw [a3]
        simp [nPrf, isPrf, hk]
    · obtain ⟨i1, i2, i3, i4⟩ := stTs_ok l h3
      simp only [stT, hk, if_false, T.wf_mk, T.deep, T.flat_mk, Bool.and_eq_true, beq_iff_eq, List.filter_append]
      refine ⟨⟨⟨h1, by omega⟩, i1⟩, by omega, ?_⟩
      rw [i3]
      simp [nPrf, isPrf, hk]
theorem stTs_ok : ∀ l : List T, T.wfs l = true → T.wfs (stTs l) = true ∧ T.deeps (stTs l) ≤ T.deeps l ∧ T.flats (stTs l) = (T.flats l).filter nPrf ∧ (stTs l).length = l.length
  | [], _ => by simp [stTs, T.wfs, T.flats_nil]
  | y :: l, hw => by
    obtain ⟨h1, h2⟩ := wf_cons hw
    obtain ⟨a1, a2, a3⟩ := stT_ok y h1
    obtain ⟨b1, b2, b3, b4⟩ := stTs_ok l h2
    simp only [stTs, T.wfs, T.deeps, T.flats_cons, List.length_cons, a1, b1, Bool.and_self, true_and, List.filter_append, a3, b3, b4, and_true]
    omega
end
mutual
theorem erT_no : ∀ x : T, ∀ n ∈ (erT x).flat, n.K ≠ 28
  | .mk m l => by
    by_cases hk : m.K = 28
    · simp [erT, hk, T.flat_mk, T.flats_nil]
    · simp only [erT, hk, if_false, T.flat_mk, List.mem_append, List.mem_singleton]
      rintro n (h | rfl)
      · exact erTs_no l n h
      · exact hk
theorem erTs_no : ∀ l : List T, ∀ n ∈ T.flats (erTs l), n.K ≠ 28
  | [] => by simp [erTs, T.flats_nil]
  | y :: l => by
    simp only [erTs, T.flats_cons, List.mem_append]
    rintro n (h | h)
    · exact erT_no y n h
    · exact erTs_no l n h
end
mutual
theorem erT_in : ∀ x : T, ∀ n ∈ (erT x).flat, n = tick ∨ n ∈ x.flat
  | .mk m l => by
    by_cases hk : m.K = 28
    · simp [erT, hk, T.flat_mk, T.flats_nil]
    · simp only [erT, hk, if_false, T.flat_mk, List.mem_append, List.mem_singleton]
      rintro n (h | rfl)
      · rcases erTs_in l n h with h | h
        · exact .inl h
        · exact .inr (.inl h)
      · exact .inr (.inr rfl)
theorem erTs_in : ∀ l : List T, ∀ n ∈ T.flats (erTs l), n = tick ∨ n ∈ T.flats l
  | [] => by simp [erTs, T.flats_nil]
  | y :: l => by
    simp only [erTs, T.flats_cons, List.mem_append]
    rintro n (h | h)
    · rcases erT_in y n h with h | h
      · exact .inl h
      · exact .inr (.inl h)
    · rcases erTs_in l n h with h | h
      · exact .inl h
      · exact .inr (.inr h)
end
mutual
theorem prT_none : ∀ (x : T) (o : Nat), (∀ n ∈ x.flat, n.K ≠ 28) → prT o x = []
  | .mk m l, o, h => by
    have hk : m.K ≠ 28 := h m (by simp [T.flat_mk])
    simp only [prT, hk, if_false]
    exact prTs_none l o (fun n hn => h n (by simp [T.flat_mk, hn]))
theorem prTs_none : ∀ (l : List T) (o : Nat), (∀ n ∈ T.flats l, n.K ≠ 28) → prTs o l = []
  | [], _, _ => by simp [prTs]
  | y :: l, o, h => by
    simp only [prTs]
    rw [prTs_none l _ (fun n hn => h n (by simp [T.flats_cons, hn])), prT_none y o (fun n hn => h n (by simp [T.flats_cons, hn]))]
    rfl
end
def lenM (l : List (List Nd)) : Nat := (l.map fun p => p.length - 1).sum
def ticks (t : List Nd) : Nat := t.countP fun n => decide (n.K = 29)
theorem ticks_append (a b : List Nd) : ticks (a ++ b) = ticks a + ticks b := by simp [ticks]
theorem lenM_append (a b : List (List Nd)) : lenM (a ++ b) = lenM a + lenM b := by simp [lenM]
mutual
theorem erT_len : ∀ x : T, (erT x).flat.length + lenM (prfT x) = x.flat.length ∧ (prfT x).length ≤ ticks (erT x).flat ∧ ∀ p ∈ prfT x, p ≠ [] ∧ (nth p (p.length - 1)).K = 28
  | .mk m l => by
    by_cases hk : m.K = 28
    · simp [erT, prfT, hk, T.flat_mk, T.flats_nil, lenM, ticks, nth]
      omega
    · obtain ⟨i1, i2, i3⟩ := erTs_len l
      simp only [erT, prfT, hk, if_false, T.flat_mk, List.length_append, List.length_singleton, ticks_append]
      exact ⟨by omega, by omega, i3⟩
theorem erTs_len : ∀ l : List T, (T.flats (erTs l)).length + lenM (prfTs l) = (T.flats l).length ∧ (prfTs l).length ≤ ticks (T.flats (erTs l)) ∧ ∀ p ∈ prfTs l, p ≠ [] ∧ (nth p (p.length - 1)).K = 28
  | [] => by simp [erTs, prfTs, T.flats_nil, lenM]
  | y :: l => by
    obtain ⟨a1, a2, a3⟩ := erT_len y
    obtain ⟨b1, b2, b3⟩ := erTs_len l
    simp only [erTs, prfTs, T.flats_cons, List.length_append, ticks_append, lenM_append]
    refine ⟨by omega, by omega, fun p hp => ?_⟩
    rcases List.mem_append.1 hp with h | h
    · exact a3 p h
    · exact b3 p h
end
end Go.Proofs.YtobgdeffhdefeaaDoor
/- Where terms begin, and the parts of one: plain lists. -/
namespace Go.Proofs.YtobgdeffhdefeaaDoor
set_option linter.unusedSimpArgs false
set_option linter.unusedVariables false
/-- Where the term begins that ends at a place. -/
def frL (t : List Nd) (e : Nat) : Nat := match scanT [] (t.take (e + 1)) with
  | some st => (T.flats st.dropLast).length
  | none => 0
/-- Where the last so many terms ahead of a place begin. -/
def posL (t : List Nd) (e j : Nat) : Nat := match scanT [] (t.take e) with
  | some st => (T.flats (st.take (st.length - j))).length
  | none => 0
theorem scan_take {t : List Nd} {st : List T} (h : scanT [] t = some st) (k : Nat) : ∃ s, scanT [] (t.take k) = some s := by
  have h1 := h
  rw [← List.take_append_drop k t, scanT_append] at h1
  cases hs : scanT [] (t.take k) with
  | none => rw [hs] at h1; cases h1
  | some s => exact ⟨s, rfl⟩
theorem meas_scan {t : List Nd} (h : measB t = true) (k : Nat) : ∃ s, scanT [] (t.take k) = some s := by
  obtain ⟨x, hs, _⟩ := measB_tree h
  exact scan_take hs k
theorem treeOf_meas {t : List Nd} (h : measB t = true) : (treeOf t).wf = true ∧ (treeOf t).flat = t := by
  obtain ⟨x, _, _, hw, hf⟩ := measB_tree h
  rw [← hf, treeOf_flat hw]
  exact ⟨hw, rfl⟩
theorem meas_flat {x : T} (h : x.wf = true) : measB x.flat = true := by
  unfold measB
  rw [scanT_tree [] x h]
  rfl
theorem meas_chk {t : List Nd} (h : chk t = 0) : measB t = true := by
  obtain ⟨x, hw, rfl, _⟩ := chk_ok.1 h
  exact meas_flat hw
theorem meas_pos {t : List Nd} (h : measB t = true) : 0 < t.length := by
  obtain ⟨x, _, _, _, rfl⟩ := measB_tree h
  exact T.flat_pos x
theorem scan_prefix {st : List T} (hw : T.wfs st = true) (m : Nat) : scanT [] (T.flats (st.take m)) = some (st.take m) := by
  have h2 : T.wfs (st.take m) = true := (T.wfs_iff _).2 fun x hx => (T.wfs_iff _).1 hw x (List.mem_of_mem_take hx)
  simpa using scanT_trees [] _ h2
theorem flats_take_pre (st : List T) (m : Nat) : T.flats st = T.flats (st.take m) ++ T.flats (st.drop m) := by rw [← T.flats_append, List.take_append_drop]
theorem posL_zero {t : List Nd} {e : Nat} (h : measB t = true) (he : e ≤ t.length) : posL t e 0 = e := by
  obtain ⟨st, hs⟩ := meas_scan h e
  unfold posL
  rw [hs]
  simp only [Nat.sub_zero, List.take_length]
  rw [(scanT_flat hs (by simp [T.wfs])).1]
  simp [T.flats_nil, he]
theorem meas_at {t : List Nd} {e : Nat} {st : List T} (h : measB t = true) (he : e < t.length) (hs : scanT [] (t.take e) = some st) : right (nth t e) = true ∧ many (nth t e) ≤ st.length :=
  measB_at h hs he
theorem right_at {t : List Nd} {e : Nat} (h : measB t = true) (he : e < t.length) : right (nth t e) = true := by
  obtain ⟨st, hs⟩ := meas_scan h e
  exact (meas_at h he hs).1
theorem posL_step {t : List Nd} {e j : Nat} (h : measB t = true) (he : e < t.length) (hj : j < many (nth t e)) : 0 < posL t e j ∧ posL t e j ≤ e ∧ frL t (posL t e j - 1) = posL t e (j + 1) ∧ posL t e (j + 1) < posL t e j := by
  obtain ⟨st, hs⟩ := meas_scan h e
  obtain ⟨_, hm⟩ := meas_at h he hs
  obtain ⟨hf, hw⟩ := scanT_flat hs (by simp [T.wfs])
  simp only [T.flats_nil, List.nil_append] at hf
  have hp : ∀ i, posL t e i = (T.flats (st.take (st.length - i))).length := fun i => by unfold posL; rw [hs]
  have hle : ∀ i, (T.flats (st.take i)).length ≤ e := fun i => by
    have h1 := congrArg List.length (flats_take_pre st i)
    rw [hf, List.length_take, List.length_append] at h1
    omega
  have hsnoc : st.take (st.length - j) = st.take (st.length - (j + 1)) ++ [st[st.length - (j + 1)]'(by omega)] := by
    rw [show st.length - j = st.length - (j + 1) + 1 by omega, List.take_add_one, List.getElem?_eq_getElem (by omega)]
    rfl
  have hlen : posL t e j = posL t e (j + 1) + (st[st.length - (j + 1)]'(by omega)).flat.length := by
    rw [hp, hp, hsnoc, T.flats_append, T.flats_one, List.length_append]
  have hpos := T.flat_pos (st[st.length - (j + 1)]'(by omega))
  refine ⟨by omega, by rw [hp]; exact hle _, ?_, by omega⟩
  unfold frL
  have htk : t.take (posL t e j - 1 + 1) = T.flats (st.take (st.length - j)) := by
    rw [show posL t e j - 1 + 1 = posL t e j by omega, hp]
    have h2 := flats_take_pre st (st.length - j)
    rw [hf] at h2
    have h3 := congrArg (List.take (T.flats (st.take (st.length - j))).length) h2
    rw [List.take_take, List.take_left' rfl, Nat.min_eq_left (hle _)] at h3
    exact h3
  rw [htk, scan_prefix hw, hsnoc]
  simp only [List.dropLast_concat]
  rw [hp]
theorem posL_end {t : List Nd} {e : Nat} (h : measB t = true) (he : e < t.length) : posL t e (many (nth t e)) = frL t e := by
  obtain ⟨st, hs⟩ := meas_scan h e
  obtain ⟨hr, hm⟩ := meas_at h he hs
  have h1 := scan_step hs he
  unfold posL frL
  rw [hs, h1]
  unfold pushT
  rw [if_pos (by simp [hr, hm])]
  simp
/-- The parts of a term. -/
def ptL (t : List Nd) : List (List Nd) := (treeOf t).args.map T.flat
theorem tree_parts {t : List Nd} (h : measB t = true) : ∃ n l, treeOf t = .mk n l ∧ right n = true ∧ many n = l.length ∧ T.wfs l = true ∧ t = T.flats l ++ [n] ∧ nth t (t.length - 1) = n ∧ (T.flats l).length = t.length - 1 ∧ scanT [] (t.take (t.length - 1)) = some l := by
  obtain ⟨hw, hf⟩ := treeOf_meas h
  rcases hx : treeOf t with ⟨n, l⟩
  rw [hx] at hw hf
  obtain ⟨h1, h2, h3⟩ := wf_parts hw
  rw [T.flat_mk] at hf
  have hl : (T.flats l).length = t.length - 1 := by rw [← hf]; simp
  refine ⟨n, l, rfl, h1, h2, h3, hf.symm, ?_, hl, ?_⟩
  · rw [← hl, ← hf]
    simp [nth]
  · rw [← hl, ← hf, List.take_left' rfl]
    simpa using scanT_trees [] l h3
theorem posL_root {t : List Nd} (h : measB t = true) (j : Nat) : posL t (t.length - 1) j = (T.flats ((treeOf t).args.take ((treeOf t).args.length - j))).length := by
  obtain ⟨n, l, hx, _, _, _, _, _, _, hs⟩ := tree_parts h
  unfold posL
  rw [hs, hx]
  rfl
theorem root_many {t : List Nd} (h : measB t = true) : many (nth t (t.length - 1)) = (treeOf t).args.length := by
  obtain ⟨n, l, hx, _, h2, _, _, h4, _, _⟩ := tree_parts h
  rw [h4, h2, hx]
  rfl
/-- The last so many parts. -/
def ptD (t : List Nd) (j : Nat) : List (List Nd) := ((treeOf t).args.drop ((treeOf t).args.length - j)).map T.flat
theorem ptD_zero (t : List Nd) : ptD t 0 = [] := by simp [ptD]
theorem ptD_length {t : List Nd} {j : Nat} (h : measB t = true) (hj : j ≤ many (nth t (t.length - 1))) : (ptD t j).length = j := by
  rw [root_many h] at hj
  simp [ptD]
  omega
theorem ptD_all {t : List Nd} (h : measB t = true) : ptD t (many (nth t (t.length - 1))) = ptL t := by
  rw [root_many h]
  simp [ptD, ptL]
theorem ptD_step {t : List Nd} {j a b : Nat} (h : measB t = true) (hj : j < many (nth t (t.length - 1))) (ha : a = posL t (t.length - 1) (j + 1)) (hb : b = posL t (t.length - 1) j) : (t.drop a).take (b - a) :: ptD t j = ptD t (j + 1) := by
  have hm := root_many h
  obtain ⟨n, l, hx, _, h2, _, h4, _, _, _⟩ := tree_parts h
  rw [posL_root h] at ha hb
  rw [hm, hx] at hj
  unfold ptD
  rw [hx] at ha hb ⊢
  simp only [T.args] at ha hb hj ⊢
  have h1 : l.length - (j + 1) < l.length := by omega
  have hd : l.drop (l.length - (j + 1)) = l[l.length - (j + 1)] :: l.drop (l.length - j) := by
    rw [List.drop_eq_getElem_cons h1, show l.length - (j + 1) + 1 = l.length - j by omega]
  have hsnoc : l.take (l.length - j) = l.take (l.length - (j + 1)) ++ [l[l.length - (j + 1)]] := by
    rw [show l.length - j = l.length - (j + 1) + 1 by omega, List.take_add_one, List.getElem?_eq_getElem h1]
    rfl
  have hall : T.flats l = T.flats (l.take (l.length - (j + 1))) ++ (l[l.length - (j + 1)].flat ++ T.flats (l.drop (l.length - j))) := by
    rw [flats_take_pre l (l.length - (j + 1)), hd, T.flats_cons]
  rw [hd, List.map_cons]
  congr 1
  have hb' : b - a = l[l.length - (j + 1)].flat.length := by
    rw [ha, hb, hsnoc, T.flats_append, T.flats_one, List.length_append]
    omega
  rw [hb', ha, h4, hall, List.append_assoc, List.drop_left' rfl, List.append_assoc, List.take_left' rfl]
/-- A part is one tree less. -/
theorem ptL_mem {t p : List Nd} (h : measB t = true) (hp : p ∈ ptL t) : measB p = true ∧ p.length < t.length ∧ (∀ n ∈ p, n ∈ t) := by
  obtain ⟨n, l, hx, _, h2, h3, h4, _, h6, _⟩ := tree_parts h
  unfold ptL at hp
  rw [hx] at hp
  obtain ⟨y, hy, rfl⟩ := List.mem_map.1 hp
  simp only [T.args] at hy
  have hw := (T.wfs_iff l).1 h3 y hy
  obtain ⟨a, b, rfl⟩ := List.append_of_mem hy
  refine ⟨meas_flat hw, ?_, fun m hm => ?_⟩
  · have := meas_pos h
    rw [T.flats_append, T.flats_cons] at h6
    simp only [List.length_append] at h6
    omega
  · rw [h4, T.flats_append, T.flats_cons]
    simp [hm]
theorem ptL_length {t : List Nd} (h : measB t = true) : (ptL t).length = many (nth t (t.length - 1)) := by rw [root_many h]; simp [ptL]
theorem ptL_at {t : List Nd} {k : Nat} (h : measB t = true) (hk : k < (ptL t).length) : ∃ p ∈ ptL t, (ptL t)[k]? = some p := ⟨_, List.getElem_mem hk, List.getElem?_eq_getElem hk⟩
theorem sml_sub {t p : List Nd} (h : sml t) (hp : ∀ n ∈ p, n ∈ t) : sml p := fun k hk => by
  have h1 := hp _ (nth_mem hk)
  obtain ⟨i, hi, he⟩ := List.getElem_of_mem h1
  have h2 := h i hi
  have : nth t i = t[i] := by simp [nth, hi]
  rw [this, he] at h2
  exact h2
end Go.Proofs.YtobgdeffhdefeaaDoor
/- The document's own words of terms: parts, what is made of them; plain lists. -/
namespace Go.Proofs.YtobgdeffhdefeaaDoor
set_option linter.unusedSimpArgs false
set_option linter.unusedVariables false
section
variable {w0 w : World} {Z M : Nat → Prop} {m : List Res} {ds ds' : List Dat}
theorem St.sub (h : St w0 Z M w m ds) (hd : ∀ d ∈ ds', d ∈ ds) : St w0 Z M w m ds' := ⟨h.os, h.tape, h.output, h.size, h.old, h.hold, h.own, h.apart, fun d hx => h.dat d (hd d hx)⟩
theorem sub_nil : ∀ d ∈ ([] : List Dat), d ∈ ds := fun _ h => by cases h
theorem sub_cons {d : Dat} {l : List Dat} {i : Nat} (h : ds[i]? = some d) (hl : ∀ x ∈ l, x ∈ ds) : ∀ x ∈ d :: l, x ∈ ds := fun x hx => by
  rcases List.mem_cons.1 hx with rfl | hx
  · exact List.mem_of_getElem? h
  · exact hl x hx
end
def nthL (l : List (List Nd)) (k : Nat) : List Nd := l.getD k []
theorem lsts_app (a b : List Sl) : lsts (a ++ b) = lsts a ++ lsts b := by simp [lsts]
theorem lsts_one {A : Option Addr} {c : Nat} {L : List Nd} : lsts [((A, c, L) : Sl)] = [L] := rfl
theorem lsts_len (a : List Sl) : (lsts a).length = a.length := by simp [lsts]
theorem lsts_nth (a : List Sl) (k : Nat) : (nthS a k).2.2 = nthL (lsts a) k := by
  unfold nthS nthL lsts
  rw [List.getD_eq_getElem?_getD, List.getD_eq_getElem?_getD, List.getElem?_map]
  cases a[k]? <;> rfl
theorem nthL_mem {l : List (List Nd)} {k : Nat} (h : k < l.length) : nthL l k ∈ l := by
  have : nthL l k = l[k] := by simp [nthL, h]
  rw [this]
  exact List.getElem_mem h
theorem take_nthL {l : List (List Nd)} {k : Nat} (h : k < l.length) : l.take (k + 1) = l.take k ++ [nthL l k] := by
  rw [List.take_add_one, List.getElem?_eq_getElem h]
  simp [nthL, h]
/-- A part of a term, by its number. -/
theorem part_at {t : List Nd} {Ls : List Sl} {k : Nat} (h : measB t = true) (hs : sml t) (hL : lsts Ls = ptL t) (hk : k < Ls.length) :
    (nthS Ls k).2.2 = nthL (ptL t) k ∧ k < (ptL t).length ∧ measB (nthS Ls k).2.2 = true ∧ (nthS Ls k).2.2.length < t.length ∧ sml (nthS Ls k).2.2 ∧ 0 < (nthS Ls k).2.2.length := by
  have e := lsts_nth Ls k
  rw [hL] at e
  have hk' : k < (ptL t).length := by rw [← hL, lsts_len]; exact hk
  obtain ⟨h1, h2, h3⟩ := ptL_mem h (nthL_mem hk')
  rw [e]
  exact ⟨rfl, hk', h1, h2, sml_sub hs h3, meas_pos h1⟩
theorem parts_step {t : List Nd} {Ls : List Sl} {A : Option Addr} {c k a b : Nat} (hb : measB t = true) (hL : lsts Ls = ptD t k) (hk : k < many (nth t (t.length - 1))) (ha : a = posL t (t.length - 1) (k + 1)) (hbb : b = posL t (t.length - 1) k) :
    lsts ([((A, c, (t.drop a).take (b - a)) : Sl)] ++ Ls) = ptD t (k + 1) := by
  rw [lsts_app, lsts_one, hL, ← ptD_step hb hk ha hbb]
  rfl
/-- What is made of a root and parts. -/
theorem flats_flatten (l : List T) : (l.map T.flat).flatten = T.flats l := by
  induction l with
  | nil => simp [T.flats_nil]
  | cons t l ih => simp [T.flats_cons, ih]
theorem flatten_le {l : List (List Nd)} {b : Nat} (h : ∀ p ∈ l, p.length ≤ b) : l.flatten.length ≤ l.length * b := by
  induction l with
  | nil => simp
  | cons p l ih =>
    have h1 := h p (by simp)
    have h2 := ih (fun q hq => h q (by simp [hq]))
    simp only [List.flatten_cons, List.length_append, List.length_cons, Nat.add_mul]
    omega
theorem lsts_bd {Ls : List Sl} {L : List (List Nd)} {b : Nat} (h : lsts Ls = L) (hb : ∀ p ∈ L, p.length ≤ b) : ∀ s ∈ Ls, s.2.2.length ≤ b := fun s hs => hb _ (by rw [← h]; exact List.mem_map_of_mem hs)
/-! ### What is erased -/
def erL (t : List Nd) : List Nd := (erT (treeOf t)).flat
def prL (t : List Nd) : List (List Nd) := prfT (treeOf t)
theorem erTs_map (l : List T) : erTs l = l.map erT := by
  induction l with
  | nil => rfl
  | cons t l ih => simp [erTs, ih]
theorem prfTs_map (l : List T) : prfTs l = (l.map prfT).flatten := by
  induction l with
  | nil => rfl
  | cons t l ih => simp [prfTs, ih]
theorem map_tree {β : Type} {l : List T} (h : T.wfs l = true) (f : T → β) : (l.map T.flat).map (fun p => f (treeOf p)) = l.map f := by
  rw [List.map_map]
  refine List.map_congr_left fun y hy => ?_
  simp only [Function.comp]
  rw [treeOf_flat ((T.wfs_iff l).1 h y hy)]
theorem erL_prf {t : List Nd} (h : measB t = true) (hk : (nth t (t.length - 1)).K = 28) : erL t = [tick] := by
  obtain ⟨n, l, hx, _, _, _, _, h5, _, _⟩ := tree_parts h
  rw [h5] at hk
  simp [erL, hx, erT, hk, T.flat_mk, T.flats_nil]
theorem erL_parts {t : List Nd} (h : measB t = true) (hk : ¬ (nth t (t.length - 1)).K = 28) : erL t = ((ptL t).map erL).flatten ++ [nth t (t.length - 1)] := by
  obtain ⟨n, l, hx, _, _, h3, _, h5, _, _⟩ := tree_parts h
  rw [h5] at hk ⊢
  have h6 : (ptL t).map erL = l.map (fun y => (erT y).flat) := by
    unfold ptL
    rw [hx]
    exact map_tree h3 (fun y => (erT y).flat)
  rw [h6]
  unfold erL
  rw [hx]
  simp only [erT, hk, if_false, T.flat_mk, erTs_map]
  rw [← flats_flatten, List.map_map]
  rfl
theorem prL_prf {t : List Nd} (h : measB t = true) (hk : (nth t (t.length - 1)).K = 28) : prL t = [t] := by
  obtain ⟨n, l, hx, _, _, _, h4, h5, _, _⟩ := tree_parts h
  rw [h5] at hk
  unfold prL
  rw [hx]
  simp [prfT, hk]
  exact h4.symm
theorem prL_parts {t : List Nd} (h : measB t = true) (hk : ¬ (nth t (t.length - 1)).K = 28) : prL t = ((ptL t).map prL).flatten := by
  obtain ⟨n, l, hx, _, _, h3, _, h5, _, _⟩ := tree_parts h
  rw [h5] at hk
  have h6 : (ptL t).map prL = l.map prfT := by
    unfold ptL
    rw [hx]
    exact map_tree h3 prfT
  rw [h6]
  unfold prL
  rw [hx]
  simp [prfT, hk, prfTs_map]
theorem erL_len {t : List Nd} (h : measB t = true) : (erL t).length ≤ t.length := by
  obtain ⟨hw, hf⟩ := treeOf_meas h
  have := (erT_ok _ hw).2.2
  rw [hf] at this
  exact this
theorem era_eq {t : List Nd} (h : measB t = true) : repP t (prfL t) = erL t := by
  obtain ⟨hw, hf⟩ := treeOf_meas h
  have := erase_tree hw
  rw [hf] at this
  exact this
theorem prf_eq {t : List Nd} (h : measB t = true) : (prfsOf t (prfL t)).reverse = prL t := by
  obtain ⟨hw, hf⟩ := treeOf_meas h
  have := proofs_tree hw
  rw [hf] at this
  exact this
theorem map_take_step {f : List Nd → List Nd} {t : List Nd} {Ls : List Sl} {A : Option Addr} {c k : Nat} {L : List Nd} (hL : lsts Ls = ((ptL t).take k).map f) (hk : k < (ptL t).length) (he : L = f (nthL (ptL t) k)) :
    lsts (Ls ++ [((A, c, L) : Sl)]) = ((ptL t).take (k + 1)).map f := by
  rw [lsts_app, lsts_one, hL, take_nthL hk, List.map_append, he]
  rfl
theorem erL_bd {t : List Nd} (h : measB t = true) : ∀ p ∈ (ptL t).map erL, p.length ≤ t.length := fun p hp => by
  obtain ⟨q, hq, rfl⟩ := List.mem_map.1 hp
  obtain ⟨h1, h2, _⟩ := ptL_mem h hq
  have := erL_len h1
  omega
theorem ptL_le {t : List Nd} (h : measB t = true) : (ptL t).length ≤ 8 := by
  rw [ptL_length h]
  exact many_le (right_at h (by have := meas_pos h; omega))
end Go.Proofs.YtobgdeffhdefeaaDoor
/- What is erased, stripped, and the proofs, of terms: lists. -/
namespace Go.Proofs.YtobgdeffhdefeaaDoor
set_option linter.unusedSimpArgs false
set_option linter.unusedVariables false
def erA (t : List Nd) : List Nd := if chk t = 0 then erL t else []
def stA (t : List Nd) : List Nd := if chk t = 0 then t.filter nPrf else []
def prA (t : List Nd) : List (List Nd) := if chk t = 0 then prL t else []
theorem erA_ok {t : List Nd} (h : chk t = 0) : erA t = erL t := if_pos h
theorem erA_no {t : List Nd} (h : ¬ chk t = 0) : erA t = [] := if_neg h
theorem stA_ok {t : List Nd} (h : chk t = 0) : stA t = t.filter nPrf := if_pos h
theorem stA_no {t : List Nd} (h : ¬ chk t = 0) : stA t = [] := if_neg h
theorem prA_ok {t : List Nd} (h : chk t = 0) : prA t = prL t := if_pos h
theorem prA_no {t : List Nd} (h : ¬ chk t = 0) : prA t = [] := if_neg h
theorem sml_mem {t : List Nd} : sml t ↔ ∀ n ∈ t, n.S.size < 1000000 := by
  constructor
  · intro h n hn
    obtain ⟨i, hi, rfl⟩ := List.getElem_of_mem hn
    have := h i hi
    simpa [nth, hi] using this
  · intro h k hk
    exact h _ (nth_mem hk)
theorem chk_flat {x : T} (hw : x.wf = true) (hd : x.deep ≤ 60) (hl : x.flat.length ≤ 4000) : chk x.flat = 0 := chk_ok.2 ⟨x, hw, rfl, hl, hd⟩
theorem lenM_mem {l : List (List Nd)} {p : List Nd} (h : p ∈ l) : p.length - 1 ≤ lenM l := by
  induction l with
  | nil => cases h
  | cons q l ih =>
    simp only [lenM, List.map_cons, List.sum_cons]
    rcases List.mem_cons.1 h with rfl | h
    · omega
    · have := ih h
      simp only [lenM] at this
      omega
theorem erL_facts {t : List Nd} (hc : chk t = 0) (hs : sml t) : sml (erL t) ∧ chk (erL t) = 0 ∧ (erL t).length ≤ t.length ∧ erL (erL t) = erL t ∧ (∀ k, k < (erL t).length → (nth (erL t) k).K ≠ 28) := by
  obtain ⟨hw, hf, hd, hl⟩ := treeOf_ok hc
  obtain ⟨h1, h2, h3⟩ := erT_ok _ hw
  rw [hf] at h3
  have hno := erT_no (treeOf t)
  have hfix : ∀ x : T, (∀ n ∈ x.flat, n.K ≠ 28) → erT x = x := by
    have both : (∀ x : T, (∀ n ∈ x.flat, n.K ≠ 28) → erT x = x) := by
      intro x
      refine T.rec (motive_1 := fun x => (∀ n ∈ x.flat, n.K ≠ 28) → erT x = x) (motive_2 := fun l => (∀ n ∈ T.flats l, n.K ≠ 28) → erTs l = l) ?_ ?_ ?_ x
      · intro n l ih h
        have hk : n.K ≠ 28 := h n (by simp [T.flat_mk])
        simp only [erT, hk, if_false]
        rw [ih (fun m hm => h m (by simp [T.flat_mk, hm]))]
      · intro _; rfl
      · intro y l ih1 ih2 h
        simp only [erTs]
        rw [ih1 (fun m hm => h m (by simp [T.flats_cons, hm])), ih2 (fun m hm => h m (by simp [T.flats_cons, hm]))]
    exact both
  refine ⟨sml_mem.2 fun n hn => ?_, chk_flat h1 (by omega) (by show (erT (treeOf t)).flat.length ≤ 4000; omega), h3, ?_, fun k hk => hno _ (nth_mem hk)⟩
  · rcases erT_in _ n hn with rfl | h
    · decide
    · rw [hf] at h
      exact sml_mem.1 hs n h
  · show (erT (treeOf (erT (treeOf t)).flat)).flat = (erT (treeOf t)).flat
    rw [treeOf_flat h1, hfix _ hno]
theorem twice_facts {t : List Nd} (hc : chk t = 0) (hs : sml t) :
    (sml (erA t) ∧ chk (erA t) = 0 ∧ (erA t).length ≤ t.length ∧ erA (erA t) = erA t ∧ (∀ k, k < (erA t).length → (nth (erA t) k).K ≠ 28)) ∧
    (sml (stA t) ∧ chk (stA t) = 0 ∧ (stA t).length ≤ t.length) ∧
    ((prA t).length ≤ ticks (erA t) ∧ (erA t).length + lenM (prA t) = t.length ∧ ∀ p ∈ prA t, 0 < p.length ∧ p.length ≤ t.length ∧ (nth p (p.length - 1)).K = 28) := by
  obtain ⟨hw, hf, hd, hl⟩ := treeOf_ok hc
  obtain ⟨h1, h2, h3, h4, h5⟩ := erL_facts hc hs
  obtain ⟨s1, s2, s3⟩ := stT_ok _ hw
  rw [hf] at s3
  obtain ⟨p1, p2, p3⟩ := erT_len (treeOf t)
  rw [hf] at p1
  rw [erA_ok hc, stA_ok hc, prA_ok hc, erA_ok h2]
  refine ⟨⟨h1, h2, h3, h4, h5⟩, ⟨?_, ?_, List.length_filter_le _ _⟩, p2, p1, fun p hp => ?_⟩
  · exact sml_mem.2 fun n hn => sml_mem.1 hs n ((List.mem_filter.1 hn).1)
  · rw [← s3]
    refine chk_flat s1 (by omega) ?_
    rw [s3]
    have := List.length_filter_le nPrf t
    omega
  · obtain ⟨q1, q2⟩ := p3 p hp
    have q3 : p.length - 1 ≤ lenM (prfT (treeOf t)) := lenM_mem hp
    have q4 : 0 < p.length := List.length_pos_iff.2 q1
    have q5 : 0 < (erT (treeOf t)).flat.length := T.flat_pos _
    have : p.length ≤ t.length := by omega
    exact ⟨q4, this, q2⟩
theorem era_sp : erA [starN, prfN] = [tick] := by rw [erA_ok chk_sp, ← era_eq (meas_chk chk_sp), rep_sp]
theorem prA_at {t : List Nd} {Ls : List Sl} {j : Nat} (hL : lsts Ls = prA t) (hj : j < Ls.length) : (nthS Ls j).2.2 ∈ prA t ∧ (nthS Ls j).2.2 = nthL (prA t) j ∧ j < (prA t).length := by
  have h1 : j < (prA t).length := by rw [← hL, lsts_len]; exact hj
  rw [lsts_nth, hL]
  exact ⟨nthL_mem h1, rfl, h1⟩
theorem erA_le (t : List Nd) : (erA t).length ≤ t.length := by
  by_cases h : chk t = 0
  · rw [erA_ok h]; exact erL_len (meas_chk h)
  · rw [erA_no h]; simp
theorem stA_le (t : List Nd) : (stA t).length ≤ t.length := by
  by_cases h : chk t = 0
  · rw [stA_ok h]; exact List.length_filter_le _ _
  · rw [stA_no h]; simp
theorem prfT_len (x : T) : (prfT x).length ≤ x.flat.length ∧ ∀ p ∈ prfT x, p.length ≤ x.flat.length := by
  obtain ⟨h1, h2, h3⟩ := erT_len x
  have h4 : ticks (erT x).flat ≤ (erT x).flat.length := List.countP_le_length
  refine ⟨by omega, fun p hp => ?_⟩
  have := lenM_mem hp
  have : 0 < (erT x).flat.length := T.flat_pos _
  omega
theorem prL_len {t : List Nd} (h : measB t = true) : (prL t).length ≤ t.length ∧ ∀ p ∈ prL t, p.length ≤ t.length := by
  have := prfT_len (treeOf t)
  rw [(treeOf_meas h).2] at this
  exact this
theorem prA_le (t : List Nd) : ∀ p ∈ prA t, p.length ≤ t.length := by
  by_cases h : chk t = 0
  · rw [prA_ok h]; exact (prL_len (meas_chk h)).2
  · rw [prA_no h]; simp
theorem prA_len (t : List Nd) : (prA t).length ≤ t.length := by
  by_cases h : chk t = 0
  · rw [prA_ok h]; exact (prL_len (meas_chk h)).1
  · rw [prA_no h]; simp
theorem flat_take_le {α : Type} {t : List Nd} {f : List Nd → List α} (h : measB t = true) (hf : ∀ p ∈ ptL t, (f p).length ≤ p.length) (k : Nat) : (((ptL t).take k).map f).flatten.length ≤ 8 * t.length := by
  have h8 := ptL_le h
  have h2 : ∀ l : List (List Nd), (∀ p ∈ l, (f p).length ≤ t.length) → (l.map f).flatten.length ≤ l.length * t.length := by
    intro l
    induction l with
    | nil => simp
    | cons p l ih =>
      intro hl
      have h1 := hl p (by simp)
      have h2 := ih (fun q hq => hl q (by simp [hq]))
      simp only [List.map_cons, List.flatten_cons, List.length_append, List.length_cons, Nat.add_mul]
      omega
  have h3 := h2 ((ptL t).take k) (fun p hp => by
    have hm := List.mem_of_mem_take hp
    have := hf p hm
    have := (ptL_mem h hm).2.1
    omega)
  have h4 : ((ptL t).take k).length ≤ 8 := by rw [List.length_take]; omega
  exact Nat.le_trans h3 (Nat.mul_le_mul_right _ h4)
theorem flat_take_step {t : List Nd} {Ls Ks : List Sl} {k : Nat} (hL : lsts Ls = (((ptL t).take k).map prL).flatten) (hk : k < (ptL t).length) (hK : lsts Ks = prL (nthL (ptL t) k)) :
    lsts (Ls ++ Ks) = (((ptL t).take (k + 1)).map prL).flatten := by
  rw [lsts_app, hL, take_nthL hk, List.map_append, List.flatten_append, hK]
  simp
theorem filter_step {t : List Nd} {k : Nat} (h : k < t.length) : (t.take (k + 1)).filter nPrf = (t.take k).filter nPrf ++ (if (nth t k).K = 28 then [] else [nth t k]) := by
  rw [take_nth h, List.filter_append]
  congr 1
  by_cases hk : (nth t k).K = 28 <;> simp [nPrf, isPrf, hk]
theorem flat_total (p : List Sl) (k : Nat) : (lsts (p.take k)).flatten.length ≤ (lsts p).flatten.length := by
  have h : lsts p = lsts (p.take k) ++ lsts (p.drop k) := by rw [← lsts_app, List.take_append_drop]
  rw [h, List.flatten_append, List.length_append]
  omega
theorem ticks_step {t : List Nd} {k : Nat} (h : k < t.length) : ticks (t.take (k + 1)) = ticks (t.take k) + if (nth t k).K = 29 then 1 else 0 := by
  rw [take_nth h, ticks_append]
  congr 1
  unfold ticks
  by_cases hk : (nth t k).K = 29 <;> simp [hk]
theorem lenM_step {l : List (List Nd)} {k : Nat} (h : k < l.length) : lenM (l.take (k + 1)) = lenM (l.take k) + ((nthL l k).length - 1) := by
  rw [take_nthL h, lenM_append]
  simp [lenM]
end Go.Proofs.YtobgdeffhdefeaaDoor
/- Parts of terms that are checked, and their places in what is made of all parts; terms that differ in their proofs. -/
namespace Go.Proofs.YtobgdeffhdefeaaDoor
set_option linter.unusedSimpArgs false
set_option linter.unusedVariables false
theorem ptL_chk {t p : List Nd} (h : chk t = 0) (hp : p ∈ ptL t) : chk p = 0 := by
  obtain ⟨hw, hf, hd, hl⟩ := treeOf_ok h
  obtain ⟨n, l, hx, _, _, h3, _, _, _, _⟩ := tree_parts (meas_chk h)
  have h4 := (ptL_mem (meas_chk h) hp).2.1
  unfold ptL at hp
  rw [hx] at hp hd
  obtain ⟨y, hy, rfl⟩ := List.mem_map.1 hp
  simp only [T.args] at hy
  have h5 := deeps_le hy
  rw [deep_mk] at hd
  exact chk_flat ((T.wfs_iff l).1 h3 y hy) (by omega) (by omega)
/-- What is made of one part has its place in what is made of all. -/
theorem flat_at {L : List (List Nd)} {f : List Nd → List (List Nd)} {k j : Nat} (hk : k < L.length) (hj : j < (f (nthL L k)).length) :
    ((L.take k).map f).flatten.length + (f (nthL L k)).length ≤ (L.map f).flatten.length ∧ nthL (L.map f).flatten (((L.take k).map f).flatten.length + j) = nthL (f (nthL L k)) j := by
  have e : (L.map f).flatten = ((L.take k).map f).flatten ++ (f (nthL L k) ++ ((L.drop (k + 1)).map f).flatten) := by
    have h1 : L = L.take k ++ nthL L k :: L.drop (k + 1) := by
      have h2 : nthL L k = L[k] := by simp [nthL, hk]
      rw [h2, ← List.drop_eq_getElem_cons hk, List.take_append_drop]
    conv => lhs; rw [h1]
    simp
  rw [e]
  refine ⟨by simp only [List.length_append]; omega, ?_⟩
  unfold nthL at hj ⊢
  rw [List.getD_eq_getElem?_getD, List.getElem?_append_right (by omega), Nat.add_sub_cancel_left, List.getElem?_append_left hj, ← List.getD_eq_getElem?_getD]
theorem flat_step2 {α : Type} {L : List (List Nd)} {f : List Nd → List α} {k : Nat} (hk : k < L.length) : ((L.take (k + 1)).map f).flatten = ((L.take k).map f).flatten ++ f (nthL L k) := by
  rw [take_nthL hk, List.map_append, List.flatten_append]
  simp
/-- Two slices of slices: one holds what is made of all parts, the other what is made of one of them. -/
theorem prf_at {t : List Nd} {Rs Ms : List Sl} {k j : Nat} (hR : lsts Rs = ((ptL t).map prL).flatten) (hM : lsts Ms = prL (nthL (ptL t) k)) (hk : k < (ptL t).length) (hj : j < Ms.length) :
    (((ptL t).take k).map prL).flatten.length + Ms.length ≤ Rs.length ∧ (nthS Rs ((((ptL t).take k).map prL).flatten.length + j)).2.2 = (nthS Ms j).2.2 := by
  have hm : Ms.length = (prL (nthL (ptL t) k)).length := by rw [← lsts_len, hM]
  have hr : Rs.length = ((ptL t).map prL).flatten.length := by rw [← lsts_len, hR]
  obtain ⟨h1, h2⟩ := flat_at (f := prL) hk (j := j) (by omega)
  rw [lsts_nth, lsts_nth, hR, hM, hm, hr]
  exact ⟨h1, h2⟩
def marks (t : List Nd) : Nat := t.countP fun n => decide (n.K = 28)
theorem marks_step {t : List Nd} {k : Nat} (h : k < t.length) : marks (t.take (k + 1)) = marks (t.take k) + if (nth t k).K = 28 then 1 else 0 := by
  rw [take_nth h]
  unfold marks
  rw [List.countP_append]
  congr 1
  by_cases hk : (nth t k).K = 28 <;> simp [hk]
theorem marks_append (a b : List Nd) : marks (a ++ b) = marks a + marks b := by simp [marks]
mutual
theorem marks_T : ∀ x : T, (prfT x = [] ↔ marks x.flat = 0)
  | .mk n l => by
    by_cases hk : n.K = 28
    · simp [prfT, hk, T.flat_mk, marks]
    · simp only [prfT, hk, if_false, T.flat_mk, marks_append]
      rw [marks_Ts l]
      have : marks [n] = 0 := by simp [marks, hk]
      omega
theorem marks_Ts : ∀ l : List T, (prfTs l = [] ↔ marks (T.flats l) = 0)
  | [] => by simp [prfTs, T.flats_nil, marks]
  | y :: l => by
    simp only [prfTs, List.append_eq_nil_iff, T.flats_cons, marks_append]
    rw [marks_T y, marks_Ts l]
    omega
end
theorem marks_prA {t : List Nd} (h : chk t = 0) : 0 < (prA t).length ↔ 0 < marks t := by
  obtain ⟨hw, hf, _, _⟩ := treeOf_ok h
  have h1 := marks_T (treeOf t)
  rw [hf] at h1
  rw [prA_ok h]
  show 0 < (prfT (treeOf t)).length ↔ _
  rw [List.length_pos_iff]
  constructor
  · intro h2
    rcases Nat.eq_zero_or_pos (marks t) with h3 | h3
    · exact absurd (h1.2 h3) h2
    · exact h3
  · intro h2 h3
    have := h1.1 h3
    omega
/-- Each Tick gives way to a proof. -/
def subL (p t : List Nd) : List Nd := t.flatMap fun n => if n.K = 29 then p ++ [prfN] else [n]
theorem subL_append (p a b : List Nd) : subL p (a ++ b) = subL p a ++ subL p b := by simp [subL]
theorem subL_step {p t : List Nd} {k : Nat} (h : k < t.length) : subL p (t.take (k + 1)) = subL p (t.take k) ++ if (nth t k).K = 29 then p ++ [prfN] else [nth t k] := by
  rw [take_nth h, subL_append]
  congr 1
  simp [subL]
theorem subL_le (p t : List Nd) : (subL p t).length ≤ t.length * (p.length + 1) := by
  induction t with
  | nil => simp [subL]
  | cons n t ih =>
    simp only [subL, List.flatMap_cons, List.length_append, List.length_cons, Nat.add_mul] at ih ⊢
    split <;> simp only [List.length_append, List.length_singleton] <;> omega
mutual
/-- The same of trees. -/
def subT (p : T) : T → T
  | .mk n l => if n.K = 29 then .mk prfN [p] else .mk n (subTs p l)
def subTs (p : T) : List T → List T
  | [] => []
  | t :: l => subT p t :: subTs p l
end
theorem many_29 {n : Nd} (h : n.K = 29) : many n = 0 := many_tick h
theorem nil_of_many {n : Nd} {l : List T} (hw : (T.mk n l).wf = true) (h : n.K = 29) : l = [] ∧ n = tick := by
  obtain ⟨h1, h2, _⟩ := wf_parts hw
  have hl : l = [] := List.eq_nil_of_length_eq_zero (by rw [← h2, many_29 h])
  refine ⟨hl, ?_⟩
  have hp : plainB n = true := by rw [← right_plain (by omega) (by omega) (by omega)]; exact h1
  simp only [plainB, Bool.and_eq_true, decide_eq_true_eq] at hp
  obtain ⟨K, N, M, S⟩ := n
  obtain ⟨⟨h3, h4⟩, h5⟩ := hp
  simp only at h h3 h4 h5
  subst h h3 h4 h5
  rfl
mutual
theorem subT_flat (p : T) : ∀ x : T, x.wf = true → (subT p x).flat = subL p.flat x.flat
  | .mk n l, hw => by
    by_cases hk : n.K = 29
    · obtain ⟨rfl, rfl⟩ := nil_of_many hw hk
      simp [subT, T.flat_mk, T.flats_nil, T.flats_one, subL]
    · simp only [subT, hk, if_false, T.flat_mk, subL_append]
      rw [subTs_flat p l (wf_parts hw).2.2]
      simp [subL, hk]
theorem subTs_flat (p : T) : ∀ l : List T, T.wfs l = true → T.flats (subTs p l) = subL p.flat (T.flats l)
  | [], _ => by simp [subTs, T.flats_nil, subL]
  | y :: l, hw => by
    obtain ⟨h1, h2⟩ := wf_cons hw
    simp only [subTs, T.flats_cons, subL_append]
    rw [subT_flat p y h1, subTs_flat p l h2]
end
mutual
theorem subT_ok (p : T) (hp : p.wf = true) : ∀ x : T, x.wf = true → (∀ n ∈ x.flat, n.K ≠ 28) → (subT p x).wf = true ∧ erT (subT p x) = x
  | .mk n l, hw, hn => by
    by_cases hk : n.K = 29
    · obtain ⟨rfl, rfl⟩ := nil_of_many hw hk
      refine ⟨?_, ?_⟩
      · simp only [subT, if_true, T.wf_mk, T.wfs, hp]
        show (right prfN && many prfN == 1 && (true && true)) = true
        decide
      · simp [subT, erT]
    · have hk2 : n.K ≠ 28 := hn n (by simp [T.flat_mk])
      obtain ⟨h1, h2, h3⟩ := wf_parts hw
      obtain ⟨h4, h5, h6⟩ := subTs_ok p hp l h3 (fun m hm => hn m (by simp [T.flat_mk, hm]))
      simp only [subT, hk, if_false, erT, hk2, T.wf_mk, Bool.and_eq_true, beq_iff_eq, h5]
      exact ⟨⟨⟨h1, by omega⟩, h4⟩, trivial⟩
theorem subTs_ok (p : T) (hp : p.wf = true) : ∀ l : List T, T.wfs l = true → (∀ n ∈ T.flats l, n.K ≠ 28) → T.wfs (subTs p l) = true ∧ erTs (subTs p l) = l ∧ (subTs p l).length = l.length
  | [], _, _ => by simp [subTs, T.wfs, erTs]
  | y :: l, hw, hn => by
    obtain ⟨h1, h2⟩ := wf_cons hw
    obtain ⟨a1, a2⟩ := subT_ok p hp y h1 (fun m hm => hn m (by simp [T.flats_cons, hm]))
    obtain ⟨b1, b2, b3⟩ := subTs_ok p hp l h2 (fun m hm => hn m (by simp [T.flats_cons, hm]))
    simp [subTs, T.wfs, erTs, a1, a2, b1, b2, b3]
end
theorem alike {t p : List Nd} (ht : chk t = 0) (hp : chk p = 0) (hu : chk (subL p (erA t)) = 0) : erA (subL p (erA t)) = erA t := by
  obtain ⟨w1, f1, _, _⟩ := treeOf_ok ht
  obtain ⟨w2, f2, _, _⟩ := treeOf_ok hp
  obtain ⟨e1, _, _⟩ := erT_ok _ w1
  obtain ⟨s1, s2⟩ := subT_ok _ w2 _ e1 (erT_no (treeOf t))
  have h3 := subT_flat (treeOf p) _ e1
  rw [f2] at h3
  rw [erA_ok hu]
  rw [erA_ok ht] at hu ⊢
  show (erT (treeOf (subL p (erT (treeOf t)).flat))).flat = (erT (treeOf t)).flat
  rw [← h3, treeOf_flat s1, s2]
theorem subL_sml {t p : List Nd} (ht : sml t) (hp : sml p) : sml (subL p t) := by
  rw [sml_mem] at ht hp ⊢
  intro n hn
  obtain ⟨m, hm, hmn⟩ := List.mem_flatMap.1 hn
  split at hmn
  · rcases List.mem_append.1 hmn with h | h
    · exact hp n h
    · rw [List.mem_singleton] at h; subst h; decide
  · rw [List.mem_singleton] at hmn; subst hmn; exact ht n hm
/-! ### Free variables -/
mutual
/-- How often a variable is used (below 0: any free one). -/
def usT (k u : Int) : T → Nat
  | .mk n l => if n.K = 0 then (if 0 ≤ n.N - u ∧ (k < 0 ∨ n.N - u = k) then 1 else 0) else usTs k l ((binds n).map (u + ·))
def usTs (k : Int) : List T → List Int → Nat
  | [], _ => 0
  | _ :: _, [] => 0
  | t :: l, u :: us => usT k u t + usTs k l us
end
mutual
/-- The greatest of them; none: -1. -/
def moT (k u : Int) : T → Int
  | .mk n l => if n.K = 0 then (if 0 ≤ n.N - u ∧ (k < 0 ∨ n.N - u = k) then n.N - u else -1) else moTs k l ((binds n).map (u + ·))
def moTs (k : Int) : List T → List Int → Int
  | [], _ => -1
  | _ :: _, [] => -1
  | t :: l, u :: us => max (moT k u t) (moTs k l us)
end
mutual
theorem us_erT (k : Int) : ∀ (x : T) (u : Int), usT k u (erT x) ≤ usT k u x
  | .mk n l, u => by
    by_cases hk : n.K = 28
    · simp [erT, hk, usT, binds, shp, usTs]
    · simp only [erT, hk, if_false, usT]
      split
      · exact Nat.le_refl _
      · exact us_erTs k l _
theorem us_erTs (k : Int) : ∀ (l : List T) (us : List Int), usTs k (erTs l) us ≤ usTs k l us
  | [], us => by simp [erTs, usTs]
  | y :: l, [] => by simp [erTs, usTs]
  | y :: l, u :: us => by
    simp only [erTs, usTs]
    have := us_erT k y u
    have := us_erTs k l us
    omega
end
def usL (t : List Nd) (k u : Int) : Nat := usT k u (treeOf t)
def moL (t : List Nd) (k u : Int) : Int := moT k u (treeOf t)
theorem us_erA {t : List Nd} (h : chk t = 0) (k : Int) : usL (erA t) k 0 ≤ usL t k 0 := by
  obtain ⟨w1, f1, _, _⟩ := treeOf_ok h
  rw [erA_ok h]
  show usT k 0 (treeOf (erT (treeOf t)).flat) ≤ usT k 0 (treeOf t)
  rw [treeOf_flat (erT_ok _ w1).1]
  exact us_erT k _ 0
/-- The same, of the parts from some number on. -/
def usP (t : List Nd) (k u : Int) (j : Nat) : Nat := usTs k ((treeOf t).args.take j) ((binds (nth t (t.length - 1))).map (u + ·))
def moP (t : List Nd) (k u : Int) (j : Nat) : Int := moTs k ((treeOf t).args.take j) ((binds (nth t (t.length - 1))).map (u + ·))
theorem usTs_snoc (k : Int) : ∀ (l : List T) (t : T) (us : List Int) (u : Int), l.length = us.length → ∀ vs, usTs k (l ++ [t]) (us ++ u :: vs) = usTs k l (us ++ u :: vs) + usT k u t
  | [], t, [], u, _, vs => by simp [usTs]
  | y :: l, t, v :: us, u, h, vs => by
    simp only [List.cons_append, usTs]
    rw [usTs_snoc k l t us u (by simpa using h) vs]
    omega
  | [], _, _ :: _, _, h, _ => by simp at h
  | _ :: _, _, [], _, h, _ => by simp at h
theorem moTs_snoc (k : Int) : ∀ (l : List T) (t : T) (us : List Int) (u : Int), l.length = us.length → ∀ vs, moTs k (l ++ [t]) (us ++ u :: vs) = max (moTs k l (us ++ u :: vs)) (max (moT k u t) (-1))
  | [], t, [], u, _, vs => by simp [moTs]; omega
  | y :: l, t, v :: us, u, h, vs => by
    simp only [List.cons_append, moTs]
    rw [moTs_snoc k l t us u (by simpa using h) vs]
    omega
  | [], _, _ :: _, _, h, _ => by simp at h
  | _ :: _, _, [], _, h, _ => by simp at h
mutual
theorem moT_ge (k : Int) : ∀ (x : T) (u : Int), -1 ≤ moT k u x
  | .mk n l, u => by
    simp only [moT]
    split
    · split <;> omega
    · exact moTs_ge k l _
theorem moTs_ge (k : Int) : ∀ (l : List T) (us : List Int), -1 ≤ moTs k l us
  | [], us => by simp [moTs]
  | y :: l, [] => by simp [moTs]
  | y :: l, u :: us => by
    simp only [moTs]
    have := moTs_ge k l us
    omega
end
theorem split_at {α : Type} {l : List α} {j : Nat} (h : j < l.length) : l = l.take j ++ l[j] :: l.drop (j + 1) := by
  rw [← List.drop_eq_getElem_cons h, List.take_append_drop]
theorem ptL_nth {t : List Nd} {j : Nat} (h : measB t = true) (hj : j < (ptL t).length) : ∃ hj' : j < (treeOf t).args.length, nthL (ptL t) j = ((treeOf t).args[j]).flat ∧ treeOf (nthL (ptL t) j) = (treeOf t).args[j] := by
  obtain ⟨n, l, hx, _, _, h3, _, _, _, _⟩ := tree_parts h
  have hj' : j < (treeOf t).args.length := by simpa [ptL] using hj
  have e : nthL (ptL t) j = ((treeOf t).args[j]).flat := by simp [nthL, ptL, hj']
  refine ⟨hj', e, ?_⟩
  rw [e, treeOf_flat]
  have : (treeOf t).args = l := by rw [hx]; rfl
  exact (T.wfs_iff l).1 h3 _ (by rw [← this]; exact List.getElem_mem hj')
theorem binds_at {t : List Nd} {j : Nat} (h : measB t = true) (hj : j < (ptL t).length) (u : Int) : ((binds (nth t (t.length - 1))).map (u + ·)) = ((binds (nth t (t.length - 1))).map (u + ·)).take j ++ (u + nthI (binds (nth t (t.length - 1))) j) :: ((binds (nth t (t.length - 1))).map (u + ·)).drop (j + 1) := by
  have hl : j < (binds (nth t (t.length - 1))).length := by rw [ptL_length h] at hj; exact hj
  have := split_at (l := (binds (nth t (t.length - 1))).map (u + ·)) (j := j) (by simpa using hl)
  rw [List.getElem_map] at this
  have e : nthI (binds (nth t (t.length - 1))) j = (binds (nth t (t.length - 1)))[j] := by simp [nthI, hl]
  rw [e]
  exact this
theorem us_step {t : List Nd} {k u : Int} {j : Nat} (h : measB t = true) (hj : j < (ptL t).length) :
    usP t k u (j + 1) = usP t k u j + usL (nthL (ptL t) j) k (u + nthI (binds (nth t (t.length - 1))) j) ∧
    moP t k u (j + 1) = max (moP t k u j) (moL (nthL (ptL t) j) k (u + nthI (binds (nth t (t.length - 1))) j)) := by
  obtain ⟨hj', e1, e2⟩ := ptL_nth h hj
  have hb := binds_at h hj u
  have hl : j < (binds (nth t (t.length - 1))).length := by rw [ptL_length h] at hj; exact hj
  have ht : (treeOf t).args.take (j + 1) = (treeOf t).args.take j ++ [(treeOf t).args[j]] := by
    rw [List.take_add_one, List.getElem?_eq_getElem hj']; rfl
  have hlen : ((treeOf t).args.take j).length = (((binds (nth t (t.length - 1))).map (u + ·)).take j).length := by
    rw [List.length_take, List.length_take, List.length_map]
    have := root_many h
    have : (binds (nth t (t.length - 1))).length = (treeOf t).args.length := this
    omega
  unfold usP moP usL moL
  rw [ht, e2]
  constructor
  · rw [hb, usTs_snoc k _ _ _ _ hlen]
  · rw [hb, moTs_snoc k _ _ _ _ hlen]
    have := moT_ge k ((treeOf t).args[j]) (u + nthI (binds (nth t (t.length - 1))) j)
    omega
theorem us_root {t : List Nd} {k u : Int} (h : measB t = true) (hk : ¬ (nth t (t.length - 1)).K = 0) : usL t k u = usP t k u (ptL t).length ∧ moL t k u = moP t k u (ptL t).length := by
  obtain ⟨n, l, hx, _, _, _, _, h5, _, _⟩ := tree_parts h
  rw [h5] at hk
  unfold usL moL usP moP ptL
  rw [hx, h5]
  simp only [T.args, List.length_map, List.take_length, usT, moT, hk, if_false, and_self]
theorem us_var {t : List Nd} {k u : Int} (h : measB t = true) (hk : (nth t (t.length - 1)).K = 0) :
    usL t k u = (if 0 ≤ (nth t (t.length - 1)).N - u ∧ (k < 0 ∨ (nth t (t.length - 1)).N - u = k) then 1 else 0) ∧
    moL t k u = (if 0 ≤ (nth t (t.length - 1)).N - u ∧ (k < 0 ∨ (nth t (t.length - 1)).N - u = k) then (nth t (t.length - 1)).N - u else -1) := by
  obtain ⟨n, l, hx, _, _, _, _, h5, _, _⟩ := tree_parts h
  rw [h5] at hk ⊢
  unfold usL moL
  rw [hx]
  simp only [usT, moT, hk, if_true, and_self]
mutual
theorem us_le (k : Int) : ∀ (x : T) (u : Int), usT k u x ≤ x.flat.length
  | .mk n l, u => by
    simp only [usT, T.flat_mk, List.length_append, List.length_singleton]
    split
    · split <;> omega
    · have := uss_le k l ((binds n).map (u + ·)); omega
theorem uss_le (k : Int) : ∀ (l : List T) (us : List Int), usTs k l us ≤ (T.flats l).length
  | [], us => by simp [usTs]
  | y :: l, [] => by simp [usTs]
  | y :: l, u :: us => by
    simp only [usTs, T.flats_cons, List.length_append]
    have := us_le k y u
    have := uss_le k l us
    omega
end
theorem usL_le {t : List Nd} (h : measB t = true) (k u : Int) : usL t k u ≤ t.length := by
  have := us_le k (treeOf t) u
  rw [(treeOf_meas h).2] at this
  exact this
mutual
theorem usTs_take (k : Int) : ∀ (l : List T) (us : List Int) (j : Nat), usTs k (l.take j) us ≤ (T.flats l).length
  | [], us, j => by simp [usTs]
  | y :: l, us, 0 => by simp [usTs]
  | y :: l, [], j + 1 => by simp [usTs]
  | y :: l, u :: us, j + 1 => by
    simp only [List.take_succ_cons, usTs, T.flats_cons, List.length_append]
    have := us_le k y u
    have := usTs_take k l us j
    omega
end
theorem usP_le {t : List Nd} (h : measB t = true) (k u : Int) (j : Nat) : usP t k u j ≤ t.length := by
  obtain ⟨n, l, hx, _, _, _, _, _, h6, _⟩ := tree_parts h
  unfold usP
  have := usTs_take k (treeOf t).args ((binds (nth t (t.length - 1))).map (u + ·)) j
  rw [hx] at this ⊢
  simp only [T.args] at this ⊢
  omega
theorem var_at {t : List Nd} (h : measB t = true) (hk : (nth t (t.length - 1)).K = 0) : 0 ≤ (nth t (t.length - 1)).N ∧ (nth t (t.length - 1)).N ≤ 99 := by
  have h1 := right_at h (show t.length - 1 < t.length by have := meas_pos h; omega)
  rw [right_var hk, decide_eq_true_eq] at h1
  exact ⟨h1.1, h1.2.1⟩
def usA (t : List Nd) (k : Int) : Nat := if chk t = 0 ∧ 0 ≤ k then usL t k 0 else 0
theorem usA_no {t : List Nd} {k : Int} (h : ¬ (chk t = 0 ∧ 0 ≤ k)) : usA t k = 0 := if_neg h
theorem usA_ok {t : List Nd} {k : Int} (h : chk t = 0) (hk : 0 ≤ k) : usA t k = usL t k 0 := if_pos ⟨h, hk⟩
end Go.Proofs.YtobgdeffhdefeaaDoor
/- Terms in which variables give way to something, under binders: shifts and substitutions; trees and lists. -/
namespace Go.Proofs.YtobgdeffhdefeaaDoor
set_option linter.unusedSimpArgs false
set_option linter.unusedVariables false
/-- What a variable gives way to, under so many binders: an error (0: none), and a tree. -/
abbrev VR := Nd → Int → Int × T
mutual
def trE (V : VR) (u : Int) : T → Int
  | .mk n l => if n.K = 0 then (V n u).1 else trEs V l ((binds n).map (u + ·))
def trEs (V : VR) : List T → List Int → Int
  | [], _ => 0
  | _ :: _, [] => 0
  | t :: l, u :: us => if trE V u t = 0 then trEs V l us else trE V u t
end
mutual
def trT (V : VR) (u : Int) : T → T
  | .mk n l => if n.K = 0 then (V n u).2 else .mk n (trTs V l ((binds n).map (u + ·)))
def trTs (V : VR) : List T → List Int → List T
  | [], _ => []
  | _ :: _, [] => []
  | t :: l, u :: us => trT V u t :: trTs V l us
end
def trEL (V : VR) (t : List Nd) (u : Int) : Int := trE V u (treeOf t)
def trL (V : VR) (t : List Nd) (u : Int) : List Nd := if trEL V t u = 0 then (trT V u (treeOf t)).flat else []
/-- The same of the first so many parts. -/
def trEP (V : VR) (t : List Nd) (u : Int) (j : Nat) : Int := trEs V ((treeOf t).args.take j) ((binds (nth t (t.length - 1))).map (u + ·))
def trTP (V : VR) (t : List Nd) (u : Int) (j : Nat) : List (List Nd) := (trTs V ((treeOf t).args.take j) ((binds (nth t (t.length - 1))).map (u + ·))).map T.flat
theorem trEs_snoc (V : VR) : ∀ (l : List T) (t : T) (us : List Int) (u : Int), l.length = us.length → ∀ vs, trEs V (l ++ [t]) (us ++ u :: vs) = if trEs V l (us ++ u :: vs) = 0 then trE V u t else trEs V l (us ++ u :: vs)
  | [], t, [], u, _, vs => by
    simp only [List.nil_append, trEs, if_true]
    split
    · rename_i h; exact h.symm
    · rfl
  | y :: l, t, v :: us, u, h, vs => by
    simp only [List.cons_append, trEs]
    rw [trEs_snoc V l t us u (by simpa using h) vs]
    by_cases h1 : trE V v y = 0
    · simp [h1]
    · simp [h1]
  | [], _, _ :: _, _, h, _ => by simp at h
  | _ :: _, _, [], _, h, _ => by simp at h
theorem trTs_snoc (V : VR) : ∀ (l : List T) (t : T) (us : List Int) (u : Int), l.length = us.length → ∀ vs, trTs V (l ++ [t]) (us ++ u :: vs) = trTs V l (us ++ u :: vs) ++ [trT V u t]
  | [], t, [], u, _, vs => by simp [trTs]
  | y :: l, t, v :: us, u, h, vs => by
    simp only [List.cons_append, trTs]
    rw [trTs_snoc V l t us u (by simpa using h) vs]
  | [], _, _ :: _, _, h, _ => by simp at h
  | _ :: _, _, [], _, h, _ => by simp at h
theorem tr_zero (V : VR) (t : List Nd) (u : Int) : trEP V t u 0 = 0 ∧ trTP V t u 0 = [] := by simp [trEP, trTP, trEs, trTs]
theorem tr_snoc {V : VR} {t : List Nd} {u : Int} {j : Nat} (h : measB t = true) (hj : j < (ptL t).length) :
    trEP V t u (j + 1) = (if trEP V t u j = 0 then trEL V (nthL (ptL t) j) (u + nthI (binds (nth t (t.length - 1))) j) else trEP V t u j) ∧
    trTP V t u (j + 1) = trTP V t u j ++ [(trT V (u + nthI (binds (nth t (t.length - 1))) j) (treeOf (nthL (ptL t) j))).flat] := by
  obtain ⟨hj', e1, e2⟩ := ptL_nth h hj
  have hb := binds_at h hj u
  have hl : j < (binds (nth t (t.length - 1))).length := by rw [ptL_length h] at hj; exact hj
  have ht : (treeOf t).args.take (j + 1) = (treeOf t).args.take j ++ [(treeOf t).args[j]] := by
    rw [List.take_add_one, List.getElem?_eq_getElem hj']; rfl
  have hlen : ((treeOf t).args.take j).length = (((binds (nth t (t.length - 1))).map (u + ·)).take j).length := by
    rw [List.length_take, List.length_take, List.length_map]
    have := root_many h
    have : (binds (nth t (t.length - 1))).length = (treeOf t).args.length := this
    omega
  unfold trEP trTP trEL
  rw [ht, e2]
  constructor
  · rw [hb, trEs_snoc V _ _ _ _ hlen]
  · rw [hb, trTs_snoc V _ _ _ _ hlen, List.map_append]
    rfl
theorem tr_step {V : VR} {t : List Nd} {u : Int} {j : Nat} (h : measB t = true) (hj : j < (ptL t).length) (h0 : trEP V t u j = 0) (he : trEL V (nthL (ptL t) j) (u + nthI (binds (nth t (t.length - 1))) j) = 0) :
    trEP V t u (j + 1) = 0 ∧ trTP V t u (j + 1) = trTP V t u j ++ [trL V (nthL (ptL t) j) (u + nthI (binds (nth t (t.length - 1))) j)] := by
  obtain ⟨h1, h2⟩ := tr_snoc (V := V) (u := u) h hj
  rw [if_pos h0] at h1
  refine ⟨h1.trans he, ?_⟩
  rw [h2]
  unfold trL
  rw [if_pos he]
theorem trEs_take (V : VR) : ∀ (l : List T) (us : List Int) (j : Nat), trEs V (l.take j) us ≠ 0 → trEs V l us = trEs V (l.take j) us
  | [], us, j, h => by simp
  | y :: l, us, 0, h => by simp [trEs] at h
  | y :: l, [], j + 1, h => by simp [trEs] at h
  | y :: l, u :: us, j + 1, h => by
    simp only [List.take_succ_cons, trEs] at h ⊢
    by_cases h1 : trE V u y = 0
    · rw [if_pos h1] at h ⊢
      rw [if_pos h1]
      exact trEs_take V l us j h
    · rw [if_neg h1, if_neg h1]
theorem tr_root {V : VR} {t : List Nd} {u : Int} (h : measB t = true) (hk : ¬ (nth t (t.length - 1)).K = 0) : trEL V t u = trEP V t u (ptL t).length ∧ (trT V u (treeOf t)).flat = (trTP V t u (ptL t).length).flatten ++ [nth t (t.length - 1)] := by
  obtain ⟨n, l, hx, _, _, _, _, h5, _, _⟩ := tree_parts h
  rw [h5] at hk
  unfold trEL trEP trTP ptL
  rw [hx, h5]
  simp only [T.args, List.length_map, List.take_length, trE, trT, hk, if_false, T.flat_mk, true_and]
  rw [← flats_flatten]
theorem tr_err {V : VR} {t : List Nd} {u : Int} {j : Nat} (h : measB t = true) (hk : ¬ (nth t (t.length - 1)).K = 0) (hj : j < (ptL t).length) (h0 : trEP V t u j = 0) (he : ¬ trEL V (nthL (ptL t) j) (u + nthI (binds (nth t (t.length - 1))) j) = 0) :
    trEL V t u = trEL V (nthL (ptL t) j) (u + nthI (binds (nth t (t.length - 1))) j) ∧ trL V t u = [] := by
  obtain ⟨h1, _⟩ := tr_snoc (V := V) (u := u) h hj
  rw [if_pos h0] at h1
  have h2 : trEL V t u = trEP V t u (j + 1) := by
    rw [(tr_root h hk).1]
    unfold trEP ptL
    rw [List.length_map, List.take_length]
    exact trEs_take V _ _ _ (by have := h1 ▸ he; exact this)
  rw [h1] at h2
  refine ⟨h2, ?_⟩
  unfold trL
  rw [if_neg (by rw [h2]; exact he)]
theorem tr_done {V : VR} {t : List Nd} {u : Int} (h : measB t = true) (hk : ¬ (nth t (t.length - 1)).K = 0) (h0 : trEP V t u (ptL t).length = 0) :
    trEL V t u = 0 ∧ trL V t u = (trTP V t u (ptL t).length).flatten ++ [nth t (t.length - 1)] := by
  obtain ⟨h1, h2⟩ := tr_root (V := V) (u := u) h hk
  have h3 : trEL V t u = 0 := h1.trans h0
  refine ⟨h3, ?_⟩
  unfold trL
  rw [if_pos h3, h2]
theorem tr_var {V : VR} {t : List Nd} {u : Int} (h : measB t = true) (hk : (nth t (t.length - 1)).K = 0) : trEL V t u = (V (nth t (t.length - 1)) u).1 ∧ trL V t u = (if (V (nth t (t.length - 1)) u).1 = 0 then (V (nth t (t.length - 1)) u).2.flat else []) ∧ t = [nth t (t.length - 1)] := by
  obtain ⟨n, l, hx, h1, h2, _, h4, h5, _, _⟩ := tree_parts h
  rw [h5] at hk ⊢
  have hE : trEL V t u = (V n u).1 := by unfold trEL; rw [hx]; simp [trE, hk]
  refine ⟨hE, ?_, ?_⟩
  · unfold trL
    rw [hE, hx]
    simp [trT, hk]
  · have hl : l = [] := List.eq_nil_of_length_eq_zero (by rw [← h2]; simp [many, binds, hk, shp])
    rw [h4, hl]
    simp [T.flats_nil]
/-! ### Lengths, depths, fields -/
mutual
theorem tr_len {V : VR} {b : Nat} (hb : 1 ≤ b) (hV : ∀ n u, (V n u).1 = 0 → (V n u).2.flat.length ≤ b) : ∀ (x : T) (u : Int), trE V u x = 0 → (trT V u x).flat.length ≤ x.flat.length * b
  | .mk n l, u, h => by
    by_cases hk : n.K = 0
    · simp only [trE, trT, hk, if_true] at h ⊢
      have := hV n u h
      have h2 := Nat.mul_le_mul_right b (T.flat_pos (.mk n l))
      omega
    · simp only [trE, trT, hk, if_false, T.flat_mk, List.length_append, List.length_singleton, Nat.add_mul] at h ⊢
      have := tr_lens hb hV l _ h
      omega
theorem tr_lens {V : VR} {b : Nat} (hb : 1 ≤ b) (hV : ∀ n u, (V n u).1 = 0 → (V n u).2.flat.length ≤ b) : ∀ (l : List T) (us : List Int), trEs V l us = 0 → (T.flats (trTs V l us)).length ≤ (T.flats l).length * b
  | [], us, _ => by simp [trTs, T.flats_nil]
  | y :: l, [], _ => by simp [trTs, T.flats_nil]
  | y :: l, u :: us, h => by
    simp only [trEs] at h
    by_cases h1 : trE V u y = 0
    · rw [if_pos h1] at h
      simp only [trTs, T.flats_cons, List.length_append, Nat.add_mul]
      have := tr_len hb hV y u h1
      have := tr_lens hb hV l us h
      omega
    · rw [if_neg h1] at h
      exact absurd h h1
end
/-- A rule whose trees are well formed, where it is asked under no less than none. -/
def VW (V : VR) : Prop := ∀ n u, right n = true → n.K = 0 → 0 ≤ u → (V n u).1 = 0 → (V n u).2.wf = true
theorem ubinds {u : Int} {n : Nd} (hu : 0 ≤ u) : ∀ v ∈ (binds n).map (u + ·), 0 ≤ v := by
  intro v hv
  obtain ⟨b, hb, rfl⟩ := List.mem_map.1 hv
  have := binds_b n b hb
  omega
mutual
theorem tr_wf {V : VR} (hV : VW V) : ∀ (x : T) (u : Int), x.wf = true → 0 ≤ u → trE V u x = 0 → (trT V u x).wf = true
  | .mk n l, u, hw, hu, h => by
    obtain ⟨h1, h2, h3⟩ := wf_parts hw
    by_cases hk : n.K = 0
    · simp only [trE, trT, hk, if_true] at h ⊢
      exact hV n u h1 hk hu h
    · simp only [trE, trT, hk, if_false, T.wf_mk, Bool.and_eq_true, beq_iff_eq] at h ⊢
      obtain ⟨h4, h5⟩ := tr_wfs hV l ((binds n).map (u + ·)) h3 (ubinds hu) (by simp [← h2, many]) h
      exact ⟨⟨h1, by omega⟩, h4⟩
theorem tr_wfs {V : VR} (hV : VW V) : ∀ (l : List T) (us : List Int), T.wfs l = true → (∀ v ∈ us, 0 ≤ v) → l.length = us.length → trEs V l us = 0 → T.wfs (trTs V l us) = true ∧ (trTs V l us).length = l.length
  | [], us, _, _, _, _ => by simp [trTs, T.wfs]
  | y :: l, [], _, _, h, _ => by simp at h
  | y :: l, u :: us, hw, hu, hl, h => by
    obtain ⟨h1, h2⟩ := wf_cons hw
    simp only [trEs] at h
    by_cases h3 : trE V u y = 0
    · rw [if_pos h3] at h
      obtain ⟨h4, h5⟩ := tr_wfs hV l us h2 (fun v hv => hu v (by simp [hv])) (by simpa using hl) h
      have h6 := tr_wf hV y u h1 (hu u (by simp)) h3
      simp [trTs, T.wfs, h4, h5, h6]
    · rw [if_neg h3] at h
      exact absurd h h3
end
/-! ### Erasing ahead, or behind -/
mutual
theorem tr_erT {V W : VR} (hVW : ∀ n u, right n = true → n.K = 0 → 0 ≤ u → (V n u).1 = 0 → (W n u).1 = 0 ∧ erT (V n u).2 = (W n u).2) : ∀ (x : T) (u : Int), x.wf = true → 0 ≤ u → trE V u x = 0 → trE W u (erT x) = 0 ∧ erT (trT V u x) = trT W u (erT x)
  | .mk n l, u, hw, hu, h => by
    obtain ⟨h1, h2, h3⟩ := wf_parts hw
    by_cases hk : n.K = 0
    · have h28 : n.K ≠ 28 := by omega
      have e : erT (.mk n l) = .mk n (erTs l) := by
        simp only [erT]
        rw [if_neg h28]
      rw [e]
      simp only [trE, trT, hk, if_true] at h ⊢
      exact hVW n u h1 hk hu h
    · by_cases h28 : n.K = 28
      · simp [trE, trT, erT, h28, binds, shp, trEs, trTs]
      · simp only [trE, trT, erT, hk, h28, if_false] at h ⊢
        obtain ⟨h4, h5⟩ := tr_erTs hVW l ((binds n).map (u + ·)) h3 (ubinds hu) h
        exact ⟨h4, by rw [h5]⟩
theorem tr_erTs {V W : VR} (hVW : ∀ n u, right n = true → n.K = 0 → 0 ≤ u → (V n u).1 = 0 → (W n u).1 = 0 ∧ erT (V n u).2 = (W n u).2) : ∀ (l : List T) (us : List Int), T.wfs l = true → (∀ v ∈ us, 0 ≤ v) → trEs V l us = 0 → trEs W (erTs l) us = 0 ∧ erTs (trTs V l us) = trTs W (erTs l) us
  | [], us, _, _, _ => by simp [trEs, trTs, erTs]
  | y :: l, [], _, _, _ => by simp [trEs, trTs, erTs]
  | y :: l, u :: us, hw, hu, h => by
    obtain ⟨h1, h2⟩ := wf_cons hw
    simp only [trEs] at h
    by_cases h3 : trE V u y = 0
    · rw [if_pos h3] at h
      obtain ⟨h4, h5⟩ := tr_erT hVW y u h1 (hu u (by simp)) h3
      obtain ⟨h6, h7⟩ := tr_erTs hVW l us h2 (fun v hv => hu v (by simp [hv])) h
      simp only [erTs, trEs, trTs, h4, if_true, h5, h6, h7, and_self]
    · rw [if_neg h3] at h
      exact absurd h h3
end
mutual
/-- The only error that there may be. -/
theorem tr_only {V : VR} {e : Int} (hV : ∀ n u, (V n u).1 = 0 ∨ (V n u).1 = e) : ∀ (x : T) (u : Int), trE V u x = 0 ∨ trE V u x = e
  | .mk n l, u => by
    simp only [trE]
    split
    · exact hV n u
    · exact tr_onlys hV l _
theorem tr_onlys {V : VR} {e : Int} (hV : ∀ n u, (V n u).1 = 0 ∨ (V n u).1 = e) : ∀ (l : List T) (us : List Int), trEs V l us = 0 ∨ trEs V l us = e
  | [], us => by simp [trEs]
  | y :: l, [] => by simp [trEs]
  | y :: l, u :: us => by
    simp only [trEs]
    split
    · exact tr_onlys hV l us
    · exact tr_only hV y u
end
/-! ### Shifts -/
abbrev vN (m : Int) : Nd := ⟨0, m, 0, ⟨#[]⟩⟩
theorem var_node {n : Nd} (h : right n = true) (hk : n.K = 0) : n = vN n.N ∧ 0 ≤ n.N ∧ n.N ≤ 99 := by
  rw [right_var hk, decide_eq_true_eq] at h
  obtain ⟨K, N, M, S⟩ := n
  obtain ⟨h1, h2, h3, h4⟩ := h
  simp only at hk h1 h2 h3 h4
  subst hk h3 h4
  exact ⟨rfl, h1, h2⟩
theorem vN_right {m : Int} (h1 : 0 ≤ m) (h2 : m ≤ 99) : right (vN m) = true := by
  rw [right_var rfl]
  simp [h1, h2]
theorem vN_wf {m : Int} (h1 : 0 ≤ m) (h2 : m ≤ 99) : (T.mk (vN m) []).wf = true := by
  rw [T.wf_mk]
  simp [vN_right h1 h2, many, binds, shp, T.wfs]
def shV (by_ fr : Int) : VR := fun n u => if fr ≤ n.N - u then (if n.N + by_ - u < fr then (30, .mk n []) else if 99 < n.N + by_ then (2, .mk n []) else (0, .mk (vN (n.N + by_)) [])) else (0, .mk n [])
theorem shV_len (by_ fr : Int) (n : Nd) (u : Int) : (shV by_ fr n u).2.flat.length ≤ 1 := by
  unfold shV
  (repeat' split) <;> simp [T.flat_mk, T.flats_nil]
theorem shV_wf {by_ fr : Int} (hf : 0 ≤ fr) : VW (shV by_ fr) := by
  intro n u hr hk hu h
  obtain ⟨e, h1, h2⟩ := var_node hr hk
  unfold shV at h ⊢
  split
  · rename_i h3
    rw [if_pos h3] at h
    split
    · rename_i h4; rw [if_pos h4] at h; cases h
    · rename_i h4
      rw [if_neg h4] at h
      split
      · rename_i h5; rw [if_pos h5] at h; cases h
      · exact vN_wf (by omega) (by omega)
  · rw [e]; exact vN_wf h1 h2
theorem shV_er {by_ fr : Int} : ∀ n u, right n = true → n.K = 0 → 0 ≤ u → (shV by_ fr n u).1 = 0 → (shV by_ fr n u).1 = 0 ∧ erT (shV by_ fr n u).2 = (shV by_ fr n u).2 := by
  intro n u _ hk _ h
  refine ⟨h, ?_⟩
  unfold shV
  (repeat' split) <;> simp [erT, hk, erTs]
theorem shV_max {by_ fr : Int} (hb : 0 ≤ by_) (n : Nd) (u : Int) : (shV by_ fr n u).1 = 0 ∨ (shV by_ fr n u).1 = 2 := by
  unfold shV
  split
  · split
    · omega
    · split <;> simp
  · simp
def clamp (n : Int) : Int := max (-1000) (min n 1000)
/-- Shift, of any nodes: its error, and what it makes. -/
def sfE (t : List Nd) (by_ fr : Int) : Int := if chk t = 0 then trEL (shV (clamp by_) (max 0 (clamp fr))) t 0 else chk t
def sfA (t : List Nd) (by_ fr : Int) : List Nd := if chk t = 0 then trL (shV (clamp by_) (max 0 (clamp fr))) t 0 else []
theorem sfE_ok {t : List Nd} {b f : Int} (h : chk t = 0) : sfE t b f = trEL (shV (clamp b) (max 0 (clamp f))) t 0 ∧ sfA t b f = trL (shV (clamp b) (max 0 (clamp f))) t 0 := ⟨if_pos h, if_pos h⟩
theorem sfE_no {t : List Nd} {b f : Int} (h : ¬ chk t = 0) : sfE t b f = chk t ∧ sfA t b f = [] := ⟨if_neg h, if_neg h⟩
theorem sf_bad {t : List Nd} {b f : Int} (h : ¬ sfE t b f = 0) : sfA t b f = [] := by
  by_cases hc : chk t = 0
  · rw [(sfE_ok hc).1] at h
    rw [(sfE_ok hc).2]
    unfold trL
    rw [if_neg h]
  · exact (sfE_no hc).2
theorem trL_len {V : VR} {b : Nat} (hb : 1 ≤ b) (hV : ∀ n u, (V n u).1 = 0 → (V n u).2.flat.length ≤ b) {t : List Nd} (h : measB t = true) (u : Int) : (trL V t u).length ≤ t.length * b := by
  unfold trL
  split
  · rename_i he
    have := tr_len hb hV (treeOf t) u he
    rw [(treeOf_meas h).2] at this
    exact this
  · simp
theorem sfA_len (t : List Nd) (b f : Int) : (sfA t b f).length ≤ t.length := by
  by_cases hc : chk t = 0
  · rw [(sfE_ok hc).2]
    have := trL_len (b := 1) (Nat.le_refl _) (fun n u _ => shV_len (clamp b) (max 0 (clamp f)) n u) (meas_chk hc) 0
    omega
  · rw [(sfE_no hc).2]; simp
/-- The tree of a shifted term. -/
theorem sf_tree {t : List Nd} {b f : Int} (h : sfE t b f = 0) : chk t = 0 ∧ (trT (shV (clamp b) (max 0 (clamp f))) 0 (treeOf t)).wf = true ∧ sfA t b f = (trT (shV (clamp b) (max 0 (clamp f))) 0 (treeOf t)).flat ∧ treeOf (sfA t b f) = trT (shV (clamp b) (max 0 (clamp f))) 0 (treeOf t) ∧ trE (shV (clamp b) (max 0 (clamp f))) 0 (treeOf t) = 0 := by
  have hc : chk t = 0 := by
    by_cases hc : chk t = 0
    · exact hc
    · rw [(sfE_no hc).1] at h; exact h
  obtain ⟨h1, h2⟩ := sfE_ok (b := b) (f := f) hc
  rw [h1] at h
  have hw := tr_wf (shV_wf (by_ := clamp b) (fr := max 0 (clamp f)) (by omega)) (treeOf t) 0 (treeOf_meas (meas_chk hc)).1 (Int.le_refl _) h
  have h3 : sfA t b f = (trT (shV (clamp b) (max 0 (clamp f))) 0 (treeOf t)).flat := by
    rw [h2]; unfold trL; rw [if_pos h]
  refine ⟨hc, hw, h3, ?_, h⟩
  rw [h3, treeOf_flat hw]
/-! ### Substitutions -/
def nthLs (l : List (List Nd)) (i : Int) : List Nd := nthL l i.toNat
/-- Terms for the variables from k on, as many as there are. -/
def puV (k : Int) (l : List (List Nd)) : VR := fun n u =>
  if n.N - u < k then (0, .mk n []) else if n.N - u < k + l.length then (sfE (nthLs l (n.N - u - k)) (u + k) 0, treeOf (sfA (nthLs l (n.N - u - k)) (u + k) 0)) else (0, .mk (vN (n.N - l.length)) [])
theorem trTs_len (V : VR) : ∀ (l : List T) (us : List Int), l.length ≤ us.length → (trTs V l us).length = l.length
  | [], us, _ => by simp [trTs]
  | y :: l, [], h => by simp at h
  | y :: l, u :: us, h => by simp [trTs, trTs_len V l us (by simpa using h)]
theorem trTP_len {V : VR} {t : List Nd} {u : Int} {j : Nat} (h : measB t = true) (hj : j ≤ (ptL t).length) : (trTP V t u j).length = j := by
  have h1 := root_many h
  have h2 := ptL_length h
  have h3 : (binds (nth t (t.length - 1))).length = (treeOf t).args.length := h1
  unfold trTP
  rw [List.length_map, trTs_len V _ _ (by rw [List.length_take, List.length_map]; omega), List.length_take]
  omega
theorem pt_nonvar {t : List Nd} {j : Nat} (h : measB t = true) (hj : j < (ptL t).length) : ¬ (nth t (t.length - 1)).K = 0 := fun hk => by
  have h1 := ptL_length h
  have h2 : many (nth t (t.length - 1)) = 0 := by simp [many, binds, hk, shp]
  omega
theorem tr_bad {V : VR} {t : List Nd} {u : Int} {j : Nat} (h : measB t = true) (hj : j < (ptL t).length) (h0 : trEP V t u j = 0) (he : ¬ trEL V (nthL (ptL t) j) (u + nthI (binds (nth t (t.length - 1))) j) = 0) :
    trEL V t u = trEL V (nthL (ptL t) j) (u + nthI (binds (nth t (t.length - 1))) j) ∧ trL V t u = [] := tr_err h (pt_nonvar h hj) hj h0 he
theorem tr_end {V : VR} {t : List Nd} {u : Int} (h : measB t = true) (hv : (nth t (t.length - 1)).K = 0 → V (nth t (t.length - 1)) u = (0, .mk (nth t (t.length - 1)) [])) (h0 : trEP V t u (ptL t).length = 0) :
    trEL V t u = 0 ∧ trL V t u = (trTP V t u (ptL t).length).flatten ++ [nth t (t.length - 1)] := by
  by_cases hk : (nth t (t.length - 1)).K = 0
  · obtain ⟨h1, h2, h3⟩ := tr_var (V := V) (u := u) h hk
    rw [hv hk] at h1 h2
    have h4 : (ptL t).length = 0 := by rw [ptL_length h]; simp [many, binds, hk, shp]
    rw [h4]
    refine ⟨h1, ?_⟩
    rw [h2, (tr_zero V t u).2]
    simp [T.flat_mk, T.flats_nil]
  · exact tr_done h hk h0
theorem tr_nm {V : VR} {b : Nat} (hb : 1 ≤ b) (hV : ∀ n u, (V n u).1 = 0 → (V n u).2.flat.length ≤ b) {t : List Nd} {u : Int} (h : measB t = true) (hv : (nth t (t.length - 1)).K = 0 → V (nth t (t.length - 1)) u = (0, .mk (nth t (t.length - 1)) [])) (h0 : trEP V t u (ptL t).length = 0) :
    (trTP V t u (ptL t).length).flatten.length ≤ t.length * b := by
  have h1 := trL_len hb hV h u
  rw [(tr_end h hv h0).2, List.length_append] at h1
  omega
mutual
theorem tr_in {V : VR} {Q : Nd → Prop} (hV : ∀ n u, Q n → ∀ m ∈ (V n u).2.flat, Q m) : ∀ (x : T) (u : Int), (∀ n ∈ x.flat, Q n) → ∀ m ∈ (trT V u x).flat, Q m
  | .mk n l, u, h => by
    by_cases hk : n.K = 0
    · simp only [trT, hk, if_true]
      exact hV n u (h n (by simp [T.flat_mk]))
    · simp only [trT, hk, if_false, T.flat_mk, List.mem_append, List.mem_singleton]
      rintro m (hm | rfl)
      · exact tr_ins hV l _ (fun n hn => h n (by simp [T.flat_mk, hn])) m hm
      · exact h m (by simp [T.flat_mk])
theorem tr_ins {V : VR} {Q : Nd → Prop} (hV : ∀ n u, Q n → ∀ m ∈ (V n u).2.flat, Q m) : ∀ (l : List T) (us : List Int), (∀ n ∈ T.flats l, Q n) → ∀ m ∈ T.flats (trTs V l us), Q m
  | [], us, _ => by simp [trTs, T.flats_nil]
  | y :: l, [], _ => by simp [trTs, T.flats_nil]
  | y :: l, u :: us, h => by
    simp only [trTs, T.flats_cons, List.mem_append]
    rintro m (hm | hm)
    · exact tr_in hV y u (fun n hn => h n (by simp [T.flats_cons, hn])) m hm
    · exact tr_ins hV l us (fun n hn => h n (by simp [T.flats_cons, hn])) m hm
end
theorem trL_sml {V : VR} (hV : ∀ n u, n.S.size < 1000000 → ∀ m ∈ (V n u).2.flat, m.S.size < 1000000) {t : List Nd} (h : measB t = true) (hs : sml t) (u : Int) : sml (trL V t u) := by
  rw [sml_mem] at hs ⊢
  unfold trL
  split
  · refine tr_in (Q := fun n => n.S.size < 1000000) hV (treeOf t) u ?_
    rw [(treeOf_meas h).2]
    exact hs
  · simp
theorem shV_sml {b f : Int} : ∀ n u, n.S.size < 1000000 → ∀ m ∈ (shV b f n u).2.flat, m.S.size < 1000000 := by
  intro n u h
  unfold shV
  (repeat' split) <;> simp [T.flat_mk, T.flats_nil, h] <;> decide
theorem sfA_sml {t : List Nd} {b f : Int} (hs : sml t) : sml (sfA t b f) := by
  by_cases hc : chk t = 0
  · rw [(sfE_ok hc).2]; exact trL_sml shV_sml (meas_chk hc) hs 0
  · rw [(sfE_no hc).2]; intro k hk; simp at hk
theorem nthLs_in {l : List (List Nd)} {i : Int} {Q : List Nd → Prop} (h : ∀ p ∈ l, Q p) (h0 : Q []) : Q (nthLs l i) := by
  unfold nthLs nthL
  rw [List.getD_eq_getElem?_getD]
  cases hx : l[i.toNat]? with
  | none => exact h0
  | some p => exact h p (List.mem_of_getElem? hx)
theorem sf_flat {t : List Nd} {b f : Int} (h : sfE t b f = 0) : (treeOf (sfA t b f)).flat = sfA t b f := by
  obtain ⟨_, _, h3, h4, _⟩ := sf_tree h
  rw [h4, h3]
theorem puV_len {k : Int} {l : List (List Nd)} {b : Nat} (hb : 1 ≤ b) (hl : ∀ p ∈ l, p.length ≤ b) : ∀ n u, (puV k l n u).1 = 0 → (puV k l n u).2.flat.length ≤ b := by
  intro n u h
  unfold puV at h ⊢
  by_cases h1 : n.N - u < k
  · rw [if_pos h1]; simpa [T.flat_mk, T.flats_nil] using hb
  · rw [if_neg h1] at h ⊢
    by_cases h2 : n.N - u < k + l.length
    · rw [if_pos h2] at h ⊢
      simp only at h ⊢
      rw [sf_flat h]
      exact Nat.le_trans (sfA_len _ _ _) (nthLs_in (Q := fun p => p.length ≤ b) hl (by simp))
    · rw [if_neg h2]; simpa [T.flat_mk, T.flats_nil] using hb
theorem treeOf_in {t : List Nd} (h : measB t = true) : (treeOf t).flat = t := (treeOf_meas h).2
theorem puV_sml {k : Int} {l : List (List Nd)} (hl : ∀ p ∈ l, sml p) : ∀ n u, n.S.size < 1000000 → ∀ m ∈ (puV k l n u).2.flat, m.S.size < 1000000 := by
  intro n u h
  unfold puV
  by_cases h1 : n.N - u < k
  · rw [if_pos h1]; simpa [T.flat_mk, T.flats_nil] using h
  · rw [if_neg h1]
    by_cases h2 : n.N - u < k + l.length
    · rw [if_pos h2]
      simp only
      by_cases he : sfE (nthLs l (n.N - u - k)) (u + k) 0 = 0
      · rw [sf_flat he]
        exact sml_mem.1 (sfA_sml (nthLs_in (Q := sml) hl (fun k hk => by simp at hk)))
      · rw [sf_bad he]
        intro m hm
        have : treeOf [] = .mk ndz [] := rfl
        rw [this] at hm
        simp [T.flat_mk, T.flats_nil] at hm
        subst hm
        decide
    · rw [if_neg h2]
      simp [T.flat_mk, T.flats_nil]
      decide
theorem puV_wf {k : Int} {l : List (List Nd)} (hk0 : 0 ≤ k) : VW (puV k l) := by
  intro n u hr hk hu h
  obtain ⟨e, h1, h2⟩ := var_node hr hk
  unfold puV at h ⊢
  split
  · rw [e]; exact vN_wf h1 h2
  · rename_i h3
    rw [if_neg h3] at h
    split
    · rename_i h4
      rw [if_pos h4] at h
      obtain ⟨_, h5, _, h6, _⟩ := sf_tree h
      simp only
      rw [h6]; exact h5
    · exact vN_wf (by omega) (by omega)
/-! ### What variables give way to, of lists -/
section
variable {t : List Nd} {u : Int} (h : measB t = true) (hk : (nth t (t.length - 1)).K = 0)
include h hk
theorem sh_low {b fr : Int} (h1 : fr ≤ (nth t (t.length - 1)).N - u) (h2 : (nth t (t.length - 1)).N + b - u < fr) : trEL (shV b fr) t u = 30 ∧ trL (shV b fr) t u = [] := by
  obtain ⟨e1, e2, _⟩ := tr_var (V := shV b fr) (u := u) h hk
  rw [e1, e2]
  simp [shV, h1, h2]
theorem sh_high {b fr : Int} (h1 : fr ≤ (nth t (t.length - 1)).N - u) (h2 : ¬ (nth t (t.length - 1)).N + b - u < fr) (h3 : 99 < (nth t (t.length - 1)).N + b) : trEL (shV b fr) t u = 2 ∧ trL (shV b fr) t u = [] := by
  obtain ⟨e1, e2, _⟩ := tr_var (V := shV b fr) (u := u) h hk
  rw [e1, e2]
  simp [shV, h1, h2, h3]
theorem sh_good {b fr : Int} (h1 : fr ≤ (nth t (t.length - 1)).N - u) (h2 : ¬ (nth t (t.length - 1)).N + b - u < fr) (h3 : ¬ 99 < (nth t (t.length - 1)).N + b) : trEL (shV b fr) t u = 0 ∧ trL (shV b fr) t u = [vN ((nth t (t.length - 1)).N + b)] := by
  obtain ⟨e1, e2, _⟩ := tr_var (V := shV b fr) (u := u) h hk
  rw [e1, e2]
  simp [shV, h1, h2, h3, T.flat_mk, T.flats_nil]
theorem pu_lt {k : Int} {l : List (List Nd)} (h1 : (nth t (t.length - 1)).N - u < k) : trEL (puV k l) t u = 0 ∧ trL (puV k l) t u = t := by
  obtain ⟨e1, e2, e3⟩ := tr_var (V := puV k l) (u := u) h hk
  rw [e1, e2]
  simp only [puV, h1, if_true, T.flat_mk, T.flats_nil, List.nil_append, true_and]
  exact e3.symm
theorem pu_in {k : Int} {l : List (List Nd)} (h1 : ¬ (nth t (t.length - 1)).N - u < k) (h2 : (nth t (t.length - 1)).N - u < k + l.length) :
    trEL (puV k l) t u = sfE (nthLs l ((nth t (t.length - 1)).N - u - k)) (u + k) 0 ∧ trL (puV k l) t u = sfA (nthLs l ((nth t (t.length - 1)).N - u - k)) (u + k) 0 := by
  obtain ⟨e1, e2, e3⟩ := tr_var (V := puV k l) (u := u) h hk
  rw [e1, e2]
  simp only [puV, h1, h2, if_true, if_false, true_and]
  by_cases he : sfE (nthLs l ((nth t (t.length - 1)).N - u - k)) (u + k) 0 = 0
  · rw [if_pos he, sf_flat he]
  · rw [if_neg he, sf_bad he]
theorem pu_ge {k : Int} {l : List (List Nd)} (h1 : ¬ (nth t (t.length - 1)).N - u < k) (h2 : ¬ (nth t (t.length - 1)).N - u < k + l.length) :
    trEL (puV k l) t u = 0 ∧ trL (puV k l) t u = [vN ((nth t (t.length - 1)).N - l.length)] := by
  obtain ⟨e1, e2, e3⟩ := tr_var (V := puV k l) (u := u) h hk
  rw [e1, e2]
  simp only [puV, h1, h2, if_true, if_false, true_and, T.flat_mk, T.flats_nil, List.nil_append]
end
/-- Terms put into one, and the check of what comes out. -/
def poE (t : List Nd) (k : Int) (l : List (List Nd)) : Int := if trEL (puV k l) t 0 = 0 then chk (trL (puV k l) t 0) else trEL (puV k l) t 0
def poA (t : List Nd) (k : Int) (l : List (List Nd)) : List Nd := if poE t k l = 0 then trL (puV k l) t 0 else []
theorem po_err {t : List Nd} {k : Int} {l : List (List Nd)} (h : ¬ trEL (puV k l) t 0 = 0) : poE t k l = trEL (puV k l) t 0 ∧ poA t k l = [] := by
  have : poE t k l = trEL (puV k l) t 0 := by unfold poE; rw [if_neg h]
  refine ⟨this, ?_⟩
  unfold poA
  rw [this, if_neg h]
theorem po_chk {t : List Nd} {k : Int} {l : List (List Nd)} (h : trEL (puV k l) t 0 = 0) : poE t k l = chk (trL (puV k l) t 0) ∧ poA t k l = if chk (trL (puV k l) t 0) = 0 then trL (puV k l) t 0 else [] := by
  have : poE t k l = chk (trL (puV k l) t 0) := by unfold poE; rw [if_pos h]
  refine ⟨this, ?_⟩
  unfold poA
  rw [this]
def suE (t : List Nd) (k : Int) (u : List Nd) : Int := if ¬ chk t = 0 then chk t else if ¬ chk u = 0 then chk u else if k < 0 ∨ 99 < k then 1 else poE t k [u]
def suA (t : List Nd) (k : Int) (u : List Nd) : List Nd := if suE t k u = 0 then poA t k [u] else []
end Go.Proofs.YtobgdeffhdefeaaDoor
/- Contracts of functions, one theorem each: what the call returns, and that nothing old is changed. Printed by gen.py. -/
namespace Go.Proofs.YtobgdeffhdefeaaDoor
open Go Go.RowKit
set_option linter.unusedSimpArgs false
set_option linter.unusedVariables false

set_option maxRecDepth 100000 in
set_option maxHeartbeats 1000000 in
theorem lv_calls (w0 : World) (Z : Nat → Prop) (hZ : ∀ k, Z k → k < w0.heap.size) (n : Int)  :
    Calls Tryd.prog 145 [.int .i64 n].toArray w0 (fun e w' => e = .returned (.bool (!decide (0 ≤ n ∧ n ≤ 9))) ∧ Fr none_ w0 w') := by
  have hstart : ∀ k, Z k → imm Z w0 [] w0 k ∧ w0.heap[k]? = w0.heap[k]? := fun k hk => ⟨⟨hZ k hk, fun _ => hk, fun _ h => by cases h⟩, rfl⟩
  have hS3 : St w0 Z none_ w0 [] [] := St.start w0 Z none_ _ (by
    intro d hd
    cases hd
    )
  refine c_enter Tryd.func145 rfl Tryd.ntmps145 rfl (fun a1 hR2 => ?_)
  refine wp_seq_k (fun K4 hK5 => ?_)
  refine c_region ?_
  refine asg hR2 (fun a6 hR7 => ?_)
  refine wpList_nil (x_then_n (hK5 _ _ ?_))
  refine wp_seq_k (fun K8 hK9 => ?_)
  refine c_region ?_
  refine mv hR7 (fun a10 hR11 => ?_)
  refine r_lss sv hR11 rfl rfl rfl rfl (by decide) (fun a12 hR13 => ?_)
  refine mv hR13 (fun a14 hR15 => ?_)
  refine l_join (fun ga gw => Reg ga 9 [(2, .bool false), (8, .bool ((decide ((n) < 0)) || (decide (9 < (n))))), (1000000, .bool false)] ∧ St w0 Z none_ gw [] []) 3 ?_ ?_
  · skip
    rcases Decidable.em ((n) < 0) with h16 | h16
    · skip
      have hR17 := hR15.setb (d := 5) (b := true) rfl (decide_eq_true h16)
      refine sps hR17 (wff hR17) (fun a18 hR19 => ?_)
      refine sps hR19 (wff hR19) (fun a20 hR21 => ?_)
      refine r_pick_t sv hR21 rfl rfl rfl rfl (by decide) (fun a22 hR23 => ?_)
      refine wpList_nil ?_
      exact x_then_n ⟨(hR23.sub (rc rfl (rc (rb rfl (by first | rfl | (simp only [decide_eq_true h16, if_pos h16, bl]; done) | (simp [h16]; done) | (simp [h16]; omega))) (rc rfl rnl)))), hS3⟩
    · skip
      have hR24 := hR15.setb (d := 5) (b := false) rfl (decide_eq_false h16)
      refine r_move (st_listV_w (wt hR24)) hR24 rfl rfl rfl (by decide) (fun a25 hR26 => ?_)
      refine r_gtr (st_listV_w (wt hR26)) hR26 rfl rfl rfl rfl (by decide) (fun a27 hR28 => ?_)
      refine r_pick_f sv hR28 rfl rfl rfl rfl (by decide) (fun a29 hR30 => ?_)
      refine wpList_nil ?_
      exact x_then_n ⟨(hR30.sub (rc rfl (rc (rb rfl (by first | rfl | (simp only [decide_eq_false h16, if_neg h16, bl]; done) | (simp [h16]; done) | (simp [h16]; omega))) (rc rfl rnl)))), hS3⟩
  rintro a31 w32 ⟨hR33, hS34⟩
  refine asg hR33 (fun a35 hR36 => ?_)
  refine wpList_nil (x_then_n (hK9 _ _ ?_))
  refine wp_ret ?_
  refine e_ret1 hR36 rfl rfl rfl ?_
  refine ⟨?_, hS34.fr⟩
  exact congrArg Ending.returned (ret_b (by first | rfl | omega | assumption | exact decide_eq_true (by assumption) | ( omega) | (simp []; done) | (simp [] at *; done) | (simp [] <;> omega) | (rw [Bool.eq_iff_iff]; simp [] <;> omega) | (rw [Bool.eq_iff_iff]; simp [] at * <;> omega)))

set_option maxRecDepth 100000 in
set_option maxHeartbeats 1000000 in
theorem lvIndex_calls (w0 : World) (Z : Nat → Prop) (hZ : ∀ k, Z k → k < w0.heap.size) (tA : Option Addr) (tc : Nat) (t : List Int) (ht : (dRow 1 tA t.length tc (encIs t)).φ w0 Z) (hl : t.length ≤ 1000000) :
    Calls Tryd.prog 148 [.slice tA t.length tc, .func (.func 145) #[] #[]].toArray w0 (fun e w' => e = .returned (.int .i64 (lvIndex t)) ∧ Fr none_ w0 w') := by
  have hstart : ∀ k, Z k → imm Z w0 [] w0 k ∧ w0.heap[k]? = w0.heap[k]? := fun k hk => ⟨⟨hZ k hk, fun _ => hk, fun _ h => by cases h⟩, rfl⟩
  have hS3 : St w0 Z none_ w0 [] [dRow 1 tA t.length tc (encIs t)] := St.start w0 Z none_ _ (by
    intro d hd
    simp only [List.mem_cons, List.not_mem_nil, or_false] at hd
    rcases hd with rfl
    · exact Dat.mono _ _ _ _ _ (Nat.le_refl _) ht hstart
    )
  refine c_enter Tryd.func148 rfl Tryd.ntmps148 rfl (fun a1 hR2 => ?_)
  refine wp_seq_k (fun K4 hK5 => ?_)
  refine c_region ?_
  refine asg hR2 (fun a6 hR7 => ?_)
  refine wpList_nil (x_then_n (hK5 _ _ ?_))
  refine wp_seq_k (fun K8 hK9 => ?_)
  refine wp_seq_k (fun K10 hK11 => ?_)
  refine c_region ?_
  refine mv hR7 (fun a12 hR13 => ?_)
  refine r_len sv hR13 rfl rfl rfl rfl Tryd.underlying66 (by decide) (fun a14 hR15 => ?_)
  refine mv hR15 (fun a16 hR17 => ?_)
  refine wpList_nil (x_then_n (hK11 _ _ ?_))
  refine wp_block ?_
  refine wp_loop_ghost (fun gn ga gw => ∃ k : Nat, (Reg ga 19 [(1000000, .bool false), (0, .slice tA t.length tc), (1, .func (.func 145) #[] #[]), (7, .int .i64 ((t.length : Nat) : Int)), (8, .int .i64 ((k : Nat) : Int))]) ∧ (St w0 Z none_ gw [] [dRow 1 tA t.length tc (encIs t)]) ∧ (k ≤ t.length) ∧ (lvIndex t = (let r := lvIndex (t.drop k); if r < 0 then r else r + (k : Int))) ∧ (t.length - k) = gn) _ ⟨0, (hR17.sub (rc rfl (rc rfl (rc rfl (rc rfl (rc rfl rnl)))))), hS3, by omega, by simp, rfl⟩ ?_
  rintro r18 a19 w20 ⟨k, hR21, hS22, hk, hi, hn23⟩
  refine wp_seq_k (fun K24 hK25 => ?_)
  refine c_region ?_
  refine r_lss sv hR21 rfl rfl rfl rfl (by decide) (fun a26 hR27 => ?_)
  refine wpList_nil (x_then_n (hK25 _ _ ?_))
  refine wp_seq_k (fun K28 hK29 => ?_)
  rcases Decidable.em (((k : Nat) : Int) < ((t.length : Nat) : Int)) with h30 | h30
  · skip
    have hR31 := hR27.setb (d := 9) (b := true) rfl (decide_eq_true h30)
    refine wp_cond_true (hR31.ev rfl) ?_
    refine wp_skip ?_
    refine x_then_n (hK29 _ _ ?_)
    refine wp_seq_k (fun K32 hK33 => ?_)
    refine wp_block ?_
    refine wp_seq_k (fun K34 hK35 => ?_)
    refine c_region ?_
    refine mv hR31 (fun a36 hR37 => ?_)
    refine asg hR37 (fun a38 hR39 => ?_)
    refine wpList_nil (x_then_n (hK35 _ _ ?_))
    refine wp_seq_k (fun K40 hK41 => ?_)
    refine c_region ?_
    refine mv hR39 (fun a42 hR43 => ?_)
    refine mv hR43 (fun a44 hR45 => ?_)
    refine mv hR45 (fun a46 hR47 => ?_)
    refine m_index (i := k) (j := k * 1) sv hR47 rfl rfl rfl rfl Tryd.underlying66 sz3 (by omega) (by omega) (ints_elem (t := t) (k := k) (hS22.row (i := 0) rfl).2 (by omega)).some_ rfl (by decide) (fun a48 hR49 => ?_)
    refine m_loadE sv hR49 rfl rfl rfl 0 (k * 1) (ints_elem (t := t) (k := k) (hS22.row (i := 0) rfl).2 (by omega)) rfl rfl Tryd.underlying3 rfl (by decide) (fun a50 hR51 => ?_)
    have hS52 : St w0 Z none_ w20 [] [dRow 1 tA t.length tc (encIs t)] := hS22
    refine k_callV (xs := [.tmp 15]) se hR51 rfl rfl rfl rfl (by decide) ok145 (lv_calls _ (imm Z w0 [] _) (fun _ h => h.1) ((nthI t k))) ?_
    rintro e59 w54 ⟨rfl, hf57⟩
    have hS60 := hS52.below hf57.below
    refine ⟨_, rfl, fun a53 hR55 => ?_⟩
    refine wpList_nil (x_then_n (hK41 _ _ ?_))
    rcases Bool.eq_false_or_eq_true (!decide (0 ≤ ((nthI t k)) ∧ ((nthI t k)) ≤ 9)) with h61 | h61
    · skip
      have h62 := not_t h61
      have h63 := of_decide_eq_false h62
      have hR64 := hR55.setb (d := 16) (b := true) rfl h61
      refine wp_cond_true (hR64.ev rfl) ?_
      refine wp_seq_k (fun K65 hK66 => ?_)
      refine c_region ?_
      refine mv hR64 (fun a67 hR68 => ?_)
      refine asg hR68 (fun a69 hR70 => ?_)
      refine wpList_nil (x_then_n (hK66 _ _ ?_))
      refine wp_ret ?_
      refine x_block_r ?_
      refine x_then_r ?_
      refine x_then_r ?_
      refine x_block_r ?_
      refine x_then_r ?_
      refine e_ret1 hR70 rfl rfl rfl ?_
      refine ⟨?_, hS60.fr⟩
      exact congrArg Ending.returned (ret_i (by first | exact (lvIndex_here (k := k) hi (by omega) (by intro h0; have q := h63; simp at q; omega)).symm | exact (lvIndex_none hi (by omega)).symm))
    · skip
      have h71 := not_f h61
      have h72 := of_decide_eq_true h71
      have hR73 := hR55.setb (d := 16) (b := false) rfl h61
      refine wp_cond_false (hR73.ev rfl) ?_
      refine wp_skip ?_
      refine x_block_n ?_
      refine x_then_n (hK33 _ _ ?_)
      refine c_region ?_
      refine r_add (z := ((k + 1 : Nat) : Int)) sv hR73 rfl rfl rfl rfl (by decide) (by omega) (by omega) (by omega) (fun a74 hR75 => ?_)
      refine mv hR75 (fun a76 hR77 => ?_)
      refine wpList_nil ?_
      exact ⟨_, by omega, k + 1, (hR77.sub (rc rfl (rc rfl (rc rfl (rc rfl (rc rfl rnl)))))), hS60, by omega, lvIndex_step hi (by omega) (by have q := h72; simpa using q), rfl⟩
  · skip
    have hR78 := hR27.setb (d := 9) (b := false) rfl (decide_eq_false h30)
    refine wp_cond_false (hR78.ev rfl) ?_
    refine wp_exit ?_
    refine x_then_e ?_
    refine x_then_e ?_
    refine x_block_eq ?_
    refine x_then_n (hK9 _ _ ?_)
    refine wp_seq_k (fun K79 hK80 => ?_)
    refine c_region ?_
    refine asg hR78 (fun a81 hR82 => ?_)
    refine wpList_nil (x_then_n (hK80 _ _ ?_))
    refine wp_ret ?_
    refine e_ret1 hR82 rfl rfl rfl ?_
    refine ⟨?_, hS22.fr⟩
    exact congrArg Ending.returned (ret_i (by first | exact (lvIndex_here (k := k) hi (by omega) (by intro h0; have q := h30; simp at q; omega)).symm | exact (lvIndex_none hi (by omega)).symm))

set_option maxRecDepth 100000 in
set_option maxHeartbeats 1000000 in
theorem lvContains_calls (w0 : World) (Z : Nat → Prop) (hZ : ∀ k, Z k → k < w0.heap.size) (tA : Option Addr) (tc : Nat) (t : List Int) (ht : (dRow 1 tA t.length tc (encIs t)).φ w0 Z) (hl : t.length ≤ 1000000) :
    Calls Tryd.prog 144 [.slice tA t.length tc, .func (.func 145) #[] #[]].toArray w0 (fun e w' => e = .returned (.bool (decide (0 ≤ lvIndex t))) ∧ Fr none_ w0 w') := by
  have hstart : ∀ k, Z k → imm Z w0 [] w0 k ∧ w0.heap[k]? = w0.heap[k]? := fun k hk => ⟨⟨hZ k hk, fun _ => hk, fun _ h => by cases h⟩, rfl⟩
  have hS3 : St w0 Z none_ w0 [] [dRow 1 tA t.length tc (encIs t)] := St.start w0 Z none_ _ (by
    intro d hd
    simp only [List.mem_cons, List.not_mem_nil, or_false] at hd
    rcases hd with rfl
    · exact Dat.mono _ _ _ _ _ (Nat.le_refl _) ht hstart
    )
  refine c_enter Tryd.func144 rfl Tryd.ntmps144 rfl (fun a1 hR2 => ?_)
  refine wp_seq_k (fun K4 hK5 => ?_)
  refine c_region ?_
  refine asg hR2 (fun a6 hR7 => ?_)
  refine wpList_nil (x_then_n (hK5 _ _ ?_))
  refine wp_seq_k (fun K8 hK9 => ?_)
  refine c_region ?_
  refine mv hR7 (fun a10 hR11 => ?_)
  refine mv hR11 (fun a12 hR13 => ?_)
  have hS14 : St w0 Z none_ w0 [] [dRow 1 tA t.length tc (encIs t)] := hS3
  refine k_call (xs := [.tmp 5, .tmp 6]) se hR13 rfl rfl rfl (by decide) ok148 (lvIndex_calls _ (imm Z w0 [] _) (fun _ h => h.1) tA tc t (hS14.get (i := 0) rfl) (by first | assumption | omega | (simp; done) | (simp; omega))) ?_
  rintro e21 w16 ⟨rfl, hf19⟩
  have hS22 := hS14.below hf19.below
  refine ⟨_, rfl, fun a15 hR17 => ?_⟩
  refine r_geq sv hR17 rfl rfl rfl rfl (by decide) (fun a23 hR24 => ?_)
  refine asg hR24 (fun a25 hR26 => ?_)
  refine wpList_nil (x_then_n (hK9 _ _ ?_))
  refine wp_ret ?_
  refine e_ret1 hR26 rfl rfl rfl ?_
  refine ⟨?_, hS22.fr⟩
  exact congrArg Ending.returned (ret_b (by first | rfl | omega | assumption | exact decide_eq_true (by assumption) | ( omega) | (simp []; done) | (simp [] at *; done) | (simp [] <;> omega) | (rw [Bool.eq_iff_iff]; simp [] <;> omega) | (rw [Bool.eq_iff_iff]; simp [] at * <;> omega)))

set_option maxRecDepth 100000 in
set_option maxHeartbeats 1000000 in
theorem lvAll_calls (w0 : World) (Z : Nat → Prop) (hZ : ∀ k, Z k → k < w0.heap.size) (tA : Option Addr) (tc : Nat) (t : List Int) (ht : (dRow 1 tA t.length tc (encIs t)).φ w0 Z) (hl : t.length ≤ 1000000) :
    Calls Tryd.prog 138 [.slice tA t.length tc].toArray w0 (fun e w' => e = .returned (.bool (!decide (0 ≤ lvIndex t))) ∧ Fr none_ w0 w') := by
  have hstart : ∀ k, Z k → imm Z w0 [] w0 k ∧ w0.heap[k]? = w0.heap[k]? := fun k hk => ⟨⟨hZ k hk, fun _ => hk, fun _ h => by cases h⟩, rfl⟩
  have hS3 : St w0 Z none_ w0 [] [dRow 1 tA t.length tc (encIs t)] := St.start w0 Z none_ _ (by
    intro d hd
    simp only [List.mem_cons, List.not_mem_nil, or_false] at hd
    rcases hd with rfl
    · exact Dat.mono _ _ _ _ _ (Nat.le_refl _) ht hstart
    )
  refine c_enter Tryd.func138 rfl Tryd.ntmps138 rfl (fun a1 hR2 => ?_)
  refine wp_seq_k (fun K4 hK5 => ?_)
  refine c_region ?_
  refine asg hR2 (fun a6 hR7 => ?_)
  refine wpList_nil (x_then_n (hK5 _ _ ?_))
  refine wp_seq_k (fun K8 hK9 => ?_)
  refine c_region ?_
  refine mv hR7 (fun a10 hR11 => ?_)
  have hS12 : St w0 Z none_ w0 [] [dRow 1 tA t.length tc (encIs t)] := hS3
  refine k_call (xs := [.tmp 3, .func 145]) se hR11 rfl rfl rfl (by decide) ok144 (lvContains_calls _ (imm Z w0 [] _) (fun _ h => h.1) tA tc t (hS12.get (i := 0) rfl) (by first | assumption | omega | (simp; done) | (simp; omega))) ?_
  rintro e19 w14 ⟨rfl, hf17⟩
  have hS20 := hS12.below hf17.below
  refine ⟨_, rfl, fun a13 hR15 => ?_⟩
  refine r_not sv hR15 rfl rfl rfl (by decide) (fun a21 hR22 => ?_)
  refine asg hR22 (fun a23 hR24 => ?_)
  refine wpList_nil (x_then_n (hK9 _ _ ?_))
  refine wp_ret ?_
  refine e_ret1 hR24 rfl rfl rfl ?_
  refine ⟨?_, hS20.fr⟩
  exact congrArg Ending.returned (ret_b (by first | rfl | omega | assumption | exact decide_eq_true (by assumption) | ( omega) | (simp []; done) | (simp [] at *; done) | (simp [] <;> omega) | (rw [Bool.eq_iff_iff]; simp [] <;> omega) | (rw [Bool.eq_iff_iff]; simp [] at * <;> omega)))

set_option maxRecDepth 100000 in
set_option maxHeartbeats 1000000 in
theorem lvCheck_calls (w0 : World) (Z : Nat → Prop) (hZ : ∀ k, Z k → k < w0.heap.size) (n : Int)  :
    Calls Tryd.prog 129 [.int .i64 n].toArray w0 (fun e w' => e = .returned (.int .i64 (lvChk n)) ∧ Fr none_ w0 w') := by
  have hstart : ∀ k, Z k → imm Z w0 [] w0 k ∧ w0.heap[k]? = w0.heap[k]? := fun k hk => ⟨⟨hZ k hk, fun _ => hk, fun _ h => by cases h⟩, rfl⟩
  have hS3 : St w0 Z none_ w0 [] [] := St.start w0 Z none_ _ (by
    intro d hd
    cases hd
    )
  refine c_enter Tryd.func129 rfl Tryd.ntmps129 rfl (fun a1 hR2 => ?_)
  refine wp_seq_k (fun K4 hK5 => ?_)
  refine c_region ?_
  refine asg hR2 (fun a6 hR7 => ?_)
  refine wpList_nil (x_then_n (hK5 _ _ ?_))
  refine wp_seq_k (fun K8 hK9 => ?_)
  refine wp_seq_k (fun K10 hK11 => ?_)
  refine c_region ?_
  refine mv hR7 (fun a12 hR13 => ?_)
  refine m_buildSlice (ps := [(0, .tmp 3)]) (cs := [.int .i64 (n)]) sv hR13 hS3 rfl rfl rfl Tryd.underlying66 zi3 rfl rfl (by kernel_rfl) rfl (by decide) (fun a14 w15 g16 hR17 hS18 => ?_)
  have hS19 : St w0 Z none_ w15 [.row (some ⟨g16, 0, none⟩) 1 1 3 1 (encIs ([(n)]))] [] := hS18
  have hc23 := own_cap (hS19.res (i := 0) rfl)
  obtain ⟨hS20, hrow21⟩ := hS19.row_data (i := 0) rfl (fun _ h => h)
  have hS22 := hS20.data (dRow 1 (some ⟨g16, 0, none⟩) 1 1 (encIs ([(n)]))) ⟨hc23, hrow21⟩
  refine k_call (xs := [.tmp 4]) se hR17 rfl rfl rfl (by decide) ok138 (lvAll_calls _ (imm Z w0 [] _) (fun _ h => h.1) (some ⟨g16, 0, none⟩) 1 ([(n)]) (hS22.get (i := 0) rfl) (by first | assumption | omega | (simp; done) | (simp; omega))) ?_
  rintro e30 w25 ⟨rfl, hf28⟩
  have hS31 := hS22.below hf28.below
  refine ⟨_, rfl, fun a24 hR26 => ?_⟩
  refine r_not sv hR26 rfl rfl rfl (by decide) (fun a32 hR33 => ?_)
  refine wpList_nil (x_then_n (hK11 _ _ ?_))
  rcases Bool.eq_false_or_eq_true (!decide (0 ≤ lvIndex ([(n)]))) with h34 | h34
  · skip
    have h35 := not_t h34
    have h36 := of_decide_eq_false h35
    have hR37 := hR33.setb (d := 6) (b := false) rfl (by rw [h34]; rfl)
    refine wp_cond_false (hR37.ev rfl) ?_
    refine wp_skip ?_
    refine x_then_n (hK9 _ _ ?_)
    refine wp_seq_k (fun K38 hK39 => ?_)
    refine c_region ?_
    refine asg hR37 (fun a40 hR41 => ?_)
    refine wpList_nil (x_then_n (hK39 _ _ ?_))
    refine wp_ret ?_
    refine e_ret1 hR41 rfl rfl rfl ?_
    refine ⟨?_, hS31.fr⟩
    exact congrArg Ending.returned (ret_i (by exact (lvChk_good (by have q := h36; simpa using q)).symm))
  · skip
    have h42 := not_f h34
    have h43 := of_decide_eq_true h42
    have hR44 := hR33.setb (d := 6) (b := true) rfl (by rw [h34]; rfl)
    refine wp_cond_true (hR44.ev rfl) ?_
    refine wp_seq_k (fun K45 hK46 => ?_)
    refine c_region ?_
    refine asg hR44 (fun a47 hR48 => ?_)
    refine wpList_nil (x_then_n (hK46 _ _ ?_))
    refine wp_ret ?_
    refine x_then_r ?_
    refine e_ret1 hR48 rfl rfl rfl ?_
    refine ⟨?_, hS31.fr⟩
    exact congrArg Ending.returned (ret_i (by exact (lvChk_bad (by have q := h43; simpa using q)).symm))

set_option maxRecDepth 100000 in
set_option maxHeartbeats 1000000 in
theorem most_calls (w0 : World) (Z : Nat → Prop) (hZ : ∀ k, Z k → k < w0.heap.size) (k : Int)  :
    Calls Tryd.prog 130 [.int .i64 k].toArray w0 (fun e w' => e = .returned (.int .i64 (most k)) ∧ Fr none_ w0 w') := by
  have hstart : ∀ k, Z k → imm Z w0 [] w0 k ∧ w0.heap[k]? = w0.heap[k]? := fun k hk => ⟨⟨hZ k hk, fun _ => hk, fun _ h => by cases h⟩, rfl⟩
  have hS3 : St w0 Z none_ w0 [] [] := St.start w0 Z none_ _ (by
    intro d hd
    cases hd
    )
  refine c_enter Tryd.func130 rfl Tryd.ntmps130 rfl (fun a1 hR2 => ?_)
  refine wp_seq_k (fun K4 hK5 => ?_)
  refine c_region ?_
  refine asg hR2 (fun a6 hR7 => ?_)
  refine wpList_nil (x_then_n (hK5 _ _ ?_))
  refine wp_seq_k (fun K8 hK9 => ?_)
  refine wp_seq_k (fun K10 hK11 => ?_)
  refine c_region ?_
  refine mv hR7 (fun a12 hR13 => ?_)
  refine wpList_nil (x_then_n (hK11 _ _ ?_))
  refine wp_block ?_
  refine wp_seq_k (fun K14 hK15 => ?_)
  refine c_region ?_
  refine r_eql sv hR13 rfl rfl rfl rfl (by decide) (fun a16 hR17 => ?_)
  refine asg hR17 (fun a18 hR19 => ?_)
  refine wpList_nil (x_then_n (hK15 _ _ ?_))
  rcases Decidable.em ((k) = 0) with h20 | h20
  · skip
    have hR21 := hR19.setb (d := 4) (b := true) rfl (decide_eq_true h20)
    refine wp_cond_true (hR21.ev rfl) ?_
    refine wp_seq_k (fun K22 hK23 => ?_)
    refine c_region ?_
    refine asg hR21 (fun a24 hR25 => ?_)
    refine wpList_nil (x_then_n (hK23 _ _ ?_))
    refine wp_ret ?_
    refine x_block_r ?_
    refine x_then_r ?_
    refine e_ret1 hR25 rfl rfl rfl ?_
    refine ⟨?_, hS3.fr⟩
    exact congrArg Ending.returned (ret_i (by have q0 := h20; (try simp at q0);  unfold most; (repeat' split) <;> omega))
  · skip
    have hR26 := hR19.setb (d := 4) (b := false) rfl (decide_eq_false h20)
    refine wp_cond_false (hR26.ev rfl) ?_
    refine c_join (fun ga gw => Reg ga 9 [(2, .int .i64 0), (6, .bool ((decide ((k) = 3)) || (decide ((k) = 6)))), (1000000, .bool false)] ∧ St w0 Z none_ gw [] []) ?_ ?_
    · skip
      refine wp_seq_k (fun K27 hK28 => ?_)
      refine c_region ?_
      refine r_eql sv hR26 rfl rfl rfl rfl (by decide) (fun a29 hR30 => ?_)
      refine asg hR30 (fun a31 hR32 => ?_)
      refine wpList_nil (x_then_n (hK28 _ _ ?_))
      rcases Decidable.em ((k) = 3) with h33 | h33
      · skip
        have hR34 := hR32.setb (d := 6) (b := true) rfl (decide_eq_true h33)
        refine wp_cond_true (hR34.ev rfl) ?_
        refine wp_skip ?_
        exact x_then_n ⟨(hR34.sub (rc rfl (rc (rb rfl (by first | rfl | (simp only [decide_eq_true h33, if_pos h33, bl]; done) | (simp [h33]; done) | (simp [h33]; omega))) (rc rfl rnl)))), hS3⟩
      · skip
        have hR35 := hR32.setb (d := 6) (b := false) rfl (decide_eq_false h33)
        refine wp_cond_false (hR35.ev rfl) ?_
        refine c_region ?_
        refine r_eql sv hR35 rfl rfl rfl rfl (by decide) (fun a36 hR37 => ?_)
        refine asg hR37 (fun a38 hR39 => ?_)
        refine wpList_nil ?_
        exact x_then_n ⟨(hR39.sub (rc rfl (rc (rb rfl (by first | rfl | (simp only [decide_eq_false h33, if_neg h33, bl]; done) | (simp [h33]; done) | (simp [h33]; omega))) (rc rfl rnl)))), hS3⟩
    rintro a40 w41 ⟨hR42, hS43⟩
    rcases Bool.eq_false_or_eq_true (((decide ((k) = 3)) || (decide ((k) = 6)))) with h44 | h44
    · skip
      have hq45 := h44
      try simp only [Bool.or_eq_true, Bool.and_eq_true, Bool.not_eq_true', Bool.not_eq_false', decide_eq_true_eq, decide_eq_false_iff_not, Bool.or_eq_false_iff, Bool.and_eq_false_iff] at hq45
      have hR46 := hR42.setb (d := 6) (b := true) rfl h44
      refine wp_cond_true (hR46.ev rfl) ?_
      refine wp_seq_k (fun K47 hK48 => ?_)
      refine c_region ?_
      refine asg hR46 (fun a49 hR50 => ?_)
      refine wpList_nil (x_then_n (hK48 _ _ ?_))
      refine wp_ret ?_
      refine x_block_r ?_
      refine x_then_r ?_
      refine e_ret1 hR50 rfl rfl rfl ?_
      refine ⟨?_, hS43.fr⟩
      exact congrArg Ending.returned (ret_i (by have q0 := h20; (try simp at q0); have q1 := h44; (try simp at q1);  unfold most; (repeat' split) <;> omega))
    · skip
      have h51 := or_fl h44
      have h52 := of_decide_eq_false h51
      have h53 := or_fr h44
      have h54 := of_decide_eq_false h53
      have hR55 := hR42.setb (d := 6) (b := false) rfl h44
      refine wp_cond_false (hR55.ev rfl) ?_
      refine wp_skip ?_
      refine x_block_n ?_
      refine x_then_n (hK9 _ _ ?_)
      refine wp_seq_k (fun K56 hK57 => ?_)
      refine c_region ?_
      refine asg hR55 (fun a58 hR59 => ?_)
      refine wpList_nil (x_then_n (hK57 _ _ ?_))
      refine wp_ret ?_
      refine e_ret1 hR59 rfl rfl rfl ?_
      refine ⟨?_, hS43.fr⟩
      exact congrArg Ending.returned (ret_i (by have q0 := h20; (try simp at q0); have q1 := h44; (try simp at q1); have q2 := h52; (try simp at q2); have q3 := h54; (try simp at q3);  unfold most; (repeat' split) <;> omega))

set_option maxRecDepth 100000 in
set_option maxHeartbeats 1000000 in
theorem many_calls (w0 : World) (Z : Nat → Prop) (hZ : ∀ k, Z k → k < w0.heap.size) (n : Nd) (hShp : Shapes w0 Z) (hr : right n = true) :
    Calls Tryd.prog 126 [.agg #[.int .i64 (n.K), .int .i64 (n.N), .int .i64 (n.M), .string n.S]].toArray w0 (fun e w' => e = .returned (.int .i64 ((many n : Nat) : Int)) ∧ Fr none_ w0 w') := by
  have hstart : ∀ k, Z k → imm Z w0 [] w0 k ∧ w0.heap[k]? = w0.heap[k]? := fun k hk => ⟨⟨hZ k hk, fun _ => hk, fun _ h => by cases h⟩, rfl⟩
  have hS3 : St w0 Z none_ w0 [] [dShapes] := St.start w0 Z none_ _ (by
    intro d hd
    simp only [List.mem_cons, List.not_mem_nil, or_false] at hd
    rcases hd with rfl
    · exact Dat.mono _ _ _ _ _ (Nat.le_refl _) hShp hstart
    )
  obtain ⟨hK1, hK2⟩ := right_K hr
  refine c_enter Tryd.func126 rfl Tryd.ntmps126 rfl (fun a1 hR2 => ?_)
  refine wp_seq_k (fun K4 hK5 => ?_)
  refine c_region ?_
  refine m_box (cs := [.int .i64 (n.K), .int .i64 (n.N), .int .i64 (n.M), .string n.S]) sv hR2 hS3 rfl rfl rfl rfl (by decide) (fun a6 w7 g8 hR9 hS10 => ?_)
  refine asg hR9 (fun a11 hR12 => ?_)
  refine wpList_nil (x_then_n (hK5 _ _ ?_))
  refine wp_seq_k (fun K13 hK14 => ?_)
  refine wp_seq_k (fun K15 hK16 => ?_)
  refine c_region ?_
  refine m_field (j' := 0) sv hR12 rfl rfl rfl Tryd.underlying32 rfl sz3 rfl rfl (by decide) (fun a17 hR18 => ?_)
  refine m_load (i := 0) sv hR18 hS10 rfl rfl rfl rfl rfl Tryd.underlying3 rfl (by decide) (fun a19 hR20 => ?_)
  refine wpList_nil (x_then_n (hK16 _ _ ?_))
  refine wp_block ?_
  refine wp_seq_k (fun K21 hK22 => ?_)
  refine c_region ?_
  refine r_eql sv hR20 rfl rfl rfl rfl (by decide) (fun a23 hR24 => ?_)
  refine asg hR24 (fun a25 hR26 => ?_)
  refine wpList_nil (x_then_n (hK22 _ _ ?_))
  rcases Decidable.em ((n.K) = 26) with h27 | h27
  · skip
    have hR28 := hR26.setb (d := 5) (b := true) rfl (decide_eq_true h27)
    refine wp_cond_true (hR28.ev rfl) ?_
    refine wp_seq_k (fun K29 hK30 => ?_)
    refine c_region ?_
    refine m_field (j' := 2) sv hR28 rfl rfl rfl Tryd.underlying32 rfl sz3 rfl rfl (by decide) (fun a31 hR32 => ?_)
    refine m_load (i := 0) sv hR32 hS10 rfl rfl rfl rfl rfl Tryd.underlying3 rfl (by decide) (fun a33 hR34 => ?_)
    refine asg hR34 (fun a35 hR36 => ?_)
    refine wpList_nil (x_then_n (hK30 _ _ ?_))
    refine wp_ret ?_
    refine x_block_r ?_
    refine x_then_r ?_
    refine e_ret1 hR36 rfl rfl rfl ?_
    refine ⟨?_, hS10.fr⟩
    exact congrArg Ending.returned (ret_i (by first | exact many_con hr (by omega) | exact many_elim hr (by omega) | exact many_oth (by omega) (by omega)))
  · skip
    have hR37 := hR26.setb (d := 5) (b := false) rfl (decide_eq_false h27)
    refine wp_cond_false (hR37.ev rfl) ?_
    refine wp_seq_k (fun K38 hK39 => ?_)
    refine c_region ?_
    refine r_eql sv hR37 rfl rfl rfl rfl (by decide) (fun a40 hR41 => ?_)
    refine asg hR41 (fun a42 hR43 => ?_)
    refine wpList_nil (x_then_n (hK39 _ _ ?_))
    rcases Decidable.em ((n.K) = 27) with h44 | h44
    · skip
      obtain ⟨he1, he2⟩ := right_elim hr h44
      have hR45 := hR43.setb (d := 9) (b := true) rfl (decide_eq_true h44)
      refine wp_cond_true (hR45.ev rfl) ?_
      refine wp_seq_k (fun K46 hK47 => ?_)
      refine c_region ?_
      refine m_field (j' := 2) sv hR45 rfl rfl rfl Tryd.underlying32 rfl sz3 rfl rfl (by decide) (fun a48 hR49 => ?_)
      refine m_load (i := 0) sv hR49 hS10 rfl rfl rfl rfl rfl Tryd.underlying3 rfl (by decide) (fun a50 hR51 => ?_)
      refine r_add (z := (n.M + 2)) sv hR51 rfl rfl rfl rfl (by decide) (by omega) (by omega) (by omega) (fun a52 hR53 => ?_)
      refine asg hR53 (fun a54 hR55 => ?_)
      refine wpList_nil (x_then_n (hK47 _ _ ?_))
      refine wp_ret ?_
      refine x_block_r ?_
      refine x_then_r ?_
      refine e_ret1 hR55 rfl rfl rfl ?_
      refine ⟨?_, hS10.fr⟩
      exact congrArg Ending.returned (ret_i (by first | exact many_con hr (by omega) | exact many_elim hr (by omega) | exact many_oth (by omega) (by omega)))
    · skip
      have hR56 := hR43.setb (d := 9) (b := false) rfl (decide_eq_false h44)
      refine wp_cond_false (hR56.ev rfl) ?_
      refine wp_skip ?_
      refine x_block_n ?_
      refine x_then_n (hK14 _ _ ?_)
      refine wp_seq_k (fun K57 hK58 => ?_)
      refine c_region ?_
      refine m_field (j' := 0) sv hR56 rfl rfl rfl Tryd.underlying32 rfl sz3 rfl rfl (by decide) (fun a59 hR60 => ?_)
      refine m_load (i := 0) sv hR60 hS10 rfl rfl rfl rfl rfl Tryd.underlying3 rfl (by decide) (fun a61 hR62 => ?_)
      refine m_indexA (i := ((n.K)).toNat) (j := (((n.K)).toNat) * 4) sv hR62 rfl rfl rfl rfl Tryd.underlying130 sz129 (by omega) (by omega) rfl (by decide) (fun a63 hR64 => ?_)
      refine m_fieldE (j' := (((n.K)).toNat) * 4) sv hR64 rfl rfl rfl rfl Tryd.underlying129 rfl sz66 rfl rfl (by decide) (fun a65 hR66 => ?_)
      obtain ⟨A67, c68, hd69, he70⟩ := shapes_at (hS10.get (i := 0) rfl) (((n.K)).toNat) (by omega)
      have hS71 := hS10.data (dRow 1 A67 (shp (((n.K)).toNat)).b.length c68 (encIs (shp (((n.K)).toNat)).b)) hd69
      refine m_loadE sv hR66 rfl rfl rfl 0 ((((n.K)).toNat) * 4) he70 rfl rfl Tryd.underlying66 rfl (by decide) (fun a72 hR73 => ?_)
      refine r_len sv hR73 rfl rfl rfl rfl Tryd.underlying66 (by decide) (fun a74 hR75 => ?_)
      refine asg hR75 (fun a76 hR77 => ?_)
      refine wpList_nil (x_then_n (hK58 _ _ ?_))
      refine wp_ret ?_
      refine e_ret1 hR77 rfl rfl rfl ?_
      refine ⟨?_, hS71.fr⟩
      exact congrArg Ending.returned (ret_i (by first | exact many_con hr (by omega) | exact many_elim hr (by omega) | exact many_oth (by omega) (by omega)))

set_option maxRecDepth 100000 in
set_option maxHeartbeats 1000000 in
theorem name_calls (w0 : World) (Z : Nat → Prop) (hZ : ∀ k, Z k → k < w0.heap.size) (s : ByteArray) (hs : s.size < 1000000) :
    Calls Tryd.prog 128 [.string s].toArray w0 (fun e w' => e = .returned (.bool (nameOk s)) ∧ Fr none_ w0 w') := by
  have hstart : ∀ k, Z k → imm Z w0 [] w0 k ∧ w0.heap[k]? = w0.heap[k]? := fun k hk => ⟨⟨hZ k hk, fun _ => hk, fun _ h => by cases h⟩, rfl⟩
  have hS3 : St w0 Z none_ w0 [] [] := St.start w0 Z none_ _ (by
    intro d hd
    cases hd
    )
  refine c_enter Tryd.func128 rfl Tryd.ntmps128 rfl (fun a1 hR2 => ?_)
  refine wp_seq_k (fun K4 hK5 => ?_)
  refine c_region ?_
  refine asg hR2 (fun a6 hR7 => ?_)
  refine wpList_nil (x_then_n (hK5 _ _ ?_))
  refine wp_seq_k (fun K8 hK9 => ?_)
  refine wp_seq_k (fun K10 hK11 => ?_)
  refine c_region ?_
  refine mv hR7 (fun a12 hR13 => ?_)
  refine r_lenS sv hR13 rfl rfl rfl rfl Tryd.underlying9 (by decide) (fun a14 hR15 => ?_)
  refine mv hR15 (fun a16 hR17 => ?_)
  refine wpList_nil (x_then_n (hK11 _ _ ?_))
  refine wp_block ?_
  refine wp_loop_ghost (fun gn ga gw => ∃ k : Nat, (Reg ga 48 [(1000000, .bool false), (0, .string s), (7, .int .i64 ((s.size : Nat) : Int)), (8, .int .i64 ((k : Nat) : Int))]) ∧ (St w0 Z none_ gw [] []) ∧ (k ≤ s.size) ∧ (nameTo s k) ∧ (s.size - k) = gn) _ ⟨0, (hR17.sub (rc rfl (rc rfl (rc rfl (rc rfl rnl))))), hS3, by omega, nameTo_zero s, rfl⟩ ?_
  rintro r18 a19 w20 ⟨k, hR21, hS22, hk, hi, hn23⟩
  refine wp_seq_k (fun K24 hK25 => ?_)
  refine c_region ?_
  refine r_lss sv hR21 rfl rfl rfl rfl (by decide) (fun a26 hR27 => ?_)
  refine wpList_nil (x_then_n (hK25 _ _ ?_))
  refine wp_seq_k (fun K28 hK29 => ?_)
  rcases Decidable.em (((k : Nat) : Int) < ((s.size : Nat) : Int)) with h30 | h30
  · skip
    have hR31 := hR27.setb (d := 9) (b := true) rfl (decide_eq_true h30)
    refine wp_cond_true (hR31.ev rfl) ?_
    refine wp_skip ?_
    refine x_then_n (hK29 _ _ ?_)
    refine wp_seq_k (fun K32 hK33 => ?_)
    refine wp_block ?_
    refine wp_seq_k (fun K34 hK35 => ?_)
    refine c_region ?_
    refine mv hR31 (fun a36 hR37 => ?_)
    refine asg hR37 (fun a38 hR39 => ?_)
    refine wpList_nil (x_then_n (hK35 _ _ ?_))
    refine wp_seq_k (fun K40 hK41 => ?_)
    refine c_region ?_
    refine mv hR39 (fun a42 hR43 => ?_)
    refine mv hR43 (fun a44 hR45 => ?_)
    refine r_byte (i := k) sv hR45 rfl rfl rfl rfl Tryd.underlying9 (by omega) (by omega) (by decide) (fun a46 hR47 => ?_)
    refine asg hR47 (fun a48 hR49 => ?_)
    refine wpList_nil (x_then_n (hK41 _ _ ?_))
    refine wp_seq_k (fun K50 hK51 => ?_)
    refine c_region ?_
    refine mv hR49 (fun a52 hR53 => ?_)
    refine r_int (v := .int .u8 ((orB (byteAt s k) 32 : Nat) : Int)) sv hR53 rfl rfl rfl rfl (by decide) (run_or8 (a := byteAt s k) (b := 32) (by first | exact byteAt_lt _ _ | omega) (by first | exact byteAt_lt _ _ | omega)) (fun a54 hR55 => ?_)
    refine r_geq sv hR55 rfl rfl rfl rfl (by decide) (fun a56 hR57 => ?_)
    refine mv hR57 (fun a58 hR59 => ?_)
    refine l_join (fun ga gw => Reg ga 48 [(0, .string s), (3, .int .i64 ((k : Nat) : Int)), (4, .int .u8 ((byteAt s k : Nat) : Int)), (7, .int .i64 ((s.size : Nat) : Int)), (8, .int .i64 ((k : Nat) : Int)), (21, .bool ((decide (97 ≤ ((orB (byteAt s k) 32 : Nat) : Int))) && (decide (((orB (byteAt s k) 32 : Nat) : Int) ≤ 122)))), (1000000, .bool false)] ∧ St w0 Z none_ gw [] []) 4 ?_ ?_
    · skip
      rcases Decidable.em (97 ≤ ((orB (byteAt s k) 32 : Nat) : Int)) with h60 | h60
      · skip
        have hR61 := hR59.setb (d := 17) (b := true) rfl (decide_eq_true h60)
        refine r_move (st_listV_w (wt hR61)) hR61 rfl rfl rfl (by decide) (fun a62 hR63 => ?_)
        refine r_int (v := .int .u8 ((orB (byteAt s k) 32 : Nat) : Int)) (st_listV_w (wt hR63)) hR63 rfl rfl rfl rfl (by decide) (run_or8 (a := byteAt s k) (b := 32) (by first | exact byteAt_lt _ _ | omega) (by first | exact byteAt_lt _ _ | omega)) (fun a64 hR65 => ?_)
        refine r_leq (st_listV_w (wt hR65)) hR65 rfl rfl rfl rfl (by decide) (fun a66 hR67 => ?_)
        refine r_pick_t sv hR67 rfl rfl rfl rfl (by decide) (fun a68 hR69 => ?_)
        refine wpList_nil ?_
        exact x_then_n ⟨(hR69.sub (rc rfl (rc rfl (rc rfl (rc rfl (rc rfl (rc (rb rfl (by first | rfl | (simp only [decide_eq_true h60, if_pos h60, bl]; done) | (simp [h60]; done) | (simp [h60]; omega))) (rc rfl rnl)))))))), hS22⟩
      · skip
        have hR70 := hR59.setb (d := 17) (b := false) rfl (decide_eq_false h60)
        refine sps hR70 (wff hR70) (fun a71 hR72 => ?_)
        refine sps hR72 (wff hR72) (fun a73 hR74 => ?_)
        refine sps hR74 (wff hR74) (fun a75 hR76 => ?_)
        refine r_pick_f sv hR76 rfl rfl rfl rfl (by decide) (fun a77 hR78 => ?_)
        refine wpList_nil ?_
        exact x_then_n ⟨(hR78.sub (rc rfl (rc rfl (rc rfl (rc rfl (rc rfl (rc (rb rfl (by first | rfl | (simp only [decide_eq_false h60, if_neg h60, bl]; done) | (simp [h60]; done) | (simp [h60]; omega))) (rc rfl rnl)))))))), hS22⟩
    rintro a79 w80 ⟨hR81, hS82⟩
    refine mv hR81 (fun a83 hR84 => ?_)
    refine l_join (fun ga gw => Reg ga 48 [(0, .string s), (3, .int .i64 ((k : Nat) : Int)), (4, .int .u8 ((byteAt s k : Nat) : Int)), (7, .int .i64 ((s.size : Nat) : Int)), (8, .int .i64 ((k : Nat) : Int)), (25, .bool (((decide (97 ≤ ((orB (byteAt s k) 32 : Nat) : Int))) && (decide (((orB (byteAt s k) 32 : Nat) : Int) ≤ 122))) || (decide (((byteAt s k : Nat) : Int) = 95)))), (1000000, .bool false)] ∧ St w0 Z none_ gw [] []) 3 ?_ ?_
    · skip
      rcases Bool.eq_false_or_eq_true (((decide (97 ≤ ((orB (byteAt s k) 32 : Nat) : Int))) && (decide (((orB (byteAt s k) 32 : Nat) : Int) ≤ 122)))) with h85 | h85
      · skip
        have h86 := and_tl h85
        have h87 := of_decide_eq_true h86
        have h88 := and_tr h85
        have h89 := of_decide_eq_true h88
        have hR90 := hR84.setb (d := 22) (b := true) rfl h85
        refine sps hR90 (wff hR90) (fun a91 hR92 => ?_)
        refine sps hR92 (wff hR92) (fun a93 hR94 => ?_)
        refine r_pick_t sv hR94 rfl rfl rfl rfl (by decide) (fun a95 hR96 => ?_)
        refine wpList_nil ?_
        exact x_then_n ⟨(hR96.sub (rc rfl (rc rfl (rc rfl (rc rfl (rc rfl (rc (rb rfl (by first | rfl | (simp only [h85, bl]; done) | (simp [h85]; done) | (simp [h85]; omega))) (rc rfl rnl)))))))), hS82⟩
      · skip
        have hq97 := h85
        try simp only [Bool.or_eq_true, Bool.and_eq_true, Bool.not_eq_true', Bool.not_eq_false', decide_eq_true_eq, decide_eq_false_iff_not, Bool.or_eq_false_iff, Bool.and_eq_false_iff] at hq97
        have hR98 := hR84.setb (d := 22) (b := false) rfl h85
        refine r_move (st_listV_w (wt hR98)) hR98 rfl rfl rfl (by decide) (fun a99 hR100 => ?_)
        refine r_eql (st_listV_w (wt hR100)) hR100 rfl rfl rfl rfl (by decide) (fun a101 hR102 => ?_)
        refine r_pick_f sv hR102 rfl rfl rfl rfl (by decide) (fun a103 hR104 => ?_)
        refine wpList_nil ?_
        exact x_then_n ⟨(hR104.sub (rc rfl (rc rfl (rc rfl (rc rfl (rc rfl (rc (rb rfl (by first | rfl | (simp only [h85, bl]; done) | (simp [h85]; done) | (simp [h85]; omega))) (rc rfl rnl)))))))), hS82⟩
    rintro a105 w106 ⟨hR107, hS108⟩
    refine asg hR107 (fun a109 hR110 => ?_)
    refine wpList_nil (x_then_n (hK51 _ _ ?_))
    refine wp_seq_k (fun K111 hK112 => ?_)
    refine c_region ?_
    refine mv hR110 (fun a113 hR114 => ?_)
    refine r_not sv hR114 rfl rfl rfl (by decide) (fun a115 hR116 => ?_)
    refine mv hR116 (fun a117 hR118 => ?_)
    refine l_join (fun ga gw => Reg ga 48 [(0, .string s), (7, .int .i64 ((s.size : Nat) : Int)), (8, .int .i64 ((k : Nat) : Int)), (39, .bool ((!(((decide (97 ≤ ((orB (byteAt s k) 32 : Nat) : Int))) && (decide (((orB (byteAt s k) 32 : Nat) : Int) ≤ 122))) || (decide (((byteAt s k : Nat) : Int) = 95)))) && ((decide (((k : Nat) : Int) = 0)) || ((decide (((byteAt s k : Nat) : Int) < 48)) || (decide (57 < ((byteAt s k : Nat) : Int))))))), (1000000, .bool false)] ∧ St w0 Z none_ gw [] []) 11 ?_ ?_
    · skip
      rcases Bool.eq_false_or_eq_true ((((decide (97 ≤ ((orB (byteAt s k) 32 : Nat) : Int))) && (decide (((orB (byteAt s k) 32 : Nat) : Int) ≤ 122))) || (decide (((byteAt s k : Nat) : Int) = 95)))) with h119 | h119
      · skip
        have hq120 := h119
        try simp only [Bool.or_eq_true, Bool.and_eq_true, Bool.not_eq_true', Bool.not_eq_false', decide_eq_true_eq, decide_eq_false_iff_not, Bool.or_eq_false_iff, Bool.and_eq_false_iff] at hq120
        have hR121 := hR118.setb (d := 28) (b := false) rfl (by rw [h119]; rfl)
        refine sps hR121 (wff hR121) (fun a122 hR123 => ?_)
        refine sps hR123 (wff hR123) (fun a124 hR125 => ?_)
        refine sps hR125 (wff hR125) (fun a126 hR127 => ?_)
        refine sps hR127 (wu hR127) (fun a128 hR129 => ?_)
        refine sps hR129 (wu hR129) (fun a130 hR131 => ?_)
        refine sps hR131 (wff hR131) (fun a132 hR133 => ?_)
        refine sps hR133 (wff hR133) (fun a134 hR135 => ?_)
        refine sps hR135 (wu hR135) (fun a136 hR137 => ?_)
        refine sps hR137 (wu hR137) (fun a138 hR139 => ?_)
        refine sps hR139 (wff hR139) (fun a140 hR141 => ?_)
        refine r_pick_f sv hR141 rfl rfl rfl rfl (by decide) (fun a142 hR143 => ?_)
        refine wpList_nil ?_
        exact x_then_n ⟨(hR143.sub (rc rfl (rc rfl (rc rfl (rc (rb rfl (by first | rfl | (simp only [h119, bl]; done) | (simp [h119]; done) | (simp [h119]; omega))) (rc rfl rnl)))))), hS108⟩
      · skip
        have h144 := or_fl h119
        have hq145 := h144
        try simp only [Bool.or_eq_true, Bool.and_eq_true, Bool.not_eq_true', Bool.not_eq_false', decide_eq_true_eq, decide_eq_false_iff_not, Bool.or_eq_false_iff, Bool.and_eq_false_iff] at hq145
        have h146 := or_fr h119
        have h147 := of_decide_eq_false h146
        have hR148 := hR118.setb (d := 28) (b := true) rfl (by rw [h119]; rfl)
        refine r_move (st_listV_w (wt hR148)) hR148 rfl rfl rfl (by decide) (fun a149 hR150 => ?_)
        refine r_eql (st_listV_w (wt hR150)) hR150 rfl rfl rfl rfl (by decide) (fun a151 hR152 => ?_)
        refine r_move (st_listV_w (wt hR152)) hR152 rfl rfl rfl (by decide) (fun a153 hR154 => ?_)
        rcases Decidable.em (((k : Nat) : Int) = 0) with h155 | h155
        · skip
          have hR156 := hR154.setb (d := 31) (b := true) rfl (decide_eq_true h155)
          refine sps hR156 (wff hR156) (fun a157 hR158 => ?_)
          refine sps hR158 (wff hR158) (fun a159 hR160 => ?_)
          refine r_pick_t (st_listV_w (wt hR160)) hR160 rfl rfl rfl rfl (by decide) (fun a161 hR162 => ?_)
          refine r_move (st_listV_w (wt hR162)) hR162 rfl rfl rfl (by decide) (fun a163 hR164 => ?_)
          refine sps hR164 (wff hR164) (fun a165 hR166 => ?_)
          refine sps hR166 (wff hR166) (fun a167 hR168 => ?_)
          refine r_pick_t (st_listV_w (wt hR168)) hR168 rfl rfl rfl rfl (by decide) (fun a169 hR170 => ?_)
          refine r_pick_t sv hR170 rfl rfl rfl rfl (by decide) (fun a171 hR172 => ?_)
          refine wpList_nil ?_
          exact x_then_n ⟨(hR172.sub (rc rfl (rc rfl (rc rfl (rc (rb rfl (by first | rfl | (simp only [h119, decide_eq_true h155, if_pos h155, bl]; done) | (simp [h119, h155]; done) | (simp [h119, h155]; omega))) (rc rfl rnl)))))), hS108⟩
        · skip
          have hR173 := hR154.setb (d := 31) (b := false) rfl (decide_eq_false h155)
          refine r_move (st_listV_w (wt hR173)) hR173 rfl rfl rfl (by decide) (fun a174 hR175 => ?_)
          refine r_lss (st_listV_w (wt hR175)) hR175 rfl rfl rfl rfl (by decide) (fun a176 hR177 => ?_)
          refine r_pick_f (st_listV_w (wt hR177)) hR177 rfl rfl rfl rfl (by decide) (fun a178 hR179 => ?_)
          refine r_move (st_listV_w (wt hR179)) hR179 rfl rfl rfl (by decide) (fun a180 hR181 => ?_)
          rcases Decidable.em (((byteAt s k : Nat) : Int) < 48) with h182 | h182
          · skip
            have hR183 := hR181.setb (d := 35) (b := true) rfl (decide_eq_true h182)
            refine sps hR183 (wff hR183) (fun a184 hR185 => ?_)
            refine sps hR185 (wff hR185) (fun a186 hR187 => ?_)
            refine r_pick_t (st_listV_w (wt hR187)) hR187 rfl rfl rfl rfl (by decide) (fun a188 hR189 => ?_)
            refine r_pick_t sv hR189 rfl rfl rfl rfl (by decide) (fun a190 hR191 => ?_)
            refine wpList_nil ?_
            exact x_then_n ⟨(hR191.sub (rc rfl (rc rfl (rc rfl (rc (rb rfl (by first | rfl | (simp only [h119, decide_eq_false h155, if_neg h155, decide_eq_true h182, if_pos h182, bl]; done) | (simp [h119, h155, h182]; done) | (simp [h119, h155, h182]; omega))) (rc rfl rnl)))))), hS108⟩
          · skip
            have hR192 := hR181.setb (d := 35) (b := false) rfl (decide_eq_false h182)
            refine r_move (st_listV_w (wt hR192)) hR192 rfl rfl rfl (by decide) (fun a193 hR194 => ?_)
            refine r_gtr (st_listV_w (wt hR194)) hR194 rfl rfl rfl rfl (by decide) (fun a195 hR196 => ?_)
            refine r_pick_f (st_listV_w (wt hR196)) hR196 rfl rfl rfl rfl (by decide) (fun a197 hR198 => ?_)
            refine r_pick_t sv hR198 rfl rfl rfl rfl (by decide) (fun a199 hR200 => ?_)
            refine wpList_nil ?_
            exact x_then_n ⟨(hR200.sub (rc rfl (rc rfl (rc rfl (rc (rb rfl (by first | rfl | (simp only [h119, decide_eq_false h155, if_neg h155, decide_eq_false h182, if_neg h182, bl]; done) | (simp [h119, h155, h182]; done) | (simp [h119, h155, h182]; omega))) (rc rfl rnl)))))), hS108⟩
    rintro a201 w202 ⟨hR203, hS204⟩
    refine wpList_nil (x_then_n (hK112 _ _ ?_))
    rcases Bool.eq_false_or_eq_true (((!(((decide (97 ≤ ((orB (byteAt s k) 32 : Nat) : Int))) && (decide (((orB (byteAt s k) 32 : Nat) : Int) ≤ 122))) || (decide (((byteAt s k : Nat) : Int) = 95)))) && ((decide (((k : Nat) : Int) = 0)) || ((decide (((byteAt s k : Nat) : Int) < 48)) || (decide (57 < ((byteAt s k : Nat) : Int))))))) with h205 | h205
    · skip
      have h206 := and_tl h205
      have h207 := not_t h206
      have h208 := or_fl h207
      have hq209 := h208
      try simp only [Bool.or_eq_true, Bool.and_eq_true, Bool.not_eq_true', Bool.not_eq_false', decide_eq_true_eq, decide_eq_false_iff_not, Bool.or_eq_false_iff, Bool.and_eq_false_iff] at hq209
      have h210 := or_fr h207
      have h211 := of_decide_eq_false h210
      have h212 := and_tr h205
      have hq213 := h212
      try simp only [Bool.or_eq_true, Bool.and_eq_true, Bool.not_eq_true', Bool.not_eq_false', decide_eq_true_eq, decide_eq_false_iff_not, Bool.or_eq_false_iff, Bool.and_eq_false_iff] at hq213
      have hR214 := hR203.setb (d := 39) (b := true) rfl h205
      refine wp_cond_true (hR214.ev rfl) ?_
      refine wp_seq_k (fun K215 hK216 => ?_)
      refine c_region ?_
      refine asg hR214 (fun a217 hR218 => ?_)
      refine wpList_nil (x_then_n (hK216 _ _ ?_))
      refine wp_ret ?_
      refine x_block_r ?_
      refine x_then_r ?_
      refine x_then_r ?_
      refine x_block_r ?_
      refine x_then_r ?_
      refine e_ret1 hR218 rfl rfl rfl ?_
      refine ⟨?_, hS204.fr⟩
      exact congrArg Ending.returned (ret_b (by first | exact (name_bad (k := k) (by omega) (by have q0 := h30; (try simp at q0); have q1 := h205; (try simp at q1); have q2 := h211; (try simp at q2);  unfold okC; omega)).symm | (rw [name_end hi (by omega)]; done) | (rw [name_end hi (by omega)]; simp [h30, h205, h211])))
    · skip
      have hq219 := h205
      try simp only [Bool.or_eq_true, Bool.and_eq_true, Bool.not_eq_true', Bool.not_eq_false', decide_eq_true_eq, decide_eq_false_iff_not, Bool.or_eq_false_iff, Bool.and_eq_false_iff] at hq219
      have hR220 := hR203.setb (d := 39) (b := false) rfl h205
      refine wp_cond_false (hR220.ev rfl) ?_
      refine wp_skip ?_
      refine x_block_n ?_
      refine x_then_n (hK33 _ _ ?_)
      refine c_region ?_
      refine r_add (z := ((k + 1 : Nat) : Int)) sv hR220 rfl rfl rfl rfl (by decide) (by omega) (by omega) (by omega) (fun a221 hR222 => ?_)
      refine mv hR222 (fun a223 hR224 => ?_)
      refine wpList_nil ?_
      exact ⟨_, by omega, k + 1, (hR224.sub (rc rfl (rc rfl (rc rfl (rc rfl rnl))))), hS204, by omega, nameTo_step hi (by have q0 := h30; (try simp at q0); have q1 := h205; (try simp at q1);  unfold okC; omega), rfl⟩
  · skip
    have hR225 := hR27.setb (d := 9) (b := false) rfl (decide_eq_false h30)
    refine wp_cond_false (hR225.ev rfl) ?_
    refine wp_exit ?_
    refine x_then_e ?_
    refine x_then_e ?_
    refine x_block_eq ?_
    refine x_then_n (hK9 _ _ ?_)
    refine wp_seq_k (fun K226 hK227 => ?_)
    refine c_region ?_
    refine mv hR225 (fun a228 hR229 => ?_)
    refine r_neqS sv hR229 rfl rfl rfl rfl (by decide) (fun a230 hR231 => ?_)
    refine mv hR231 (fun a232 hR233 => ?_)
    refine l_join (fun ga gw => Reg ga 48 [(47, .bool ((!(decide (s = (⟨#[]⟩ : ByteArray)))) && (decide (((s.size : Nat) : Int) ≤ 16)))), (1000000, .bool false)] ∧ St w0 Z none_ gw [] []) 4 ?_ ?_
    · skip
      rcases Decidable.em (s = (⟨#[]⟩ : ByteArray)) with h234 | h234
      · skip
        have hR235 := hR233.setb (d := 43) (b := false) rfl (by rw [(decide_eq_true h234)]; rfl)
        refine sps hR235 (wff hR235) (fun a236 hR237 => ?_)
        refine sps hR237 (wff hR237) (fun a238 hR239 => ?_)
        refine sps hR239 (wff hR239) (fun a240 hR241 => ?_)
        refine r_pick_f sv hR241 rfl rfl rfl rfl (by decide) (fun a242 hR243 => ?_)
        refine wpList_nil ?_
        exact x_then_n ⟨(hR243.sub (rc (rb rfl (by first | rfl | (simp only [decide_eq_true h234, if_pos h234, bl]; done) | (simp [h234]; done) | (simp [h234]; omega))) (rc rfl rnl))), hS22⟩
      · skip
        have hR244 := hR233.setb (d := 43) (b := true) rfl (by rw [(decide_eq_false h234)]; rfl)
        refine r_move (st_listV_w (wt hR244)) hR244 rfl rfl rfl (by decide) (fun a245 hR246 => ?_)
        refine r_lenS (st_listV_w (wt hR246)) hR246 rfl rfl rfl rfl Tryd.underlying9 (by decide) (fun a247 hR248 => ?_)
        refine r_leq (st_listV_w (wt hR248)) hR248 rfl rfl rfl rfl (by decide) (fun a249 hR250 => ?_)
        refine r_pick_t sv hR250 rfl rfl rfl rfl (by decide) (fun a251 hR252 => ?_)
        refine wpList_nil ?_
        exact x_then_n ⟨(hR252.sub (rc (rb rfl (by first | rfl | (simp only [decide_eq_false h234, if_neg h234, bl]; done) | (simp [h234]; done) | (simp [h234]; omega))) (rc rfl rnl))), hS22⟩
    rintro a253 w254 ⟨hR255, hS256⟩
    refine asg hR255 (fun a257 hR258 => ?_)
    refine wpList_nil (x_then_n (hK227 _ _ ?_))
    refine wp_ret ?_
    refine e_ret1 hR258 rfl rfl rfl ?_
    refine ⟨?_, hS256.fr⟩
    exact congrArg Ending.returned (ret_b (by first | exact (name_bad (k := k) (by omega) (by have q0 := h30; (try simp at q0);  unfold okC; omega)).symm | (rw [name_end hi (by omega)]; done) | (rw [name_end hi (by omega)]; simp [h30])))
end Go.Proofs.YtobgdeffhdefeaaDoor
/- Contracts of functions, one theorem each: what the call returns, and that nothing old is changed. Printed by gen.py. -/
namespace Go.Proofs.YtobgdeffhdefeaaDoor
open Go Go.RowKit
set_option linter.unusedSimpArgs false
set_option linter.unusedVariables false

set_option maxRecDepth 100000 in
set_option maxHeartbeats 1000000 in
theorem rlevel_calls (w0 : World) (Z : Nat → Prop) (hZ : ∀ k, Z k → k < w0.heap.size) (n : Int)  :
    Calls Tryd.prog 116 [.int .i64 n].toArray w0 (fun e w' => e = .returned (.bool (decide (0 ≤ n) && decide (n ≤ 9))) ∧ Fr none_ w0 w') := by
  have hstart : ∀ k, Z k → imm Z w0 [] w0 k ∧ w0.heap[k]? = w0.heap[k]? := fun k hk => ⟨⟨hZ k hk, fun _ => hk, fun _ h => by cases h⟩, rfl⟩
  have hS3 : St w0 Z none_ w0 [] [] := St.start w0 Z none_ _ (by
    intro d hd
    cases hd
    )
  refine c_enter Tryd.func116 rfl Tryd.ntmps116 rfl (fun a1 hR2 => ?_)
  refine wp_seq_k (fun K4 hK5 => ?_)
  refine c_region ?_
  refine asg hR2 (fun a6 hR7 => ?_)
  refine wpList_nil (x_then_n (hK5 _ _ ?_))
  refine wp_seq_k (fun K8 hK9 => ?_)
  refine c_region ?_
  refine mv hR7 (fun a10 hR11 => ?_)
  refine r_geq sv hR11 rfl rfl rfl rfl (by decide) (fun a12 hR13 => ?_)
  refine mv hR13 (fun a14 hR15 => ?_)
  refine l_join (fun ga gw => Reg ga 9 [(2, .bool false), (8, .bool ((decide (0 ≤ (n))) && (decide ((n) ≤ 9)))), (1000000, .bool false)] ∧ St w0 Z none_ gw [] []) 3 ?_ ?_
  · skip
    rcases Decidable.em (0 ≤ (n)) with h16 | h16
    · skip
      have hR17 := hR15.setb (d := 5) (b := true) rfl (decide_eq_true h16)
      refine r_move (st_listV_w (wt hR17)) hR17 rfl rfl rfl (by decide) (fun a18 hR19 => ?_)
      refine r_leq (st_listV_w (wt hR19)) hR19 rfl rfl rfl rfl (by decide) (fun a20 hR21 => ?_)
      refine r_pick_t sv hR21 rfl rfl rfl rfl (by decide) (fun a22 hR23 => ?_)
      refine wpList_nil ?_
      exact x_then_n ⟨(hR23.sub (rc rfl (rc (rb rfl (by first | rfl | (simp only [decide_eq_true h16, if_pos h16, bl]; done) | (simp [h16]; done) | (simp [h16]; omega))) (rc rfl rnl)))), hS3⟩
    · skip
      have hR24 := hR15.setb (d := 5) (b := false) rfl (decide_eq_false h16)
      refine sps hR24 (wff hR24) (fun a25 hR26 => ?_)
      refine sps hR26 (wff hR26) (fun a27 hR28 => ?_)
      refine r_pick_f sv hR28 rfl rfl rfl rfl (by decide) (fun a29 hR30 => ?_)
      refine wpList_nil ?_
      exact x_then_n ⟨(hR30.sub (rc rfl (rc (rb rfl (by first | rfl | (simp only [decide_eq_false h16, if_neg h16, bl]; done) | (simp [h16]; done) | (simp [h16]; omega))) (rc rfl rnl)))), hS3⟩
  rintro a31 w32 ⟨hR33, hS34⟩
  refine asg hR33 (fun a35 hR36 => ?_)
  refine wpList_nil (x_then_n (hK9 _ _ ?_))
  refine wp_ret ?_
  refine e_ret1 hR36 rfl rfl rfl ?_
  refine ⟨?_, hS34.fr⟩
  exact congrArg Ending.returned (ret_b (by first | rfl | omega | assumption | exact decide_eq_true (by assumption) | ( omega) | (simp []; done) | (simp [] at *; done) | (simp [] <;> omega) | (rw [Bool.eq_iff_iff]; simp [] <;> omega) | (rw [Bool.eq_iff_iff]; simp [] at * <;> omega)))

set_option maxRecDepth 100000 in
set_option maxHeartbeats 1000000 in
theorem rlvCheck_calls (w0 : World) (Z : Nat → Prop) (hZ : ∀ k, Z k → k < w0.heap.size) (n : Int)  :
    Calls Tryd.prog 78 [.int .i64 n].toArray w0 (fun e w' => e = .returned (.int .i64 (lvChk n)) ∧ Fr none_ w0 w') := by
  have hstart : ∀ k, Z k → imm Z w0 [] w0 k ∧ w0.heap[k]? = w0.heap[k]? := fun k hk => ⟨⟨hZ k hk, fun _ => hk, fun _ h => by cases h⟩, rfl⟩
  have hS3 : St w0 Z none_ w0 [] [] := St.start w0 Z none_ _ (by
    intro d hd
    cases hd
    )
  refine c_enter Tryd.func78 rfl Tryd.ntmps78 rfl (fun a1 hR2 => ?_)
  refine wp_seq_k (fun K4 hK5 => ?_)
  refine c_region ?_
  refine asg hR2 (fun a6 hR7 => ?_)
  refine wpList_nil (x_then_n (hK5 _ _ ?_))
  refine wp_seq_k (fun K8 hK9 => ?_)
  refine wp_seq_k (fun K10 hK11 => ?_)
  refine c_region ?_
  refine mv hR7 (fun a12 hR13 => ?_)
  have hS14 : St w0 Z none_ w0 [] [] := hS3
  refine k_call (xs := [.tmp 3]) se hR13 rfl rfl rfl (by decide) ok116 (rlevel_calls _ (imm Z w0 [] _) (fun _ h => h.1) (n)) ?_
  rintro e21 w16 ⟨rfl, hf19⟩
  have hS22 := hS14.below hf19.below
  refine ⟨_, rfl, fun a15 hR17 => ?_⟩
  refine r_not sv hR17 rfl rfl rfl (by decide) (fun a23 hR24 => ?_)
  refine wpList_nil (x_then_n (hK11 _ _ ?_))
  rcases Bool.eq_false_or_eq_true (decide (0 ≤ (n)) && decide ((n) ≤ 9)) with h25 | h25
  · skip
    have h26 := and_tl h25
    have h27 := of_decide_eq_true h26
    have h28 := and_tr h25
    have h29 := of_decide_eq_true h28
    have hR30 := hR24.setb (d := 5) (b := false) rfl (by rw [h25]; rfl)
    refine wp_cond_false (hR30.ev rfl) ?_
    refine wp_skip ?_
    refine x_then_n (hK9 _ _ ?_)
    refine wp_seq_k (fun K31 hK32 => ?_)
    refine c_region ?_
    refine asg hR30 (fun a33 hR34 => ?_)
    refine wpList_nil (x_then_n (hK32 _ _ ?_))
    refine wp_ret ?_
    refine e_ret1 hR34 rfl rfl rfl ?_
    refine ⟨?_, hS22.fr⟩
    exact congrArg Ending.returned (ret_i (by have q0 := h25; (try simp at q0); have q1 := h27; (try simp at q1); have q2 := h29; (try simp at q2);  unfold lvChk; (try split) <;> first | rfl | omega))
  · skip
    have hq35 := h25
    try simp only [Bool.or_eq_true, Bool.and_eq_true, Bool.not_eq_true', Bool.not_eq_false', decide_eq_true_eq, decide_eq_false_iff_not, Bool.or_eq_false_iff, Bool.and_eq_false_iff] at hq35
    have hR36 := hR24.setb (d := 5) (b := true) rfl (by rw [h25]; rfl)
    refine wp_cond_true (hR36.ev rfl) ?_
    refine wp_seq_k (fun K37 hK38 => ?_)
    refine c_region ?_
    refine asg hR36 (fun a39 hR40 => ?_)
    refine wpList_nil (x_then_n (hK38 _ _ ?_))
    refine wp_ret ?_
    refine x_then_r ?_
    refine e_ret1 hR40 rfl rfl rfl ?_
    refine ⟨?_, hS22.fr⟩
    exact congrArg Ending.returned (ret_i (by have q0 := h25; (try simp at q0);  unfold lvChk; (try split) <;> first | rfl | omega))

set_option maxRecDepth 100000 in
set_option maxHeartbeats 1000000 in
theorem rletter_calls (w0 : World) (Z : Nat → Prop) (hZ : ∀ k, Z k → k < w0.heap.size) (c : Nat)  :
    Calls Tryd.prog 115 [.int .u8 ((c : Nat) : Int)].toArray w0 (fun e w' => e = .returned (.bool (letN c)) ∧ Fr none_ w0 w') := by
  have hstart : ∀ k, Z k → imm Z w0 [] w0 k ∧ w0.heap[k]? = w0.heap[k]? := fun k hk => ⟨⟨hZ k hk, fun _ => hk, fun _ h => by cases h⟩, rfl⟩
  have hS3 : St w0 Z none_ w0 [] [] := St.start w0 Z none_ _ (by
    intro d hd
    cases hd
    )
  refine c_enter Tryd.func115 rfl Tryd.ntmps115 rfl (fun a1 hR2 => ?_)
  refine wp_seq_k (fun K4 hK5 => ?_)
  refine c_region ?_
  refine asg hR2 (fun a6 hR7 => ?_)
  refine wpList_nil (x_then_n (hK5 _ _ ?_))
  refine wp_seq_k (fun K8 hK9 => ?_)
  refine c_region ?_
  refine mv hR7 (fun a10 hR11 => ?_)
  refine r_geq sv hR11 rfl rfl rfl rfl (by decide) (fun a12 hR13 => ?_)
  refine mv hR13 (fun a14 hR15 => ?_)
  refine l_join (fun ga gw => Reg ga 21 [(0, .int .u8 ((c : Nat) : Int)), (2, .bool false), (8, .bool ((decide (97 ≤ ((c : Nat) : Int))) && (decide (((c : Nat) : Int) ≤ 122)))), (1000000, .bool false)] ∧ St w0 Z none_ gw [] []) 3 ?_ ?_
  · skip
    rcases Decidable.em (97 ≤ ((c : Nat) : Int)) with h16 | h16
    · skip
      have hR17 := hR15.setb (d := 5) (b := true) rfl (decide_eq_true h16)
      refine r_move (st_listV_w (wt hR17)) hR17 rfl rfl rfl (by decide) (fun a18 hR19 => ?_)
      refine r_leq (st_listV_w (wt hR19)) hR19 rfl rfl rfl rfl (by decide) (fun a20 hR21 => ?_)
      refine r_pick_t sv hR21 rfl rfl rfl rfl (by decide) (fun a22 hR23 => ?_)
      refine wpList_nil ?_
      exact x_then_n ⟨(hR23.sub (rc rfl (rc rfl (rc (rb rfl (by first | rfl | (simp only [decide_eq_true h16, if_pos h16, bl]; done) | (simp [h16]; done) | (simp [h16]; omega))) (rc rfl rnl))))), hS3⟩
    · skip
      have hR24 := hR15.setb (d := 5) (b := false) rfl (decide_eq_false h16)
      refine sps hR24 (wff hR24) (fun a25 hR26 => ?_)
      refine sps hR26 (wff hR26) (fun a27 hR28 => ?_)
      refine r_pick_f sv hR28 rfl rfl rfl rfl (by decide) (fun a29 hR30 => ?_)
      refine wpList_nil ?_
      exact x_then_n ⟨(hR30.sub (rc rfl (rc rfl (rc (rb rfl (by first | rfl | (simp only [decide_eq_false h16, if_neg h16, bl]; done) | (simp [h16]; done) | (simp [h16]; omega))) (rc rfl rnl))))), hS3⟩
  rintro a31 w32 ⟨hR33, hS34⟩
  refine mv hR33 (fun a35 hR36 => ?_)
  refine l_join (fun ga gw => Reg ga 21 [(0, .int .u8 ((c : Nat) : Int)), (2, .bool false), (16, .bool (((decide (97 ≤ ((c : Nat) : Int))) && (decide (((c : Nat) : Int) ≤ 122))) || ((decide (65 ≤ ((c : Nat) : Int))) && (decide (((c : Nat) : Int) ≤ 90))))), (1000000, .bool false)] ∧ St w0 Z none_ gw [] []) 7 ?_ ?_
  · skip
    rcases Bool.eq_false_or_eq_true (((decide (97 ≤ ((c : Nat) : Int))) && (decide (((c : Nat) : Int) ≤ 122)))) with h37 | h37
    · skip
      have h38 := and_tl h37
      have h39 := of_decide_eq_true h38
      have h40 := and_tr h37
      have h41 := of_decide_eq_true h40
      have hR42 := hR36.setb (d := 9) (b := true) rfl h37
      refine sps hR42 (wff hR42) (fun a43 hR44 => ?_)
      refine sps hR44 (wff hR44) (fun a45 hR46 => ?_)
      refine sps hR46 (wff hR46) (fun a47 hR48 => ?_)
      refine sps hR48 (wu hR48) (fun a49 hR50 => ?_)
      refine sps hR50 (wu hR50) (fun a51 hR52 => ?_)
      refine sps hR52 (wff hR52) (fun a53 hR54 => ?_)
      refine r_pick_t sv hR54 rfl rfl rfl rfl (by decide) (fun a55 hR56 => ?_)
      refine wpList_nil ?_
      exact x_then_n ⟨(hR56.sub (rc rfl (rc rfl (rc (rb rfl (by first | rfl | (simp only [h37, bl]; done) | (simp [h37]; done) | (simp [h37]; omega))) (rc rfl rnl))))), hS34⟩
    · skip
      have hq57 := h37
      try simp only [Bool.or_eq_true, Bool.and_eq_true, Bool.not_eq_true', Bool.not_eq_false', decide_eq_true_eq, decide_eq_false_iff_not, Bool.or_eq_false_iff, Bool.and_eq_false_iff] at hq57
      have hR58 := hR36.setb (d := 9) (b := false) rfl h37
      refine r_move (st_listV_w (wt hR58)) hR58 rfl rfl rfl (by decide) (fun a59 hR60 => ?_)
      refine r_geq (st_listV_w (wt hR60)) hR60 rfl rfl rfl rfl (by decide) (fun a61 hR62 => ?_)
      refine r_move (st_listV_w (wt hR62)) hR62 rfl rfl rfl (by decide) (fun a63 hR64 => ?_)
      rcases Decidable.em (65 ≤ ((c : Nat) : Int)) with h65 | h65
      · skip
        have hR66 := hR64.setb (d := 12) (b := true) rfl (decide_eq_true h65)
        refine r_move (st_listV_w (wt hR66)) hR66 rfl rfl rfl (by decide) (fun a67 hR68 => ?_)
        refine r_leq (st_listV_w (wt hR68)) hR68 rfl rfl rfl rfl (by decide) (fun a69 hR70 => ?_)
        refine r_pick_t (st_listV_w (wt hR70)) hR70 rfl rfl rfl rfl (by decide) (fun a71 hR72 => ?_)
        refine r_pick_f sv hR72 rfl rfl rfl rfl (by decide) (fun a73 hR74 => ?_)
        refine wpList_nil ?_
        exact x_then_n ⟨(hR74.sub (rc rfl (rc rfl (rc (rb rfl (by first | rfl | (simp only [h37, decide_eq_true h65, if_pos h65, bl]; done) | (simp [h37, h65]; done) | (simp [h37, h65]; omega))) (rc rfl rnl))))), hS34⟩
      · skip
        have hR75 := hR64.setb (d := 12) (b := false) rfl (decide_eq_false h65)
        refine sps hR75 (wff hR75) (fun a76 hR77 => ?_)
        refine sps hR77 (wff hR77) (fun a78 hR79 => ?_)
        refine r_pick_f (st_listV_w (wt hR79)) hR79 rfl rfl rfl rfl (by decide) (fun a80 hR81 => ?_)
        refine r_pick_f sv hR81 rfl rfl rfl rfl (by decide) (fun a82 hR83 => ?_)
        refine wpList_nil ?_
        exact x_then_n ⟨(hR83.sub (rc rfl (rc rfl (rc (rb rfl (by first | rfl | (simp only [h37, decide_eq_false h65, if_neg h65, bl]; done) | (simp [h37, h65]; done) | (simp [h37, h65]; omega))) (rc rfl rnl))))), hS34⟩
  rintro a84 w85 ⟨hR86, hS87⟩
  refine mv hR86 (fun a88 hR89 => ?_)
  refine l_join (fun ga gw => Reg ga 21 [(2, .bool false), (20, .bool ((((decide (97 ≤ ((c : Nat) : Int))) && (decide (((c : Nat) : Int) ≤ 122))) || ((decide (65 ≤ ((c : Nat) : Int))) && (decide (((c : Nat) : Int) ≤ 90)))) || (decide (((c : Nat) : Int) = 95)))), (1000000, .bool false)] ∧ St w0 Z none_ gw [] []) 3 ?_ ?_
  · skip
    rcases Bool.eq_false_or_eq_true ((((decide (97 ≤ ((c : Nat) : Int))) && (decide (((c : Nat) : Int) ≤ 122))) || ((decide (65 ≤ ((c : Nat) : Int))) && (decide (((c : Nat) : Int) ≤ 90))))) with h90 | h90
    · skip
      have hq91 := h90
      try simp only [Bool.or_eq_true, Bool.and_eq_true, Bool.not_eq_true', Bool.not_eq_false', decide_eq_true_eq, decide_eq_false_iff_not, Bool.or_eq_false_iff, Bool.and_eq_false_iff] at hq91
      have hR92 := hR89.setb (d := 17) (b := true) rfl h90
      refine sps hR92 (wff hR92) (fun a93 hR94 => ?_)
      refine sps hR94 (wff hR94) (fun a95 hR96 => ?_)
      refine r_pick_t sv hR96 rfl rfl rfl rfl (by decide) (fun a97 hR98 => ?_)
      refine wpList_nil ?_
      exact x_then_n ⟨(hR98.sub (rc rfl (rc (rb rfl (by first | rfl | (simp only [h90, bl]; done) | (simp [h90]; done) | (simp [h90]; omega))) (rc rfl rnl)))), hS87⟩
    · skip
      have h99 := or_fl h90
      have hq100 := h99
      try simp only [Bool.or_eq_true, Bool.and_eq_true, Bool.not_eq_true', Bool.not_eq_false', decide_eq_true_eq, decide_eq_false_iff_not, Bool.or_eq_false_iff, Bool.and_eq_false_iff] at hq100
      have h101 := or_fr h90
      have hq102 := h101
      try simp only [Bool.or_eq_true, Bool.and_eq_true, Bool.not_eq_true', Bool.not_eq_false', decide_eq_true_eq, decide_eq_false_iff_not, Bool.or_eq_false_iff, Bool.and_eq_false_iff] at hq102
      have hR103 := hR89.setb (d := 17) (b := false) rfl h90
      refine r_move (st_listV_w (wt hR103)) hR103 rfl rfl rfl (by decide) (fun a104 hR105 => ?_)
      refine r_eql (st_listV_w (wt hR105)) hR105 rfl rfl rfl rfl (by decide) (fun a106 hR107 => ?_)
      refine r_pick_f sv hR107 rfl rfl rfl rfl (by decide) (fun a108 hR109 => ?_)
      refine wpList_nil ?_
      exact x_then_n ⟨(hR109.sub (rc rfl (rc (rb rfl (by first | rfl | (simp only [h90, bl]; done) | (simp [h90]; done) | (simp [h90]; omega))) (rc rfl rnl)))), hS87⟩
  rintro a110 w111 ⟨hR112, hS113⟩
  refine asg hR112 (fun a114 hR115 => ?_)
  refine wpList_nil (x_then_n (hK9 _ _ ?_))
  refine wp_ret ?_
  refine e_ret1 hR115 rfl rfl rfl ?_
  refine ⟨?_, hS113.fr⟩
  exact congrArg Ending.returned (ret_b (by first | rfl | ( rw [Bool.eq_iff_iff]; unfold letN; simp; omega)))

set_option maxRecDepth 100000 in
set_option maxHeartbeats 1000000 in
theorem rname_calls (w0 : World) (Z : Nat → Prop) (hZ : ∀ k, Z k → k < w0.heap.size) (s : ByteArray) (hs : s.size < 1000000) :
    Calls Tryd.prog 77 [.string s].toArray w0 (fun e w' => e = .returned (.bool (nameOk s)) ∧ Fr none_ w0 w') := by
  have hstart : ∀ k, Z k → imm Z w0 [] w0 k ∧ w0.heap[k]? = w0.heap[k]? := fun k hk => ⟨⟨hZ k hk, fun _ => hk, fun _ h => by cases h⟩, rfl⟩
  have hS3 : St w0 Z none_ w0 [] [] := St.start w0 Z none_ _ (by
    intro d hd
    cases hd
    )
  refine c_enter Tryd.func77 rfl Tryd.ntmps77 rfl (fun a1 hR2 => ?_)
  refine wp_seq_k (fun K4 hK5 => ?_)
  refine c_region ?_
  refine asg hR2 (fun a6 hR7 => ?_)
  refine wpList_nil (x_then_n (hK5 _ _ ?_))
  refine wp_seq_k (fun K8 hK9 => ?_)
  refine wp_seq_k (fun K10 hK11 => ?_)
  refine c_region ?_
  refine mv hR7 (fun a12 hR13 => ?_)
  refine r_lenS sv hR13 rfl rfl rfl rfl Tryd.underlying9 (by decide) (fun a14 hR15 => ?_)
  refine r_lss sv hR15 rfl rfl rfl rfl (by decide) (fun a16 hR17 => ?_)
  refine mv hR17 (fun a18 hR19 => ?_)
  refine l_join (fun ga gw => Reg ga 41 [(0, .string s), (2, .bool false), (11, .bool ((decide (((s.size : Nat) : Int) < 1)) || (decide (16 < ((s.size : Nat) : Int))))), (1000000, .bool false)] ∧ St w0 Z none_ gw [] []) 4 ?_ ?_
  · skip
    rcases Decidable.em (((s.size : Nat) : Int) < 1) with h20 | h20
    · skip
      have hR21 := hR19.setb (d := 7) (b := true) rfl (decide_eq_true h20)
      refine sps hR21 (wff hR21) (fun a22 hR23 => ?_)
      refine sps hR23 (wff hR23) (fun a24 hR25 => ?_)
      refine sps hR25 (wff hR25) (fun a26 hR27 => ?_)
      refine r_pick_t sv hR27 rfl rfl rfl rfl (by decide) (fun a28 hR29 => ?_)
      refine wpList_nil ?_
      exact x_then_n ⟨(hR29.sub (rc rfl (rc rfl (rc (rb rfl (by first | rfl | (simp only [decide_eq_true h20, if_pos h20, bl]; done) | (simp [h20]; done) | (simp [h20]; omega))) (rc rfl rnl))))), hS3⟩
    · skip
      have hR30 := hR19.setb (d := 7) (b := false) rfl (decide_eq_false h20)
      refine r_move (st_listV_w (wt hR30)) hR30 rfl rfl rfl (by decide) (fun a31 hR32 => ?_)
      refine r_lenS (st_listV_w (wt hR32)) hR32 rfl rfl rfl rfl Tryd.underlying9 (by decide) (fun a33 hR34 => ?_)
      refine r_gtr (st_listV_w (wt hR34)) hR34 rfl rfl rfl rfl (by decide) (fun a35 hR36 => ?_)
      refine r_pick_f sv hR36 rfl rfl rfl rfl (by decide) (fun a37 hR38 => ?_)
      refine wpList_nil ?_
      exact x_then_n ⟨(hR38.sub (rc rfl (rc rfl (rc (rb rfl (by first | rfl | (simp only [decide_eq_false h20, if_neg h20, bl]; done) | (simp [h20]; done) | (simp [h20]; omega))) (rc rfl rnl))))), hS3⟩
  rintro a39 w40 ⟨hR41, hS42⟩
  refine mv hR41 (fun a43 hR44 => ?_)
  refine l_join (fun ga gw => Reg ga 41 [(0, .string s), (2, .bool false), (17, .bool (((decide (((s.size : Nat) : Int) < 1)) || (decide (16 < ((s.size : Nat) : Int)))) || (!(letN (byteAt s 0))))), (1000000, .bool false)] ∧ St w0 Z none_ gw [] []) 5 ?_ ?_
  · skip
    rcases Bool.eq_false_or_eq_true (((decide (((s.size : Nat) : Int) < 1)) || (decide (16 < ((s.size : Nat) : Int))))) with h45 | h45
    · skip
      have hq46 := h45
      try simp only [Bool.or_eq_true, Bool.and_eq_true, Bool.not_eq_true', Bool.not_eq_false', decide_eq_true_eq, decide_eq_false_iff_not, Bool.or_eq_false_iff, Bool.and_eq_false_iff] at hq46
      have hR47 := hR44.setb (d := 12) (b := true) rfl h45
      refine sps hR47 (wff hR47) (fun a48 hR49 => ?_)
      refine sps hR49 (wff hR49) (fun a50 hR51 => ?_)
      refine sps hR51 (wff hR51) (fun a52 hR53 => ?_)
      refine sps hR53 (wff hR53) (fun a54 hR55 => ?_)
      refine r_pick_t sv hR55 rfl rfl rfl rfl (by decide) (fun a56 hR57 => ?_)
      refine wpList_nil ?_
      exact x_then_n ⟨(hR57.sub (rc rfl (rc rfl (rc (rb rfl (by first | rfl | (simp only [h45, bl]; done) | (simp [h45]; done) | (simp [h45]; omega))) (rc rfl rnl))))), hS42⟩
    · skip
      have h58 := or_fl h45
      have h59 := of_decide_eq_false h58
      have h60 := or_fr h45
      have h61 := of_decide_eq_false h60
      have hR62 := hR44.setb (d := 12) (b := false) rfl h45
      refine r_move (st_listV_w (wt hR62)) hR62 rfl rfl rfl (by decide) (fun a63 hR64 => ?_)
      refine r_byte (i := 0) (st_listV_w (wt hR64)) hR64 rfl rfl rfl rfl Tryd.underlying9 (by omega) (by omega) (by decide) (fun a65 hR66 => ?_)
      have hS67 : St w0 Z none_ w40 [] [] := hS42
      refine k_call (xs := [.tmp 14]) (st_list_w (wt hR66)) hR66 rfl rfl rfl (by decide) ok115 (rletter_calls _ (imm Z w0 [] _) (fun _ h => h.1) (byteAt s 0)) ?_
      rintro e74 w69 ⟨rfl, hf72⟩
      have hS75 := hS67.below hf72.below
      refine ⟨_, rfl, fun a68 hR70 => ?_⟩
      refine r_not (st_listV_w (wt hR70)) hR70 rfl rfl rfl (by decide) (fun a76 hR77 => ?_)
      refine r_pick_f sv hR77 rfl rfl rfl rfl (by decide) (fun a78 hR79 => ?_)
      refine wpList_nil ?_
      exact x_then_n ⟨(hR79.sub (rc rfl (rc rfl (rc (rb rfl (by first | rfl | (simp only [h45, bl]; done) | (simp [h45]; done) | (simp [h45]; omega))) (rc rfl rnl))))), hS75⟩
  rintro a80 w81 ⟨hR82, hS83⟩
  refine wpList_nil (x_then_n (hK11 _ _ ?_))
  rcases Bool.eq_false_or_eq_true ((((decide (((s.size : Nat) : Int) < 1)) || (decide (16 < ((s.size : Nat) : Int)))) || (!(letN (byteAt s 0))))) with h84 | h84
  · skip
    have hq85 := h84
    try simp only [Bool.or_eq_true, Bool.and_eq_true, Bool.not_eq_true', Bool.not_eq_false', decide_eq_true_eq, decide_eq_false_iff_not, Bool.or_eq_false_iff, Bool.and_eq_false_iff] at hq85
    have hR86 := hR82.setb (d := 17) (b := true) rfl h84
    refine wp_cond_true (hR86.ev rfl) ?_
    refine wp_seq_k (fun K87 hK88 => ?_)
    refine c_region ?_
    refine asg hR86 (fun a89 hR90 => ?_)
    refine wpList_nil (x_then_n (hK88 _ _ ?_))
    refine wp_ret ?_
    refine x_then_r ?_
    refine e_ret1 hR90 rfl rfl rfl ?_
    refine ⟨?_, hS83.fr⟩
    exact congrArg Ending.returned (ret_b (by first | exact (rname_bad (k := k) (by omega) (by assumption) (by omega)).symm | exact (rname_bad0 (by rcases hq85 with h | h; exact .inl (by omega); exact .inr h)).symm))
  · skip
    have h91 := or_fl h84
    have h92 := or_fl h91
    have h93 := of_decide_eq_false h92
    have h94 := or_fr h91
    have h95 := of_decide_eq_false h94
    have h96 := or_fr h84
    have h97 := not_f h96
    have hR98 := hR82.setb (d := 17) (b := false) rfl h84
    refine wp_cond_false (hR98.ev rfl) ?_
    refine wp_skip ?_
    refine x_then_n (hK9 _ _ ?_)
    refine wp_seq_k (fun K99 hK100 => ?_)
    refine wp_seq_k (fun K101 hK102 => ?_)
    refine c_region ?_
    refine asg hR98 (fun a103 hR104 => ?_)
    refine wpList_nil (x_then_n (hK102 _ _ ?_))
    refine wp_block ?_
    refine wp_loop_ghost (fun gn ga gw => ∃ k : Nat, (Reg ga 41 [(0, .string s), (1000000, .bool false), (3, .int .i64 ((k : Nat) : Int))]) ∧ (St w0 Z none_ gw [] []) ∧ (k ≤ s.size) ∧ (nameTo s k) ∧ (s.size - k) = gn) _ ⟨0, (hR104.sub (rc rfl (rc rfl (rc rfl rnl)))), hS83, by omega, nameTo_zero s, rfl⟩ ?_
    rintro r105 a106 w107 ⟨k, hR108, hS109, hk, hi, hn110⟩
    refine wp_seq_k (fun K111 hK112 => ?_)
    refine wp_seq_k (fun K113 hK114 => ?_)
    refine c_region ?_
    refine mv hR108 (fun a115 hR116 => ?_)
    refine mv hR116 (fun a117 hR118 => ?_)
    refine r_lenS sv hR118 rfl rfl rfl rfl Tryd.underlying9 (by decide) (fun a119 hR120 => ?_)
    refine r_lss sv hR120 rfl rfl rfl rfl (by decide) (fun a121 hR122 => ?_)
    refine wpList_nil (x_then_n (hK114 _ _ ?_))
    rcases Decidable.em (((k : Nat) : Int) < ((s.size : Nat) : Int)) with h123 | h123
    · skip
      have hR124 := hR122.setb (d := 21) (b := true) rfl (decide_eq_true h123)
      refine wp_cond_true (hR124.ev rfl) ?_
      refine wp_skip ?_
      refine x_then_n (hK112 _ _ ?_)
      refine wp_seq_k (fun K125 hK126 => ?_)
      refine wp_block ?_
      refine wp_seq_k (fun K127 hK128 => ?_)
      refine c_region ?_
      refine mv hR124 (fun a129 hR130 => ?_)
      refine mv hR130 (fun a131 hR132 => ?_)
      refine r_byte (i := k) sv hR132 rfl rfl rfl rfl Tryd.underlying9 (by omega) (by omega) (by decide) (fun a133 hR134 => ?_)
      have hS135 : St w0 Z none_ w107 [] [] := hS109
      refine k_call (xs := [.tmp 26]) se hR134 rfl rfl rfl (by decide) ok115 (rletter_calls _ (imm Z w0 [] _) (fun _ h => h.1) (byteAt s k)) ?_
      rintro e142 w137 ⟨rfl, hf140⟩
      have hS143 := hS135.below hf140.below
      refine ⟨_, rfl, fun a136 hR138 => ?_⟩
      refine r_not sv hR138 rfl rfl rfl (by decide) (fun a144 hR145 => ?_)
      refine mv hR145 (fun a146 hR147 => ?_)
      refine l_join (fun ga gw => Reg ga 41 [(0, .string s), (3, .int .i64 ((k : Nat) : Int)), (40, .bool ((!(letN (byteAt s k))) && ((decide (((byteAt s k : Nat) : Int) < 48)) || (decide (57 < ((byteAt s k : Nat) : Int)))))), (1000000, .bool false)] ∧ St w0 Z none_ gw [] []) 11 ?_ ?_
      · skip
        rcases Bool.eq_false_or_eq_true (letN (byteAt s k)) with h148 | h148
        · skip
          have hR149 := hR147.setb (d := 29) (b := false) rfl (by rw [h148]; rfl)
          refine sps hR149 (wff hR149) (fun a150 hR151 => ?_)
          refine sps hR151 (wff hR151) (fun a152 hR153 => ?_)
          refine sps hR153 (wff hR153) (fun a154 hR155 => ?_)
          refine sps hR155 (wff hR155) (fun a156 hR157 => ?_)
          refine sps hR157 (wff hR157) (fun a158 hR159 => ?_)
          refine sps hR159 (wu hR159) (fun a160 hR161 => ?_)
          refine sps hR161 (wu hR161) (fun a162 hR163 => ?_)
          refine sps hR163 (wu hR163) (fun a164 hR165 => ?_)
          refine sps hR165 (wu hR165) (fun a166 hR167 => ?_)
          refine sps hR167 (wff hR167) (fun a168 hR169 => ?_)
          refine r_pick_f sv hR169 rfl rfl rfl rfl (by decide) (fun a170 hR171 => ?_)
          refine wpList_nil ?_
          exact x_then_n ⟨(hR171.sub (rc rfl (rc rfl (rc (rb rfl (by first | rfl | (simp only [h148, bl]; done) | (simp [h148]; done) | (simp [h148]; omega))) (rc rfl rnl))))), hS143⟩
        · skip
          have hR172 := hR147.setb (d := 29) (b := true) rfl (by rw [h148]; rfl)
          refine r_move (st_listV_w (wt hR172)) hR172 rfl rfl rfl (by decide) (fun a173 hR174 => ?_)
          refine r_move (st_listV_w (wt hR174)) hR174 rfl rfl rfl (by decide) (fun a175 hR176 => ?_)
          refine r_byte (i := k) (st_listV_w (wt hR176)) hR176 rfl rfl rfl rfl Tryd.underlying9 (by omega) (by omega) (by decide) (fun a177 hR178 => ?_)
          refine r_lss (st_listV_w (wt hR178)) hR178 rfl rfl rfl rfl (by decide) (fun a179 hR180 => ?_)
          refine r_move (st_listV_w (wt hR180)) hR180 rfl rfl rfl (by decide) (fun a181 hR182 => ?_)
          rcases Decidable.em (((byteAt s k : Nat) : Int) < 48) with h183 | h183
          · skip
            have hR184 := hR182.setb (d := 34) (b := true) rfl (decide_eq_true h183)
            refine sps hR184 (wff hR184) (fun a185 hR186 => ?_)
            refine sps hR186 (wff hR186) (fun a187 hR188 => ?_)
            refine sps hR188 (wff hR188) (fun a189 hR190 => ?_)
            refine sps hR190 (wff hR190) (fun a191 hR192 => ?_)
            refine r_pick_t (st_listV_w (wt hR192)) hR192 rfl rfl rfl rfl (by decide) (fun a193 hR194 => ?_)
            refine r_pick_t sv hR194 rfl rfl rfl rfl (by decide) (fun a195 hR196 => ?_)
            refine wpList_nil ?_
            exact x_then_n ⟨(hR196.sub (rc rfl (rc rfl (rc (rb rfl (by first | rfl | (simp only [h148, decide_eq_true h183, if_pos h183, bl]; done) | (simp [h148, h183]; done) | (simp [h148, h183]; omega))) (rc rfl rnl))))), hS143⟩
          · skip
            have hR197 := hR182.setb (d := 34) (b := false) rfl (decide_eq_false h183)
            refine r_move (st_listV_w (wt hR197)) hR197 rfl rfl rfl (by decide) (fun a198 hR199 => ?_)
            refine r_move (st_listV_w (wt hR199)) hR199 rfl rfl rfl (by decide) (fun a200 hR201 => ?_)
            refine r_byte (i := k) (st_listV_w (wt hR201)) hR201 rfl rfl rfl rfl Tryd.underlying9 (by omega) (by omega) (by decide) (fun a202 hR203 => ?_)
            refine r_gtr (st_listV_w (wt hR203)) hR203 rfl rfl rfl rfl (by decide) (fun a204 hR205 => ?_)
            refine r_pick_f (st_listV_w (wt hR205)) hR205 rfl rfl rfl rfl (by decide) (fun a206 hR207 => ?_)
            refine r_pick_t sv hR207 rfl rfl rfl rfl (by decide) (fun a208 hR209 => ?_)
            refine wpList_nil ?_
            exact x_then_n ⟨(hR209.sub (rc rfl (rc rfl (rc (rb rfl (by first | rfl | (simp only [h148, decide_eq_false h183, if_neg h183, bl]; done) | (simp [h148, h183]; done) | (simp [h148, h183]; omega))) (rc rfl rnl))))), hS143⟩
      rintro a210 w211 ⟨hR212, hS213⟩
      refine wpList_nil (x_then_n (hK128 _ _ ?_))
      rcases Bool.eq_false_or_eq_true (((!(letN (byteAt s k))) && ((decide (((byteAt s k : Nat) : Int) < 48)) || (decide (57 < ((byteAt s k : Nat) : Int)))))) with h214 | h214
      · skip
        have h215 := and_tl h214
        have h216 := not_t h215
        have h217 := and_tr h214
        have hq218 := h217
        try simp only [Bool.or_eq_true, Bool.and_eq_true, Bool.not_eq_true', Bool.not_eq_false', decide_eq_true_eq, decide_eq_false_iff_not, Bool.or_eq_false_iff, Bool.and_eq_false_iff] at hq218
        have hR219 := hR212.setb (d := 40) (b := true) rfl h214
        refine wp_cond_true (hR219.ev rfl) ?_
        refine wp_seq_k (fun K220 hK221 => ?_)
        refine c_region ?_
        refine asg hR219 (fun a222 hR223 => ?_)
        refine wpList_nil (x_then_n (hK221 _ _ ?_))
        refine wp_ret ?_
        refine x_block_r ?_
        refine x_then_r ?_
        refine x_then_r ?_
        refine x_block_r ?_
        refine x_then_r ?_
        refine e_ret1 hR223 rfl rfl rfl ?_
        refine ⟨?_, hS213.fr⟩
        exact congrArg Ending.returned (ret_b (by first | exact (rname_bad (k := k) (by omega) (by assumption) (by omega)).symm | exact (rname_bad0 (by rcases hq218 with h | h; exact .inl (by omega); exact .inr h)).symm))
      · skip
        have hq224 := h214
        try simp only [Bool.or_eq_true, Bool.and_eq_true, Bool.not_eq_true', Bool.not_eq_false', decide_eq_true_eq, decide_eq_false_iff_not, Bool.or_eq_false_iff, Bool.and_eq_false_iff] at hq224
        have hR225 := hR212.setb (d := 40) (b := false) rfl h214
        refine wp_cond_false (hR225.ev rfl) ?_
        refine wp_skip ?_
        refine x_block_n ?_
        refine x_then_n (hK126 _ _ ?_)
        refine c_region ?_
        refine mv hR225 (fun a226 hR227 => ?_)
        refine r_add (z := ((k + 1 : Nat) : Int)) sv hR227 rfl rfl rfl rfl (by decide) (by omega) (by omega) (by omega) (fun a228 hR229 => ?_)
        refine asg hR229 (fun a230 hR231 => ?_)
        refine wpList_nil ?_
        exact ⟨_, by omega, k + 1, (hR231.sub (rc rfl (rc rfl (rc rfl rnl)))), hS213, by omega, nameTo_step hi (rname_step (by assumption) (by rcases hq224 with h | h; exact .inl h; exact .inr (by omega))), rfl⟩
    · skip
      have hR232 := hR122.setb (d := 21) (b := false) rfl (decide_eq_false h123)
      refine wp_cond_false (hR232.ev rfl) ?_
      refine wp_exit ?_
      refine x_then_e ?_
      refine x_then_e ?_
      refine x_block_eq ?_
      refine x_then_n (hK100 _ _ ?_)
      refine wp_seq_k (fun K233 hK234 => ?_)
      refine c_region ?_
      refine asg hR232 (fun a235 hR236 => ?_)
      refine wpList_nil (x_then_n (hK234 _ _ ?_))
      refine wp_ret ?_
      refine e_ret1 hR236 rfl rfl rfl ?_
      refine ⟨?_, hS109.fr⟩
      exact congrArg Ending.returned (ret_b (by exact (rname_end hi (by omega) (by omega) (by omega)).symm))

set_option maxRecDepth 100000 in
set_option maxHeartbeats 1000000 in
theorem rplain_calls (w0 : World) (Z : Nat → Prop) (hZ : ∀ k, Z k → k < w0.heap.size) (n : Nd)  :
    Calls Tryd.prog 79 [.agg #[.int .i64 (n.K), .int .i64 (n.N), .int .i64 (n.M), .string n.S]].toArray w0 (fun e w' => e = .returned (.bool (plainB n)) ∧ Fr none_ w0 w') := by
  have hstart : ∀ k, Z k → imm Z w0 [] w0 k ∧ w0.heap[k]? = w0.heap[k]? := fun k hk => ⟨⟨hZ k hk, fun _ => hk, fun _ h => by cases h⟩, rfl⟩
  have hS3 : St w0 Z none_ w0 [] [] := St.start w0 Z none_ _ (by
    intro d hd
    cases hd
    )
  refine c_enter Tryd.func79 rfl Tryd.ntmps79 rfl (fun a1 hR2 => ?_)
  refine wp_seq_k (fun K4 hK5 => ?_)
  refine c_region ?_
  refine m_box (cs := [.int .i64 (n.K), .int .i64 (n.N), .int .i64 (n.M), .string n.S]) sv hR2 hS3 rfl rfl rfl rfl (by decide) (fun a6 w7 g8 hR9 hS10 => ?_)
  refine asg hR9 (fun a11 hR12 => ?_)
  refine wpList_nil (x_then_n (hK5 _ _ ?_))
  refine wp_seq_k (fun K13 hK14 => ?_)
  refine c_region ?_
  refine m_field (j' := 1) sv hR12 rfl rfl rfl Tryd.underlying32 rfl sz3 rfl rfl (by decide) (fun a15 hR16 => ?_)
  refine m_load (i := 0) sv hR16 hS10 rfl rfl rfl rfl rfl Tryd.underlying3 rfl (by decide) (fun a17 hR18 => ?_)
  refine r_eql sv hR18 rfl rfl rfl rfl (by decide) (fun a19 hR20 => ?_)
  refine mv hR20 (fun a21 hR22 => ?_)
  refine l_join (fun ga gw => Reg ga 16 [(1, .pointer (some ⟨g8, 0, none⟩)), (2, .bool false), (10, .bool ((decide ((n.N) = 0)) && (decide ((n.M) = 0)))), (1000000, .bool false)] ∧ St w0 Z none_ gw [.box g8 32 [.int .i64 (n.K), .int .i64 (n.N), .int .i64 (n.M), .string n.S]] []) 4 ?_ ?_
  · skip
    rcases Decidable.em ((n.N) = 0) with h23 | h23
    · skip
      have hR24 := hR22.setb (d := 6) (b := true) rfl (decide_eq_true h23)
      refine m_field (j' := 2) (st_listV_w (wt hR24)) hR24 rfl rfl rfl Tryd.underlying32 rfl sz3 rfl rfl (by decide) (fun a25 hR26 => ?_)
      refine m_load (i := 0) (st_listV_w (wt hR26)) hR26 hS10 rfl rfl rfl rfl rfl Tryd.underlying3 rfl (by decide) (fun a27 hR28 => ?_)
      refine r_eql (st_listV_w (wt hR28)) hR28 rfl rfl rfl rfl (by decide) (fun a29 hR30 => ?_)
      refine r_pick_t sv hR30 rfl rfl rfl rfl (by decide) (fun a31 hR32 => ?_)
      refine wpList_nil ?_
      exact x_then_n ⟨(hR32.sub (rc rfl (rc rfl (rc (rb rfl (by first | rfl | (simp only [decide_eq_true h23, if_pos h23, bl]; done) | (simp [h23]; done) | (simp [h23]; omega))) (rc rfl rnl))))), hS10⟩
    · skip
      have hR33 := hR22.setb (d := 6) (b := false) rfl (decide_eq_false h23)
      refine sps hR33 (wff hR33) (fun a34 hR35 => ?_)
      refine sps hR35 (wff hR35) (fun a36 hR37 => ?_)
      refine sps hR37 (wff hR37) (fun a38 hR39 => ?_)
      refine r_pick_f sv hR39 rfl rfl rfl rfl (by decide) (fun a40 hR41 => ?_)
      refine wpList_nil ?_
      exact x_then_n ⟨(hR41.sub (rc rfl (rc rfl (rc (rb rfl (by first | rfl | (simp only [decide_eq_false h23, if_neg h23, bl]; done) | (simp [h23]; done) | (simp [h23]; omega))) (rc rfl rnl))))), hS10⟩
  rintro a42 w43 ⟨hR44, hS45⟩
  refine mv hR44 (fun a46 hR47 => ?_)
  refine l_join (fun ga gw => Reg ga 16 [(2, .bool false), (15, .bool (((decide ((n.N) = 0)) && (decide ((n.M) = 0))) && (decide (n.S = (⟨#[]⟩ : ByteArray))))), (1000000, .bool false)] ∧ St w0 Z none_ gw [.box g8 32 [.int .i64 (n.K), .int .i64 (n.N), .int .i64 (n.M), .string n.S]] []) 4 ?_ ?_
  · skip
    rcases Bool.eq_false_or_eq_true (((decide ((n.N) = 0)) && (decide ((n.M) = 0)))) with h48 | h48
    · skip
      have h49 := and_tl h48
      have h50 := of_decide_eq_true h49
      have h51 := and_tr h48
      have h52 := of_decide_eq_true h51
      have hR53 := hR47.setb (d := 11) (b := true) rfl h48
      refine m_field (j' := 3) (st_listV_w (wt hR53)) hR53 rfl rfl rfl Tryd.underlying32 rfl sz9 rfl rfl (by decide) (fun a54 hR55 => ?_)
      refine m_load (i := 0) (st_listV_w (wt hR55)) hR55 hS45 rfl rfl rfl rfl rfl Tryd.underlying9 rfl (by decide) (fun a56 hR57 => ?_)
      refine r_eqlS (st_listV_w (wt hR57)) hR57 rfl rfl rfl rfl (by decide) (fun a58 hR59 => ?_)
      refine r_pick_t sv hR59 rfl rfl rfl rfl (by decide) (fun a60 hR61 => ?_)
      refine wpList_nil ?_
      exact x_then_n ⟨(hR61.sub (rc rfl (rc (rb rfl (by first | rfl | (simp only [h48, bl]; done) | (simp [h48]; done) | (simp [h48]; omega))) (rc rfl rnl)))), hS45⟩
    · skip
      have hq62 := h48
      try simp only [Bool.or_eq_true, Bool.and_eq_true, Bool.not_eq_true', Bool.not_eq_false', decide_eq_true_eq, decide_eq_false_iff_not, Bool.or_eq_false_iff, Bool.and_eq_false_iff] at hq62
      have hR63 := hR47.setb (d := 11) (b := false) rfl h48
      refine sps hR63 (wff hR63) (fun a64 hR65 => ?_)
      refine sps hR65 (wff hR65) (fun a66 hR67 => ?_)
      refine sps hR67 (wff hR67) (fun a68 hR69 => ?_)
      refine r_pick_f sv hR69 rfl rfl rfl rfl (by decide) (fun a70 hR71 => ?_)
      refine wpList_nil ?_
      exact x_then_n ⟨(hR71.sub (rc rfl (rc (rb rfl (by first | rfl | (simp only [h48, bl]; done) | (simp [h48]; done) | (simp [h48]; omega))) (rc rfl rnl)))), hS45⟩
  rintro a72 w73 ⟨hR74, hS75⟩
  refine asg hR74 (fun a76 hR77 => ?_)
  refine wpList_nil (x_then_n (hK14 _ _ ?_))
  refine wp_ret ?_
  refine e_ret1 hR77 rfl rfl rfl ?_
  refine ⟨?_, hS75.fr⟩
  exact congrArg Ending.returned (ret_b (by first | rfl | (unfold plainB; rw [Bool.and_assoc]; done) | ( rw [Bool.eq_iff_iff]; unfold plainB; simp [])))
end Go.Proofs.YtobgdeffhdefeaaDoor
