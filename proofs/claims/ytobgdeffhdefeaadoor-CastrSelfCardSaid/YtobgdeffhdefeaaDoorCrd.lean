import Derived.Test.YtobgdeffhdefeaaDoorCards
import Derived.Test.YtobgdeffhdefeaaDoorTie
import Derived.ProofKit
import Derived.OpenShut
import Derived.ReadAgain
import Derived.Deep.DeepHandedRow
import Derived.Deep.Slices
import Derived.Lib.LaidTab
import Derived.Test.YtobgdeffhdefeaaDoorMes
/- From a row's reading to cells, and back: slices of nodes, the table of shapes, arguments that nobody changed. -/
namespace Go.Proofs.YtobgdeffhdefeaaDoor
set_option linter.unusedSimpArgs false
set_option linter.unusedVariables false
open Go Go.RowKit Go.WideShapes Go.ChangeShapes

theorem kids : Kids Tryd.prog (· < Tryd.prog.types.size) := kids_rows (by kernel_rfl) (by kernel_rfl)
theorem slicesFull : ∀ t e, t < Tryd.prog.types.size → Tryd.prog.underlying t = some (.slice e) → 0 < Tryd.prog.cellsOf e := slices_full_of Tryd.prog (by kernel_rfl)
theorem ownKnobNone : ownKnob Tryd.prog.godebug = none := by kernel_rfl

section
variable {H : Type} {enc : TypeId × Value → H} {P : Program} {w W W' : World}
/-- What lay in old blocks reads as it did. -/
theorem trodAll_carry {base : Nat} {sp : Nat → Bool} {held : Bool} : ∀ {ts : List TypeId} {vs : List Value} {ds : List (DataW H)} {ps : List MemPlace},
    DataW.TrodAll enc P W base sp held ts vs ds ps → (∀ p ∈ ps, W.sameAt W' p) → DataW.TrodAll enc P W' base sp held ts vs ds ps
  | [], [], [], _, h, _ => h
  | _ :: _, _ :: _, _ :: _, _, ⟨p, q, ⟨n, h1⟩, h2, e⟩, hs =>
    ⟨p, q, ⟨n, DataW.trod_carry n _ _ _ h1 (fun x hx => hs x (by rw [e]; exact List.mem_append_left _ hx))⟩,
      trodAll_carry h2 (fun x hx => hs x (by rw [e]; exact List.mem_append_right _ hx)), e⟩
  | [], [], _ :: _, _, h, _ => h.elim
  | [], _ :: _, _, _, h, _ => h.elim
  | _ :: _, [], _, _, h, _ => h.elim
  | _ :: _, _ :: _, [], _, h, _ => h.elim
theorem sameAt_below (hb : Below W.heap.size W W') {p : MemPlace} (hp : p.block < W.heap.size) : W.sameAt W' p := by
  cases p with
  | cell b off => exact hb.cell (p := ⟨b, off, none⟩) hp
  | map b => exact hb.block b hp
/-- The last step of a row of a law that returns true and changes nothing old. -/
theorem post_true {f : Func} {s : ChangeSpec} {apart fresh handsOn again : Bool} {args : Array Value} {ds : List (DataW H)} {before : List MemPlace}
    (K : Kids P (· < P.types.size)) (hz : ∀ t e, t < P.types.size → P.underlying t = some (.slice e) → 0 < P.cellsOf e) (hts : ∀ t ∈ f.params.toList, t < P.types.size)
    (hvars : s.vars = []) (hW : DataW.Whole enc P f.params.toList s.vars apart W args.toList ds [] before)
    {tb : TypeId} (hrt : f.resultTypes = #[tb]) (htb : P.underlying tb = some .bool)
    (hfn : (s.fn H ds).results = [.lit (.bool true)] ∧ (s.fn H ds).args = ds ∧ (s.fn H ds).vars = []) (hb : Below W.heap.size W W') :
    s.post enc P f apart fresh handsOn again W args (.bool true) W' := by
  have hlt : ∀ p ∈ before, p.block < W.heap.size := fun p hp => hW.lt p hp
  have hold : ∀ p ∈ before, (fun b => decide (b < W.heap.size)) p.block = true := fun p hp => by simpa using hlt p hp
  have hW0 := hW
  obtain ⟨p, q, hA, hV, he, hzf, hn⟩ := hW0
  rw [hvars] at hV
  have hq : q = [] := hV
  subst hq
  rw [List.append_nil] at he
  subst he
  have hA' := trodAll_carry (W' := W') hA (fun x hx => sameAt_below hb (hlt x hx))
  have hres : ∀ (b : Nat) (sp : Nat → Bool) (hd : Bool), DataW.TrodAll enc P W' b sp hd f.resultTypes.toList ((Value.bool true).resultList f.resultTypes.size) (s.fn H ds).results [] := fun b sp hd => by
    rw [hfn.1, hrt]
    exact trodAll_mk1 (shut_bool htb true)
  refine ⟨ds, [], before, [], before, [], hW, ?_, ?_, ?_, World.keptBut_mono (fun p hp => ⟨hp, .inr (.inl hp)⟩) (hb.frame (· ∈ before)), fun _ => ⟨?_, ?_⟩⟩
  · rw [List.append_nil]; exact hres _ _ _
  · rw [List.append_nil, hfn.2.1]
    exact DataW.TrodAll.respare K hz hts hA' hold
  · rw [List.append_nil, hfn.2.2, hvars]
    exact rfl
  · exact ok_one hrt rfl (okWide_bool_mk htb true)
  · refine ⟨[.lit (.bool true)] ++ ds, [], [] ++ before, ⟨[] ++ before, [], ?_, ?_, by simp, ?_, ?_⟩, ?_⟩
    · rw [hrt]
      exact trodAll_append hA' (trodAll_mk1 (shut_bool htb true))
    · rw [hvars]
      exact rfl
    · intro b off hp
      have hin : MemPlace.cell b off ∈ before := by simpa using hp
      rw [hb.frozen (hlt _ hin)]
      exact hzf b off hin
    · intro ha
      simpa using hn ha
    · intro x hx _
      simpa using hx
end

section
variable {H : Type} {enc : TypeId × Value → H} {w : World}
theorem lt_of_cell {p : Addr} {v : Value} (h : w.cell? p = some v) : p.block < w.heap.size := by
  unfold World.cell? at h
  cases ho : w.heap[p.block]? with
  | none => simp [ho] at h
  | some o => exact (Array.getElem?_eq_some_iff.1 ho).1
set_option maxRecDepth 100000 in
/-- A node's four cells, read. -/
theorem node_cells {base : Nat} {sp : Nat → Bool} {held : Bool} {n : Nat} {cs : List Value} {x : DataW H × List MemPlace} (h : DataW.trod enc Tryd.prog w base sp held n 32 cs = some x) : ∃ nd : Nd, cs = encN nd := by
  have hu : Tryd.prog.underlying 32 = some (.struct (Tryd.prog.fieldsOf 32)) := by kernel_rfl
  have hf : (Tryd.prog.fieldsOf 32).toList.map (fun f => (f.type, f.offset)) = [(3, 0), (3, 1), (3, 2), (9, 3)] := by kernel_rfl
  have hci : Tryd.prog.cellsOf 3 = 1 := by kernel_rfl
  have hcs : Tryd.prog.cellsOf 9 = 1 := by kernel_rfl
  have hcn : Tryd.prog.cellsOf 32 = 4 := by kernel_rfl
  obtain ⟨xs, m, _, _, hl, _, hg⟩ := DataW.trod_struct hu h
  rw [hcn] at hl
  have fld : ∀ (j : Nat) (t : TypeId) (off : Nat), ((Tryd.prog.fieldsOf 32).toList.map (fun f => (f.type, f.offset)))[j]? = some (t, off) → ∃ y, DataW.trod enc Tryd.prog w base sp held m t ((cs.drop off).take (Tryd.prog.cellsOf t)) = some y := by
    intro j t off hj
    rw [List.getElem?_map] at hj
    cases hfj : (Tryd.prog.fieldsOf 32).toList[j]? with
    | none => rw [hfj] at hj; cases hj
    | some f =>
      rw [hfj] at hj
      simp only [Option.map_some, Option.some.injEq, Prod.mk.injEq] at hj
      obtain ⟨rfl, rfl⟩ := hj
      have h1 := hg j f (by rw [← Array.getElem?_toList]; exact hfj)
      have hjl : j < (Tryd.prog.fieldsOf 32).size := by
        have := (List.getElem?_eq_some_iff.1 hfj).1
        simpa using this
      have hxl : j < xs.length := by omega
      exact ⟨xs[j], by rw [h1]; exact List.getElem?_eq_getElem hxl⟩
  rw [hf] at fld
  match cs, hl with
  | [c0, c1, c2, c3], _ =>
    obtain ⟨y0, h0⟩ := fld 0 _ _ rfl
    obtain ⟨y1, h1⟩ := fld 1 _ _ rfl
    obtain ⟨y2, h2⟩ := fld 2 _ _ rfl
    obtain ⟨y3, h3⟩ := fld 3 _ _ rfl
    rw [hci] at h0 h1 h2
    rw [hcs] at h3
    obtain ⟨a, ha, _⟩ := DataW.trod_int Tryd.underlying3 h0
    obtain ⟨b, hb, _⟩ := DataW.trod_int Tryd.underlying3 h1
    obtain ⟨c, hc, _⟩ := DataW.trod_int Tryd.underlying3 h2
    obtain ⟨s, hs, _⟩ := DataW.trod_string Tryd.underlying9 h3
    simp at ha hb hc hs
    exact ⟨⟨a, b, c, s⟩, by simp [encN, ha, hb, hc, hs]⟩
set_option maxRecDepth 100000 in
/-- An argument that is a slice of nodes. -/
theorem open_nodes {r : Reach} {base b0 : Nat} {sp : Nat → Bool} {held : Bool} {v : Value} {d : DataW H} {ps : List MemPlace} (hval : Value.okWide Tryd.prog w r b0 22 v) (hd : DataW.Trod enc Tryd.prog w base sp held 22 v d ps) :
    ∃ (A : Option Addr) (c : Nat) (t : List Nd), v = .slice A t.length c ∧ (dRow 4 A t.length c (encNs t)).φ w (fun k => k < w.heap.size) := by
  obtain ⟨A, len, cap, rfl⟩ := okWide_slice Tryd.underlying22 hval
  obtain ⟨fuel, hf⟩ := hd
  have hcn : Tryd.prog.cellsOf 32 = 4 := by kernel_rfl
  rcases Deep.open_slice Tryd.underlying22 hf with ⟨hcs, _⟩ | ⟨a, len', cap', m, n, D, Pl, hcs, _, hl, _, hm, _, hi⟩
  · simp [Value.cells] at hcs
    obtain ⟨rfl, rfl, rfl⟩ := hcs
    exact ⟨none, 0, [], rfl, Nat.le_refl _, rfl, fun h => absurd h (by simp)⟩
  · simp [Value.cells] at hcs
    obtain ⟨rfl, rfl, rfl⟩ := hcs
    have hmm : len ≤ m := by rw [hm]; split <;> omega
    have hnd : ∀ i, ∃ nd : Nd, i < len → w.cells? base (a.add (i * 4)) 4 = some (encN nd) := by
      intro i
      by_cases hil : i < len
      · obtain ⟨cs', hc, ht⟩ := hi i (by omega)
        obtain ⟨nd, rfl⟩ := node_cells ht
        rw [hcn] at hc
        exact ⟨nd, fun _ => hc⟩
      · exact ⟨ndz, fun h => absurd h hil⟩
    obtain ⟨f, hf'⟩ := Classical.axiomOfChoice hnd
    refine ⟨some a, cap, (List.range len).map f, by simp, ?_, ?_, fun hpos => ⟨a, rfl, ?_, ?_⟩⟩
    · simpa using hl
    · exact encNs_length _
    · have hp0 : 0 < len := by simpa using hpos
      obtain ⟨_, _, hat⟩ := World.cells?_some (hf' 0 hp0)
      have h0 := hat 0 (by omega)
      rw [add_of_add] at h0
      have := lt_of_cell (w := w) (p := a.add (0 * 4 + 0)) (by rw [h0]; rfl)
      rwa [block_of_add] at this
    · intro j u hu
      have hjl : j < len * 4 := by
        have h1 := (List.getElem?_eq_some_iff.1 hu).1
        rw [encNs_length] at h1
        simpa using h1
      have hi4 : j / 4 < len := by omega
      obtain ⟨_, hcl, hat⟩ := World.cells?_some (hf' (j / 4) hi4)
      have h1 := hat (j % 4) (by omega)
      rw [add_of_add, show j / 4 * 4 + j % 4 = j by omega] at h1
      rw [h1, ← hu]
      have h2 := enc_at encN_len ((List.range len).map f) (j / 4) (by simpa using hi4) ndz
      have h3 : (((List.range len).map f).getD (j / 4) ndz) = f (j / 4) := by simp [hi4]
      rw [h3] at h2
      have h4 : (encNs ((List.range len).map f))[j]? = (((((List.range len).map f).flatMap encN).drop (j / 4 * 4)).take 4)[j % 4]? := by
        rw [List.getElem?_take_of_lt (by omega), List.getElem?_drop, show j / 4 * 4 + j % 4 = j by omega]
        rfl
      rw [h4, h2]
end
end Go.Proofs.YtobgdeffhdefeaaDoor
