import Derived.Test.YtpfmnpaifchleaaGreatDoorYmh
import Derived.Deep.DeepWitnessRowRef
namespace Go.Proofs.YtpfmnpaifchleaaGreatDoor
set_option linter.unusedSimpArgs false
set_option linter.unusedVariables false
section
/- An argument that is a slice of slices of nodes; one that is a slice of these. -/
open Go Go.RowKit Go.WideShapes Go.ChangeShapes
section
variable {H : Type} {enc : TypeId × Value → H} {w : World}
set_option maxRecDepth 100000 in
theorem nodes_cell {base : Nat} {sp : Nat → Bool} {held : Bool} {n : Nat} {cs : List Value} {x : DataW H × List MemPlace} (hf : DataW.trod enc Tryz.prog w base sp held n 22 cs = some x) :
  ∃ s : Sl, cs = encS s ∧ (dRow 4 s.1 s.2.2.length s.2.1 (encNs s.2.2)).φ w (fun k => k < w.heap.size) := by
 have hcn : Tryz.prog.cellsOf 30 = 4 := by kernel_rfl
 rcases Deep.open_slice Tryz.underlying22 hf with ⟨hcs, _⟩ | ⟨a, len, cap, m, _, D, Pl, hcs, _, hl, _, hm, _, hi⟩
 · exact ⟨slz, hcs, Nat.le_refl _, rfl, fun h => absurd h (by simp [slz])⟩
 ·
  have hmm : len ≤ m := by rw [hm]; split <;> omega
  have hnd : ∀ i, ∃ nd : Nd, i < len → w.cells? base (a.add (i * 4)) 4 = some (encN nd) := by
   intro i
   by_cases hil : i < len
   ·
    obtain ⟨cs', hc, ht⟩ := hi i (by omega)
    obtain ⟨nd, rfl⟩ := node_cells ht
    rw [hcn] at hc
    exact ⟨nd, fun _ => hc⟩
   · exact ⟨ndz, fun h => absurd h hil⟩
  obtain ⟨f, hf'⟩ := Classical.axiomOfChoice hnd
  refine ⟨(some a, cap, (List.range len).map f), by rw [hcs]; simp [encS], ?_, ?_, fun hpos => ⟨a, rfl, ?_, ?_⟩⟩
  · simpa using hl
  · exact encNs_length _
  ·
   have hp0 : 0 < len := by simpa using hpos
   obtain ⟨_, _, hat⟩ := World.cells?_some (hf' 0 hp0)
   have h0 := hat 0 (by omega)
   rw [add_of_add] at h0
   have := lt_of_cell (w := w) (p := a.add (0 * 4 + 0)) (by rw [h0]; rfl)
   rwa [block_of_add] at this
  ·
   intro j u hu
   have hjl : j < len * 4 := by
    have h1 := (List.getElem?_eq_some_iff.1 hu).1
    rw [encNs_length] at h1
    simpa using h1
   have hi4 : j / 4 < len := by omega
   obtain ⟨_, hcl, hat⟩ := World.cells?_some (hf' (j / 4) hi4)
   have h1 := hat (j % 4) (by omega)
   rw [add_of_add, show j / 4 * 4 + j % 4 = j by omega] at h1
   rw [h1, ← hu]
   have h2 := enc_at encN_len ((List.range len).map f) (j / 4) (by simpa using hi4) ndz
   have h3 : (((List.range len).map f).getD (j / 4) ndz) = f (j / 4) := by simp [hi4]
   rw [h3] at h2
   have h4 : (encNs ((List.range len).map f))[j]? = (((((List.range len).map f).flatMap encN).drop (j / 4 * 4)).take 4)[j % 4]? := by
    rw [List.getElem?_take_of_lt (by omega), List.getElem?_drop, show j / 4 * 4 + j % 4 = j by omega]
    rfl
   rw [h4, h2]
theorem cells_all {α : Type} {f : α → List Value} {z : α} {Q : α → Prop} (hf1 : ∀ x, (f x).length = 1) {len base : Nat} {a : Addr} (hi : ∀ i, i < len → ∃ x : α, w.cells? base (a.add (i * 1)) 1 = some (f x) ∧ Q x) :
  ∃ L : List α, L.length = len ∧ (∀ x ∈ L, Q x) ∧ RowI w (fun k => k < w.heap.size) 1 (some a) len (L.flatMap f) := by
 have hnd : ∀ i, ∃ x : α, i < len → w.cells? base (a.add (i * 1)) 1 = some (f x) ∧ Q x := by
  intro i
  by_cases hil : i < len
  ·
   obtain ⟨x, h1, h2⟩ := hi i hil
   exact ⟨x, fun _ => ⟨h1, h2⟩⟩
  · exact ⟨z, fun h => absurd h hil⟩
 obtain ⟨g, hg⟩ := Classical.axiomOfChoice hnd
 refine ⟨(List.range len).map g, by simp, ?_, ?_, fun hpos => ⟨a, rfl, ?_, ?_⟩⟩
 ·
  intro x hx
  obtain ⟨i, hi', rfl⟩ := List.mem_map.1 hx
  exact (hg i (List.mem_range.1 hi')).2
 · rw [enc_length hf1]; simp
 ·
  obtain ⟨_, _, hat⟩ := World.cells?_some (hg 0 hpos).1
  have h0 := hat 0 (by omega)
  rw [add_of_add] at h0
  have hl := hf1 (g 0)
  cases hgo : f (g 0) with
  | nil => rw [hgo] at hl; simp at hl
  | cons v r =>
   have := lt_of_cell (w := w) (p := a.add (0 * 1 + 0)) (by rw [h0, hgo]; rfl)
   rwa [block_of_add] at this
 ·
  intro j u hu
  have hjl : j < len := by
   have h1 := (List.getElem?_eq_some_iff.1 hu).1
   rw [enc_length hf1] at h1
   simpa using h1
  obtain ⟨_, hcl, hat⟩ := World.cells?_some (hg j hjl).1
  have h1 := hat 0 (by omega)
  rw [add_of_add, show j * 1 + 0 = j by omega] at h1
  rw [h1, ← hu]
  have h2 := enc_at hf1 ((List.range len).map g) j (by simpa using hjl) z
  have h3 : (((List.range len).map g).getD j z) = g j := by simp [hjl]
  rw [h3] at h2
  have h4 : ((List.range len).map g |>.flatMap f)[j]? = (((((List.range len).map g).flatMap f).drop (j * 1)).take 1)[0]? := by
   rw [List.getElem?_take_of_lt (by omega), List.getElem?_drop, show j * 1 + 0 = j by omega]
  rw [h4, h2]
set_option maxRecDepth 100000 in
theorem lists_cell {base : Nat} {sp : Nat → Bool} {held : Bool} {n : Nat} {cs : List Value} {x : DataW H × List MemPlace} (hf : DataW.trod enc Tryz.prog w base sp held n 37 cs = some x) :
  ∃ s : Tl, cs = encT s ∧ (dRow 1 s.1 s.2.2.length s.2.1 (encSs s.2.2)).φ w (fun k => k < w.heap.size) ∧ (dAll s.2.2).φ w (fun k => k < w.heap.size) := by
 have hcn : Tryz.prog.cellsOf 22 = 1 := by kernel_rfl
 rcases Deep.open_slice Tryz.underlying37 hf with ⟨hcs, _⟩ | ⟨a, len, cap, m, _, D, Pl, hcs, _, hl, _, hm, _, hi⟩
 · exact ⟨tlz, hcs, ⟨Nat.le_refl _, rfl, fun h => absurd h (by simp [tlz])⟩, all_nil⟩
 ·
  have hmm : len ≤ m := by rw [hm]; split <;> omega
  obtain ⟨L, h1, h2, h3⟩ := cells_all (w := w) (f := encS) (z := slz) (Q := fun s => (dRow 4 s.1 s.2.2.length s.2.1 (encNs s.2.2)).φ w (fun k => k < w.heap.size)) encS_len (len := len) (base := base) (a := a) (fun i hil => by
   obtain ⟨cs', hc, ht⟩ := hi i (by omega)
   obtain ⟨s, rfl, hd⟩ := nodes_cell ht
   rw [hcn] at hc
   exact ⟨s, hc, hd⟩)
  subst h1
  exact ⟨(some a, cap, L), by rw [hcs]; rfl, ⟨hl, h3⟩, fun s hs => h2 s hs⟩
end
end
section
/- Arguments that are a declaration, a slice of truths, an int, a truth. -/
open Go Go.RowKit Go.WideShapes Go.ChangeShapes
section
variable {H : Type} {enc : TypeId × Value → H} {w : World}
set_option maxRecDepth 100000 in
theorem open_bools {r : Reach} {base b0 : Nat} {sp : Nat → Bool} {held : Bool} {v : Value} {d : DataW H} {ps : List MemPlace} (hval : Value.okWide Tryz.prog w r b0 26 v) (hd : DataW.Trod enc Tryz.prog w base sp held 26 v d ps) :
  ∃ (A : Option Addr) (c : Nat) (t : List Bool), v = .slice A t.length c ∧ (dRow 1 A t.length c (encBs t)).φ w (fun k => k < w.heap.size) := by
 obtain ⟨A, len, cap, rfl⟩ := okWide_slice Tryz.underlying26 hval
 obtain ⟨fuel, hf⟩ := hd
 have hcn : Tryz.prog.cellsOf 4 = 1 := by kernel_rfl
 rcases Deep.open_slice Tryz.underlying26 hf with ⟨hcs, _⟩ | ⟨a, len', cap', m, n, D, Pl, hcs, _, hl, _, hm, _, hi⟩
 ·
  simp [Value.cells] at hcs
  obtain ⟨rfl, rfl, rfl⟩ := hcs
  exact ⟨none, 0, [], rfl, ⟨Nat.le_refl _, rfl, fun h => absurd h (by simp)⟩⟩
 ·
  simp [Value.cells] at hcs
  obtain ⟨rfl, rfl, rfl⟩ := hcs
  have hmm : len ≤ m := by rw [hm]; split <;> omega
  obtain ⟨L, h1, h2, h3⟩ := cells_all (w := w) (f := encB) (z := false) (Q := fun _ => True) (fun _ => rfl) (len := len) (base := base) (a := a) (fun i hil => by
   obtain ⟨cs', hc, ht⟩ := hi i (by omega)
   obtain ⟨b, hb, _⟩ := DataW.trod_bool Tryz.underlying4 ht
   rw [hcn] at hc
   refine ⟨b, ?_, trivial⟩
   rw [hc, hb]
   rfl)
  subst h1
  exact ⟨some a, cap, L, rfl, ⟨hl, h3⟩⟩
set_option maxRecDepth 100000 in
theorem open_int {r : Reach} {b0 : Nat} {v : Value} (hval : Value.okWide Tryz.prog w r b0 3 v) : ∃ n : Int, v = .int .i64 n := okWide_int Tryz.underlying3 hval
set_option maxRecDepth 100000 in
theorem open_bool {r : Reach} {b0 : Nat} {v : Value} (hval : Value.okWide Tryz.prog w r b0 4 v) : ∃ b : Bool, v = .bool b := okWide_bool Tryz.underlying4 hval
set_option maxRecDepth 100000 in
theorem listss_cell {base : Nat} {sp : Nat → Bool} {held : Bool} {n : Nat} {cs : List Value} {x : DataW H × List MemPlace} (hf : DataW.trod enc Tryz.prog w base sp held n 23 cs = some x) :
  ∃ (A : Option Addr) (c : Nat) (t : List Tl), cs = [.slice A t.length c] ∧ (dRow 1 A t.length c (encTs t)).φ w (fun k => k < w.heap.size) ∧ (dAllT t).φ w (fun k => k < w.heap.size) := by
 have hcn : Tryz.prog.cellsOf 37 = 1 := by kernel_rfl
 rcases Deep.open_slice Tryz.underlying23 hf with ⟨hcs, _⟩ | ⟨a, len, cap, m, _, D, Pl, hcs, _, hl, _, hm, _, hi⟩
 · exact ⟨none, 0, [], hcs, ⟨Nat.le_refl _, rfl, fun h => absurd h (by simp)⟩, allT_nil⟩
 ·
  have hmm : len ≤ m := by rw [hm]; split <;> omega
  obtain ⟨L, h1, h2, h3⟩ := cells_all (w := w) (f := encT) (z := tlz) (Q := fun s => (dRow 1 s.1 s.2.2.length s.2.1 (encSs s.2.2)).φ w (fun k => k < w.heap.size) ∧ (dAll s.2.2).φ w (fun k => k < w.heap.size)) encT_len (len := len) (base := base) (a := a) (fun i hil => by
   obtain ⟨cs', hc, ht⟩ := hi i (by omega)
   obtain ⟨s, rfl, hd⟩ := lists_cell ht
   rw [hcn] at hc
   exact ⟨s, hc, hd⟩)
  subst h1
  exact ⟨some a, cap, L, hcs, ⟨hl, h3⟩, fun s hs => h2 s hs⟩
set_option maxRecDepth 100000 in
theorem open_decl {r : Reach} {base b0 : Nat} {sp : Nat → Bool} {held : Bool} {v : Value} {d : DataW H} {ps : List MemPlace} (hval : Value.okWide Tryz.prog w r b0 25 v) (hd : DataW.Trod enc Tryz.prog w base sp held 25 v d ps) :
  ∃ (K L : Int) (S : ByteArray) (TA : Option Addr) (Tc : Nat) (T : List Nd) (BA : Option Addr) (Bc : Nat) (B : List Nd) (CA : Option Addr) (Cc : Nat) (C : List Tl),
   v = .agg #[.int .i64 K, .int .i64 L, .string S, .slice TA T.length Tc, .slice BA B.length Bc, .slice CA C.length Cc] ∧ S.size ≤ 9223372036854775807 ∧ (dRow 4 TA T.length Tc (encNs T)).φ w (fun k => k < w.heap.size) ∧ (dRow 4 BA B.length Bc (encNs B)).φ w (fun k => k < w.heap.size) ∧
   (dRow 1 CA C.length Cc (encTs C)).φ w (fun k => k < w.heap.size) ∧ (dAllT C).φ w (fun k => k < w.heap.size) := by
 have hu : Tryz.prog.underlying 25 = some (.struct (Tryz.prog.fieldsOf 25)) := by kernel_rfl
 have hf : (Tryz.prog.fieldsOf 25).toList.map (fun f => (f.type, f.offset)) = [(3, 0), (3, 1), (9, 2), (22, 3), (22, 4), (23, 5)] := by kernel_rfl
 have hci : Tryz.prog.cellsOf 3 = 1 := by kernel_rfl
 have hcs : Tryz.prog.cellsOf 9 = 1 := by kernel_rfl
 have hc1 : Tryz.prog.cellsOf 22 = 1 := by kernel_rfl
 have hc3 : Tryz.prog.cellsOf 23 = 1 := by kernel_rfl
 have hcn : Tryz.prog.cellsOf 25 = 6 := by kernel_rfl
 have hct : Tryz.prog.cellTypes Tryz.prog.depth 25 = some [3, 3, 9, 22, 22, 23] := by kernel_rfl
 obtain ⟨fuel, h⟩ := hd
 have hval' := hval
 simp only [Value.okWide, hu] at hval'
 obtain ⟨arr, rfl, _, ts, hts, _, hrow⟩ := hval'
 rw [hct] at hts
 obtain rfl := Option.some.inj hts
 obtain ⟨xs, m, _, _, hl, _, hg⟩ := DataW.trod_struct hu h
 rw [hcn] at hl
 have fld : ∀ (j : Nat) (t : TypeId) (off : Nat), ((Tryz.prog.fieldsOf 25).toList.map (fun f => (f.type, f.offset)))[j]? = some (t, off) → ∃ y, DataW.trod enc Tryz.prog w base sp held m t (((Value.agg arr).cells.toList.drop off).take (Tryz.prog.cellsOf t)) = some y := by
  intro j t off hj
  rw [List.getElem?_map] at hj
  cases hfj : (Tryz.prog.fieldsOf 25).toList[j]? with
  | none => rw [hfj] at hj; cases hj
  | some f =>
   rw [hfj] at hj
   simp only [Option.map_some, Option.some.injEq, Prod.mk.injEq] at hj
   obtain ⟨rfl, rfl⟩ := hj
   have h1 := hg j f (by rw [← Array.getElem?_toList]; exact hfj)
   have hjl : j < (Tryz.prog.fieldsOf 25).size := by
    have := (List.getElem?_eq_some_iff.1 hfj).1
    simpa using this
   have hxl : j < xs.length := by omega
   exact ⟨xs[j], by rw [h1]; exact List.getElem?_eq_getElem hxl⟩
 rw [hf] at fld
 obtain ⟨l⟩ := arr
 simp only [Value.cells] at hl fld
 match l, hl with
 | [c0, c1, c2, c3, c4, c5], _ =>
  obtain ⟨y0, h0⟩ := fld 0 _ _ rfl
  obtain ⟨y1, h1⟩ := fld 1 _ _ rfl
  obtain ⟨y2, h2⟩ := fld 2 _ _ rfl
  obtain ⟨y3, h3⟩ := fld 3 _ _ rfl
  obtain ⟨y4, h4⟩ := fld 4 _ _ rfl
  obtain ⟨y5, h5⟩ := fld 5 _ _ rfl
  rw [hci] at h0 h1
  rw [hcs] at h2
  rw [hc1] at h3 h4
  rw [hc3] at h5
  obtain ⟨a, ha, _⟩ := DataW.trod_int Tryz.underlying3 h0
  obtain ⟨b, hb, _⟩ := DataW.trod_int Tryz.underlying3 h1
  obtain ⟨s, hs, _⟩ := DataW.trod_string Tryz.underlying9 h2
  obtain ⟨⟨TA, Tc, T⟩, hT, dT⟩ := nodes_cell h3
  obtain ⟨⟨BA, Bc, B⟩, hB, dB⟩ := nodes_cell h4
  obtain ⟨CA, Cc, C, hC, dC, dCs⟩ := listss_cell h5
  simp [encS] at ha hb hs hT hB hC
  subst ha hb hs hT hB hC
  refine ⟨a, b, s, TA, Tc, T, BA, Bc, B, CA, Cc, C, rfl, ?_, dT, dB, dC, dCs⟩
  obtain ⟨u, hu2, hw⟩ := hrow 2 (.string s) rfl
  obtain rfl : 9 = u := by simpa using hu2
  have ht : Tryz.prog.underlying 9 = some .string := Tryz.underlying9
  simp only [Cell.okWide, ht] at hw
  have h1 : (s.size : Int) ≤ IntKind.i64.max := by simpa [Cell.ok, ht] using hw
  have h2 : IntKind.i64.max = 9223372036854775807 := rfl
  omega
end
end
section
/- The table of shapes: from the row's list to cells; a world that holds it. -/
open Go Go.RowKit Go.WideShapes Go.ChangeShapes
set_option maxRecDepth 100000
def shapeD (k : Nat) : DataW Unit := .agg [(match (shp k).b with | [] => .nil | b => .slice (lits .i64 b) []), .lit (.bool (shp k).n), .lit (.bool (shp k).m), .lit (.bool (shp k).s)]
theorem laid_eq : (Rows.laid_cornice_term_shapes : DataW Unit) = .agg ((List.range 30).map shapeD) := by kernel_rfl
theorem encIs_map (l : List Int) : encIs l = l.map (fun n => Value.int .i64 n) := by
 induction l with
 | nil => rfl
 | cons x t ih => rw [List.map_cons, ← ih]; rfl
theorem shape_cells {w : World} {base : Nat} {sp : Nat → Bool} {held : Bool} {n : Nat} {cs : List Value} {k : Nat} {p : List MemPlace}
  (h : DataW.trod (fun _ => ()) Tryz.prog w base sp held n 154 cs = some (shapeD k, p)) :
  ∃ (A : Option Addr) (cap : Nat), cs = [.slice A (shp k).b.length cap, .bool (shp k).n, .bool (shp k).m, .bool (shp k).s] ∧ (shp k).b.length ≤ cap ∧ RowI w (fun k => k < w.heap.size) 1 A (shp k).b.length (encIs (shp k).b) := by
 have hu : Tryz.prog.underlying 154 = some (.struct (Tryz.prog.fieldsOf 154)) := by kernel_rfl
 have hf : (Tryz.prog.fieldsOf 154).toList.map (fun f => (f.type, f.offset)) = [(57, 0), (4, 1), (4, 2), (4, 3)] := by kernel_rfl
 have hci : Tryz.prog.cellsOf 57 = 1 := by kernel_rfl
 have hci1 : Tryz.prog.cellsOf 3 = 1 := by kernel_rfl
 have hcs : Tryz.prog.cellsOf 4 = 1 := by kernel_rfl
 have hcn : Tryz.prog.cellsOf 154 = 4 := by kernel_rfl
 obtain ⟨xs, m, _, hx, hl, hxl, hg⟩ := DataW.trod_struct hu h
 rw [hcn] at hl
 have hd : xs.map (·.1) = [(match (shp k).b with | [] => .nil | b => .slice (lits .i64 b) []), .lit (.bool (shp k).n), .lit (.bool (shp k).m), .lit (.bool (shp k).s)] := by
  have := congrArg Prod.fst hx
  simp only [shapeD] at this
  injection this with h1
  exact h1.symm
 have fld : ∀ (j : Nat) (t : TypeId) (off : Nat), ((Tryz.prog.fieldsOf 154).toList.map (fun f => (f.type, f.offset)))[j]? = some (t, off) → DataW.trod (fun _ => ()) Tryz.prog w base sp held m t ((cs.drop off).take (Tryz.prog.cellsOf t)) = xs[j]? := by
  intro j t off hj
  rw [List.getElem?_map] at hj
  cases hfj : (Tryz.prog.fieldsOf 154).toList[j]? with
  | none => rw [hfj] at hj; cases hj
  | some f =>
   rw [hfj] at hj
   simp only [Option.map_some, Option.some.injEq, Prod.mk.injEq] at hj
   obtain ⟨rfl, rfl⟩ := hj
   exact hg j f (by rw [← Array.getElem?_toList]; exact hfj)
 rw [hf] at fld
 match cs, hl, xs, hd with
 | [c0, c1, c2, c3], _, [y0, y1, y2, y3], hd =>
  simp only [List.map_cons, List.map_nil, List.cons.injEq, and_true] at hd
  obtain ⟨d0, d1, d2, d3⟩ := hd
  have h0 := fld 0 _ _ rfl
  have h1 := fld 1 _ _ rfl
  have h2 := fld 2 _ _ rfl
  have h3 := fld 3 _ _ rfl
  rw [hci] at h0
  rw [hcs] at h1 h2 h3
  obtain ⟨b1, e1, f1⟩ := DataW.trod_bool Tryz.underlying4 h1
  obtain ⟨b2, e2, f2⟩ := DataW.trod_bool Tryz.underlying4 h2
  obtain ⟨b3, e3, f3⟩ := DataW.trod_bool Tryz.underlying4 h3
  simp at e1 e2 e3
  simp [f1] at d1
  simp [f2] at d2
  simp [f3] at d3
  subst e1 e2 e3 d1 d2 d3
  rcases open_ints Tryz.underlying57 Tryz.underlying3 hci1 h0 with ⟨hcs0, hy⟩ | ⟨a, len, cap, zs, hcs0, _, hle, _, hzl, hy, hcell, _⟩
  ·
   simp at hcs0
   subst hcs0
   rw [hy] at d0
   cases hb : (shp k).b with
   | nil => exact ⟨none, 0, by simp, by simp, by simp [encIs], fun h => absurd h (by simp)⟩
   | cons z zs => rw [hb] at d0; simp at d0
  ·
   simp at hcs0
   subst hcs0
   rw [hy] at d0
   cases hb : (shp k).b with
   | nil => rw [hb] at d0; simp at d0
   | cons z l =>
    rw [hb] at d0
    simp only [DataW.slice.injEq] at d0
    obtain ⟨d4, d5⟩ := d0
    have hinj : ∀ a b : List Int, (lits .i64 a : List (DataW Unit)) = lits .i64 b → a = b := by
     intro a
     induction a with
     | nil => intro b hb; cases b with
      | nil => rfl
      | cons _ _ => simp [lits] at hb
     | cons x a ih => intro b hb; cases b with
      | nil => simp [lits] at hb
      | cons y b =>
       simp only [lits, List.map_cons, List.cons.injEq, DataW.lit.injEq, Lit.int.injEq, true_and] at hb
       rw [hb.1, ih b hb.2]
    have d6 := hinj _ _ d4
    have hll : len = (z :: l).length := by
     have := congrArg List.length d6
     rw [List.length_take] at this
     have hz : len ≤ zs.length := by rw [hzl]; split <;> omega
     omega
    subst hll
    refine ⟨some a, cap, rfl, hle, by simp [encIs_length], fun _ => ⟨a, rfl, ?_, ?_⟩⟩
    ·
     have h9 := hcell 0 (by have hz2 : (z :: l).length ≤ zs.length := (by rw [hzl]; split <;> omega); rw [List.length_cons] at hz2; omega)
     have := lt_of_cell h9
     rwa [block_of_add] at this
    ·
     intro j u hu
     have hjl : j < (z :: l).length := by
      have := (List.getElem?_eq_some_iff.1 hu).1
      rw [encIs_length] at this
      simpa using this
     have hzz : (z :: l).length ≤ zs.length := by rw [hzl]; split <;> omega
     rw [hcell j (by omega)]
     have h8 : (z :: l)[j]? = zs[j]? := by rw [← d6, List.getElem?_take_of_lt hjl]
     have h7 := encIs_map (z :: l)
     rw [h7, List.getElem?_map, h8] at hu
     cases hq : zs[j]? with
     | none => rw [hq] at hu; simp at hu
     | some q =>
      rw [hq] at hu
      simp only [Option.map_some, Option.some.injEq] at hu
      rw [← hu, List.getD_eq_getElem?_getD, hq]
      rfl
theorem shapes_of_laid {W : World} (h : laidMetH Tryz.prog [("cornice/term.shapes", Rows.laid_cornice_term_shapes)] W) : Shapes W (fun k => k < W.heap.size) := by
 have h' : laidMet Tryz.prog [("cornice/term.shapes", Rows.laid_cornice_term_shapes)] W := h
 obtain ⟨ps, ⟨g, t, cs, fuel, p, q, hg, ht, hvar, hd, _, _⟩, _⟩ := h'
 have hg0 : Tryz.prog.globalNamed "cornice/term.shapes" = some 0 := by kernel_rfl
 have ht0 : (Tryz.prog.globals[0]?).map (·.type) = some 155 := by kernel_rfl
 obtain rfl : 0 = g := Option.some.inj (hg0.symm.trans hg)
 obtain rfl : 155 = t := Option.some.inj (ht0.symm.trans ht)
 have hcn : Tryz.prog.cellsOf 154 = 4 := by kernel_rfl
 have hct : Tryz.prog.cellsOf 155 = 120 := by kernel_rfl
 obtain ⟨xs, m, _, hx, hl, hxl, hi⟩ := DataW.trod_array Tryz.underlying155 hd
 rw [hct] at hl
 have hxd : xs.map (·.1) = (List.range 30).map shapeD := by
  have := congrArg Prod.fst hx
  simp only [laid_eq] at this
  injection this with h1
  exact h1.symm
 intro k hk
 have h1 := hi k hk
 rw [hcn] at h1
 have hkx : k < xs.length := by omega
 have h2 : xs[k]? = some (shapeD k, (xs[k]).2) := by
  rw [List.getElem?_eq_getElem hkx]
  have h3 : (xs.map (·.1))[k]? = some (shapeD k) := by rw [hxd]; simp [hk]
  rw [List.getElem?_map, List.getElem?_eq_getElem hkx] at h3
  simp only [Option.map_some, Option.some.injEq] at h3
  rw [← h3]
 rw [h2] at h1
 obtain ⟨A, cap, hcs, hle, hrow⟩ := shape_cells h1
 refine ⟨A, cap, ⟨hle, hrow⟩, ?_, ?_⟩
 ·
  have h4 := World.var?_cell hg hvar 0
  have h5 : cs[0]? ≠ none := by
   intro e
   rw [← Array.getElem?_toList, List.getElem?_eq_none_iff] at e
   omega
  cases h6 : cs[0]? with
  | none => exact absurd h6 h5
  | some v => rw [h6] at h4; exact lt_of_cell h4
 ·
  intro j u hu
  have hj : j < 4 := by
   have := (List.getElem?_eq_some_iff.1 hu).1
   simpa using this
  have h4 := World.var?_cell hg hvar (k * 4 + j)
  rw [← hcs, List.getElem?_take_of_lt hj, List.getElem?_drop, Array.getElem?_toList] at hu
  rw [hu] at h4
  rw [add_of_add]
  have : (⟨0, 0, none⟩ : Addr).add (k * 4 + j) = ⟨0, k * 4 + j, none⟩ := by unfold Addr.add; split <;> simp_all
  rw [this]
  exact h4
noncomputable def laidWorld (os : Os) : World :=
 { World.holding Tryz.prog os ⟨#[.cells #[.int .i64 0, .int .i64 1, .int .i64 0, .int .i64 1, .int .i64 0, .int .i64 0, .int .i64 0, .int .i64 1, .int .i64 0, .int .i64 0, .int .i64 0, .int .i64 0, .int .i64 0, .int .i64 0, .int .i64 1, .int .i64 0, .int .i64 2, .int .i64 0, .int .i64 0, .int .i64 0, .int .i64 0, .int .i64 0, .int .i64 0, .int .i64 0, .int .i64 0, .int .i64 0, .int .i64 0, .int .i64 0, .int .i64 0, .int .i64 0, .int .i64 0, .int .i64 1, .int .i64 0, .int .i64 0, .int .i64 0, .int .i64 0, .int .i64 2, .int .i64 0, .int .i64 0, .int .i64 0, .int .i64 0, .int .i64 0, .int .i64 0, .int .i64 1, .int .i64 0, .int .i64 0, .int .i64 0] 3], #[], []⟩ with heap := (World.holding Tryz.prog os ⟨#[.cells #[.int .i64 0, .int .i64 1, .int .i64 0, .int .i64 1, .int .i64 0, .int .i64 0, .int .i64 0, .int .i64 1, .int .i64 0, .int .i64 0, .int .i64 0, .int .i64 0, .int .i64 0, .int .i64 0, .int .i64 1, .int .i64 0, .int .i64 2, .int .i64 0, .int .i64 0, .int .i64 0, .int .i64 0, .int .i64 0, .int .i64 0, .int .i64 0, .int .i64 0, .int .i64 0, .int .i64 0, .int .i64 0, .int .i64 0, .int .i64 0, .int .i64 0, .int .i64 1, .int .i64 0, .int .i64 0, .int .i64 0, .int .i64 0, .int .i64 2, .int .i64 0, .int .i64 0, .int .i64 0, .int .i64 0, .int .i64 0, .int .i64 0, .int .i64 1, .int .i64 0, .int .i64 0, .int .i64 0] 3], #[], []⟩).heap.modify 0 fun
   | .cells _ t frozen => .cells #[.slice none 0 0, .bool true, .bool false, .bool false, .slice none 0 0, .bool false, .bool false, .bool true, .slice none 0 0, .bool true, .bool false, .bool false, .slice (some ⟨6, 0, none⟩) 2 2, .bool true, .bool false, .bool false, .slice (some ⟨6, 2, none⟩) 2 2, .bool false, .bool false, .bool false, .slice (some ⟨6, 4, none⟩) 2 2, .bool false, .bool false, .bool false, .slice (some ⟨6, 6, none⟩) 2 2, .bool true, .bool false, .bool false, .slice (some ⟨6, 8, none⟩) 3 3, .bool false, .bool false, .bool false, .slice (some ⟨6, 11, none⟩) 1 1, .bool false, .bool false, .bool false, .slice (some ⟨6, 12, none⟩) 1 1, .bool false, .bool false, .bool false, .slice none 0 0, .bool false, .bool false, .bool false, .slice none 0 0, .bool false, .bool false, .bool false, .slice (some ⟨6, 13, none⟩) 1 1, .bool false, .bool false, .bool false, .slice (some ⟨6, 14, none⟩) 4 4, .bool false, .bool false, .bool false, .slice none 0 0, .bool false, .bool false, .bool false, .slice (some ⟨6, 18, none⟩) 2 2, .bool false, .bool false, .bool false, .slice none 0 0, .bool false, .bool false, .bool false, .slice none 0 0, .bool false, .bool false, .bool false, .slice (some ⟨6, 20, none⟩) 3 3, .bool false, .bool false, .bool false, .slice (some ⟨6, 23, none⟩) 2 2, .bool false, .bool false, .bool false, .slice (some ⟨6, 25, none⟩) 4 4, .bool false, .bool false, .bool false, .slice (some ⟨6, 29, none⟩) 6 6, .bool false, .bool false, .bool false, .slice (some ⟨6, 35, none⟩) 5 5, .bool false, .bool false, .bool false, .slice (some ⟨6, 40, none⟩) 2 2, .bool false, .bool false, .bool false, .slice (some ⟨6, 42, none⟩) 4 4, .bool false, .bool false, .bool false, .slice none 0 0, .bool false, .bool false, .bool true, .slice none 0 0, .bool true, .bool true, .bool true, .slice none 0 0, .bool false, .bool true, .bool true, .slice (some ⟨6, 46, none⟩) 1 1, .bool false, .bool false, .bool false, .slice none 0 0, .bool false, .bool false, .bool false] t frozen
   | o => o }
end
end Go.Proofs.YtpfmnpaifchleaaGreatDoor
/- The law MotiveClosed: it returns true, whatever its arguments are, and they read as they did; the table of shapes holds what the program's text lays. -/
namespace Go.Proofs.YtpfmnpaifchleaaGreatDoor.lawMotiveClosed
open Go Go.RowKit Go.WideShapes Go.ChangeShapes Go.Proofs.YtpfmnpaifchleaaGreatDoor
set_option maxRecDepth 100000
set_option linter.unusedSimpArgs false
set_option linter.unusedVariables false
theorem contract (H : Type) (enc : TypeId × Value → H) (W : World) (base : Nat) (args : Array Value) (ds gs : List (DataW H)) (before : List MemPlace)
  (hval : ∀ (j : Nat) t v, Tryz.f4.params[j]? = some t → args[j]? = some v → Value.okWide Tryz.prog W .any base t v)
  (hW : DataW.Whole enc Tryz.prog Tryz.f4.params.toList Rows.motiveClosedSpec.vars false W args.toList ds gs before) (hL : laidMetH Tryz.prog Rows.motiveClosedRow.laid W) :
  Calls Tryz.prog 4 args W fun e W' => ∃ v, e = .returned v ∧ Rows.motiveClosedSpec.post enc Tryz.prog Tryz.f4 false true false false W args v W' := by
 have hW' := hW
 obtain ⟨p, q, hA0, hV, rfl, hfz, hnd⟩ := hW
 have hA := hA0
 rw [Tryz.params4] at hA hval
 obtain ⟨v0, vs0, d0, ds0, p0, q0, hargs, rfl, rfl, h0, r0⟩ := trodAll_cons hA
 obtain ⟨v1, vs1, d1, ds1, p1, q1, rfl, rfl, rfl, h1, r1⟩ := trodAll_cons r0
 obtain ⟨v2, vs2, d2, ds2, p2, q2, rfl, rfl, rfl, h2, r2⟩ := trodAll_cons r1
 obtain ⟨v3, vs3, d3, ds3, p3, q3, rfl, rfl, rfl, h3, r3⟩ := trodAll_cons r2
 obtain ⟨v4, vs4, d4, ds4, p4, q4, rfl, rfl, rfl, h4, r4⟩ := trodAll_cons r3
 obtain ⟨v5, vs5, d5, ds5, p5, q5, rfl, rfl, rfl, h5, r5⟩ := trodAll_cons r4
 obtain ⟨v6, vs6, d6, ds6, p6, q6, rfl, rfl, rfl, h6, r6⟩ := trodAll_cons r5
 obtain ⟨rfl, rfl, rfl⟩ := trodAll_nil r6
 obtain rfl : args = #[v0, v1, v2, v3, v4, v5, v6] := by cases args; simp_all
 obtain ⟨rfl, rfl⟩ := trodVars_none hV
 obtain ⟨K0, L0, S0, TA0, Tc0, T0, BA0, Bc0, B0, CA0, Cc0, C0, rfl, hS0, gT0, gB0, gC0, gCs0⟩ := open_decl (hval 0 _ _ rfl rfl) h0
 obtain ⟨n1, rfl⟩ := open_int (hval 1 _ _ rfl rfl)
 obtain ⟨A2, c2, t2, rfl, g2⟩ := open_bools (hval 2 _ _ rfl rfl) h2
 obtain ⟨b3, rfl⟩ := open_bool (hval 3 _ _ rfl rfl)
 obtain ⟨A4, c4, t4, rfl, g4⟩ := open_nodes (hval 4 _ _ rfl rfl) h4
 obtain ⟨A5, c5, t5, rfl, g5⟩ := open_nodes (hval 5 _ _ rfl rfl) h5
 obtain ⟨A6, c6, t6, rfl, g6⟩ := open_nodes (hval 6 _ _ rfl rfl) h6
 refine (motiveClosed_calls W (fun k => k < W.heap.size) (fun _ h => h) K0 L0 S0 TA0 Tc0 T0 BA0 Bc0 B0 CA0 Cc0 C0 n1 A2 c2 t2 b3 A4 c4 t4 A5 c5 t5 A6 c6 t6 (shapes_of_laid hL) gT0 gB0 gC0 gCs0 g2 g4 g5 g6 hS0).mono fun e W' ⟨he, hf⟩ => ?_
 subst he
 exact ⟨_, rfl, post_true kids slicesFull (by rw [Tryz.params4]; decide) rfl hW' rfl Tryz.underlying4 ⟨rfl, rfl, rfl⟩ hf.below⟩
theorem laid_met (os : Os) : laidMet Tryz.prog Rows.motiveClosedRow.laid ((laidWorld os).forCall (fun _ _ => 0) ⟨#[], #[Value.agg #[.int .i64 0, .int .i64 0, .string ⟨#[]⟩, .slice none 0 0, .slice none 0 0, .slice none 0 0], Value.int .i64 0, Value.slice none 0 0, Value.bool false, Value.slice none 0 0, Value.slice none 0 0, Value.slice none 0 0], []⟩).memory :=
 laidMet_of_run' 8 (by kernel_rfl) (by kernel_rfl)
theorem reads (os : Os) {H : Type} (enc : TypeId × Value → H) : ∃ places, DataW.whole enc Tryz.prog ((laidWorld os).forCall (fun _ _ => 0) ⟨#[], #[Value.agg #[.int .i64 0, .int .i64 0, .string ⟨#[]⟩, .slice none 0 0, .slice none 0 0, .slice none 0 0], Value.int .i64 0, Value.slice none 0 0, Value.bool false, Value.slice none 0 0, Value.slice none 0 0, Value.slice none 0 0], []⟩).memory Tryz.f4.params.toList Rows.motiveClosedSpec.vars false #[Value.agg #[.int .i64 0, .int .i64 0, .string ⟨#[]⟩, .slice none 0 0, .slice none 0 0, .slice none 0 0], Value.int .i64 0, Value.slice none 0 0, Value.bool false, Value.slice none 0 0, Value.slice none 0 0, Value.slice none 0 0].toList 8 = some ([.agg [.lit (.int .i64 0), .lit (.int .i64 0), .lit (.string []), .nil, .nil, .nil], .lit (.int .i64 0), .nil, .lit (.bool false), .nil, .nil, .nil], [], places) :=
 ⟨[], by kernel_rfl⟩
theorem lifted (os : Os) (started : os.Started) (H : Type) (enc : TypeId × Value → H) (F : Stop.Interp) :
  ReturnsInHanded {} Tryz.checked os 4 .any ((OpenSpec.ofChange Rows.motiveClosedSpec).preRow enc Tryz.prog Tryz.f4 Rows.motiveClosedRow.domain false Rows.motiveClosedRow.laid) (((OpenSpec.ofChange Rows.motiveClosedSpec).at F).post enc Tryz.prog Tryz.f4 false true false false) := by
 obtain ⟨places, hx⟩ := reads os enc
 refine returnsInHanded_of_row (C := Tryz.checked) (s := OpenSpec.ofChange Rows.motiveClosedSpec) ownKnobNone started (by kernel_rfl) Tryz.func4
  (witness_row_atRef (enc := enc) (C := Tryz.checked) false (laidWorld os) #[Value.agg #[.int .i64 0, .int .i64 0, .string ⟨#[]⟩, .slice none 0 0, .slice none 0 0, .slice none 0 0], Value.int .i64 0, Value.slice none 0 0, Value.bool false, Value.slice none 0 0, Value.slice none 0 0, Value.slice none 0 0] rfl (by kernel_rfl) (by kernel_rfl) (by kernel_rfl)
   (OpenSpec.preRow_of_cond 8 hx (by kernel_rfl) (fun k hk => by cases hk) (by kernel_rfl) (laid_met os))) ?_
 intro W base args ds gs before hval hW _ _ _ hL _ _
 exact contract H enc W base args ds gs before hval hW hL
theorem said : Rows.MotiveClosedSaid :=
 OpenClaim.holds_of_cond 4 Tryz.f4 rfl rfl rfl rfl rfl rfl rfl ⟨rfl, rfl, rfl, rfl, rfl⟩ rfl rfl rfl rfl rfl (by kernel_rfl) Tryz.func4 (by kernel_rfl)
  (of_decide_eq_true (by kernel_rfl)) (by unfold Func.isWrapper; first | (rw [if_pos (by decide +kernel)]; kernel_rfl) | (rw [if_neg (by decide +kernel)]; exact ⟨rfl, rfl⟩))
  (fun os started H enc _ F => by rw [OpenClaim.pre_eq_preRow]; exact lifted os started H enc F)
theorem plain (f : FuncId) (fn : Func) (hf : Tryz.pinned.checked.prog.funcNamed "cornice/cornicelaw18.MotiveClosed" = some f) (hfn : Tryz.pinned.checked.prog.funcs[f]? = some fn) :
  false = Tryz.pinned.checked.prog.looks [] ∧ ∀ (j : Nat) t, fn.params[j]? = some t → Tryz.pinned.checked.prog.wantsStandIn t = false := by
 obtain rfl : f = 4 := Option.some.inj ((show Tryz.prog.funcNamed "cornice/cornicelaw18.MotiveClosed" = some 4 by kernel_rfl).symm.trans hf) |>.symm
 obtain rfl : fn = Tryz.f4 := (Option.some.inj (Tryz.func4.symm.trans hfn)).symm
 refine ⟨by kernel_rfl, fun j t ht => ?_⟩
 rw [Tryz.params4] at ht
 have hm := Array.mem_of_getElem? ht
 simp only [List.mem_toArray, List.mem_cons, List.not_mem_nil, or_false] at hm
 rcases hm with rfl | rfl | rfl | rfl | rfl | rfl | rfl
 · exact (show Tryz.prog.wantsStandIn 25 = false by kernel_rfl)
 · exact (show Tryz.prog.wantsStandIn 3 = false by kernel_rfl)
 · exact (show Tryz.prog.wantsStandIn 26 = false by kernel_rfl)
 · exact (show Tryz.prog.wantsStandIn 4 = false by kernel_rfl)
 · exact (show Tryz.prog.wantsStandIn 22 = false by kernel_rfl)
 · exact (show Tryz.prog.wantsStandIn 22 = false by kernel_rfl)
 · exact (show Tryz.prog.wantsStandIn 22 = false by kernel_rfl)
theorem proved : Rows.MotiveClosedCardSaid :=
 Claim7.holds_tied_plain_at .later [] _ _ _ _ said (fun _ h => by cases h) (by kernel_rfl) (fun _ h => by cases h) motiveClosed_row_tie rfl ⟨rfl, rfl⟩ (by kernel_rfl) rfl plain (by kernel_rfl)
end Go.Proofs.YtpfmnpaifchleaaGreatDoor.lawMotiveClosed
