import Derived.Test.YtpfmnpaifchleaaDoorYmh
import Derived.Deep.DeepWitnessRowRef
namespace Go.Proofs.YtpfmnpaifchleaaDoor
set_option linter.unusedSimpArgs false
set_option linter.unusedVariables false
section
/- An argument that is a slice of slices of slices of nodes. -/
open Go Go.RowKit Go.WideShapes Go.ChangeShapes
section
variable {H : Type} {enc : TypeId × Value → H} {w : World}
set_option maxRecDepth 100000 in
theorem open_listss {r : Reach} {base b0 : Nat} {sp : Nat → Bool} {held : Bool} {v : Value} {d : DataW H} {ps : List MemPlace} (hval : Value.okWide Tryd.prog w r b0 23 v) (hd : DataW.Trod enc Tryd.prog w base sp held 23 v d ps) :
  ∃ (A : Option Addr) (c : Nat) (t : List Tl), v = .slice A t.length c ∧ (dRow 1 A t.length c (encTs t)).φ w (fun k => k < w.heap.size) ∧ (dAllT t).φ w (fun k => k < w.heap.size) := by
 obtain ⟨A, len, cap, rfl⟩ := okWide_slice Tryd.underlying23 hval
 obtain ⟨fuel, hf⟩ := hd
 have hcn : Tryd.prog.cellsOf 40 = 1 := by kernel_rfl
 rcases Deep.open_slice Tryd.underlying23 hf with ⟨hcs, _⟩ | ⟨a, len', cap', m, n, D, Pl, hcs, _, hl, _, hm, _, hi⟩
 ·
  simp [Value.cells] at hcs
  obtain ⟨rfl, rfl, rfl⟩ := hcs
  exact ⟨none, 0, [], rfl, ⟨Nat.le_refl _, rfl, fun h => absurd h (by simp)⟩, allT_nil⟩
 ·
  simp [Value.cells] at hcs
  obtain ⟨rfl, rfl, rfl⟩ := hcs
  have hmm : len ≤ m := by rw [hm]; split <;> omega
  obtain ⟨L, h1, h2, h3⟩ := cells_all (w := w) (f := encT) (z := tlz) (Q := fun s => (dRow 1 s.1 s.2.2.length s.2.1 (encSs s.2.2)).φ w (fun k => k < w.heap.size) ∧ (dAll s.2.2).φ w (fun k => k < w.heap.size)) encT_len (len := len) (base := base) (a := a) (fun i hil => by
   obtain ⟨cs', hc, ht⟩ := hi i (by omega)
   obtain ⟨s, rfl, hd⟩ := lists_cell ht
   rw [hcn] at hc
   exact ⟨s, hc, hd⟩)
  subst h1
  exact ⟨some a, cap, L, rfl, ⟨hl, h3⟩, fun s hs => h2 s hs⟩
end
end
section
/- The table of shapes: from the row's list to cells; a world that holds it. -/
open Go Go.RowKit Go.WideShapes Go.ChangeShapes
set_option maxRecDepth 100000
def shapeD (k : Nat) : DataW Unit := .agg [(match (shp k).b with | [] => .nil | b => .slice (lits .i64 b) []), .lit (.bool (shp k).n), .lit (.bool (shp k).m), .lit (.bool (shp k).s)]
theorem laid_eq : (Rows.laid_cornice_term_shapes : DataW Unit) = .agg ((List.range 30).map shapeD) := by kernel_rfl
theorem encIs_map (l : List Int) : encIs l = l.map (fun n => Value.int .i64 n) := by
 induction l with
 | nil => rfl
 | cons x t ih => rw [List.map_cons, ← ih]; rfl
theorem shape_cells {w : World} {base : Nat} {sp : Nat → Bool} {held : Bool} {n : Nat} {cs : List Value} {k : Nat} {p : List MemPlace}
  (h : DataW.trod (fun _ => ()) Tryd.prog w base sp held n 92 cs = some (shapeD k, p)) :
  ∃ (A : Option Addr) (cap : Nat), cs = [.slice A (shp k).b.length cap, .bool (shp k).n, .bool (shp k).m, .bool (shp k).s] ∧ (shp k).b.length ≤ cap ∧ RowI w (fun k => k < w.heap.size) 1 A (shp k).b.length (encIs (shp k).b) := by
 have hu : Tryd.prog.underlying 92 = some (.struct (Tryd.prog.fieldsOf 92)) := by kernel_rfl
 have hf : (Tryd.prog.fieldsOf 92).toList.map (fun f => (f.type, f.offset)) = [(82, 0), (4, 1), (4, 2), (4, 3)] := by kernel_rfl
 have hci : Tryd.prog.cellsOf 82 = 1 := by kernel_rfl
 have hci1 : Tryd.prog.cellsOf 3 = 1 := by kernel_rfl
 have hcs : Tryd.prog.cellsOf 4 = 1 := by kernel_rfl
 have hcn : Tryd.prog.cellsOf 92 = 4 := by kernel_rfl
 obtain ⟨xs, m, _, hx, hl, hxl, hg⟩ := DataW.trod_struct hu h
 rw [hcn] at hl
 have hd : xs.map (·.1) = [(match (shp k).b with | [] => .nil | b => .slice (lits .i64 b) []), .lit (.bool (shp k).n), .lit (.bool (shp k).m), .lit (.bool (shp k).s)] := by
  have := congrArg Prod.fst hx
  simp only [shapeD] at this
  injection this with h1
  exact h1.symm
 have fld : ∀ (j : Nat) (t : TypeId) (off : Nat), ((Tryd.prog.fieldsOf 92).toList.map (fun f => (f.type, f.offset)))[j]? = some (t, off) → DataW.trod (fun _ => ()) Tryd.prog w base sp held m t ((cs.drop off).take (Tryd.prog.cellsOf t)) = xs[j]? := by
  intro j t off hj
  rw [List.getElem?_map] at hj
  cases hfj : (Tryd.prog.fieldsOf 92).toList[j]? with
  | none => rw [hfj] at hj; cases hj
  | some f =>
   rw [hfj] at hj
   simp only [Option.map_some, Option.some.injEq, Prod.mk.injEq] at hj
   obtain ⟨rfl, rfl⟩ := hj
   exact hg j f (by rw [← Array.getElem?_toList]; exact hfj)
 rw [hf] at fld
 match cs, hl, xs, hd with
 | [c0, c1, c2, c3], _, [y0, y1, y2, y3], hd =>
  simp only [List.map_cons, List.map_nil, List.cons.injEq, and_true] at hd
  obtain ⟨d0, d1, d2, d3⟩ := hd
  have h0 := fld 0 _ _ rfl
  have h1 := fld 1 _ _ rfl
  have h2 := fld 2 _ _ rfl
  have h3 := fld 3 _ _ rfl
  rw [hci] at h0
  rw [hcs] at h1 h2 h3
  obtain ⟨b1, e1, f1⟩ := DataW.trod_bool Tryd.underlying4 h1
  obtain ⟨b2, e2, f2⟩ := DataW.trod_bool Tryd.underlying4 h2
  obtain ⟨b3, e3, f3⟩ := DataW.trod_bool Tryd.underlying4 h3
  simp at e1 e2 e3
  simp [f1] at d1
  simp [f2] at d2
  simp [f3] at d3
  subst e1 e2 e3 d1 d2 d3
  rcases open_ints Tryd.underlying82 Tryd.underlying3 hci1 h0 with ⟨hcs0, hy⟩ | ⟨a, len, cap, zs, hcs0, _, hle, _, hzl, hy, hcell, _⟩
  ·
   simp at hcs0
   subst hcs0
   rw [hy] at d0
   cases hb : (shp k).b with
   | nil => exact ⟨none, 0, by simp, by simp, by simp [encIs], fun h => absurd h (by simp)⟩
   | cons z zs => rw [hb] at d0; simp at d0
  ·
   simp at hcs0
   subst hcs0
   rw [hy] at d0
   cases hb : (shp k).b with
   | nil => rw [hb] at d0; simp at d0
   | cons z l =>
    rw [hb] at d0
    simp only [DataW.slice.injEq] at d0
    obtain ⟨d4, d5⟩ := d0
    have hinj : ∀ a b : List Int, (lits .i64 a : List (DataW Unit)) = lits .i64 b → a = b := by
     intro a
     induction a with
     | nil => intro b hb; cases b with
      | nil => rfl
      | cons _ _ => simp [lits] at hb
     | cons x a ih => intro b hb; cases b with
      | nil => simp [lits] at hb
      | cons y b =>
       simp only [lits, List.map_cons, List.cons.injEq, DataW.lit.injEq, Lit.int.injEq, true_and] at hb
       rw [hb.1, ih b hb.2]
    have d6 := hinj _ _ d4
    have hll : len = (z :: l).length := by
     have := congrArg List.length d6
     rw [List.length_take] at this
     have hz : len ≤ zs.length := by rw [hzl]; split <;> omega
     omega
    subst hll
    refine ⟨some a, cap, rfl, hle, by simp [encIs_length], fun _ => ⟨a, rfl, ?_, ?_⟩⟩
    ·
     have h9 := hcell 0 (by have hz2 : (z :: l).length ≤ zs.length := (by rw [hzl]; split <;> omega); rw [List.length_cons] at hz2; omega)
     have := lt_of_cell h9
     rwa [block_of_add] at this
    ·
     intro j u hu
     have hjl : j < (z :: l).length := by
      have := (List.getElem?_eq_some_iff.1 hu).1
      rw [encIs_length] at this
      simpa using this
     have hzz : (z :: l).length ≤ zs.length := by rw [hzl]; split <;> omega
     rw [hcell j (by omega)]
     have h8 : (z :: l)[j]? = zs[j]? := by rw [← d6, List.getElem?_take_of_lt hjl]
     have h7 := encIs_map (z :: l)
     rw [h7, List.getElem?_map, h8] at hu
     cases hq : zs[j]? with
     | none => rw [hq] at hu; simp at hu
     | some q =>
      rw [hq] at hu
      simp only [Option.map_some, Option.some.injEq] at hu
      rw [← hu, List.getD_eq_getElem?_getD, hq]
      rfl
theorem shapes_of_laid {W : World} (h : laidMetH Tryd.prog [("cornice/term.shapes", Rows.laid_cornice_term_shapes)] W) : Shapes W (fun k => k < W.heap.size) := by
 have h' : laidMet Tryd.prog [("cornice/term.shapes", Rows.laid_cornice_term_shapes)] W := h
 obtain ⟨ps, ⟨g, t, cs, fuel, p, q, hg, ht, hvar, hd, _, _⟩, _⟩ := h'
 have hg0 : Tryd.prog.globalNamed "cornice/term.shapes" = some 0 := by kernel_rfl
 have ht0 : (Tryd.prog.globals[0]?).map (·.type) = some 93 := by kernel_rfl
 obtain rfl : 0 = g := Option.some.inj (hg0.symm.trans hg)
 obtain rfl : 93 = t := Option.some.inj (ht0.symm.trans ht)
 have hcn : Tryd.prog.cellsOf 92 = 4 := by kernel_rfl
 have hct : Tryd.prog.cellsOf 93 = 120 := by kernel_rfl
 obtain ⟨xs, m, _, hx, hl, hxl, hi⟩ := DataW.trod_array Tryd.underlying93 hd
 rw [hct] at hl
 have hxd : xs.map (·.1) = (List.range 30).map shapeD := by
  have := congrArg Prod.fst hx
  simp only [laid_eq] at this
  injection this with h1
  exact h1.symm
 intro k hk
 have h1 := hi k hk
 rw [hcn] at h1
 have hkx : k < xs.length := by omega
 have h2 : xs[k]? = some (shapeD k, (xs[k]).2) := by
  rw [List.getElem?_eq_getElem hkx]
  have h3 : (xs.map (·.1))[k]? = some (shapeD k) := by rw [hxd]; simp [hk]
  rw [List.getElem?_map, List.getElem?_eq_getElem hkx] at h3
  simp only [Option.map_some, Option.some.injEq] at h3
  rw [← h3]
 rw [h2] at h1
 obtain ⟨A, cap, hcs, hle, hrow⟩ := shape_cells h1
 refine ⟨A, cap, ⟨hle, hrow⟩, ?_, ?_⟩
 ·
  have h4 := World.var?_cell hg hvar 0
  have h5 : cs[0]? ≠ none := by
   intro e
   rw [← Array.getElem?_toList, List.getElem?_eq_none_iff] at e
   omega
  cases h6 : cs[0]? with
  | none => exact absurd h6 h5
  | some v => rw [h6] at h4; exact lt_of_cell h4
 ·
  intro j u hu
  have hj : j < 4 := by
   have := (List.getElem?_eq_some_iff.1 hu).1
   simpa using this
  have h4 := World.var?_cell hg hvar (k * 4 + j)
  rw [← hcs, List.getElem?_take_of_lt hj, List.getElem?_drop, Array.getElem?_toList] at hu
  rw [hu] at h4
  rw [add_of_add]
  have : (⟨0, 0, none⟩ : Addr).add (k * 4 + j) = ⟨0, k * 4 + j, none⟩ := by unfold Addr.add; split <;> simp_all
  rw [this]
  exact h4
noncomputable def laidWorld (os : Os) : World :=
 { World.holding Tryd.prog os ⟨#[.cells #[.int .i64 0, .int .i64 1, .int .i64 0, .int .i64 1, .int .i64 0, .int .i64 0, .int .i64 0, .int .i64 1, .int .i64 0, .int .i64 0, .int .i64 0, .int .i64 0, .int .i64 0, .int .i64 0, .int .i64 1, .int .i64 0, .int .i64 2, .int .i64 0, .int .i64 0, .int .i64 0, .int .i64 0, .int .i64 0, .int .i64 0, .int .i64 0, .int .i64 0, .int .i64 0, .int .i64 0, .int .i64 0, .int .i64 0, .int .i64 0, .int .i64 0, .int .i64 1, .int .i64 0, .int .i64 0, .int .i64 0, .int .i64 0, .int .i64 2, .int .i64 0, .int .i64 0, .int .i64 0, .int .i64 0, .int .i64 0, .int .i64 0, .int .i64 1, .int .i64 0, .int .i64 0, .int .i64 0] 3], #[], []⟩ with heap := (World.holding Tryd.prog os ⟨#[.cells #[.int .i64 0, .int .i64 1, .int .i64 0, .int .i64 1, .int .i64 0, .int .i64 0, .int .i64 0, .int .i64 1, .int .i64 0, .int .i64 0, .int .i64 0, .int .i64 0, .int .i64 0, .int .i64 0, .int .i64 1, .int .i64 0, .int .i64 2, .int .i64 0, .int .i64 0, .int .i64 0, .int .i64 0, .int .i64 0, .int .i64 0, .int .i64 0, .int .i64 0, .int .i64 0, .int .i64 0, .int .i64 0, .int .i64 0, .int .i64 0, .int .i64 0, .int .i64 1, .int .i64 0, .int .i64 0, .int .i64 0, .int .i64 0, .int .i64 2, .int .i64 0, .int .i64 0, .int .i64 0, .int .i64 0, .int .i64 0, .int .i64 0, .int .i64 1, .int .i64 0, .int .i64 0, .int .i64 0] 3], #[], []⟩).heap.modify 0 fun
   | .cells _ t frozen => .cells #[.slice none 0 0, .bool true, .bool false, .bool false, .slice none 0 0, .bool false, .bool false, .bool true, .slice none 0 0, .bool true, .bool false, .bool false, .slice (some ⟨6, 0, none⟩) 2 2, .bool true, .bool false, .bool false, .slice (some ⟨6, 2, none⟩) 2 2, .bool false, .bool false, .bool false, .slice (some ⟨6, 4, none⟩) 2 2, .bool false, .bool false, .bool false, .slice (some ⟨6, 6, none⟩) 2 2, .bool true, .bool false, .bool false, .slice (some ⟨6, 8, none⟩) 3 3, .bool false, .bool false, .bool false, .slice (some ⟨6, 11, none⟩) 1 1, .bool false, .bool false, .bool false, .slice (some ⟨6, 12, none⟩) 1 1, .bool false, .bool false, .bool false, .slice none 0 0, .bool false, .bool false, .bool false, .slice none 0 0, .bool false, .bool false, .bool false, .slice (some ⟨6, 13, none⟩) 1 1, .bool false, .bool false, .bool false, .slice (some ⟨6, 14, none⟩) 4 4, .bool false, .bool false, .bool false, .slice none 0 0, .bool false, .bool false, .bool false, .slice (some ⟨6, 18, none⟩) 2 2, .bool false, .bool false, .bool false, .slice none 0 0, .bool false, .bool false, .bool false, .slice none 0 0, .bool false, .bool false, .bool false, .slice (some ⟨6, 20, none⟩) 3 3, .bool false, .bool false, .bool false, .slice (some ⟨6, 23, none⟩) 2 2, .bool false, .bool false, .bool false, .slice (some ⟨6, 25, none⟩) 4 4, .bool false, .bool false, .bool false, .slice (some ⟨6, 29, none⟩) 6 6, .bool false, .bool false, .bool false, .slice (some ⟨6, 35, none⟩) 5 5, .bool false, .bool false, .bool false, .slice (some ⟨6, 40, none⟩) 2 2, .bool false, .bool false, .bool false, .slice (some ⟨6, 42, none⟩) 4 4, .bool false, .bool false, .bool false, .slice none 0 0, .bool false, .bool false, .bool true, .slice none 0 0, .bool true, .bool true, .bool true, .slice none 0 0, .bool false, .bool true, .bool true, .slice (some ⟨6, 46, none⟩) 1 1, .bool false, .bool false, .bool false, .slice none 0 0, .bool false, .bool false, .bool false] t frozen
   | o => o }
end
end Go.Proofs.YtpfmnpaifchleaaDoor
/- The law UnfoldMoves: it returns true, whatever its arguments are, and they read as they did; the table of shapes holds what the program's text lays. -/
namespace Go.Proofs.YtpfmnpaifchleaaDoor.lawUnfoldMoves
open Go Go.RowKit Go.WideShapes Go.ChangeShapes Go.Proofs.YtpfmnpaifchleaaDoor
set_option maxRecDepth 100000
set_option linter.unusedSimpArgs false
set_option linter.unusedVariables false
theorem contract (H : Type) (enc : TypeId × Value → H) (W : World) (base : Nat) (args : Array Value) (ds gs : List (DataW H)) (before : List MemPlace)
  (hval : ∀ (j : Nat) t v, Tryd.f4.params[j]? = some t → args[j]? = some v → Value.okWide Tryd.prog W .any base t v)
  (hW : DataW.Whole enc Tryd.prog Tryd.f4.params.toList Rows.unfoldMovesSpec.vars false W args.toList ds gs before) (hL : laidMetH Tryd.prog Rows.unfoldMovesRow.laid W) :
  Calls Tryd.prog 4 args W fun e W' => ∃ v, e = .returned v ∧ Rows.unfoldMovesSpec.post enc Tryd.prog Tryd.f4 false true false false W args v W' := by
 have hW' := hW
 obtain ⟨p, q, hA0, hV, rfl, hfz, hnd⟩ := hW
 have hA := hA0
 rw [Tryd.params4] at hA hval
 obtain ⟨v0, vs0, d0, ds0, p0, q0, hargs, rfl, rfl, h0, r0⟩ := trodAll_cons hA
 obtain ⟨v1, vs1, d1, ds1, p1, q1, rfl, rfl, rfl, h1, r1⟩ := trodAll_cons r0
 obtain ⟨v2, vs2, d2, ds2, p2, q2, rfl, rfl, rfl, h2, r2⟩ := trodAll_cons r1
 obtain ⟨v3, vs3, d3, ds3, p3, q3, rfl, rfl, rfl, h3, r3⟩ := trodAll_cons r2
 obtain ⟨rfl, rfl, rfl⟩ := trodAll_nil r3
 obtain rfl : args = #[v0, v1, v2, v3] := by cases args; simp_all
 obtain ⟨rfl, rfl⟩ := trodVars_none hV
 obtain ⟨A0, c0, t0, rfl, g0⟩ := open_nodes (hval 0 _ _ rfl rfl) h0
 obtain ⟨A1, c1, t1, rfl, g1, gg1⟩ := open_listss (hval 1 _ _ rfl rfl) h1
 obtain ⟨b2, rfl, hb2⟩ := open_byte (hval 2 _ _ rfl rfl)
 obtain ⟨b3, rfl, hb3⟩ := open_byte (hval 3 _ _ rfl rfl)
 refine (unfoldMoves_calls W (fun k => k < W.heap.size) (fun _ h => h) A0 c0 t0 A1 c1 t1 b2 b3 (shapes_of_laid hL) g0 g1 gg1 hb2 hb3).mono fun e W' ⟨he, hf⟩ => ?_
 subst he
 exact ⟨_, rfl, post_true kids slicesFull (by rw [Tryd.params4]; decide) rfl hW' rfl Tryd.underlying4 ⟨rfl, rfl, rfl⟩ hf.below⟩
theorem laid_met (os : Os) : laidMet Tryd.prog Rows.unfoldMovesRow.laid ((laidWorld os).forCall (fun _ _ => 0) ⟨#[], #[Value.slice none 0 0, Value.slice none 0 0, Value.int .u8 0, Value.int .u8 0], []⟩).memory :=
 laidMet_of_run' 8 (by kernel_rfl) (by kernel_rfl)
theorem reads (os : Os) {H : Type} (enc : TypeId × Value → H) : ∃ places, DataW.whole enc Tryd.prog ((laidWorld os).forCall (fun _ _ => 0) ⟨#[], #[Value.slice none 0 0, Value.slice none 0 0, Value.int .u8 0, Value.int .u8 0], []⟩).memory Tryd.f4.params.toList Rows.unfoldMovesSpec.vars false #[Value.slice none 0 0, Value.slice none 0 0, Value.int .u8 0, Value.int .u8 0].toList 8 = some ([.nil, .nil, .lit (.int .u8 0), .lit (.int .u8 0)], [], places) :=
 ⟨[], by kernel_rfl⟩
theorem lifted (os : Os) (started : os.Started) (H : Type) (enc : TypeId × Value → H) (F : Stop.Interp) :
  ReturnsInHanded {} Tryd.checked os 4 .any ((OpenSpec.ofChange Rows.unfoldMovesSpec).preRow enc Tryd.prog Tryd.f4 Rows.unfoldMovesRow.domain false Rows.unfoldMovesRow.laid) (((OpenSpec.ofChange Rows.unfoldMovesSpec).at F).post enc Tryd.prog Tryd.f4 false true false false) := by
 obtain ⟨places, hx⟩ := reads os enc
 refine returnsInHanded_of_row (C := Tryd.checked) (s := OpenSpec.ofChange Rows.unfoldMovesSpec) ownKnobNone started (by kernel_rfl) Tryd.func4
  (witness_row_atRef (enc := enc) (C := Tryd.checked) false (laidWorld os) #[Value.slice none 0 0, Value.slice none 0 0, Value.int .u8 0, Value.int .u8 0] rfl (by kernel_rfl) (by kernel_rfl) (by kernel_rfl)
   (OpenSpec.preRow_of_cond 8 hx (by kernel_rfl) (fun k hk => by cases hk) (by kernel_rfl) (laid_met os))) ?_
 intro W base args ds gs before hval hW _ _ _ hL _ _
 exact contract H enc W base args ds gs before hval hW hL
theorem said : Rows.UnfoldMovesSaid :=
 OpenClaim.holds_of_cond 4 Tryd.f4 rfl rfl rfl rfl rfl rfl rfl ⟨rfl, rfl, rfl, rfl, rfl⟩ rfl rfl rfl rfl rfl (by kernel_rfl) Tryd.func4 (by kernel_rfl)
  (of_decide_eq_true (by kernel_rfl)) (by unfold Func.isWrapper; first | (rw [if_pos (by decide +kernel)]; kernel_rfl) | (rw [if_neg (by decide +kernel)]; exact ⟨rfl, rfl⟩))
  (fun os started H enc _ F => by rw [OpenClaim.pre_eq_preRow]; exact lifted os started H enc F)
theorem plain (f : FuncId) (fn : Func) (hf : Tryd.pinned.checked.prog.funcNamed "cornice/cornicelaw14.UnfoldMoves" = some f) (hfn : Tryd.pinned.checked.prog.funcs[f]? = some fn) :
  false = Tryd.pinned.checked.prog.looks [] ∧ ∀ (j : Nat) t, fn.params[j]? = some t → Tryd.pinned.checked.prog.wantsStandIn t = false := by
 obtain rfl : f = 4 := Option.some.inj ((show Tryd.prog.funcNamed "cornice/cornicelaw14.UnfoldMoves" = some 4 by kernel_rfl).symm.trans hf) |>.symm
 obtain rfl : fn = Tryd.f4 := (Option.some.inj (Tryd.func4.symm.trans hfn)).symm
 refine ⟨by kernel_rfl, fun j t ht => ?_⟩
 rw [Tryd.params4] at ht
 have hm := Array.mem_of_getElem? ht
 simp only [List.mem_toArray, List.mem_cons, List.not_mem_nil, or_false] at hm
 rcases hm with rfl | rfl | rfl | rfl
 · exact (show Tryd.prog.wantsStandIn 22 = false by kernel_rfl)
 · exact (show Tryd.prog.wantsStandIn 23 = false by kernel_rfl)
 · exact (show Tryd.prog.wantsStandIn 5 = false by kernel_rfl)
 · exact (show Tryd.prog.wantsStandIn 5 = false by kernel_rfl)
theorem proved : Rows.UnfoldMovesCardSaid :=
 Claim7.holds_tied_plain_at .later [] _ _ _ _ said (fun _ h => by cases h) (by kernel_rfl) (fun _ h => by cases h) unfoldMoves_row_tie rfl ⟨rfl, rfl⟩ (by kernel_rfl) rfl plain (by kernel_rfl)
end Go.Proofs.YtpfmnpaifchleaaDoor.lawUnfoldMoves
