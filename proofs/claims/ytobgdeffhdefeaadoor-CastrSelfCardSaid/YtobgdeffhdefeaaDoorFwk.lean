import Derived.Test.YtobgdeffhdefeaaDoorFwj
import Derived.Lib.AppendZerosOnto
/- Appends of zeros; nodes compared; boxes of the caller's. -/
namespace Go.Proofs.YtobgdeffhdefeaaDoor
set_option linter.unusedSimpArgs false
set_option linter.unusedVariables false
open Go Go.RowKit
theorem zeroCells_int (k : Nat) : (Builtin.zeroCells (Value.int .i64 0).cells k).toList = List.replicate k (.int .i64 0) := by
  apply List.ext_getElem
  · simp [Builtin.zeroCells, Value.cells]
  · intro i h1 h2
    simp [Builtin.zeroCells, Value.cells, Nat.mod_one]
theorem zeros_encI (q : Nat) : (List.replicate q (0 : Int)).flatMap encI = List.replicate q (Value.int .i64 0) := by
  induction q with
  | zero => rfl
  | succ q ih => rw [List.replicate_succ, List.flatMap_cons, ih]; rfl
section
variable {P : Program} {X : Prop} {Next : Act → World → Prop} {o : Oper} {a : Act} {w w0 : World} {N : Nat} {l : List (Nat × Value)} {d : Nat} {Z M : Nat → Prop} {m : List Res} {ds : List Dat}
theorem run_append_zeros {t tn ty e : TypeId} {inf : TypeInfo} {kn kq : IntKind} {xs : List Value} {g n cap q : Nat} (ht : P.underlying t = some (.slice e)) (htn : P.underlying tn = some (.int kn)) (hi : P.info? e = some inf) (hz : inf.zero = some (.int .i64 0)) (hsize : inf.size = 1) (hby : inf.bytes = 8)
    (hown : w.ownsRow 0 e 1 (.slice (some ⟨g, 0, none⟩) n cap) n xs) (hq : 0 < q) (hb : n + q ≤ 100000000) :
    ∃ v' w', (Builtin.append_ #[t, tn] ty #[.slice (some ⟨g, 0, none⟩) n cap, .int kq (q : Int)]).run P w = .ok v' w' ∧ w'.ownsRow 0 e 1 v' (n + q) (xs ++ List.replicate q (.int .i64 0)) ∧ w.grownBy w' (some g) ∧
      (v'.ownBlock = some g ∨ v'.ownBlock = some w.heap.size) := by
  have hlen : (xs ++ List.replicate q (Value.int .i64 0)).length = (n + q) * 1 := by rw [List.length_append, hown.1, List.length_replicate]; omega
  rcases hown.2 with ⟨h, _⟩ | ⟨g', cap', cur, hv, hbg, hg, hnc, hcm, hcs, htake⟩
  · cases h
  · injection hv with hv1 hv2 hv3
    injection hv1 with hv1
    injection hv1 with hv1
    subst hv1
    subst hv3
    have hw : IntKind.i64.wrap (q : Int) = q := by rw [IntKind.wrap_i64]; omega
    by_cases hroom : n + q ≤ cap
    · have hst := run_storeCells_at P g (n * 1) e (List.replicate q (Value.int .i64 0)) 0 cur w hg (by rw [List.length_replicate, hcs]; omega) (fun u hu => by rw [List.mem_replicate] at hu; rw [hu.2]; rfl)
      simp only [Nat.add_zero, List.length_replicate, Nat.mul_one] at hst
      have hr : (Builtin.append_ #[t, tn] ty #[.slice (some ⟨g, 0, none⟩) n cap, .int kq (q : Int)]).run P w =
          .ok (.slice (some ⟨g, 0, none⟩) (n + q) cap) (w.setRow g (cur.toList.take n ++ List.replicate q (Value.int .i64 0) ++ cur.toList.drop (n + q)).toArray) := by
        have hneg : ¬ ((q : Int) < 0) := by omega
        have h48i : ¬ (281474976710656 < (q : Int) * (inf.bytes : Int)) := by rw [hby]; omega
        have hq0 : q ≠ 0 := by omega
        simp [Builtin.append_, run_underlying ht, run_underlying htn, sizeOf, typeInfo, zeroValue, hi, hz, hsize, asInt, asIntOf, hw, hq0, hneg, h48i, hroom, zeroCells_int, Addr.add_lit, hst]
      refine ⟨_, _, hr, ⟨hlen, .inr ⟨g, cap, _, rfl, hbg, setRow_heap w g cur _ e _ hg, hroom, hcm, ?_, ?_⟩⟩, ⟨rfl, rfl, rfl, by simp, fun k _ hk => setRow_other w g k _ (fun e => hk (by rw [e]))⟩, .inl rfl⟩
      · simp only [List.size_toArray, List.length_append, List.length_take, List.length_drop, Array.length_toList, List.length_replicate]
        omega
      · have : cur.toList.take n = xs := by rw [← htake, Nat.mul_one]
        rw [this, ← hlen]
        exact List.take_left
    · have holds : ∀ j u, xs[j]? = some u → w.drew.cell? ((⟨g, 0, none⟩ : Addr).add j) = some u := fun j u hu => hown.cells (g := g) rfl j u hu
      have hold := run_firstCells_some (P := P) w.drew inf.size n ⟨g, 0, none⟩ n cap xs (by rw [hsize]; exact hown.1) holds
      clear hw
      have hr := Lib.run_append_grow_zeros (P := P) w t tn ty e inf _ kq kn ht htn hi hz (some ⟨g, 0, none⟩) n cap xs hold q hq (by omega) (by omega) (by omega) (by rw [hby]; omega) (by rw [hby]; exact growslice_fits (by omega) (by omega))
      have hge := grownCap_ge w (n + q) cap e
      have hcm' : grownCap w (n + q) cap e ≤ maxLen := grownCap_le_maxLen w (n + q) cap e (by unfold maxLen; omega)
      refine ⟨_, _, hr, ⟨hlen, .inr ⟨w.heap.size, _, _, rfl, Nat.zero_le _, heap_alloc_new w.drew _, hge, hcm', ?_, ?_⟩⟩, ⟨rfl, rfl, rfl, by simp, fun k hk _ => alloc_at_old w.drew _ k hk⟩, .inr rfl⟩
      · simp only [Array.size_append, List.size_toArray, size_zeroCells, hown.1]
        simp [Value.cells]
        omega
      · simp only [Array.toList_append, zeroCells_int]
        rw [← hlen]
        exact List.take_left
/-- An append of zeros. -/
theorem m_appendZ {t tn e : TypeId} {kn kq : IntKind} {x y : Operand} {A : Option Addr} {cap i : Nat} {p : Int} (L : List Int) (q : Nat) (hs : SteV P X Next o a w) (hR : Reg a N l) (hS : St w0 Z M w m ds) (hd : o.dst = some d)
    (ho : o.op = .call { callee := .builtin .append, args := #[x, y], argTypes := #[t, tn] }) (hx : ev l x = some (.slice A L.length cap)) (hy : ev l y = some (.int kq p)) (hi : m[i]? = some (.row A L.length cap e 1 (L.flatMap encI)))
    (hp : p = (q : Int)) (hq : 0 < q) (hL : 0 < L.length) (hb : L.length + q ≤ 100000000)
    (ht : P.underlying t = some (.slice e)) (htn : P.underlying tn = some (.int kn)) (hinf : (P.info? e).map (fun i => (i.zero, i.size, i.bytes)) = some (some (.int .i64 0), 1, 8)) (hdN : d < N)
    (k : ∀ a' w' A' cap', (L ++ List.replicate q 0).length ≤ cap' → Reg a' N ((d, .slice A' (L ++ List.replicate q 0).length cap') :: l) → St w0 Z M w' (m.set i (.row A' (L ++ List.replicate q 0).length cap' e 1 ((L ++ List.replicate q 0).flatMap encI))) ds → Next a' w') : X := by
  subst hp
  cases hqq : P.info? e with
  | none => simp [hqq] at hinf
  | some inf =>
    simp only [hqq, Option.map_some, Option.some.injEq, Prod.mk.injEq] at hinf
    obtain ⟨hz, hs2, hb2⟩ := hinf
    have hown : w.ownsRow 0 e 1 (.slice A L.length cap) L.length (L.flatMap encI) := hS.res hi
    obtain ⟨g, rfl⟩ := own_some hown hL
    obtain ⟨v', w', hrun, h2, h3, h4⟩ := run_append_zeros (P := P) (ty := o.type) (kq := kq) ht htn hqq hz hs2 hb2 hown hq hb
    obtain ⟨A', cap', rfl, hcap, h2'⟩ := own_form h2
    have hl : (L ++ List.replicate q 0).length = L.length + q := by simp
    have hxs : (L ++ List.replicate q 0).flatMap encI = L.flatMap encI ++ List.replicate q (Value.int .i64 0) := by
      rw [List.flatMap_append]
      congr 1
      exact zeros_encI q
    refine hs.val (.slice A' (L.length + q) cap') w' ?_ ?_
    · unfold execOp; rw [ho]
      simp only [resolve, invoke, builtin, Sem.run_bind, Sem.run_pure, Result.andThen_ok, List.map_toArray, List.map_cons, List.map_nil, hR.ev hx, hR.ev hy, hrun]
    · rw [hd]
      refine k _ _ A' cap' (by rw [hl]; exact hcap) (by rw [hl]; exact hR.put hdN _) ?_
      rw [hl, hxs]
      refine hS.turn hi h3.os h3.tape h3.output h3.size (fun k' hk' hne => h3.block k' hk' (fun e' => hne (by rw [e']; rfl))) h2' (fun k' hk' => ?_)
      have hown' : (Value.slice A' (L.length + q) cap').ownBlock = some k' := by
        cases A' with
        | none => cases hk'
        | some ad => exact hk'
      refine ⟨(h2.lt k' hown').2, ?_⟩
      rcases h4 with h4 | h4
      · left
        rw [h4] at hown'
        exact hown'
      · right
        rw [hown'] at h4
        have := Option.some.inj h4
        omega
/-- So many zeros. -/
theorem m_makeInts {t e : TypeId} {n : Nat} {x y : Operand} {p q : Int} {kx ky : IntKind} (hs : SteV P X Next o a w) (hR : Reg a N l) (hS : St w0 Z M w m ds) (hd : o.dst = some d) (ho : o.op = .makeSlice t x y) (hx : ev l x = some (.int kx p)) (hy : ev l y = some (.int ky q))
    (hp : p = (n : Int)) (hq' : q = (n : Int)) (ht : P.underlying t = some (.slice e)) (hi : (P.info? e).map (fun i => (i.zero, i.size, i.bytes)) = some (some (.int .i64 0), 1, 8)) (hn : n ≤ 1000000) (hdN : d < N)
    (k : ∀ a' w' g, Reg a' N ((d, .slice (some ⟨g, 0, none⟩) (List.replicate n (0 : Int)).length (List.replicate n (0 : Int)).length) :: l) → St w0 Z M w' (m ++ [.row (some ⟨g, 0, none⟩) (List.replicate n (0 : Int)).length (List.replicate n (0 : Int)).length e 1 (encIs (List.replicate n 0))]) ds → Next a' w') : X :=
  m_makeSlice hs hR hS hd ho hx hy hp hq' ht hi rfl rfl rfl hn hdN (fun a' w' g hR' hS' => k a' w' g (by rw [List.length_replicate]; exact hR') (by rw [List.length_replicate, encIs, zeros_encI]; exact hS'))
/-- Two nodes, told apart. -/
theorem node_eq {m n : Nd} : m = n ↔ m.K = n.K ∧ m.N = n.N ∧ m.M = n.M ∧ m.S = n.S := by
  cases m; cases n; simp
/-- A result that lies in a cell. -/
theorem e_cell {fn : Func} {R : Ending → World → Prop} {t i g : Nat} {e ty : TypeId} {vs : List Value} {dsc : TypeDesc} {how : Exit} (hhow : how = .ret ∨ how = .normal) (hR : Reg a N l) (hS : St w0 Z M w m ds) (hr : fn.results = #[.cell t ty]) (hv : l.lookup t = some (.pointer (some ⟨g, 0, none⟩)))
    (hi : m[i]? = some (.box g e vs)) (ht : P.underlying ty = some dsc) (hag : isAggD dsc = true) (hsz : (P.info? ty).map (·.size) = some vs.length) (h : R (.returned (.agg vs.toArray)) w) : bodyPost P fn R how a w := by
  have hc : CellsAt w ⟨g, 0, none⟩ vs := box_cells (hS.res hi)
  have hl := run_loadN (P := P) ht hag hsz hc
  have hgt : a.tmps.getD t undef = .pointer (some ⟨g, 0, none⟩) := hR.get t _ hv
  have : bodyPost P fn R .ret a w := ⟨hR.dfr, .agg vs.toArray, by
    simp only [results, hr]
    have hgt' : a.tmps[t]?.getD undef = .pointer (some ⟨g, 0, none⟩) := by rw [← Array.getD_eq_getD_getElem?]; exact hgt
    simp [Sem.run_bind, hgt', asAddr, hl], h⟩
  rcases hhow with rfl | rfl
  · exact this
  · exact this
end
end Go.Proofs.YtobgdeffhdefeaaDoor
