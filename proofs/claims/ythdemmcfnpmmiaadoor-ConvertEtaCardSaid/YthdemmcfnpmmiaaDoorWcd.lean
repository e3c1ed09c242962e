import Derived.Test.YthdemmcfnpmmiaaDoorWcc
/- The map of what does not count: made, looked into. -/
namespace Go.Proofs.YthdemmcfnpmmiaaDoor
set_option linter.unusedSimpArgs false
set_option linter.unusedVariables false
open Go Go.RowKit Go.MapKept
def wA (w : World) (os : List Obj) : World := { w with heap := w.heap ++ os.toArray }
theorem wA_nil (w : World) : wA w [] = w := by simp [wA]
theorem wA_alloc (w : World) (os : List Obj) (o : Obj) : (wA w os).alloc o = wA w (os ++ [o]) := by
 unfold wA World.alloc
 congr 1
 apply Array.ext'
 simp
theorem wA_size (w : World) (os : List Obj) : (wA w os).heap.size = w.heap.size + os.length := by simp [wA]
theorem wA_at (w : World) (os : List Obj) (j : Nat) : (wA w os).heap[w.heap.size + j]? = os[j]? := by
 simp only [wA, Array.getElem?_append]
 rw [if_neg (by omega), Nat.add_sub_cancel_left]
 simp
theorem wA_old (w : World) (os : List Obj) {k : Nat} (h : k < w.heap.size) : (wA w os).heap[k]? = w.heap[k]? := by
 simp [wA, Array.getElem?_append, h]
theorem wA_set (w : World) (os : List Obj) (j : Nat) (o : Obj) : { wA w os with heap := (wA w os).heap.setIfInBounds (w.heap.size + j) o } = wA w (os.set j o) := by
 have e : (wA w os).heap.setIfInBounds (w.heap.size + j) o = (wA w (os.set j o)).heap := by
  apply Array.ext'
  simp [wA, List.set_append_right]
 rw [e]
 rfl
section
variable {P : Program} {X : Prop} {Next : Act → World → Prop} {o : Oper} {a : Act} {w w1 : World} {N : Nat} {l : List (Nat × Value)} {d : Nat} {t kt et : TypeId} {es : List MapEntry} {c b j : Nat} {z : Int} {u zv : Value} {x y m : Operand} {os : List Obj}
theorem m_makeMapA (hs : SteV P X Next o a (wA w os)) (hR : Reg a N l) (hd : o.dst = some d) (ho : o.op = .makeMap t none) (hdN : d < N)
  (k : ∀ a', Reg a' N ((d, .map (some (w.heap.size + os.length))) :: l) → Next a' (wA w (os ++ [.map ([] : List MapEntry).toArray 0]))) : X := by
 rw [← wA_alloc] at k
 rw [← wA_size] at k
 refine hs.val (.map (some (wA w os).heap.size)) ((wA w os).alloc (.map #[] 0)) ?_ (by rw [hd]; exact k _ (hR.put hdN _))
 unfold execOp; rw [ho]
 simp [Instr.makeMap, Sem.run_bind]
theorem m_insA (hs : Ste P X Next o a (wA w os)) (hR : Reg a N l) (hd : o.dst = none) (ho : o.op = .insert t m x y) (hm : ev l m = some (.map (some (w.heap.size + j)))) (hx : ev l x = some (.int .i64 z)) (hy : ev l y = some u)
  (hj : os[j]? = some (.map es.toArray c)) (ht : P.underlying t = some (.map kt et)) (hkt : P.underlying kt = some (.int .i64)) (hf : Instr.findNow (.int .i64) (.int .i64 z) es 0 = some none)
  (k : ∀ a', Reg a' N l → Next a' (wA w (os.set j (.map (es ++ [(⟨.int .i64 z, u, c⟩ : MapEntry)]).toArray (c + 1))))) : X := by
 have hb : (wA w os).heap[w.heap.size + j]? = some (.map es.toArray c) := (wA_at w os j).trans hj
 have hk : IsKey (.int .i64) (.int .i64 z) := rfl
 rw [← wA_set] at k
 refine hs.skip _ ?_ (by rw [hd]; exact k _ (hR.put_none _))
 unfold execOp; rw [ho]
 simp only [hR.ev hm, hR.ev hx, hR.ev hy, Instr.mapUpdate, Sem.run_bind, run_underlying ht, Result.andThen_ok, Go.MapKept.run_getObj_map hb, run_checkKey hkt hk, run_findKey hkt hf, run_setObj_map _ hb]
 rw [← List.push_toArray]
 rfl
theorem zero_run {z0 : Value} (hz : (P.info? et).map (·.zero) = some (some z0)) (w : World) : (zeroValue et).run P w = .ok z0 w := by
 cases hq : P.info? et with
 | none => simp [hq] at hz
 | some inf =>
  have : inf.zero = some z0 := by simpa [hq] using hz
  simp [zeroValue, typeInfo, hq, this]
def lkR (z : Value) : Option (Nat × Value) → Value
 | some (_, v) => v
 | none => z
theorem lk_run {r : Option (Nat × Value)} (hR : Reg a N l) (ho : o.op = .lookup t x y false) (hx : ev l x = some (.map (some b))) (hy : ev l y = some (.int .i64 z)) (hb : w.heap[b]? = some (.map es.toArray c))
  (ht : P.underlying t = some (.map kt et)) (hkt : P.underlying kt = some (.int .i64)) (hf : Instr.findNow (.int .i64) (.int .i64 z) es 0 = some r) (hz : (P.info? et).map (·.zero) = some (some zv)) :
  (execOp a.eval o).run P w = .ok (.value (lkR zv r)) w := by
 have hk : IsKey (.int .i64) (.int .i64 z) := rfl
 unfold execOp; rw [ho]
 cases r with
 | none => simp [lkR, hR.ev hx, hR.ev hy, Instr.lookup, Sem.run_bind, run_underlying ht, Result.andThen_ok, Go.MapKept.run_getObj_map hb, run_checkKey hkt hk, run_findKey hkt hf, zero_run hz]
 | some p => simp [lkR, hR.ev hx, hR.ev hy, Instr.lookup, Sem.run_bind, run_underlying ht, Result.andThen_ok, Go.MapKept.run_getObj_map hb, run_checkKey hkt hk, run_findKey hkt hf]
theorem lk_nil (hR : Reg a N l) (ho : o.op = .lookup t x y false) (hx : ev l x = some (.map none)) (hy : ev l y = some (.int .i64 z))
  (ht : P.underlying t = some (.map kt et)) (hkt : P.underlying kt = some (.int .i64)) (hz : (P.info? et).map (·.zero) = some (some zv)) :
  (execOp a.eval o).run P w = .ok (.value zv) w := by
 have hk : IsKey (.int .i64) (.int .i64 z) := rfl
 have hf : Instr.findNow (.int .i64) (.int .i64 z) [] 0 = some none := rfl
 unfold execOp; rw [ho]
 simp [hR.ev hx, hR.ev hy, Instr.lookup, Sem.run_bind, run_underlying ht, Result.andThen_ok, run_checkKey hkt hk, run_findKey hkt hf, zero_run hz]
abbrev IQ := Nat × Nat × Nat × Nat
def idV (q : IQ) (K : Int) : Value := if K = 20 then .map (some q.1) else if K = 24 then .map (some q.2.1) else if K = 15 then .map (some q.2.2.1) else if K = 22 then .map (some q.2.2.2) else .map none
def idI (K : Int) (i : Nat) : Int := if idleK K i = true then 1 else 0
theorem id0 {K : Int} {i : Nat} (h : idleK K i = false) : idI K i = 0 := by unfold idI; rw [h]; rfl
def mE (k : Int) (v : Value) (n : Nat) : MapEntry := ⟨.int .i64 k, v, n⟩
def idOut (q : IQ) : List MapEntry := [mE 20 (.map (some q.1)) 0, mE 24 (.map (some q.2.1)) 1, mE 15 (.map (some q.2.2.1)) 2, mE 22 (.map (some q.2.2.2)) 3]
def dIdle (b : Nat) (q : IQ) : Dat := ⟨fun w I => (dMap b (idOut q) 4).φ w I ∧ (dMap q.1 [mE 2 (.int .i64 1) 0] 1).φ w I ∧ (dMap q.2.1 [mE 2 (.int .i64 1) 0] 1).φ w I ∧ (dMap q.2.2.1 [mE 1 (.int .i64 1) 0] 1).φ w I ∧ (dMap q.2.2.2 [mE 2 (.int .i64 1) 0, mE 3 (.int .i64 1) 1, mE 4 (.int .i64 1) 2] 3).φ w I,
 fun _ _ _ _ hl h hk => ⟨(dMap _ _ _).mono _ _ _ _ hl h.1 hk, (dMap _ _ _).mono _ _ _ _ hl h.2.1 hk, (dMap _ _ _).mono _ _ _ _ hl h.2.2.1 hk, (dMap _ _ _).mono _ _ _ _ hl h.2.2.2.1 hk, (dMap _ _ _).mono _ _ _ _ hl h.2.2.2.2 hk⟩⟩
theorem same_int (p q : Int) : Instr.sameNow (.int .i64) (.int .i64 p) (.int .i64 q) = some (p == q) := by simp [Instr.sameNow]
theorem find_cons (p q : Int) (v : Value) (n i : Nat) (es : List MapEntry) : Instr.findNow (.int .i64) (.int .i64 p) (mE q v n :: es) i = if p = q then some (some (i, v)) else Instr.findNow (.int .i64) (.int .i64 p) es (i + 1) := by
 rw [Instr.findNow]
 simp only [mE, same_int]
 by_cases h : p = q
 · subst h; simp
 ·
  have : (p == q) = false := by simpa using h
  rw [this, if_neg h]
theorem r_val {v : Value} (hs : SteV P X Next o a w) (hR : Reg a N l) (hd : o.dst = some d) (hdN : d < N) (h : (execOp a.eval o).run P w = .ok (.value v) w) (k : ∀ a', Reg a' N ((d, v) :: l) → Next a' w) : X :=
 hs.val v w h (by rw [hd]; exact k _ (hR.put hdN _))
theorem m_lkO {q : IQ} {I : Nat → Prop} (hs : SteV P X Next o a w) (hR : Reg a N l) (hd : o.dst = some d) (ho : o.op = .lookup t x y false) (hx : ev l x = some (.map (some b))) (hy : ev l y = some (.int .i64 z)) (hD : (dIdle b q).φ w I)
  (ht : P.underlying t = some (.map kt et)) (hkt : P.underlying kt = some (.int .i64)) (hz : (P.info? et).map (·.zero) = some (some (.map none))) (hdN : d < N) (k : ∀ a', Reg a' N ((d, idV q z) :: l) → Next a' w) : X := by
 refine r_val hs hR hd hdN ?_ k
 by_cases h1 : z = 20
 · subst h1; exact lk_run hR ho hx hy hD.1.2 ht hkt (r := some (0, .map (some q.1))) rfl hz
 by_cases h2 : z = 24
 · subst h2; exact lk_run hR ho hx hy hD.1.2 ht hkt (r := some (1, .map (some q.2.1))) rfl hz
 by_cases h3 : z = 15
 · subst h3; exact lk_run hR ho hx hy hD.1.2 ht hkt (r := some (2, .map (some q.2.2.1))) rfl hz
 by_cases h4 : z = 22
 · subst h4; exact lk_run hR ho hx hy hD.1.2 ht hkt (r := some (3, .map (some q.2.2.2))) rfl hz
 have hv : idV q z = .map none := by unfold idV; rw [if_neg h1, if_neg h2, if_neg h3, if_neg h4]
 rw [hv]
 refine lk_run hR ho hx hy hD.1.2 ht hkt (r := none) ?_ hz
 unfold idOut
 rw [find_cons, if_neg h1, find_cons, if_neg h2, find_cons, if_neg h3, find_cons, if_neg h4]
 rfl
theorem m_lkI {q : IQ} {I : Nat → Prop} {K : Int} {i : Nat} (hs : SteV P X Next o a w) (hR : Reg a N l) (hd : o.dst = some d) (ho : o.op = .lookup t x y false) (hx : ev l x = some (idV q K)) (hy : ev l y = some (.int .i64 z)) (hi : z = (i : Int)) (hD : (dIdle b q).φ w I)
  (ht : P.underlying t = some (.map kt et)) (hkt : P.underlying kt = some (.int .i64)) (hz : (P.info? et).map (·.zero) = some (some (.int .i64 0))) (hdN : d < N) (k : ∀ a', Reg a' N ((d, .int .i64 (idI K i)) :: l) → Next a' w) : X := by
 subst hi
 refine r_val hs hR hd hdN ?_ k
 have key : ∀ (b' c' : Nat) (es : List MapEntry), ev l x = some (.map (some b')) → (dMap b' es c').φ w I → (∀ v, idI K i = v → ∃ r, Instr.findNow (.int .i64) (.int .i64 (i : Int)) es 0 = some r ∧ lkR (.int .i64 0) r = Value.int .i64 v) → (execOp a.eval o).run P w = .ok (.value (.int .i64 (idI K i))) w := fun b' c' es h1 h2 h3 => by
  obtain ⟨r, h4, h5⟩ := h3 _ rfl
  have := lk_run hR ho h1 hy h2.2 ht hkt h4 hz
  rw [this]
  rw [h5]
 unfold idV at hx
 by_cases h1 : K = 20
 ·
  subst h1
  refine key _ _ _ (hx.trans (by rw [if_pos rfl])) hD.2.1 (fun v hv => ?_)
  rw [find_cons]
  by_cases hi : (i : Int) = 2
  ·
   have : i = 2 := by omega
   subst this; exact ⟨_, if_pos rfl, by rw [← hv]; rfl⟩
  ·
   refine ⟨none, by rw [if_neg hi]; rfl, ?_⟩
   rw [← hv]; exact congrArg _ (id0 (by unfold idleK; simp; omega)).symm
 rw [if_neg h1] at hx
 by_cases h2 : K = 24
 ·
  subst h2
  refine key _ _ _ (hx.trans (by rw [if_pos rfl])) hD.2.2.1 (fun v hv => ?_)
  rw [find_cons]
  by_cases hi : (i : Int) = 2
  ·
   have : i = 2 := by omega
   subst this; exact ⟨_, if_pos rfl, by rw [← hv]; rfl⟩
  ·
   refine ⟨none, by rw [if_neg hi]; rfl, ?_⟩
   rw [← hv]; exact congrArg _ (id0 (by unfold idleK; simp; omega)).symm
 rw [if_neg h2] at hx
 by_cases h3 : K = 15
 ·
  subst h3
  refine key _ _ _ (hx.trans (by rw [if_pos rfl])) hD.2.2.2.1 (fun v hv => ?_)
  rw [find_cons]
  by_cases hi : (i : Int) = 1
  ·
   have : i = 1 := by omega
   subst this; exact ⟨_, if_pos rfl, by rw [← hv]; rfl⟩
  ·
   refine ⟨none, by rw [if_neg hi]; rfl, ?_⟩
   rw [← hv]; exact congrArg _ (id0 (by unfold idleK; simp; omega)).symm
 rw [if_neg h3] at hx
 by_cases h4 : K = 22
 ·
  subst h4
  refine key _ _ _ (hx.trans (by rw [if_pos rfl])) hD.2.2.2.2 (fun v hv => ?_)
  rw [find_cons, find_cons, find_cons]
  by_cases hi : (i : Int) = 2
  ·
   have : i = 2 := by omega
   subst this; exact ⟨_, if_pos rfl, by rw [← hv]; rfl⟩
  by_cases hi3 : (i : Int) = 3
  ·
   have : i = 3 := by omega
   subst this; exact ⟨some (1, .int .i64 1), rfl, by rw [← hv]; rfl⟩
  by_cases hi4 : (i : Int) = 4
  ·
   have : i = 4 := by omega
   subst this; exact ⟨some (2, .int .i64 1), rfl, by rw [← hv]; rfl⟩
  ·
   refine ⟨none, by rw [if_neg hi, if_neg hi3, if_neg hi4]; rfl, ?_⟩
   rw [← hv]; exact congrArg _ (id0 (by unfold idleK; simp; omega)).symm
 rw [if_neg h4] at hx
 have h0 : idI K i = 0 := by
  unfold idI idleK
  rw [if_neg]
  simp [h1, h2, h3, h4]
 rw [h0]
 exact lk_nil hR ho hx hy ht hkt hz
end
end Go.Proofs.YthdemmcfnpmmiaaDoor
/- The map of what does not count: the function that makes it. -/
namespace Go.Proofs.YthdemmcfnpmmiaaDoor
set_option linter.unusedSimpArgs false
set_option linter.unusedVariables false
open Go.RowKit
theorem wA_fr (w : World) (os : List Obj) : Fr none_ w (wA w os) := ⟨rfl, rfl, rfl, by rw [wA_size]; omega, fun k hk _ => wA_old w os hk⟩
theorem wA_dat {Z : Nat → Prop} {w : World} {os : List Obj} {es : List MapEntry} {c : Nat} (j : Nat) (h : os[j]? = some (.map es.toArray c)) : (dMap (w.heap.size + j) es c).φ (wA w os) (nxt Z w (wA w os)) :=
 ⟨⟨by rw [wA_size]; have := (List.getElem?_eq_some_iff.1 h).1; omega, fun h => absurd h (by omega)⟩, (wA_at w os j).trans h⟩
set_option maxRecDepth 100000 in
theorem idle_calls (w0 : World) (Z : Nat → Prop) (hZ : ∀ k, Z k → k < w0.heap.size) : Calls Tryd.prog 26 ([] : List Value).toArray w0 (fun e w' => ∃ b, ∃ q : IQ, e = .returned (.map (some b)) ∧ Fr none_ w0 w' ∧ (dIdle b q).φ w' (nxt Z w0 w')) := by
 refine c_enter Tryd.func26 rfl Tryd.ntmps26 rfl (fun a1 hR0 => ?_)
 refine wsc (fun K4 hK5 => ?_)
 refine asg hR0 (fun a1 hR0 => ?_)
 refine wpList_nil (x_then_n (hK5 _ _ ?_))
 refine wsc (fun K8 hK9 => ?_)
 rw [← wA_nil w0]
 refine m_makeMapA (os := []) sv hR0 rfl rfl (by decide) (fun a1 hR0 => ?_)
 refine m_makeMapA sv hR0 rfl rfl (by decide) (fun a1 hR0 => ?_)
 refine m_insA (j := 1) se hR0 rfl rfl rfl rfl rfl rfl Tryd.underlying64 Tryd.underlying3 rfl (fun a1 hR0 => ?_)
 refine mv hR0 (fun a1 hR0 => ?_)
 refine m_insA (j := 0) se hR0 rfl rfl rfl rfl rfl rfl Tryd.underlying52 Tryd.underlying3 rfl (fun a1 hR0 => ?_)
 refine m_makeMapA sv hR0 rfl rfl (by decide) (fun a1 hR0 => ?_)
 refine m_insA (j := 2) se hR0 rfl rfl rfl rfl rfl rfl Tryd.underlying64 Tryd.underlying3 rfl (fun a1 hR0 => ?_)
 refine mv hR0 (fun a1 hR0 => ?_)
 refine m_insA (j := 0) se hR0 rfl rfl rfl rfl rfl rfl Tryd.underlying52 Tryd.underlying3 rfl (fun a1 hR0 => ?_)
 refine m_makeMapA sv hR0 rfl rfl (by decide) (fun a1 hR0 => ?_)
 refine m_insA (j := 3) se hR0 rfl rfl rfl rfl rfl rfl Tryd.underlying64 Tryd.underlying3 rfl (fun a1 hR0 => ?_)
 refine mv hR0 (fun a1 hR0 => ?_)
 refine m_insA (j := 0) se hR0 rfl rfl rfl rfl rfl rfl Tryd.underlying52 Tryd.underlying3 rfl (fun a1 hR0 => ?_)
 refine m_makeMapA sv hR0 rfl rfl (by decide) (fun a1 hR0 => ?_)
 refine m_insA (j := 4) se hR0 rfl rfl rfl rfl rfl rfl Tryd.underlying64 Tryd.underlying3 rfl (fun a1 hR0 => ?_)
 refine m_insA (j := 4) se hR0 rfl rfl rfl rfl rfl rfl Tryd.underlying64 Tryd.underlying3 rfl (fun a1 hR0 => ?_)
 refine m_insA (j := 4) se hR0 rfl rfl rfl rfl rfl rfl Tryd.underlying64 Tryd.underlying3 rfl (fun a1 hR0 => ?_)
 refine mv hR0 (fun a1 hR0 => ?_)
 refine m_insA (j := 0) se hR0 rfl rfl rfl rfl rfl rfl Tryd.underlying52 Tryd.underlying3 rfl (fun a1 hR0 => ?_)
 refine mv hR0 (fun a1 hR0 => ?_)
 refine asg hR0 (fun a1 hR0 => ?_)
 refine wpList_nil (x_then_n (hK9 _ _ ?_))
 refine wp_ret ?_
 refine e_ret1 hR0 rfl rfl rfl ?_
 exact ⟨_, (w0.heap.size + 1, w0.heap.size + 2, w0.heap.size + 3, w0.heap.size + 4), rfl, wA_fr _ _, wA_dat 0 rfl, wA_dat 1 rfl, wA_dat 2 rfl, wA_dat 3 rfl, wA_dat 4 rfl⟩
end Go.Proofs.YthdemmcfnpmmiaaDoor
/- Terms compared: the comparer's paths. -/
namespace Go.Proofs.YthdemmcfnpmmiaaDoor
set_option linter.unusedSimpArgs false
set_option linter.unusedVariables false
open Go Go.RowKit
theorem cast_list {u : List Nd} {P : List Sl} (hb : measB u = true) (hk : (nth u (u.length - 1)).K = 20) (hL : lsts P = ptL u) : P.length = 4 ∧ measB (nthS P 0).2.2 = true ∧ measB (nthS P 1).2.2 = true ∧ measB (nthS P 3).2.2 = true ∧
  muT (treeOf (nthS P 0).2.2) + muT (treeOf (nthS P 1).2.2) + 1 ≤ muT (treeOf u) ∧ muT (treeOf (nthS P 3).2.2) + 1 ≤ muT (treeOf u) ∧
  br (treeOf u) = if (cv (treeOf (nthS P 0).2.2) (treeOf (nthS P 1).2.2)).2 = true then br (treeOf (nthS P 3).2.2) else ((cv (treeOf (nthS P 0).2.2) (treeOf (nthS P 1).2.2)).1, treeOf u) := by
 have hr : (treeOf u).root.K = 20 := by rw [root_tr hb]; exact hk
 have h4 := args20 (mt_wf hb) hr
 obtain ⟨a1, a2, a3⟩ := kid_at (i := 0) hb hL (by omega)
 obtain ⟨_, b2, b3⟩ := kid_at (i := 1) hb hL (by omega)
 obtain ⟨_, c2, c3⟩ := kid_at (i := 3) hb hL (by omega)
 rw [a2, b2, c2]
 exact ⟨by omega, a3, b3, c3, kid_mu2 (by decide) (by omega), kid_mu (by omega), br_eq (mt_wf hb) hr⟩
theorem bare_end {t u : List Nd} (hb : measB u = true) (hbr : br (treeOf u) = br (treeOf t)) (hk : ¬ (nth u (u.length - 1)).K = 20) : u = brL t ∧ brE t = 0 := by
 obtain ⟨h1, h2⟩ := brL_no hb hk
 show u = (br (treeOf t)).2.flat ∧ (br (treeOf t)).1 = 0
 rw [← hbr]
 exact ⟨h1.symm, h2⟩
theorem bare_stop {t u : List Nd} {x : T} {c : Int × Bool} (hb : measB u = true) (hbr : br (treeOf u) = br (treeOf t)) (h : br (treeOf u) = if c.2 = true then br x else (c.1, treeOf u)) (hc : c.2 = false) : u = brL t ∧ brE t = c.1 := by
 unfold brL brE
 rw [← hbr, h, if_neg (by rw [hc]; decide)]
 exact ⟨(treeOf_meas hb).2.symm, rfl⟩
theorem bare_on {t u : List Nd} {x : T} {c : Int × Bool} (hbr : br (treeOf u) = br (treeOf t)) (h : br (treeOf u) = if c.2 = true then br x else (c.1, treeOf u)) (hc : c.2 = true) : br x = br (treeOf t) := by
 rw [← hbr, h, if_pos hc]
theorem len_ok {t : List Nd} {N : Nat} (h : measB t = true) (hm : muT (treeOf t) ≤ N) (hN : N ≤ 1000000) : t.length ≤ 1000000 ∧ 0 < t.length := ⟨by have := len_mu h; omega, meas_pos h⟩
theorem muC_le {x : Cp} {N : Nat} (h : muC x ≤ N) : muT (treeOf x.1.2.2) ≤ N ∧ muT (treeOf x.2.2.2) ≤ N := by
 have h1 : muC x = muT (treeOf x.1.2.2) + muT (treeOf x.2.2.2) := rfl
 omega
section
variable {x : Cp} {a b : List Nd}
theorem c_k1' (hx : goC x) (h1 : ¬ (nth x.1.2.2 (x.1.2.2.length - 1)).K = 29) (h2 : ¬ (nth x.2.2.2 (x.2.2.2.length - 1)).K = 29) (he : brE x.1.2.2 = 0) (ha : a = brL x.1.2.2) (hk : (nth a (a.length - 1)).K = 29) : cv (trC x).1 (trC x).2 = (0, true) := by
 subst ha; exact c_k1 hx h1 h2 he hk
theorem c_e2' (hx : goC x) (h1 : ¬ (nth x.1.2.2 (x.1.2.2.length - 1)).K = 29) (h2 : ¬ (nth x.2.2.2 (x.2.2.2.length - 1)).K = 29) (he : brE x.1.2.2 = 0) (ha : a = brL x.1.2.2) (hk : ¬ (nth a (a.length - 1)).K = 29) (he2 : ¬ brE x.2.2.2 = 0) : cv (trC x).1 (trC x).2 = (brE x.2.2.2, false) := by
 subst ha; exact c_e2 hx h1 h2 he hk he2
theorem c_k2' (hx : goC x) (h1 : ¬ (nth x.1.2.2 (x.1.2.2.length - 1)).K = 29) (h2 : ¬ (nth x.2.2.2 (x.2.2.2.length - 1)).K = 29) (he : brE x.1.2.2 = 0) (ha : a = brL x.1.2.2) (hk : ¬ (nth a (a.length - 1)).K = 29) (he2 : brE x.2.2.2 = 0) (hb : b = brL x.2.2.2) (hk2 : (nth b (b.length - 1)).K = 29) : cv (trC x).1 (trC x).2 = (0, true) := by
 subst ha hb; exact c_k2 hx h1 h2 he hk he2 hk2
theorem goC_snoc {K : List Cp} {y : Cp} (h : ∀ z ∈ K, goC z) (hy : goC y) : ∀ z ∈ K ++ [y], goC z := fun z hz => by
 rcases List.mem_append.1 hz with hz | hz
 · exact h z hz
 · rw [List.mem_singleton] at hz; subst hz; exact hy
end
section
variable {A B : T} {N : Nat} {Ls : List Cp} {a b : List Nd}
theorem CB.of {x : Cp} (hx : goC x) (h1 : ¬ (nth x.1.2.2 (x.1.2.2.length - 1)).K = 29) (h2 : ¬ (nth x.2.2.2 (x.2.2.2.length - 1)).K = 29) (e1 : brE x.1.2.2 = 0) (e2 : brE x.2.2.2 = 0) (ha : a = brL x.1.2.2) (hb : b = brL x.2.2.2)
  (k1 : ¬ (nth a (a.length - 1)).K = 29) (k2 : ¬ (nth b (b.length - 1)).K = 29) : CB x := ⟨hx, h1, h2, e1, e2, ha ▸ k1, hb ▸ k2⟩
theorem br_facts {x : List Nd} (h : measB x = true) (hm : muT (treeOf x) ≤ N) (hN : N ≤ 1000000) (ha : a = brL x) : measB a = true ∧ a.length ≤ 1000000 ∧ 0 < a.length ∧ muT (treeOf a) ≤ N := by
 obtain ⟨h1, _, h3⟩ := brL_ok h
 subst ha
 obtain ⟨h4, h5⟩ := len_ok h1 (Nat.le_trans h3 hm) hN
 exact ⟨h1, h4, h5, Nat.le_trans h3 hm⟩
theorem CInv.nx (h : CInv A B N Ls) (h0 : 0 < Ls.length) (hc : CB (nthC Ls (Ls.length - 1))) {l : List (T × T)} {K : List Cp} (ha : a = brL (nthC Ls (Ls.length - 1)).1.2.2) (hb : b = brL (nthC Ls (Ls.length - 1)).2.2.2)
  (hE : stepE (treeOf a) (treeOf b) = false) (hl : stepL (treeOf a) (treeOf b) = some l) (hK : K.reverse.map trC = l) (hm : ∀ y ∈ K, goC y) (hk : K.length ≤ 12) : CInv A B N (Ls.take (Ls.length - 1) ++ K) ∧ wgt (Ls.take (Ls.length - 1) ++ K) < wgt Ls := by
 subst ha hb
 obtain ⟨h1, h2⟩ := hc.step hE hl hK hm
 exact h.next h0 hk h1 h2
theorem CInv.lam (h : CInv A B N Ls) (h0 : 0 < Ls.length) (hc : CB (nthC Ls (Ls.length - 1))) (ha : a = brL (nthC Ls (Ls.length - 1)).1.2.2) (hb : b = brL (nthC Ls (Ls.length - 1)).2.2.2)
  (hk : (nth a (a.length - 1)).K = 4 ∨ (nth b (b.length - 1)).K = 4) (he : bodE (treeOf a) = false ∧ bodE (treeOf b) = false) {y : Cp} (h1 : y.1.2.2 = bodL a) (h2 : y.2.2.2 = bodL b) : CInv A B N (Ls.take (Ls.length - 1) ++ [y]) ∧ wgt (Ls.take (Ls.length - 1) ++ [y]) < wgt Ls := by
 have ma : measB a = true := ha ▸ (brL_ok hc.ok.1).1
 have mb : measB b = true := hb ▸ (brL_ok hc.ok.2).1
 obtain ⟨s1, s2⟩ := st_lam ma mb hk
 obtain ⟨p1, p2⟩ := bod_list ma he.1
 obtain ⟨q1, q2⟩ := bod_list mb he.2
 refine h.nx h0 hc ha hb (by rw [s1, he.1, he.2]; rfl) s2 ?_ ?_ (by simp)
 ·
  show [(treeOf y.1.2.2, treeOf y.2.2.2)] = _
  rw [h1, h2, p1, q1]
 ·
  intro z hz
  rw [List.mem_singleton] at hz
  subst hz
  exact ⟨h1 ▸ p2, h2 ▸ q2⟩
theorem CInv.pair (h : CInv A B N Ls) (h0 : 0 < Ls.length) (hc : CB (nthC Ls (Ls.length - 1))) (ha : a = brL (nthC Ls (Ls.length - 1)).1.2.2) (hb : b = brL (nthC Ls (Ls.length - 1)).2.2.2)
  (k1 : ¬ (nth a (a.length - 1)).K = 4) (k2 : ¬ (nth b (b.length - 1)).K = 4) (hk : (nth a (a.length - 1)).K = 7 ∨ (nth b (b.length - 1)).K = 7) {y z : Cp}
  (hy1 : treeOf y.1.2.2 = snT (treeOf a) ∧ measB y.1.2.2 = true) (hy2 : treeOf y.2.2.2 = snT (treeOf b) ∧ measB y.2.2.2 = true) (hz1 : treeOf z.1.2.2 = fsT (treeOf a) ∧ measB z.1.2.2 = true) (hz2 : treeOf z.2.2.2 = fsT (treeOf b) ∧ measB z.2.2.2 = true) :
  CInv A B N (Ls.take (Ls.length - 1) ++ [y, z]) ∧ wgt (Ls.take (Ls.length - 1) ++ [y, z]) < wgt Ls := by
 have ma : measB a = true := ha ▸ (brL_ok hc.ok.1).1
 have mb : measB b = true := hb ▸ (brL_ok hc.ok.2).1
 refine h.nx h0 hc ha hb (st_no ma mb k1 k2) (st_pair ma mb k1 k2 hk) ?_ ?_ (by simp)
 ·
  show [(treeOf z.1.2.2, treeOf z.2.2.2), (treeOf y.1.2.2, treeOf y.2.2.2)] = _
  rw [hy1.1, hy2.1, hz1.1, hz2.1]
 ·
  intro x hx
  simp only [List.mem_cons, List.not_mem_nil, or_false] at hx
  rcases hx with rfl | rfl
  · exact ⟨hy1.2, hy2.2⟩
  · exact ⟨hz1.2, hz2.2⟩
theorem CInv.kids (h : CInv A B N Ls) (h0 : 0 < Ls.length) (hc : CB (nthC Ls (Ls.length - 1))) (ha : a = brL (nthC Ls (Ls.length - 1)).1.2.2) (hb : b = brL (nthC Ls (Ls.length - 1)).2.2.2)
  (k1 : ¬ (nth a (a.length - 1)).K = 4) (k2 : ¬ (nth b (b.length - 1)).K = 4) (k3 : ¬ (nth a (a.length - 1)).K = 7) (k4 : ¬ (nth b (b.length - 1)).K = 7) (hn : nth a (a.length - 1) = nth b (b.length - 1)) {K Lr : List Cp}
  (hK : K.reverse.map trC = kidsF (treeOf a) (treeOf b) 0) (hm : ∀ y ∈ K, goC y) (hl : K.length ≤ 12) (hLr : Lr = Ls.take (Ls.length - 1) ++ K) : CInv A B N Lr ∧ wgt Lr < wgt Ls := by
 have ma : measB a = true := ha ▸ (brL_ok hc.ok.1).1
 have mb : measB b = true := hb ▸ (brL_ok hc.ok.2).1
 subst hLr
 exact h.nx h0 hc ha hb (st_no ma mb k1 k2) (by rw [st_oth ma mb k1 k2 k3 k4, if_pos hn]) hK hm hl
theorem CInv.differ (h : CInv A B N Ls) (h0 : 0 < Ls.length) (hc : CB (nthC Ls (Ls.length - 1))) (ha : a = brL (nthC Ls (Ls.length - 1)).1.2.2) (hb : b = brL (nthC Ls (Ls.length - 1)).2.2.2)
  (k1 : ¬ (nth a (a.length - 1)).K = 4) (k2 : ¬ (nth b (b.length - 1)).K = 4) (k3 : ¬ (nth a (a.length - 1)).K = 7) (k4 : ¬ (nth b (b.length - 1)).K = 7) (hn : ¬ nth a (a.length - 1) = nth b (b.length - 1)) : Go.Proofs.YthdemmcfnpmmiaaDoor.cv A B = (0, false) := by
 have ma : measB a = true := ha ▸ (brL_ok hc.ok.1).1
 have mb : measB b = true := hb ▸ (brL_ok hc.ok.2).1
 refine h.stop h0 (hc.none ?_ ?_)
 · rw [← ha, ← hb]; exact st_no ma mb k1 k2
 · rw [← ha, ← hb, st_oth ma mb k1 k2 k3 k4, if_neg hn]
theorem CInv.max (h : CInv A B N Ls) (h0 : 0 < Ls.length) (hc : CB (nthC Ls (Ls.length - 1))) (ha : a = brL (nthC Ls (Ls.length - 1)).1.2.2) (hb : b = brL (nthC Ls (Ls.length - 1)).2.2.2)
  (hk : (nth a (a.length - 1)).K = 4 ∨ (nth b (b.length - 1)).K = 4) {e : Int} (he0 : e = 0) (he : ¬ (if bodE (treeOf b) = true then 2 else if bodE (treeOf a) = true then 2 else e) = 0) :
  Go.Proofs.YthdemmcfnpmmiaaDoor.cv A B = ((if bodE (treeOf b) = true then 2 else if bodE (treeOf a) = true then 2 else e), false) := by
 have ma : measB a = true := ha ▸ (brL_ok hc.ok.1).1
 have mb : measB b = true := hb ▸ (brL_ok hc.ok.2).1
 have h2 : (if bodE (treeOf b) = true then 2 else if bodE (treeOf a) = true then 2 else e) = 2 ∧ (bodE (treeOf a) || bodE (treeOf b)) = true := by
  subst he0
  cases h1 : bodE (treeOf a) <;> cases h3 : bodE (treeOf b) <;> simp_all
 rw [h2.1]
 refine h.stop h0 (hc.err ?_)
 rw [← ha, ← hb, (st_lam ma mb hk).1, h2.2]
theorem no_max {p q : Bool} {e : Int} (h : (if q = true then 2 else if p = true then 2 else e) = 0) : p = false ∧ q = false := by
 cases p <;> cases q <;> simp_all
theorem idI_0 {K : Int} {i : Nat} : idI K i = 0 ↔ idleK K i = false := by
 unfold idI
 cases idleK K i <;> simp
theorem ks_idle {x y : T} {K : List Cp} {i : Nat} (hi : 0 < i) (hn : i ≤ x.args.length) (hK : K.reverse.map trC = kidsF x y i) (h : ¬ idI x.root.K (i - 1) = 0) : K.reverse.map trC = kidsF x y (i - 1) := by
 have h1 : idleK x.root.K (i - 1) = true := by
  rw [idI_0] at h
  simpa using h
 rw [kids_step (by omega), if_pos h1, show i - 1 + 1 = i by omega]
 exact hK
theorem ks_push {P Q : List Sl} {K : List Cp} {i : Nat} (ha : measB a = true) (hb : measB b = true) (hP : lsts P = ptL a) (hQ : lsts Q = ptL b) (hn : nth a (a.length - 1) = nth b (b.length - 1)) (hi : 0 < i) (hl : i ≤ P.length)
  (hK : K.reverse.map trC = kidsF (treeOf a) (treeOf b) i) (h : idI (nth a (a.length - 1)).K (i - 1) = 0) : (K ++ [(nthS P (i - 1), nthS Q (i - 1))]).reverse.map trC = kidsF (treeOf a) (treeOf b) (i - 1) ∧ goC (nthS P (i - 1), nthS Q (i - 1)) := by
 have e1 := parts_len hP
 have hlen : (treeOf a).args.length = (treeOf b).args.length := by rw [← (wf_root (mt_wf ha)).2.1, ← (wf_root (mt_wf hb)).2.1, root_tr ha, root_tr hb, hn]
 obtain ⟨_, h2, h3⟩ := kid_at (i := i - 1) ha hP (by omega)
 obtain ⟨_, h4, h5⟩ := kid_at (i := i - 1) hb hQ (by omega)
 rw [← root_tr ha, idI_0] at h
 refine ⟨?_, h3, h5⟩
 rw [kids_step (by omega), if_neg (by rw [h]; decide), show i - 1 + 1 = i by omega, List.reverse_append, List.map_append, hK]
 show [(treeOf (nthS P (i - 1)).2.2, treeOf (nthS Q (i - 1)).2.2)] ++ _ = _
 rw [h2, h4]
 rfl
theorem parts_same {P Q : List Sl} (ha : measB a = true) (hb : measB b = true) (hP : lsts P = ptL a) (hQ : lsts Q = ptL b) (hn : nth a (a.length - 1) = nth b (b.length - 1)) : P.length = Q.length ∧ P.length ≤ 8 ∧ P.length = (treeOf a).args.length := by
 have hlen : (treeOf a).args.length = (treeOf b).args.length := by rw [← (wf_root (mt_wf ha)).2.1, ← (wf_root (mt_wf hb)).2.1, root_tr ha, root_tr hb, hn]
 rw [parts_len hP, parts_len hQ]
 exact ⟨hlen, args_le (mt_wf ha), rfl⟩
end
end Go.Proofs.YthdemmcfnpmmiaaDoor
/- Contracts of functions, one theorem each: what the call returns, and that nothing old is changed. Printed by gen.py. -/
namespace Go.Proofs.YthdemmcfnpmmiaaDoor
open Go Go.RowKit
set_option linter.unusedSimpArgs false
set_option linter.unusedVariables false
def OneC (N : Nat) : Prop := ∀ (w0 : World) (Z : Nat → Prop) (hZ : ∀ k, Z k → k < w0.heap.size) (cg cb : Nat) (cq : IQ) (ce : Int) (aA : Option Addr) (ac : Nat) (a : List Nd) (bA : Option Addr) (bc : Nat) (b : List Nd) (hShp : Shapes w0 Z) (hc : (Res.box cg 55 [.map (some cb), .int .i64 (ce)]).holds w0) (hcz : ¬ Z cg) (hci : (dIdle cb cq).φ w0 Z) (ha : (dRow 4 aA a.length ac (encNs a)).φ w0 Z) (hb : (dRow 4 bA b.length bc (encNs b)).φ w0 Z) (hba : measB a = true) (hbb : measB b = true) (hce : ce = 0) (hN : muT (treeOf a) + muT (treeOf b) ≤ N) (hB : N ≤ 1000000),
    Calls Tryd.prog 27 [.pointer (some ⟨cg, 0, none⟩), .slice aA a.length ac, .slice bA b.length bc].toArray w0 (fun e w' => e = .returned (.bool ((cv (treeOf a) (treeOf b)).2)) ∧ Fr (· = cg) w0 w' ∧ (Res.box cg 55 [.map (some cb), .int .i64 (((cv (treeOf a) (treeOf b)).1))]).holds w')
set_option maxRecDepth 100000 in
set_option maxHeartbeats 1000000 in
theorem vbare_calls (bn : Nat) (ihO : OneC bn) (w0 : World) (Z : Nat → Prop) (hZ : ∀ k, Z k → k < w0.heap.size) (cg cb : Nat) (cq : IQ) (ce : Int) (tA : Option Addr) (tc : Nat) (t : List Nd) (hShp : Shapes w0 Z) (hc : (Res.box cg 55 [.map (some cb), .int .i64 (ce)]).holds w0) (hcz : ¬ Z cg) (hci : (dIdle cb cq).φ w0 Z) (ht : (dRow 4 tA t.length tc (encNs t)).φ w0 Z) (hb : measB t = true := by first | assumption | omega | (simp; done) | (simp; omega)) (hce : ce = 0 := by first | assumption | omega | (simp; done) | (simp; omega)) (hbn : muT (treeOf t) ≤ bn + 1 := by first | assumption | omega | (simp; done) | (simp; omega)) (hB : bn + 1 ≤ 1000000 := by first | assumption | omega | (simp; done) | (simp; omega)) :
    Calls Tryd.prog 32 [.pointer (some ⟨cg, 0, none⟩), .slice tA t.length tc].toArray w0 (fun e w' => ∃ (rA0 : Option Addr) (rc0 : Nat) (rL0 : List Nd), e = .returned (.slice rA0 rL0.length rc0) ∧ Fr (· = cg) w0 w' ∧ (Res.box cg 55 [.map (some cb), .int .i64 ((brE t))]).holds w' ∧ (dRow 4 rA0 rL0.length rc0 (encNs rL0)).φ w' (nxt Z w0 w') ∧ rL0 = brL t) := by
 have b0 := sM hc hcz hZ (zc (d := dShapes) hShp (zc hci (zc ht zn)))
 refine c_enter Tryd.func32 rfl Tryd.ntmps32 rfl (fun c0 d0 => ?_)
 refine wsc (fun c0 f0 => ?_)
 refine asg d0 (fun c0 h0 => ?_)
 refine wpList_nil (x_then_n (f0 _ _ ?_))
 refine wp_seq_k (fun f0 c0 => ?_)
 refine wp_block ?_
 have f0 := b0.sub (sub_cons (i := 0) rfl (sub_cons (i := 1) rfl (sub_cons (i := 2) rfl (sub_cons (i := 2) rfl sub_nil))))
 refine wp_loop_ghost (fun gn ga gw => ∃ uA : Option Addr, ∃ uc : Nat, ∃ u : List Nd, ∃ ev : Int, (Reg ga 32 [(1000000, .bool false), (0, .pointer (some ⟨cg, 0, none⟩)), (4, .slice none 0 0), (1, .slice uA u.length uc)]) ∧ (St w0 Z (· = cg) gw [.box cg 55 [.map (some cb), .int .i64 (ev)]] [dShapes, dIdle cb cq, dRow 4 tA t.length tc (encNs t), dRow 4 uA u.length uc (encNs u)]) ∧ (ev = 0) ∧ (measB u = true) ∧ (muT (treeOf u) ≤ bn + 1) ∧ (br (treeOf u) = br (treeOf t)) ∧ (muT (treeOf u)) = gn) _ ⟨tA, tc, t, ce, (h0.sub (rc rfl (rc rfl (rc rfl (rc rfl rnl))))), f0, hce, hb, hbn, rfl, rfl⟩ ?_
 rintro f0 h0 b0 ⟨uA, uc, u, ev, d0, i0, hev, hub, hum, hbr, j0⟩
 obtain ⟨hul1, hul2⟩ := len_ok hub hum hB
 refine wp_seq_k (fun j0 b0 => ?_)
 refine wsc (fun j0 h0 => ?_)
 refine mv d0 (fun j0 f0 => ?_)
 have j0 := i0.nf
 refine k_call (xs := [.tmp 6]) se f0 rfl rfl rfl (by decide) ok31 (vroot_calls _ _ j0.il _ _ _ (j0.g 3)) ?_
 rintro f0 i0 ⟨rfl, d0⟩
 have i0 := j0.below d0.below
 refine ⟨_, rfl, fun d0 j0 => ?_⟩
 refine m_fieldV (v := .int .i64 (((nth u (u.length - 1)).K))) sv j0 rfl rfl rfl (fun _ => by kernel_rfl) (by decide) (fun d0 f0 => ?_)
 refine r_eql sv f0 rfl rfl rfl rfl (by decide) (fun d0 j0 => ?_)
 refine mv j0 (fun d0 f0 => ?_)
 rcases Decidable.em ((((nth u (u.length - 1)).K)) = 20) with d0 | d0
 ·
  have j0 := f0.setb (d := 10) (b := true) rfl (decide_eq_true d0)
  refine r_move (st_listV_w (wt j0)) j0 rfl rfl rfl (by decide) (fun k0 m0 => ?_)
  refine r_nilCheck (st_listV_w (wt m0)) m0 rfl rfl rfl (by decide) (fun k0 j0 => ?_)
  refine m_field (j' := 1) (st_listV_w (wt j0)) j0 rfl rfl rfl Tryd.underlying55 rfl sz26 rfl rfl (by decide) (fun k0 m0 => ?_)
  refine m_load (i := 0) (st_listV_w (wt m0)) m0 i0 rfl rfl rfl rfl rfl Tryd.underlying26 rfl (by decide) (fun k0 j0 => ?_)
  refine r_eql (st_listV_w (wt j0)) j0 rfl rfl rfl rfl (by decide) (fun k0 m0 => ?_)
  refine r_pick_t sv m0 rfl rfl rfl rfl (by decide) (fun k0 j0 => ?_)
  refine wpList_nil (x_then_n (h0 _ _ ?_))
  have k0 : (ev) = 0 := hev
  have m0 := j0.setb (d := 16) (b := true) rfl (decide_eq_true k0)
  refine wp_cond_true (m0.ev rfl) ?_
  refine wp_skip ?_
  refine x_then_n (b0 _ _ ?_)
  refine wp_block ?_
  refine wsc (fun b0 k0 => ?_)
  refine mv m0 (fun b0 j0 => ?_)
  have b0 := i0.nf
  refine k_call (xs := [.tmp 17]) se j0 rfl rfl rfl (by decide) ok33 (vparts_calls _ _ b0.il _ _ _ (b0.g 0) (b0.g 3)) ?_
  rintro j0 m0 ⟨n0, o0, p0, rfl, q0, s0, t0, u0⟩
  have o0 := b0.below q0.below
  have q0 := b0.dN o0 s0
  have o0 := b0.dN q0 t0
  refine ⟨_, rfl, fun q0 t0 => ?_⟩
  obtain ⟨q0, b0, s0, n0, m0, j0, v0⟩ := cast_list hub (by assumption) u0
  refine asg t0 (fun j0 m0 => ?_)
  refine wpList_nil (x_then_n (k0 _ _ ?_))
  refine wp_seq_k (fun k0 j0 => ?_)
  refine wp_seq_k (fun k0 t0 => ?_)
  obtain ⟨k0, q0, u0⟩ := o0.agree
  refine d_reg3 (n := 9) u0 6 (pc 0 0 pn) (pan_then (pan_then (pan_block (pan_then (pan_block (pan_then pan_body)))))) (fun k0 o0 x0 y0 z0 b1 => ?_)
  refine dtM 0 o0 m0 b1 (fun y0 k0 => ?_)
  refine dtM 1 o0 k0 b1 (fun y0 m0 => ?_)
  refine dt 2 rfl o0 m0 (want_n rfl) (fun x hx => m_index (i := 0) (j := 0 * 1) (sy m0) m0 rfl rfl rfl rfl Tryd.underlying39 sz22 (by omega) (by omega) (ss_elem (t := p0) (k := 0) (sdat (q0 4 _ rfl) hx.ag).2 (by omega)).some_ rfl (by decide) gt) b1 (fun y0 k0 => ?_)
  refine dt 3 rfl o0 k0 (want_n rfl) (fun x hx => m_loadE (sy k0) k0 rfl rfl rfl 0 (0 * 1) (ss_elem (t := p0) (k := 0) (sdat (q0 4 _ rfl) hx.ag).2 (by omega)) rfl rfl Tryd.underlying22 rfl (by decide) gt) b1 (fun y0 m0 => ?_)
  have y0 := z0.data (dRow 4 ((nthS p0 0).1) ((nthS p0 0).2.2.length) ((nthS p0 0).2.1) (encNs ((nthS p0 0).2.2))) (all_at (t := p0) (k := 0) (z0.get (i := 5) rfl) (by omega))
  refine dtM 4 o0 m0 b1 (fun z0 k0 => ?_)
  refine dt 5 rfl o0 k0 (want_n rfl) (fun x hx => m_index (i := 1) (j := 1 * 1) (sy k0) k0 rfl rfl rfl rfl Tryd.underlying39 sz22 (by omega) (by omega) (ss_elem (t := p0) (k := 1) (sdat (q0 4 _ rfl) hx.ag).2 (by omega)).some_ rfl (by decide) gt) b1 (fun z0 m0 => ?_)
  refine dt 6 rfl o0 m0 (want_n rfl) (fun x hx => m_loadE (sy m0) m0 rfl rfl rfl 0 (1 * 1) (ss_elem (t := p0) (k := 1) (sdat (q0 4 _ rfl) hx.ag).2 (by omega)) rfl rfl Tryd.underlying22 rfl (by decide) gt) b1 (fun z0 k0 => ?_)
  have z0 := y0.data (dRow 4 ((nthS p0 1).1) ((nthS p0 1).2.2.length) ((nthS p0 1).2.1) (encNs ((nthS p0 1).2.2))) (all_at (t := p0) (k := 1) (y0.get (i := 5) rfl) (by omega))
  refine d1 7 ?_
  have y0 := z0.nf
  refine k_call (xs := [.tmp 19, .tmp 22, .tmp 25]) (st_op rfl (want_n rfl)) k0 rfl rfl rfl (by decide) ok27 (ihO _ _ y0.il _ _ _ _ _ _ ((nthS p0 0).2.2) _ _ ((nthS p0 1).2.2) (y0.g 0) (y0.z 0) (imm_box (i := 0) rfl) (y0.g 1) (y0.g 7) (y0.g 8) b0 s0 hev (by omega) (by omega)) ?_
  rintro k0 s0 ⟨rfl, b0, z0⟩
  have s0 := y0.callM (i := 0) rfl b0 z0
  refine ⟨_, rfl, fun z0 b0 => ?_⟩
  have z0 := sWI s0 6 (pc 0 0 pn)
  refine ⟨z0, ?_⟩
  refine dt 8 rfl o0 b0 (want_n rfl) (fun x hx => r_not (sy b0) b0 rfl rfl rfl (by decide) gt) z0 (fun y0 k0 => ?_)
  refine wpAnyH_done (by kernel_rfl) (x0 _ _ ?_) _
  refine x_then_n (t0 _ _ ?_)
  rcases Bool.eq_false_or_eq_true ((cv (treeOf ((nthS p0 0).2.2)) (treeOf ((nthS p0 1).2.2))).2) with t0 | t0
  ·
   have x0 := k0.setb (d := 27) (b := false) rfl (by rw [t0]; rfl)
   refine wp_cond_false (x0.ev rfl) ?_
   refine wp_skip ?_
   refine x_then_n (j0 _ _ ?_)
   refine c_region ?_
   refine mv x0 (fun j0 y0 => ?_)
   refine m_index (i := 3) (j := 3 * 1) sv y0 rfl rfl rfl rfl Tryd.underlying39 sz22 (by omega) (by omega) (ss_elem (t := p0) (k := 3) (s0.row (i := 4) rfl).2 (by omega)).some_ rfl (by decide) (fun j0 x0 => ?_)
   refine m_loadE sv x0 rfl rfl rfl 0 (3 * 1) (ss_elem (t := p0) (k := 3) (s0.row (i := 4) rfl).2 (by omega)) rfl rfl Tryd.underlying22 rfl (by decide) (fun j0 y0 => ?_)
   have j0 := s0.data (dRow 4 ((nthS p0 3).1) ((nthS p0 3).2.2.length) ((nthS p0 3).2.1) (encNs ((nthS p0 3).2.2))) (all_at (t := p0) (k := 3) (s0.get (i := 5) rfl) (by omega))
   refine asg y0 (fun x0 z0 => ?_)
   refine wpList_nil ?_
   refine x_block_n ?_
   have x0 := j0.forget 8
   have j0 := x0.forget 7
   have x0 := j0.forget 6
   have j0 := x0.forget 5
   have x0 := j0.forget 4
   have j0 := x0.forget 3
   exact ⟨_, by omega, (nthS p0 3).1, (nthS p0 3).2.1, (nthS p0 3).2.2, (((cv (treeOf ((nthS p0 0).2.2)) (treeOf ((nthS p0 1).2.2))).1)), (z0.sub (rc rfl (rc rfl (rc rfl (rc rfl rnl))))), j0, (by rw [cv_t t0]), n0, by omega, bare_on hbr v0 t0, rfl⟩
  ·
   have j0 := k0.setb (d := 27) (b := true) rfl (by rw [t0]; rfl)
   refine wp_cond_true (j0.ev rfl) ?_
   refine wp_exit ?_
   refine x_then_e ?_
   refine x_block_e rfl ?_
   refine x_then_e ?_
   refine x_block_eq ?_
   refine x_then_n (c0 _ _ ?_)
   refine wsc (fun t0 k0 => ?_)
   refine mv j0 (fun t0 z0 => ?_)
   refine asg z0 (fun t0 j0 => ?_)
   refine wpList_nil (x_then_n (k0 _ _ ?_))
   refine wp_ret ?_
   refine e_ret1 j0 rfl rfl rfl ?_
   refine ⟨uA, uc, u, ?_, s0.fr, (by rw [show (brE t : Int) = (((cv (treeOf ((nthS p0 0).2.2)) (treeOf ((nthS p0 1).2.2))).1)) by (rw [(bare_stop hub hbr v0 (by assumption)).2])]; exact s0.res (i := 0) rfl), s0.rx 3, (bare_stop hub hbr v0 (by assumption)).1⟩
   exact congrArg Ending.returned (ret_s (by first | rfl | (simp; done)))
 ·
  have s0 := f0.setb (d := 10) (b := false) rfl (decide_eq_false d0)
  refine sps s0 (wff s0) (fun d0 f0 => ?_)
  refine sps f0 (wff f0) (fun d0 s0 => ?_)
  refine sps s0 (wff s0) (fun d0 f0 => ?_)
  refine sps f0 (wff f0) (fun d0 s0 => ?_)
  refine sps s0 (wff s0) (fun d0 f0 => ?_)
  refine r_pick_f sv f0 rfl rfl rfl rfl (by decide) (fun d0 s0 => ?_)
  refine wpList_nil (x_then_n (h0 _ _ ?_))
  refine wp_cond_false (s0.ev rfl) ?_
  refine wp_exit ?_
  refine x_then_e ?_
  refine x_then_e ?_
  refine x_block_eq ?_
  refine x_then_n (c0 _ _ ?_)
  refine wsc (fun c0 h0 => ?_)
  refine mv s0 (fun c0 d0 => ?_)
  refine asg d0 (fun c0 s0 => ?_)
  refine wpList_nil (x_then_n (h0 _ _ ?_))
  refine wp_ret ?_
  refine e_ret1 s0 rfl rfl rfl ?_
  refine ⟨uA, uc, u, ?_, i0.fr, (by rw [show (brE t : Int) = (ev) by (rw [(bare_end hub hbr (by assumption)).2]; exact hev.symm)]; exact i0.res (i := 0) rfl), i0.rx 3, (bare_end hub hbr (by assumption)).1⟩
  exact congrArg Ending.returned (ret_s (by first | rfl | (simp; done)))
end Go.Proofs.YthdemmcfnpmmiaaDoor
