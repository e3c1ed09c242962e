import Derived.Test.YthdemmcfnpmmiaaDoorWca
import Derived.WalkSpells
/- Iterators: what they hand to whatever loop; the call of yield. -/
namespace Go.Proofs.YthdemmcfnpmmiaaDoor
set_option linter.unusedSimpArgs false
set_option linter.unusedVariables false
open Go Go.RowKit
structure JF (α : Type) where
 J : List α → World → (Nat → Prop) → (Nat → Prop) → Prop
 abide : ∀ s W W' C Mc, J s W C Mc → W.heap.size ≤ W'.heap.size → (∀ k, C k → W'.heap[k]? = W.heap[k]?) → J s W' C Mc
 sub : ∀ s W C Mc, J s W C Mc → (∀ k, Mc k → C k) ∧ (∀ k, C k → k < W.heap.size)
def SameOs (W W' : World) : Prop := W'.os = W.os ∧ W'.tape = W.tape ∧ W'.output = W.output
section
variable {P : Program} {ops : Array Oper} {Q : Exit → Act → World → Prop} {rest : List Oper} {o : Oper} {a : Act} {w w0 : World} {N : Nat} {ls : List (Nat × Value)} {d : Nat} {m : List Res} {ds ds0 : List Dat}
end
end Go.Proofs.YthdemmcfnpmmiaaDoor
/- A loop over an iterator: the caller's law. -/
namespace Go.Proofs.YthdemmcfnpmmiaaDoor
set_option linter.unusedSimpArgs false
set_option linter.unusedVariables false
open Go Go.RowKit
def ownB (m : List Res) (k : Nat) : Prop := ∃ r ∈ m, r.blk = some k
structure CSt (w0 : World) (M I0 : Nat → Prop) (wl : World) (m0 : List Res) (W : World) (m : List Res) (ds : List Dat) : Prop where
 hold : ∀ r ∈ m, r.holds W
 own : ∀ r ∈ m, ∀ k, r.blk = some k → k < W.heap.size ∧ ¬ I0 k ∧ (w0.heap.size ≤ k ∨ M k) ∧ (ownB m0 k ∨ wl.heap.size ≤ k)
 apart : m.Pairwise fun r s => ∀ k, r.blk = some k → s.blk ≠ some k
 dat : ∀ d ∈ ds, d.φ W I0
 low : ∀ k, k < wl.heap.size → k < W.heap.size
 old : ∀ k, k < wl.heap.size → ¬ ownB m0 k → W.heap[k]? = wl.heap[k]?
theorem Res.cells_at {r : Res} {w : World} {k : Nat} (h : r.holds w) (hk : r.blk = some k) : ∃ cs t fz, w.heap[k]? = some (.cells cs t fz) := by
 cases r with
 | box g t cs =>
  have : g = k := by simpa [Res.blk] using hk
  subst this
  exact ⟨_, _, _, h⟩
 | row A n cap e size xs =>
  rcases h.2 with ⟨q1, _⟩ | ⟨g, cap', cur, hv, _, q2, _⟩
  ·
   have : A = none := by injection q1
   subst this
   cases hk
  ·
   have hA : A = some ⟨g, 0, none⟩ := by injection hv
   subst hA
   have : g = k := by simpa [Res.blk] using hk
   subst this
   exact ⟨_, _, _, q2⟩
theorem Res.holds_keep {r : Res} {w w' : World} (h : r.holds w) (hk : ∀ k, r.blk = some k → w'.heap[k]? = w.heap[k]?) : r.holds w' := by
 cases r with
 | box g t cs => exact (hk g rfl).trans h
 | row A n cap e size xs =>
  refine ⟨h.1, ?_⟩
  rcases h.2 with q1 | ⟨g, cap', cur, hv, q1, q2, q3⟩
  · exact .inl q1
  ·
   refine .inr ⟨g, cap', cur, hv, q1, ?_, q3⟩
   have hA : A = some ⟨g, 0, none⟩ := by injection hv
   exact (hk g (by simp [Res.blk, hA])).trans q2
theorem lt_keep {w w' : World} {k : Nat} (h : k < w.heap.size) (hk : w'.heap[k]? = w.heap[k]?) : k < w'.heap.size := by
 rw [Array.getElem?_eq_getElem h] at hk
 exact (Array.getElem?_eq_some_iff.1 hk).1
section
variable {I0 : Nat → Prop} {W W' w w0 wl : World} {m m' m0 : List Res} {ds ds' : List Dat} {Z M : Nat → Prop}
theorem CSt.keep (h : CSt w0 M I0 wl m0 W m ds) (hs : W.heap.size ≤ W'.heap.size) (hI0 : ∀ k, I0 k → k < wl.heap.size) (hI : ∀ k, k < wl.heap.size → W'.heap[k]? = W.heap[k]?) (hm : ∀ k, ownB m k → W'.heap[k]? = W.heap[k]?) : CSt w0 M I0 wl m0 W' m ds :=
 ⟨fun r hr => Res.holds_keep (h.hold r hr) (fun k e => hm k ⟨r, hr, e⟩), fun r hr k e => ⟨lt_keep (h.own r hr k e).1 (hm k ⟨r, hr, e⟩), (h.own r hr k e).2⟩, h.apart,
  fun d hd => d.mono _ _ _ _ hs (h.dat d hd) (fun k hk => ⟨hk, hI k (hI0 k hk)⟩), fun k hk => lt_keep (h.low k hk) (hI k hk), fun k hk hn => (hI k hk).trans (h.old k hk hn)⟩
theorem CSt.st (h : CSt w0 M (imm Z w0 m0 wl) wl m0 W m ds) (hl : St w0 Z M wl m0 ds') (ho : SameOs wl W) (hsz : wl.heap.size ≤ W.heap.size) : St w0 Z M W m (ds ++ [dAg W (imm Z w0 m W)]) := by
 have hI : ∀ k, imm Z w0 m0 wl k → imm Z w0 m W k := fun k hk => ⟨h.low k hk.1, hk.2.1, fun r hr e => (h.own r hr k e).2.1 hk⟩
 refine ⟨ho.1.trans hl.os, ho.2.1.trans hl.tape, ho.2.2.trans hl.output, Nat.le_trans hl.size hsz, fun k hk hM => ?_, h.hold, fun r hr k e => ⟨(h.own r hr k e).1, (h.own r hr k e).2.2.1⟩, h.apart, fun d hd => ?_⟩
 ·
  refine (h.old k (Nat.lt_of_lt_of_le hk hl.size) (fun ⟨r, hr, e⟩ => ?_)).trans (hl.old k hk hM)
  rcases (hl.own r hr k e).2 with q | q
  · omega
  · exact hM q
 ·
  rcases List.mem_append.1 hd with hd | hd
  · exact d.mono _ _ _ _ (Nat.le_refl _) (h.dat d hd) (fun k hk => ⟨hI k hk, rfl⟩)
  ·
   rw [List.mem_singleton] at hd
   subst hd
   exact ⟨Nat.le_refl _, fun k hk => ⟨hk, rfl⟩⟩
end
theorem CSt.back {w0 wl W W' : World} {Z M : Nat → Prop} {m0 m m' : List Res} {ds ds' : List Dat} (h : CSt w0 M (imm Z w0 m0 wl) wl m0 W m ds) (hS' : St w0 Z M W' m' ds') (hlz : wl.heap.size ≤ W.heap.size)
  (h1 : ∀ k, k < W.heap.size → ¬ ownB m k → W'.heap[k]? = W.heap[k]?) (h2 : ∀ k, ownB m' k → ownB m k ∨ W.heap.size ≤ k) (h3 : W.heap.size ≤ W'.heap.size) : CSt w0 M (imm Z w0 m0 wl) wl m0 W' m' ds := by
 have hI : ∀ k, imm Z w0 m0 wl k → W'.heap[k]? = W.heap[k]? := fun k hk => h1 k (h.low k hk.1) (fun ⟨r, hr, e⟩ => (h.own r hr k e).2.1 hk)
 refine ⟨hS'.hold, fun r hr k e => ⟨(hS'.own r hr k e).1, fun hk => ?_, (hS'.own r hr k e).2, ?_⟩, hS'.apart, fun d hd => d.mono _ _ _ _ h3 (h.dat d hd) (fun k hk => ⟨hk, hI k hk⟩), fun k hk => Nat.lt_of_lt_of_le (h.low k hk) h3, fun k hk hn => ?_⟩
 ·
  rcases h2 k ⟨r, hr, e⟩ with ⟨r', hr', e'⟩ | q
  · exact (h.own r' hr' k e').2.1 hk
  ·
   have := h.low k hk.1
   omega
 ·
  rcases h2 k ⟨r, hr, e⟩ with ⟨r', hr', e'⟩ | q
  · exact (h.own r' hr' k e').2.2.2
  · exact .inr (Nat.le_trans hlz q)
 ·
  refine (h1 k (h.low k hk) (fun ⟨r, hr, e⟩ => ?_)).trans (h.old k hk hn)
  rcases (h.own r hr k e).2.2.2 with q | q
  · exact hn q
  · omega
end Go.Proofs.YthdemmcfnpmmiaaDoor
/- Slices held against nil; rows that a call hands over. -/
namespace Go.Proofs.YthdemmcfnpmmiaaDoor
set_option linter.unusedSimpArgs false
set_option linter.unusedVariables false
open Go Go.RowKit
section
variable {P : Program} {X : Prop} {Next : Act → World → Prop} {o : Oper} {a : Act} {w w' w0 : World} {N : Nat} {l : List (Nat × Value)} {d : Nat} {Z M : Nat → Prop} {m : List Res} {ds : List Dat}
theorem run_slc {op : BinOp} {t u : TypeId} {x y : Operand} {v : Value} {A A2 : Option Addr} {n c n2 c2 : Nat} (hR : Reg a N l) (ho : o.op = .binOp op t x y u) (hx : ev l x = some (.slice A n c)) (hy : ev l y = some (.slice A2 n2 c2))
  (h : (binOp op t (.slice A n c) (.slice A2 n2 c2)).run P w = .ok v w) : (execOp a.eval o).run P w = .ok (.value v) w := by
 have hg : (eqGuard op t x y (.slice A n c) (.slice A2 n2 c2)).run P w = .ok () w := by
  unfold eqGuard
  cases op <;> rfl
 unfold execOp
 rw [ho]
 simp only [hR.ev hx, hR.ev hy, Sem.run_bind, hg, Result.andThen_ok, h, Sem.run_pure]
theorem r_eqlNil {t u e : TypeId} {x y : Operand} {A : Option Addr} {n c n2 c2 : Nat} (hs : SteV P X Next o a w) (hR : Reg a N l) (hd : o.dst = some d) (ho : o.op = .binOp .eql t x y u) (hx : ev l x = some (.slice A n c)) (hy : ev l y = some (.slice none n2 c2))
  (ht : P.underlying t = some (.slice e)) (hdN : d < N) (k : ∀ a', Reg a' N ((d, .bool A.isNone) :: l) → Next a' w) : X :=
 r_pure hs hR hd hdN (run_slc hR ho hx hy (Lib.run_eql_slice_nil w t e A n c n2 c2 ht)) k
theorem nil_len {I : Nat → Prop} {size : Nat} {A : Option Addr} {n cap : Nat} {xs : List Value} (h : (dRow size A n cap xs).φ w I) (hA : A.isNone = true) : n = 0 := by
 refine Nat.eq_zero_of_not_pos fun hn => ?_
 obtain ⟨ad, rfl, _⟩ := h.2.2 hn
 cases hA
theorem St.fresh {i : Nat} {r : Res} (h : St w0 Z none_ w m ds) (hi : m[i]? = some r) (k : Nat) (hk : r.blk = some k) : w0.heap.size ≤ k :=
 ((h.own r (List.mem_of_getElem? hi) k hk).2).resolve_right (fun x => x)
theorem St.trim (h : St w0 Z M w m ds) {α : Type} {f : α → List Value} {size : Nat} (hf : ∀ x, (f x).length = size) {i e cap : Nat} {A : Option Addr} {L : List α} (hi : m[i]? = some (.row A L.length cap e size (L.flatMap f))) (q : Nat) (hq : q ≤ L.length) :
  St w0 Z M w (m.set i (.row A (L.take q).length cap e size ((L.take q).flatMap f))) ds := by
 have h1 : w.ownsRow 0 e size (.slice A L.length cap) L.length (L.flatMap f) := h.res hi
 have h2 := own_take h1 hq
 have hl : (L.take q).length = q := by rw [List.length_take]; omega
 rw [enc_take hf] at h2
 refine h.turn hi rfl rfl rfl (Nat.le_refl _) (fun _ _ _ => rfl) ?_ (fun k hk => ?_)
 ·
  rw [hl]
  exact h2
 ·
  have hk' : (Res.row A L.length cap e size (L.flatMap f)).blk = some k := hk
  exact ⟨(h.own _ (List.mem_of_getElem? hi) k hk').1, .inl hk'⟩
theorem Reg.conss {l' : List (Nat × Value)} (h : Reg a N l) (h' : Reg a N l') {i : Nat} {A : Option Addr} {n n' c : Nat} (hv : l.lookup i = some (.slice A n c)) (hn : n' = n) : Reg a N ((i, .slice A n' c) :: l') := h.cons h' (by rw [hv, hn])
end
theorem x_scope_r {Q : Exit → Act → World → Prop} {a : Act} {w : World} (h : Q .ret a w) : Exit.noGoto Q .ret a w := h
theorem pan_scope {Q : Exit → Act → World → Prop} (h : PanOK Q) : PanOK (Exit.noGoto Q) := fun c a d v w hq => h c a d v w hq
end Go.Proofs.YthdemmcfnpmmiaaDoor
/- What iterators hand over: plain lists. -/
namespace Go.Proofs.YthdemmcfnpmmiaaDoor
set_option linter.unusedSimpArgs false
set_option linter.unusedVariables false
mutual
def visT (o u : Int) : T → List (Int × Int)
 | .mk n l => (o + (T.flats l).length, u) :: visTs o l ((binds n).map (u + ·))
def visTs (o : Int) : List T → List Int → List (Int × Int)
 | [], _ => []
 | _ :: _, [] => []
 | t :: l, u :: us => visTs (o + t.flat.length) l us ++ visT o u t
end
theorem visTs_append (o : Int) (A B : List T) (us vs : List Int) (h : A.length = us.length) : visTs o (A ++ B) (us ++ vs) = visTs (o + (T.flats A).length) B vs ++ visTs o A us := by
 induction A generalizing o us with
 | nil =>
  cases us with
  | nil => simp [visTs, T.flats_nil]
  | cons _ _ => simp at h
 | cons t A ih =>
  cases us with
  | nil => simp at h
  | cons u us =>
   simp only [List.cons_append, visTs, ih (o + t.flat.length) us (by simpa using h), T.flats_cons, List.length_append, List.append_assoc]
   congr 2
   omega
theorem visTs_one (o u : Int) (t : T) : visTs o [t] [u] = visT o u t := by simp [visTs]
def treeOf (t : List Nd) : T := match scanT [] t with
 | some [x] => x
 | _ => .mk ndz []
theorem treeOf_flat {x : T} (h : x.wf = true) : treeOf x.flat = x := by
 unfold treeOf
 rw [scanT_tree [] x h]
 rfl
theorem treeOf_ok {t : List Nd} (h : chk t = 0) : (treeOf t).wf = true ∧ (treeOf t).flat = t ∧ (treeOf t).deep ≤ 60 ∧ t.length ≤ 4000 := by
 obtain ⟨x, hw, rfl, hl, hd⟩ := chk_ok.1 h
 rw [treeOf_flat hw]
 exact ⟨hw, rfl, hd, hl⟩
def nodesL (t : List Nd) : List (Int × Int) := visT 0 0 (treeOf t)
structure VInv (t : List Nd) (k : Nat) (A : List T) (us : List Int) : Prop where
 len : A.length = us.length
 flat : T.flats A = t.take (t.length - k)
 wfs : T.wfs A = true
 rest : nodesL t = (nodesL t).take k ++ visTs 0 A us
 klen : ((nodesL t).take k).length = k
 bd : ∀ u ∈ us, 0 ≤ u ∧ u ≤ 2 * (k : Int)
theorem VInv.zero {t : List Nd} (h : chk t = 0) : VInv t 0 [treeOf t] [0] := by
 obtain ⟨h1, h2, _, _⟩ := treeOf_ok h
 refine ⟨rfl, by rw [T.flats_one, h2]; simp, by simp [T.wfs, h1], by rw [visTs_one]; rfl, rfl, fun u hu => ?_⟩
 rw [List.mem_singleton] at hu
 subst hu
 simp
theorem shp_b (k : Nat) : ∀ b ∈ (shp k).b, 0 ≤ b ∧ b ≤ 2 := by
 unfold shp
 split <;> simp
theorem binds_b (n : Nd) : ∀ b ∈ binds n, 0 ≤ b ∧ b ≤ 2 := by
 intro b hb
 unfold binds at hb
 split at hb
 ·
  have := List.eq_of_mem_replicate hb
  omega
 ·
  split at hb
  ·
   rcases List.mem_cons.1 hb with rfl | hb
   · omega
   ·
    have := List.eq_of_mem_replicate hb
    omega
  · exact shp_b _ _ hb
theorem snoc_last {α : Type} {L : List α} (h : 0 < L.length) : ∃ p x, L = p ++ [x] := by
 rcases List.eq_nil_or_concat L with rfl | ⟨p, x, rfl⟩
 · simp at h
 · exact ⟨p, x, by simp⟩
theorem take_cons_at {α : Type} {Y X R : List α} {e : α} {k : Nat} (h : Y = X ++ e :: R) (hk : X.length = k) : Y.take (k + 1) = X ++ [e] := by
 subst hk
 rw [h, List.take_append, List.take_of_length_le (by omega)]
 simp
def bindsR (n : Nd) : List Int := if right n = true then binds n else []
theorem bindsR_eq {n : Nd} (h : right n = true) : bindsR n = binds n := if_pos h
theorem VInv.step {t : List Nd} {k : Nat} {A : List T} {us : List Int} (h : VInv t k A us) (hk : k < t.length) :
  right (nth t (t.length - (k + 1))) = true ∧ 0 < us.length ∧ us.length ≤ t.length ∧ (0 ≤ nthI us (us.length - 1) ∧ nthI us (us.length - 1) ≤ 2 * (k : Int)) ∧
  (nodesL t).take k ++ [((t.length : Int) - (k : Int) - 1, nthI us (us.length - 1))] = (nodesL t).take (k + 1) ∧
  ∃ A', VInv t (k + 1) A' (us.take (us.length - 1) ++ (bindsR (nth t (t.length - (k + 1)))).map (nthI us (us.length - 1) + ·)) := by
 have hfl : (T.flats A).length = t.length - k := by rw [h.flat, List.length_take]; omega
 have hA : 0 < A.length := by
  cases A with
  | nil => simp [T.flats_nil] at hfl; omega
  | cons _ _ => simp
 obtain ⟨Ap, ⟨n, l⟩, rfl⟩ := snoc_last hA
 have hu : 0 < us.length := by rw [← h.len]; exact hA
 obtain ⟨up, u, rfl⟩ := snoc_last hu
 have hlen : Ap.length = up.length := by have := h.len; simpa using this
 have hlast : nthI (up ++ [u]) ((up ++ [u]).length - 1) = u := by simp [nthI]
 have htk : (up ++ [u]).take ((up ++ [u]).length - 1) = up := by simp
 have hf2 : T.flats Ap ++ (T.flats l ++ [n]) = t.take (t.length - k) := by
  have := h.flat
  rwa [T.flats_append, T.flats_one, T.flat_mk] at this
 have hf3 : (T.flats (Ap ++ l)) ++ [n] = t.take (t.length - k) := by rw [T.flats_append, List.append_assoc]; exact hf2
 have hl3 : (T.flats (Ap ++ l)).length = t.length - (k + 1) := by
  have := congrArg List.length hf3
  rw [List.length_append, List.length_take, List.length_singleton] at this
  omega
 have hn : nth t (t.length - (k + 1)) = n := by
  have h1 : (t.take (t.length - k))[t.length - (k + 1)]? = some n := by
   rw [← hf3, ← hl3]
   simp
  rw [List.getElem?_take_of_lt (by omega)] at h1
  simp [nth, h1]
 have hf4 : T.flats (Ap ++ l) = t.take (t.length - (k + 1)) := by
  have h1 := congrArg (List.take (t.length - (k + 1))) hf3
  rw [List.take_append_of_le_length (by omega), List.take_of_length_le (by omega), List.take_take] at h1
  rw [h1]
  congr 1
  omega
 have hw := h.wfs
 rw [T.wfs_append, Bool.and_eq_true] at hw
 have hw2 : (T.mk n l).wf = true := by simpa [T.wfs] using hw.2
 rw [T.wf_mk] at hw2
 simp only [Bool.and_eq_true, beq_iff_eq] at hw2
 have hv : visTs 0 (Ap ++ [T.mk n l]) (up ++ [u]) = ((t.length : Int) - (k : Int) - 1, u) :: visTs 0 (Ap ++ l) (up ++ (binds n).map (u + ·)) := by
  rw [visTs_append _ _ _ _ _ hlen, visTs_append _ _ _ _ _ hlen, visTs_one, visT]
  simp only [List.cons_append, List.cons.injEq, Prod.mk.injEq, and_true]
  rw [T.flats_append, List.length_append] at hl3
  omega
 have hr := h.rest
 rw [hv] at hr
 have htake : (nodesL t).take (k + 1) = (nodesL t).take k ++ [((t.length : Int) - (k : Int) - 1, u)] := by
  exact take_cons_at hr h.klen
 have hbu := h.bd u (by simp)
 rw [hn, hlast, htk, bindsR_eq hw2.1.1]
 refine ⟨hw2.1.1, by simp, ?_, hbu, htake.symm, Ap ++ l, ⟨?_, hf4, ?_, ?_, ?_, ?_⟩⟩
 ·
  have h1 := flats_len_ge (Ap ++ [T.mk n l])
  rw [hfl, h.len] at h1
  omega
 ·
  rw [List.length_append, List.length_append, List.length_map, hlen]
  have : (binds n).length = l.length := hw2.1.2
  omega
 · rw [T.wfs_append, hw.1, hw2.2]; rfl
 ·
  rw [htake, List.append_assoc]
  exact hr
 · rw [htake, List.length_append, h.klen]; rfl
 ·
  intro v hvm
  rcases List.mem_append.1 hvm with hvm | hvm
  ·
   have := h.bd v (List.mem_append_left _ hvm)
   omega
  ·
   obtain ⟨b, hb, rfl⟩ := List.mem_map.1 hvm
   have := binds_b n b hb
   omega
theorem VInv.all {t : List Nd} {k : Nat} {A : List T} {us : List Int} (h : VInv t k A us) (hk : t.length ≤ k) : (nodesL t).take k = nodesL t := by
 have hfl := h.flat
 rw [show t.length - k = 0 by omega, List.take_zero] at hfl
 cases A with
 | nil =>
  have := h.rest
  simpa [visTs] using this.symm
 | cons x A =>
  rw [T.flats_cons] at hfl
  have := T.flat_ne x
  simp_all
theorem binds_nth {n : Nd} (j : Nat) : 0 ≤ nthI (binds n) j ∧ nthI (binds n) j ≤ 2 := by
 by_cases h : j < (binds n).length
 ·
  have : nthI (binds n) j = (binds n)[j] := by simp [nthI, h]
  rw [this]
  exact binds_b n _ (List.getElem_mem h)
 ·
  have : nthI (binds n) j = 0 := by simp [nthI, List.getD_eq_getElem?_getD, List.getElem?_eq_none (by omega : (binds n).length ≤ j)]
  omega
theorem bindsR_nth {n : Nd} (j : Nat) : 0 ≤ nthI (bindsR n) j ∧ nthI (bindsR n) j ≤ 2 := by
 unfold bindsR
 split
 · exact binds_nth j
 · simp [nthI]
end Go.Proofs.YthdemmcfnpmmiaaDoor
/- Rows changed in place; a row of the caller's that a call changes. -/
namespace Go.Proofs.YthdemmcfnpmmiaaDoor
set_option linter.unusedSimpArgs false
set_option linter.unusedVariables false
open Go Go.RowKit
section
variable {P : Program} {X : Prop} {Next : Act → World → Prop} {op : Oper} {a : Act} {w w' w0 : World} {N : Nat} {l : List (Nat × Value)} {d : Nat} {Z M : Nat → Prop} {m : List Res} {ds : List Dat}
theorem over_list {α : Type} (xs rest vs : List α) (o : Nat) (h : o + vs.length ≤ xs.length) : (((xs ++ rest).take o ++ vs ++ (xs ++ rest).drop (o + vs.length)).take xs.length = xs.take o ++ vs ++ xs.drop (o + vs.length)) ∧
  ((xs ++ rest).take o ++ vs ++ (xs ++ rest).drop (o + vs.length)).length = (xs ++ rest).length := by
 have h1 : (xs ++ rest).take o = xs.take o := List.take_append_of_le_length (by omega)
 have h2 : (xs ++ rest).drop (o + vs.length) = xs.drop (o + vs.length) ++ rest := List.drop_append_of_le_length h
 rw [h1, h2, ← List.append_assoc]
 have h3 : (xs.take o ++ vs ++ xs.drop (o + vs.length)).length = xs.length := by simp; omega
 refine ⟨?_, by rw [List.length_append, h3, List.length_append]⟩
 rw [← h3, List.take_left']
 rfl
theorem addr0 (g o : Nat) : (⟨g, 0, none⟩ : Addr).add o = ⟨g, o, none⟩ := by unfold Addr.add; split <;> simp_all
theorem St.over (hS : St w0 Z M w m ds) {i : Nat} {A : Option Addr} {n cap e size : Nat} {xs : List Value} {ad : Addr} (hi : m[i]? = some (.row A n cap e size xs)) (hA : A = some ad) (o : Nat) (vs : List Value) (hfit : o + vs.length ≤ xs.length)
  (h1 : ∀ v ∈ vs, v.oneCell' = true) : ∃ w', (storeCells (ad.add o) vs).run P w = .ok () w' ∧ St w0 Z M w' (m.set i (.row A n cap e size (xs.take o ++ vs ++ xs.drop (o + vs.length)))) ds := by
 have hr : w.ownsRow 0 e size (.slice A n cap) n xs := hS.res hi
 rcases hr.2 with ⟨h2, h3⟩ | ⟨g, cap', cur, hv, h2, h3, h4, h5, h6, h7⟩
 ·
  injection h2 with ha
  rw [ha] at hA
  cases hA
 ·
  injection hv with ha hb hc
  subst hc
  rw [ha] at hA
  obtain rfl := Option.some.inj hA
  have hcur : cur.toList = xs ++ cur.toList.drop (n * size) := by rw [← h7, List.take_append_drop]
  have hlen : xs.length = n * size := hr.1
  have hl2 : xs.length + (cur.toList.drop (n * size)).length = cur.size := by
   have := congrArg List.length hcur
   simpa using this.symm
  obtain ⟨ho1, ho2⟩ := over_list xs (cur.toList.drop (n * size)) vs o hfit
  rw [← hcur] at ho1 ho2
  have hadd : (⟨g, 0, none⟩ : Addr).add o = ⟨g, o, none⟩ := addr0 g o
  refine ⟨_, by rw [hadd]; exact run_storeCells_at P g o e vs 0 cur w h3 (by omega) h1, ?_⟩
  simp only [Nat.add_zero]
  refine hS.turn hi rfl rfl rfl (by simp) (fun k hk hne => setRow_other w g k _ (fun e' => hne (by rw [e', ha]; rfl))) ⟨?_, .inr ⟨g, cap, _, by rw [ha], Nat.zero_le _, setRow_heap w g _ _ e (0, 0) h3, h4, h5, ?_, ?_⟩⟩ (fun k hk => ?_)
  · simp; omega
  · simpa [h6] using ho2
  ·
   rw [← hlen]
   simpa using ho1
  ·
   have hk' : (Res.row A n cap e size xs).blk = some k := hk
   exact ⟨by simpa using (hS.own _ (List.mem_of_getElem? hi) k hk').1, .inl hk'⟩
theorem St.overF {α : Type} {f : α → List Value} (hS : St w0 Z M w m ds) {i cap e size : Nat} {A : Option Addr} {L : List α} {ad : Addr} (hi : m[i]? = some (.row A L.length cap e size (L.flatMap f))) (hA : A = some ad) (hf : ∀ x, (f x).length = size)
  (hone : ∀ x, ∀ v ∈ f x, v.oneCell' = true) (k : Nat) (K : List α) (hfit : k + K.length ≤ L.length) (L' : List α) (hL : L.take k ++ K ++ L.drop (k + K.length) = L') :
  ∃ w', (storeCells (ad.add (k * size)) (K.flatMap f)).run P w = .ok () w' ∧ St w0 Z M w' (m.set i (.row A L'.length cap e size (L'.flatMap f))) ds := by
 subst hL
 have hK : (K.flatMap f).length = K.length * size := enc_length hf K
 obtain ⟨w', h1, h2⟩ := St.over (P := P) hS hi hA (k * size) (K.flatMap f) (by rw [hK, enc_length hf, ← Nat.add_mul]; exact Nat.mul_le_mul_right _ hfit) (fun v hv => by
  obtain ⟨x, _, hx⟩ := List.mem_flatMap.1 hv
  exact hone x v hx)
 refine ⟨w', h1, ?_⟩
 rw [hK, ← Nat.add_mul, enc_take hf, enc_drop hf] at h2
 have hl : (L.take k ++ K ++ L.drop (k + K.length)).length = L.length := by simp; omega
 rw [hl, List.flatMap_append, List.flatMap_append]
 exact h2
theorem row_some (hS : St w0 Z M w m ds) {i n cap e size : Nat} {A : Option Addr} {xs : List Value} (hi : m[i]? = some (.row A n cap e size xs)) (hn : 0 < n) : ∃ ad, A = some ad := by
 have hr : w.ownsRow 0 e size (.slice A n cap) n xs := hS.res hi
 obtain ⟨g, rfl⟩ := own_some hr hn
 exact ⟨_, rfl⟩
theorem m_storeE {α : Type} {f : α → List Value} {t : TypeId} {x y : Operand} {A : Option Addr} {L : List α} {i j k cap e size : Nat} {v : Value} {z : α} (hs : Ste P X Next op a w) (hR : Reg a N l) (hS : St w0 Z M w m ds) (hd : op.dst = none) (ho : op.op = .store t x y)
  (hx : ev l x = some (.pointer (eP A j))) (hy : ev l y = some v) (hi : m[i]? = some (.row A L.length cap e size (L.flatMap f))) (hj : j = k * size) (hk : k < L.length) (hf : ∀ x, (f x).length = size) (hone : ∀ x, ∀ v ∈ f x, v.oneCell' = true)
  (hv : v.cells.toList = f z) (hsz : (P.info? t).map (·.size) = some size)
  (kk : ∀ a' w', Reg a' N l → St w0 Z M w' (m.set i (.row A (L.set k z).length cap e size ((L.set k z).flatMap f))) ds → Next a' w') : X := by
 subst hj
 obtain ⟨ad, rfl⟩ := row_some hS hi (by omega)
 obtain ⟨w', h1, h2⟩ := St.overF (P := P) hS hi rfl hf hone k [z] (by rw [List.length_singleton]; omega) (L.set k z) (by rw [List.set_eq_take_append_cons_drop, if_pos hk]; simp)
 cases hq : P.info? t with
 | none => simp [hq] at hsz
 | some inf =>
  have hii : inf.size = size := by simpa [hq] using hsz
  have hvs : v.cells.size = inf.size := by
   have := congrArg List.length hv
   rw [hf] at this
   simpa [hii] using this
  have h3 : (storeVar t (ad.add (k * size)) v).run P w = .ok () w' := by
   rw [List.flatMap_cons, List.flatMap_nil, List.append_nil, ← hv] at h1
   simp [storeVar, Sem.run_bind, sizeOf, typeInfo, hq, hvs, h1]
  refine hs.skip w' ?_ ?_
  ·
   unfold execOp; rw [ho]
   simp only [hR.ev hx, hR.ev hy, eP, Option.map_some, Instr.storeAt, Instr.sureAddr, Sem.run_bind, Sem.run_pure, Result.andThen_ok, h3]
  ·
   rw [hd]
   exact kk _ _ (hR.put_none _) h2
abbrev rM (A : Option Addr) : Nat → Prop := fun k => A.map (·.block) = some k
theorem row_lt {A : Option Addr} {n cap e size : Nat} {xs : List Value} (h : (Res.row A n cap e size xs).holds w) {k : Nat} (hk : rM A k) : k < w.heap.size := by
 obtain ⟨cs, t, fz, hc⟩ := Res.cells_at h (k := k) hk
 exact (Array.getElem?_eq_some_iff.1 hc).1
theorem imm_row {i n cap e size : Nat} {A : Option Addr} {xs : List Value} (hi : m[i]? = some (.row A n cap e size xs)) : ∀ k, rM A k → ¬ imm Z w0 m w k := fun k hk h => h.2.2 _ (List.mem_of_getElem? hi) hk
end
end Go.Proofs.YthdemmcfnpmmiaaDoor
/- copy and clear on rows of the call's own. -/
namespace Go.Proofs.YthdemmcfnpmmiaaDoor
set_option linter.unusedSimpArgs false
set_option linter.unusedVariables false
open Go Go.RowKit
section
variable {P : Program} {X : Prop} {Next : Act → World → Prop} {op : Oper} {a : Act} {w w' w0 : World} {N : Nat} {l : List (Nat × Value)} {d : Nat} {Z M : Nat → Prop} {m : List Res} {ds : List Dat}
theorem one1 {α : Type} {f : α → List Value} (h : ∀ l : List α, ∀ u ∈ l.flatMap f, u.oneCell' = true) (x : α) : ∀ v ∈ f x, v.oneCell' = true := fun v hv => h [x] v (by simpa using hv)
theorem ret_s {A : Option Addr} {n n' c : Nat} (h : n = n') : Value.slice A n c = .slice A n' c := by rw [h]
end
end Go.Proofs.YthdemmcfnpmmiaaDoor
/- Rows of nodes that are kept from round to round: a tail of the resources. -/
namespace Go.Proofs.YthdemmcfnpmmiaaDoor
set_option linter.unusedSimpArgs false
set_option linter.unusedVariables false
open Go Go.RowKit
section
variable {w w' w0 : World} {Z M : Nat → Prop} {m m' : List Res} {ds : List Dat}
theorem St.perm (h : St w0 Z M w m ds) (hp : m.Perm m') : St w0 Z M w m' ds := by
 have hmem : ∀ r, r ∈ m' ↔ r ∈ m := fun r => hp.symm.mem_iff
 have himm : imm Z w0 m' w = imm Z w0 m w := by
  funext k
  unfold imm
  refine propext ⟨fun q => ⟨q.1, q.2.1, fun r hr => q.2.2 r ((hmem r).2 hr)⟩, fun q => ⟨q.1, q.2.1, fun r hr => q.2.2 r ((hmem r).1 hr)⟩⟩
 refine ⟨h.os, h.tape, h.output, h.size, h.old, fun r hr => h.hold r ((hmem r).1 hr), fun r hr => h.own r ((hmem r).1 hr), ?_, fun d hd => by rw [himm]; exact h.dat d hd⟩
 refine (hp.pairwise_iff ?_).1 h.apart
 intro r s hrs k e e'
 exact hrs k e' e
end
end Go.Proofs.YthdemmcfnpmmiaaDoor
/- A row turned round in place. -/
namespace Go.Proofs.YthdemmcfnpmmiaaDoor
set_option linter.unusedSimpArgs false
set_option linter.unusedVariables false
structure RevTo (t R : List Sl) (k : Nat) : Prop where
 len : R.length = t.length
 at_ : ∀ i, i < t.length → nthS R i = if i < k ∨ t.length - k ≤ i then nthS t (t.length - 1 - i) else nthS t i
theorem nthS_set {R : List Sl} {i j : Nat} {u : Sl} (hi : i < R.length) : nthS (R.set i u) j = if i = j then u else nthS R j := by
 unfold nthS
 rw [List.getD_eq_getElem?_getD, List.getElem?_set, List.getD_eq_getElem?_getD]
 split
 · simp [*]
 · rfl
theorem RevTo.zero (t : List Sl) : RevTo t t 0 := ⟨rfl, fun i hi => by rw [if_neg (by omega)]⟩
theorem RevTo.step {t R : List Sl} {k j : Nat} {u v : Sl} (h : RevTo t R k) (hk : 2 * k + 1 < t.length) (hj : j = t.length - 1 - k) (hu : u = nthS R j) (hv : v = nthS R k) : RevTo t ((R.set k u).set j v) (k + 1) := by
 subst hj
 obtain ⟨h1, h2⟩ := h
 refine ⟨by simp [h1], fun i hi => ?_⟩
 rw [nthS_set (by rw [List.length_set]; omega), nthS_set (by omega), hu, hv, h2 _ (by omega), h2 _ (by omega), h2 i hi]
 by_cases e1 : t.length - 1 - k = i
 ·
  subst e1
  rw [if_pos rfl, if_neg (by omega), if_pos (by omega)]
  congr 1
  omega
 ·
  rw [if_neg e1]
  by_cases e2 : k = i
  ·
   subst e2
   rw [if_pos rfl, if_neg (by omega), if_pos (by omega)]
  ·
   rw [if_neg e2]
   by_cases e3 : i < k ∨ t.length - k ≤ i
   · rw [if_pos e3, if_pos (by omega)]
   · rw [if_neg e3, if_neg (by omega)]
theorem RevTo.done {t R : List Sl} {k : Nat} (h : RevTo t R k) (hk : t.length ≤ 2 * k + 1) : R = t.reverse := by
 obtain ⟨h1, h2⟩ := h
 apply List.ext_getElem
 · simp [h1]
 ·
  intro i hi hi'
  have h3 := h2 i (by omega)
  have h4 : nthS R i = R[i] := by simp [nthS, hi]
  have h5 : nthS t (t.length - 1 - i) = t[t.length - 1 - i] := by
   have : t.length - 1 - i < t.length := by omega
   simp [nthS, this]
  rw [List.getElem_reverse, ← h4, h3, ← h5]
  split
  · rfl
  ·
   congr 1
   omega
end Go.Proofs.YthdemmcfnpmmiaaDoor
/- What is erased, stripped, and the proofs: trees. -/
namespace Go.Proofs.YthdemmcfnpmmiaaDoor
set_option linter.unusedSimpArgs false
set_option linter.unusedVariables false
theorem wf_cons {t : T} {l : List T} (h : T.wfs (t :: l) = true) : t.wf = true ∧ T.wfs l = true := by simpa [T.wfs] using h
theorem wf_parts {n : Nd} {l : List T} (h : (T.mk n l).wf = true) : right n = true ∧ many n = l.length ∧ T.wfs l = true := by
 rw [T.wf_mk] at h
 simp only [Bool.and_eq_true, beq_iff_eq] at h
 exact ⟨h.1.1, h.1.2, h.2⟩
end Go.Proofs.YthdemmcfnpmmiaaDoor
/- Where terms begin, and the parts of one: plain lists. -/
namespace Go.Proofs.YthdemmcfnpmmiaaDoor
set_option linter.unusedSimpArgs false
set_option linter.unusedVariables false
def frL (t : List Nd) (e : Nat) : Nat := match scanT [] (t.take (e + 1)) with
 | some st => (T.flats st.dropLast).length
 | none => 0
def posL (t : List Nd) (e j : Nat) : Nat := match scanT [] (t.take e) with
 | some st => (T.flats (st.take (st.length - j))).length
 | none => 0
theorem scan_take {t : List Nd} {st : List T} (h : scanT [] t = some st) (k : Nat) : ∃ s, scanT [] (t.take k) = some s := by
 have h1 := h
 rw [← List.take_append_drop k t, scanT_append] at h1
 cases hs : scanT [] (t.take k) with
 | none => rw [hs] at h1; cases h1
 | some s => exact ⟨s, rfl⟩
theorem meas_scan {t : List Nd} (h : measB t = true) (k : Nat) : ∃ s, scanT [] (t.take k) = some s := by
 obtain ⟨x, hs, _⟩ := measB_tree h
 exact scan_take hs k
theorem treeOf_meas {t : List Nd} (h : measB t = true) : (treeOf t).wf = true ∧ (treeOf t).flat = t := by
 obtain ⟨x, _, _, hw, hf⟩ := measB_tree h
 rw [← hf, treeOf_flat hw]
 exact ⟨hw, rfl⟩
theorem meas_flat {x : T} (h : x.wf = true) : measB x.flat = true := by
 unfold measB
 rw [scanT_tree [] x h]
 rfl
theorem meas_chk {t : List Nd} (h : chk t = 0) : measB t = true := by
 obtain ⟨x, hw, rfl, _⟩ := chk_ok.1 h
 exact meas_flat hw
theorem meas_pos {t : List Nd} (h : measB t = true) : 0 < t.length := by
 obtain ⟨x, _, _, _, rfl⟩ := measB_tree h
 exact T.flat_pos x
theorem scan_prefix {st : List T} (hw : T.wfs st = true) (m : Nat) : scanT [] (T.flats (st.take m)) = some (st.take m) := by
 have h2 : T.wfs (st.take m) = true := (T.wfs_iff _).2 fun x hx => (T.wfs_iff _).1 hw x (List.mem_of_mem_take hx)
 simpa using scanT_trees [] _ h2
theorem flats_take_pre (st : List T) (m : Nat) : T.flats st = T.flats (st.take m) ++ T.flats (st.drop m) := by rw [← T.flats_append, List.take_append_drop]
theorem posL_zero {t : List Nd} {e : Nat} (h : measB t = true) (he : e ≤ t.length) : posL t e 0 = e := by
 obtain ⟨st, hs⟩ := meas_scan h e
 unfold posL
 rw [hs]
 simp only [Nat.sub_zero, List.take_length]
 rw [(scanT_flat hs (by simp [T.wfs])).1]
 simp [T.flats_nil, he]
theorem meas_at {t : List Nd} {e : Nat} {st : List T} (h : measB t = true) (he : e < t.length) (hs : scanT [] (t.take e) = some st) : right (nth t e) = true ∧ many (nth t e) ≤ st.length :=
 measB_at h hs he
theorem right_at {t : List Nd} {e : Nat} (h : measB t = true) (he : e < t.length) : right (nth t e) = true := by
 obtain ⟨st, hs⟩ := meas_scan h e
 exact (meas_at h he hs).1
theorem posL_step {t : List Nd} {e j : Nat} (h : measB t = true) (he : e < t.length) (hj : j < many (nth t e)) : 0 < posL t e j ∧ posL t e j ≤ e ∧ frL t (posL t e j - 1) = posL t e (j + 1) ∧ posL t e (j + 1) < posL t e j := by
 obtain ⟨st, hs⟩ := meas_scan h e
 obtain ⟨_, hm⟩ := meas_at h he hs
 obtain ⟨hf, hw⟩ := scanT_flat hs (by simp [T.wfs])
 simp only [T.flats_nil, List.nil_append] at hf
 have hp : ∀ i, posL t e i = (T.flats (st.take (st.length - i))).length := fun i => by unfold posL; rw [hs]
 have hle : ∀ i, (T.flats (st.take i)).length ≤ e := fun i => by
  have h1 := congrArg List.length (flats_take_pre st i)
  rw [hf, List.length_take, List.length_append] at h1
  omega
 have hsnoc : st.take (st.length - j) = st.take (st.length - (j + 1)) ++ [st[st.length - (j + 1)]'(by omega)] := by
  rw [show st.length - j = st.length - (j + 1) + 1 by omega, List.take_add_one, List.getElem?_eq_getElem (by omega)]
  rfl
 have hlen : posL t e j = posL t e (j + 1) + (st[st.length - (j + 1)]'(by omega)).flat.length := by
  rw [hp, hp, hsnoc, T.flats_append, T.flats_one, List.length_append]
 have hpos := T.flat_pos (st[st.length - (j + 1)]'(by omega))
 refine ⟨by omega, by rw [hp]; exact hle _, ?_, by omega⟩
 unfold frL
 have htk : t.take (posL t e j - 1 + 1) = T.flats (st.take (st.length - j)) := by
  rw [show posL t e j - 1 + 1 = posL t e j by omega, hp]
  have h2 := flats_take_pre st (st.length - j)
  rw [hf] at h2
  have h3 := congrArg (List.take (T.flats (st.take (st.length - j))).length) h2
  rw [List.take_take, List.take_left' rfl, Nat.min_eq_left (hle _)] at h3
  exact h3
 rw [htk, scan_prefix hw, hsnoc]
 simp only [List.dropLast_concat]
 rw [hp]
theorem posL_end {t : List Nd} {e : Nat} (h : measB t = true) (he : e < t.length) : posL t e (many (nth t e)) = frL t e := by
 obtain ⟨st, hs⟩ := meas_scan h e
 obtain ⟨hr, hm⟩ := meas_at h he hs
 have h1 := scan_step hs he
 unfold posL frL
 rw [hs, h1]
 unfold pushT
 rw [if_pos (by simp [hr, hm])]
 simp
def ptL (t : List Nd) : List (List Nd) := (treeOf t).args.map T.flat
theorem tree_parts {t : List Nd} (h : measB t = true) : ∃ n l, treeOf t = .mk n l ∧ right n = true ∧ many n = l.length ∧ T.wfs l = true ∧ t = T.flats l ++ [n] ∧ nth t (t.length - 1) = n ∧ (T.flats l).length = t.length - 1 ∧ scanT [] (t.take (t.length - 1)) = some l := by
 obtain ⟨hw, hf⟩ := treeOf_meas h
 rcases hx : treeOf t with ⟨n, l⟩
 rw [hx] at hw hf
 obtain ⟨h1, h2, h3⟩ := wf_parts hw
 rw [T.flat_mk] at hf
 have hl : (T.flats l).length = t.length - 1 := by rw [← hf]; simp
 refine ⟨n, l, rfl, h1, h2, h3, hf.symm, ?_, hl, ?_⟩
 ·
  rw [← hl, ← hf]
  simp [nth]
 ·
  rw [← hl, ← hf, List.take_left' rfl]
  simpa using scanT_trees [] l h3
theorem posL_root {t : List Nd} (h : measB t = true) (j : Nat) : posL t (t.length - 1) j = (T.flats ((treeOf t).args.take ((treeOf t).args.length - j))).length := by
 obtain ⟨n, l, hx, _, _, _, _, _, _, hs⟩ := tree_parts h
 unfold posL
 rw [hs, hx]
 rfl
theorem root_many {t : List Nd} (h : measB t = true) : many (nth t (t.length - 1)) = (treeOf t).args.length := by
 obtain ⟨n, l, hx, _, h2, _, _, h4, _, _⟩ := tree_parts h
 rw [h4, h2, hx]
 rfl
def ptD (t : List Nd) (j : Nat) : List (List Nd) := ((treeOf t).args.drop ((treeOf t).args.length - j)).map T.flat
theorem ptD_zero (t : List Nd) : ptD t 0 = [] := by simp [ptD]
theorem ptD_length {t : List Nd} {j : Nat} (h : measB t = true) (hj : j ≤ many (nth t (t.length - 1))) : (ptD t j).length = j := by
 rw [root_many h] at hj
 simp [ptD]
 omega
theorem ptD_all {t : List Nd} (h : measB t = true) : ptD t (many (nth t (t.length - 1))) = ptL t := by
 rw [root_many h]
 simp [ptD, ptL]
theorem ptD_step {t : List Nd} {j a b : Nat} (h : measB t = true) (hj : j < many (nth t (t.length - 1))) (ha : a = posL t (t.length - 1) (j + 1)) (hb : b = posL t (t.length - 1) j) : (t.drop a).take (b - a) :: ptD t j = ptD t (j + 1) := by
 have hm := root_many h
 obtain ⟨n, l, hx, _, h2, _, h4, _, _, _⟩ := tree_parts h
 rw [posL_root h] at ha hb
 rw [hm, hx] at hj
 unfold ptD
 rw [hx] at ha hb ⊢
 simp only [T.args] at ha hb hj ⊢
 have h1 : l.length - (j + 1) < l.length := by omega
 have hd : l.drop (l.length - (j + 1)) = l[l.length - (j + 1)] :: l.drop (l.length - j) := by
  rw [List.drop_eq_getElem_cons h1, show l.length - (j + 1) + 1 = l.length - j by omega]
 have hsnoc : l.take (l.length - j) = l.take (l.length - (j + 1)) ++ [l[l.length - (j + 1)]] := by
  rw [show l.length - j = l.length - (j + 1) + 1 by omega, List.take_add_one, List.getElem?_eq_getElem h1]
  rfl
 have hall : T.flats l = T.flats (l.take (l.length - (j + 1))) ++ (l[l.length - (j + 1)].flat ++ T.flats (l.drop (l.length - j))) := by
  rw [flats_take_pre l (l.length - (j + 1)), hd, T.flats_cons]
 rw [hd, List.map_cons]
 congr 1
 have hb' : b - a = l[l.length - (j + 1)].flat.length := by
  rw [ha, hb, hsnoc, T.flats_append, T.flats_one, List.length_append]
  omega
 rw [hb', ha, h4, hall, List.append_assoc, List.drop_left' rfl, List.append_assoc, List.take_left' rfl]
theorem ptL_mem {t p : List Nd} (h : measB t = true) (hp : p ∈ ptL t) : measB p = true ∧ p.length < t.length ∧ (∀ n ∈ p, n ∈ t) := by
 obtain ⟨n, l, hx, _, h2, h3, h4, _, h6, _⟩ := tree_parts h
 unfold ptL at hp
 rw [hx] at hp
 obtain ⟨y, hy, rfl⟩ := List.mem_map.1 hp
 simp only [T.args] at hy
 have hw := (T.wfs_iff l).1 h3 y hy
 obtain ⟨a, b, rfl⟩ := List.append_of_mem hy
 refine ⟨meas_flat hw, ?_, fun m hm => ?_⟩
 ·
  have := meas_pos h
  rw [T.flats_append, T.flats_cons] at h6
  simp only [List.length_append] at h6
  omega
 ·
  rw [h4, T.flats_append, T.flats_cons]
  simp [hm]
theorem ptL_length {t : List Nd} (h : measB t = true) : (ptL t).length = many (nth t (t.length - 1)) := by rw [root_many h]; simp [ptL]
theorem sml_sub {t p : List Nd} (h : sml t) (hp : ∀ n ∈ p, n ∈ t) : sml p := fun k hk => by
 have h1 := hp _ (nth_mem hk)
 obtain ⟨i, hi, he⟩ := List.getElem_of_mem h1
 have h2 := h i hi
 have : nth t i = t[i] := by simp [nth, hi]
 rw [this, he] at h2
 exact h2
end Go.Proofs.YthdemmcfnpmmiaaDoor
/- The document's own words of terms: parts, what is made of them; plain lists. -/
namespace Go.Proofs.YthdemmcfnpmmiaaDoor
set_option linter.unusedSimpArgs false
set_option linter.unusedVariables false
section
variable {w0 w : World} {Z M : Nat → Prop} {m : List Res} {ds ds' : List Dat}
theorem St.sub (h : St w0 Z M w m ds) (hd : ∀ d ∈ ds', d ∈ ds) : St w0 Z M w m ds' := ⟨h.os, h.tape, h.output, h.size, h.old, h.hold, h.own, h.apart, fun d hx => h.dat d (hd d hx)⟩
theorem sub_nil : ∀ d ∈ ([] : List Dat), d ∈ ds := fun _ h => by cases h
theorem sub_cons {d : Dat} {l : List Dat} {i : Nat} (h : ds[i]? = some d) (hl : ∀ x ∈ l, x ∈ ds) : ∀ x ∈ d :: l, x ∈ ds := fun x hx => by
 rcases List.mem_cons.1 hx with rfl | hx
 · exact List.mem_of_getElem? h
 · exact hl x hx
end
def nthL (l : List (List Nd)) (k : Nat) : List Nd := l.getD k []
theorem lsts_app (a b : List Sl) : lsts (a ++ b) = lsts a ++ lsts b := by simp [lsts]
theorem lsts_one {A : Option Addr} {c : Nat} {L : List Nd} : lsts [((A, c, L) : Sl)] = [L] := rfl
theorem lsts_len (a : List Sl) : (lsts a).length = a.length := by simp [lsts]
theorem lsts_nth (a : List Sl) (k : Nat) : (nthS a k).2.2 = nthL (lsts a) k := by
 unfold nthS nthL lsts
 rw [List.getD_eq_getElem?_getD, List.getD_eq_getElem?_getD, List.getElem?_map]
 cases a[k]? <;> rfl
theorem nthL_mem {l : List (List Nd)} {k : Nat} (h : k < l.length) : nthL l k ∈ l := by
 have : nthL l k = l[k] := by simp [nthL, h]
 rw [this]
 exact List.getElem_mem h
theorem part_at {t : List Nd} {Ls : List Sl} {k : Nat} (h : measB t = true) (hs : sml t) (hL : lsts Ls = ptL t) (hk : k < Ls.length) :
  (nthS Ls k).2.2 = nthL (ptL t) k ∧ k < (ptL t).length ∧ measB (nthS Ls k).2.2 = true ∧ (nthS Ls k).2.2.length < t.length ∧ sml (nthS Ls k).2.2 ∧ 0 < (nthS Ls k).2.2.length := by
 have e := lsts_nth Ls k
 rw [hL] at e
 have hk' : k < (ptL t).length := by rw [← hL, lsts_len]; exact hk
 obtain ⟨h1, h2, h3⟩ := ptL_mem h (nthL_mem hk')
 rw [e]
 exact ⟨rfl, hk', h1, h2, sml_sub hs h3, meas_pos h1⟩
theorem parts_step {t : List Nd} {Ls : List Sl} {A : Option Addr} {c k a b : Nat} (hb : measB t = true) (hL : lsts Ls = ptD t k) (hk : k < many (nth t (t.length - 1))) (ha : a = posL t (t.length - 1) (k + 1)) (hbb : b = posL t (t.length - 1) k) :
  lsts ([((A, c, (t.drop a).take (b - a)) : Sl)] ++ Ls) = ptD t (k + 1) := by
 rw [lsts_app, lsts_one, hL, ← ptD_step hb hk ha hbb]
 rfl
theorem flats_flatten (l : List T) : (l.map T.flat).flatten = T.flats l := by
 induction l with
 | nil => simp [T.flats_nil]
 | cons t l ih => simp [T.flats_cons, ih]
theorem ptL_le {t : List Nd} (h : measB t = true) : (ptL t).length ≤ 8 := by
 rw [ptL_length h]
 exact many_le (right_at h (by have := meas_pos h; omega))
end Go.Proofs.YthdemmcfnpmmiaaDoor
/- What is erased, stripped, and the proofs, of terms: lists. -/
namespace Go.Proofs.YthdemmcfnpmmiaaDoor
set_option linter.unusedSimpArgs false
set_option linter.unusedVariables false
theorem flat_total (p : List Sl) (k : Nat) : (lsts (p.take k)).flatten.length ≤ (lsts p).flatten.length := by
 have h : lsts p = lsts (p.take k) ++ lsts (p.drop k) := by rw [← lsts_app, List.take_append_drop]
 rw [h, List.flatten_append, List.length_append]
 omega
end Go.Proofs.YthdemmcfnpmmiaaDoor
/- Parts of terms that are checked, and their places in what is made of all parts; terms that differ in their proofs. -/
namespace Go.Proofs.YthdemmcfnpmmiaaDoor
set_option linter.unusedSimpArgs false
set_option linter.unusedVariables false
def marks (t : List Nd) : Nat := t.countP fun n => decide (n.K = 28)
mutual
def usT (k u : Int) : T → Nat
 | .mk n l => if n.K = 0 then (if 0 ≤ n.N - u ∧ (k < 0 ∨ n.N - u = k) then 1 else 0) else usTs k l ((binds n).map (u + ·))
def usTs (k : Int) : List T → List Int → Nat
 | [], _ => 0
 | _ :: _, [] => 0
 | t :: l, u :: us => usT k u t + usTs k l us
end
mutual
def moT (k u : Int) : T → Int
 | .mk n l => if n.K = 0 then (if 0 ≤ n.N - u ∧ (k < 0 ∨ n.N - u = k) then n.N - u else -1) else moTs k l ((binds n).map (u + ·))
def moTs (k : Int) : List T → List Int → Int
 | [], _ => -1
 | _ :: _, [] => -1
 | t :: l, u :: us => max (moT k u t) (moTs k l us)
end
def usL (t : List Nd) (k u : Int) : Nat := usT k u (treeOf t)
def moL (t : List Nd) (k u : Int) : Int := moT k u (treeOf t)
def usP (t : List Nd) (k u : Int) (j : Nat) : Nat := usTs k ((treeOf t).args.take j) ((binds (nth t (t.length - 1))).map (u + ·))
def moP (t : List Nd) (k u : Int) (j : Nat) : Int := moTs k ((treeOf t).args.take j) ((binds (nth t (t.length - 1))).map (u + ·))
theorem usTs_snoc (k : Int) : ∀ (l : List T) (t : T) (us : List Int) (u : Int), l.length = us.length → ∀ vs, usTs k (l ++ [t]) (us ++ u :: vs) = usTs k l (us ++ u :: vs) + usT k u t
 | [], t, [], u, _, vs => by simp [usTs]
 | y :: l, t, v :: us, u, h, vs => by
  simp only [List.cons_append, usTs]
  rw [usTs_snoc k l t us u (by simpa using h) vs]
  omega
 | [], _, _ :: _, _, h, _ => by simp at h
 | _ :: _, _, [], _, h, _ => by simp at h
theorem moTs_snoc (k : Int) : ∀ (l : List T) (t : T) (us : List Int) (u : Int), l.length = us.length → ∀ vs, moTs k (l ++ [t]) (us ++ u :: vs) = max (moTs k l (us ++ u :: vs)) (max (moT k u t) (-1))
 | [], t, [], u, _, vs => by simp [moTs]; omega
 | y :: l, t, v :: us, u, h, vs => by
  simp only [List.cons_append, moTs]
  rw [moTs_snoc k l t us u (by simpa using h) vs]
  omega
 | [], _, _ :: _, _, h, _ => by simp at h
 | _ :: _, _, [], _, h, _ => by simp at h
mutual
theorem moT_ge (k : Int) : ∀ (x : T) (u : Int), -1 ≤ moT k u x
 | .mk n l, u => by
  simp only [moT]
  split
  · split <;> omega
  · exact moTs_ge k l _
theorem moTs_ge (k : Int) : ∀ (l : List T) (us : List Int), -1 ≤ moTs k l us
 | [], us => by simp [moTs]
 | y :: l, [] => by simp [moTs]
 | y :: l, u :: us => by
  simp only [moTs]
  have := moTs_ge k l us
  omega
end
theorem split_at {α : Type} {l : List α} {j : Nat} (h : j < l.length) : l = l.take j ++ l[j] :: l.drop (j + 1) := by
 rw [← List.drop_eq_getElem_cons h, List.take_append_drop]
theorem ptL_nth {t : List Nd} {j : Nat} (h : measB t = true) (hj : j < (ptL t).length) : ∃ hj' : j < (treeOf t).args.length, nthL (ptL t) j = ((treeOf t).args[j]).flat ∧ treeOf (nthL (ptL t) j) = (treeOf t).args[j] := by
 obtain ⟨n, l, hx, _, _, h3, _, _, _, _⟩ := tree_parts h
 have hj' : j < (treeOf t).args.length := by simpa [ptL] using hj
 have e : nthL (ptL t) j = ((treeOf t).args[j]).flat := by simp [nthL, ptL, hj']
 refine ⟨hj', e, ?_⟩
 rw [e, treeOf_flat]
 have : (treeOf t).args = l := by rw [hx]; rfl
 exact (T.wfs_iff l).1 h3 _ (by rw [← this]; exact List.getElem_mem hj')
theorem binds_at {t : List Nd} {j : Nat} (h : measB t = true) (hj : j < (ptL t).length) (u : Int) : ((binds (nth t (t.length - 1))).map (u + ·)) = ((binds (nth t (t.length - 1))).map (u + ·)).take j ++ (u + nthI (binds (nth t (t.length - 1))) j) :: ((binds (nth t (t.length - 1))).map (u + ·)).drop (j + 1) := by
 have hl : j < (binds (nth t (t.length - 1))).length := by rw [ptL_length h] at hj; exact hj
 have := split_at (l := (binds (nth t (t.length - 1))).map (u + ·)) (j := j) (by simpa using hl)
 rw [List.getElem_map] at this
 have e : nthI (binds (nth t (t.length - 1))) j = (binds (nth t (t.length - 1)))[j] := by simp [nthI, hl]
 rw [e]
 exact this
theorem us_step {t : List Nd} {k u : Int} {j : Nat} (h : measB t = true) (hj : j < (ptL t).length) :
  usP t k u (j + 1) = usP t k u j + usL (nthL (ptL t) j) k (u + nthI (binds (nth t (t.length - 1))) j) ∧
  moP t k u (j + 1) = max (moP t k u j) (moL (nthL (ptL t) j) k (u + nthI (binds (nth t (t.length - 1))) j)) := by
 obtain ⟨hj', e1, e2⟩ := ptL_nth h hj
 have hb := binds_at h hj u
 have hl : j < (binds (nth t (t.length - 1))).length := by rw [ptL_length h] at hj; exact hj
 have ht : (treeOf t).args.take (j + 1) = (treeOf t).args.take j ++ [(treeOf t).args[j]] := by
  rw [List.take_add_one, List.getElem?_eq_getElem hj']; rfl
 have hlen : ((treeOf t).args.take j).length = (((binds (nth t (t.length - 1))).map (u + ·)).take j).length := by
  rw [List.length_take, List.length_take, List.length_map]
  have := root_many h
  have : (binds (nth t (t.length - 1))).length = (treeOf t).args.length := this
  omega
 unfold usP moP usL moL
 rw [ht, e2]
 constructor
 · rw [hb, usTs_snoc k _ _ _ _ hlen]
 ·
  rw [hb, moTs_snoc k _ _ _ _ hlen]
  have := moT_ge k ((treeOf t).args[j]) (u + nthI (binds (nth t (t.length - 1))) j)
  omega
theorem us_root {t : List Nd} {k u : Int} (h : measB t = true) (hk : ¬ (nth t (t.length - 1)).K = 0) : usL t k u = usP t k u (ptL t).length ∧ moL t k u = moP t k u (ptL t).length := by
 obtain ⟨n, l, hx, _, _, _, _, h5, _, _⟩ := tree_parts h
 rw [h5] at hk
 unfold usL moL usP moP ptL
 rw [hx, h5]
 simp only [T.args, List.length_map, List.take_length, usT, moT, hk, if_false, and_self]
theorem us_var {t : List Nd} {k u : Int} (h : measB t = true) (hk : (nth t (t.length - 1)).K = 0) :
  usL t k u = (if 0 ≤ (nth t (t.length - 1)).N - u ∧ (k < 0 ∨ (nth t (t.length - 1)).N - u = k) then 1 else 0) ∧
  moL t k u = (if 0 ≤ (nth t (t.length - 1)).N - u ∧ (k < 0 ∨ (nth t (t.length - 1)).N - u = k) then (nth t (t.length - 1)).N - u else -1) := by
 obtain ⟨n, l, hx, _, _, _, _, h5, _, _⟩ := tree_parts h
 rw [h5] at hk ⊢
 unfold usL moL
 rw [hx]
 simp only [usT, moT, hk, if_true, and_self]
mutual
theorem us_le (k : Int) : ∀ (x : T) (u : Int), usT k u x ≤ x.flat.length
 | .mk n l, u => by
  simp only [usT, T.flat_mk, List.length_append, List.length_singleton]
  split
  · split <;> omega
  · have := uss_le k l ((binds n).map (u + ·)); omega
theorem uss_le (k : Int) : ∀ (l : List T) (us : List Int), usTs k l us ≤ (T.flats l).length
 | [], us => by simp [usTs]
 | y :: l, [] => by simp [usTs]
 | y :: l, u :: us => by
  simp only [usTs, T.flats_cons, List.length_append]
  have := us_le k y u
  have := uss_le k l us
  omega
end
theorem usL_le {t : List Nd} (h : measB t = true) (k u : Int) : usL t k u ≤ t.length := by
 have := us_le k (treeOf t) u
 rw [(treeOf_meas h).2] at this
 exact this
mutual
theorem usTs_take (k : Int) : ∀ (l : List T) (us : List Int) (j : Nat), usTs k (l.take j) us ≤ (T.flats l).length
 | [], us, j => by simp [usTs]
 | y :: l, us, 0 => by simp [usTs]
 | y :: l, [], j + 1 => by simp [usTs]
 | y :: l, u :: us, j + 1 => by
  simp only [List.take_succ_cons, usTs, T.flats_cons, List.length_append]
  have := us_le k y u
  have := usTs_take k l us j
  omega
end
theorem usP_le {t : List Nd} (h : measB t = true) (k u : Int) (j : Nat) : usP t k u j ≤ t.length := by
 obtain ⟨n, l, hx, _, _, _, _, _, h6, _⟩ := tree_parts h
 unfold usP
 have := usTs_take k (treeOf t).args ((binds (nth t (t.length - 1))).map (u + ·)) j
 rw [hx] at this ⊢
 simp only [T.args] at this ⊢
 omega
theorem var_at {t : List Nd} (h : measB t = true) (hk : (nth t (t.length - 1)).K = 0) : 0 ≤ (nth t (t.length - 1)).N ∧ (nth t (t.length - 1)).N ≤ 99 := by
 have h1 := right_at h (show t.length - 1 < t.length by have := meas_pos h; omega)
 rw [right_var hk, decide_eq_true_eq] at h1
 exact ⟨h1.1, h1.2.1⟩
end Go.Proofs.YthdemmcfnpmmiaaDoor
/- Terms in which variables give way to something, under binders: shifts and substitutions; trees and lists. -/
namespace Go.Proofs.YthdemmcfnpmmiaaDoor
set_option linter.unusedSimpArgs false
set_option linter.unusedVariables false
abbrev VR := Nd → Int → Int × T
mutual
def trE (V : VR) (u : Int) : T → Int
 | .mk n l => if n.K = 0 then (V n u).1 else trEs V l ((binds n).map (u + ·))
def trEs (V : VR) : List T → List Int → Int
 | [], _ => 0
 | _ :: _, [] => 0
 | t :: l, u :: us => if trE V u t = 0 then trEs V l us else trE V u t
end
mutual
def trT (V : VR) (u : Int) : T → T
 | .mk n l => if n.K = 0 then (V n u).2 else .mk n (trTs V l ((binds n).map (u + ·)))
def trTs (V : VR) : List T → List Int → List T
 | [], _ => []
 | _ :: _, [] => []
 | t :: l, u :: us => trT V u t :: trTs V l us
end
def trEL (V : VR) (t : List Nd) (u : Int) : Int := trE V u (treeOf t)
def trL (V : VR) (t : List Nd) (u : Int) : List Nd := if trEL V t u = 0 then (trT V u (treeOf t)).flat else []
def trEP (V : VR) (t : List Nd) (u : Int) (j : Nat) : Int := trEs V ((treeOf t).args.take j) ((binds (nth t (t.length - 1))).map (u + ·))
def trTP (V : VR) (t : List Nd) (u : Int) (j : Nat) : List (List Nd) := (trTs V ((treeOf t).args.take j) ((binds (nth t (t.length - 1))).map (u + ·))).map T.flat
theorem trEs_snoc (V : VR) : ∀ (l : List T) (t : T) (us : List Int) (u : Int), l.length = us.length → ∀ vs, trEs V (l ++ [t]) (us ++ u :: vs) = if trEs V l (us ++ u :: vs) = 0 then trE V u t else trEs V l (us ++ u :: vs)
 | [], t, [], u, _, vs => by
  simp only [List.nil_append, trEs, if_true]
  split
  · rename_i h; exact h.symm
  · rfl
 | y :: l, t, v :: us, u, h, vs => by
  simp only [List.cons_append, trEs]
  rw [trEs_snoc V l t us u (by simpa using h) vs]
  by_cases h1 : trE V v y = 0
  · simp [h1]
  · simp [h1]
 | [], _, _ :: _, _, h, _ => by simp at h
 | _ :: _, _, [], _, h, _ => by simp at h
theorem trTs_snoc (V : VR) : ∀ (l : List T) (t : T) (us : List Int) (u : Int), l.length = us.length → ∀ vs, trTs V (l ++ [t]) (us ++ u :: vs) = trTs V l (us ++ u :: vs) ++ [trT V u t]
 | [], t, [], u, _, vs => by simp [trTs]
 | y :: l, t, v :: us, u, h, vs => by
  simp only [List.cons_append, trTs]
  rw [trTs_snoc V l t us u (by simpa using h) vs]
 | [], _, _ :: _, _, h, _ => by simp at h
 | _ :: _, _, [], _, h, _ => by simp at h
theorem tr_zero (V : VR) (t : List Nd) (u : Int) : trEP V t u 0 = 0 ∧ trTP V t u 0 = [] := by simp [trEP, trTP, trEs, trTs]
theorem tr_snoc {V : VR} {t : List Nd} {u : Int} {j : Nat} (h : measB t = true) (hj : j < (ptL t).length) :
  trEP V t u (j + 1) = (if trEP V t u j = 0 then trEL V (nthL (ptL t) j) (u + nthI (binds (nth t (t.length - 1))) j) else trEP V t u j) ∧
  trTP V t u (j + 1) = trTP V t u j ++ [(trT V (u + nthI (binds (nth t (t.length - 1))) j) (treeOf (nthL (ptL t) j))).flat] := by
 obtain ⟨hj', e1, e2⟩ := ptL_nth h hj
 have hb := binds_at h hj u
 have hl : j < (binds (nth t (t.length - 1))).length := by rw [ptL_length h] at hj; exact hj
 have ht : (treeOf t).args.take (j + 1) = (treeOf t).args.take j ++ [(treeOf t).args[j]] := by
  rw [List.take_add_one, List.getElem?_eq_getElem hj']; rfl
 have hlen : ((treeOf t).args.take j).length = (((binds (nth t (t.length - 1))).map (u + ·)).take j).length := by
  rw [List.length_take, List.length_take, List.length_map]
  have := root_many h
  have : (binds (nth t (t.length - 1))).length = (treeOf t).args.length := this
  omega
 unfold trEP trTP trEL
 rw [ht, e2]
 constructor
 · rw [hb, trEs_snoc V _ _ _ _ hlen]
 ·
  rw [hb, trTs_snoc V _ _ _ _ hlen, List.map_append]
  rfl
theorem tr_step {V : VR} {t : List Nd} {u : Int} {j : Nat} (h : measB t = true) (hj : j < (ptL t).length) (h0 : trEP V t u j = 0) (he : trEL V (nthL (ptL t) j) (u + nthI (binds (nth t (t.length - 1))) j) = 0) :
  trEP V t u (j + 1) = 0 ∧ trTP V t u (j + 1) = trTP V t u j ++ [trL V (nthL (ptL t) j) (u + nthI (binds (nth t (t.length - 1))) j)] := by
 obtain ⟨h1, h2⟩ := tr_snoc (V := V) (u := u) h hj
 rw [if_pos h0] at h1
 refine ⟨h1.trans he, ?_⟩
 rw [h2]
 unfold trL
 rw [if_pos he]
theorem trEs_take (V : VR) : ∀ (l : List T) (us : List Int) (j : Nat), trEs V (l.take j) us ≠ 0 → trEs V l us = trEs V (l.take j) us
 | [], us, j, h => by simp
 | y :: l, us, 0, h => by simp [trEs] at h
 | y :: l, [], j + 1, h => by simp [trEs] at h
 | y :: l, u :: us, j + 1, h => by
  simp only [List.take_succ_cons, trEs] at h ⊢
  by_cases h1 : trE V u y = 0
  ·
   rw [if_pos h1] at h ⊢
   rw [if_pos h1]
   exact trEs_take V l us j h
  · rw [if_neg h1, if_neg h1]
theorem tr_root {V : VR} {t : List Nd} {u : Int} (h : measB t = true) (hk : ¬ (nth t (t.length - 1)).K = 0) : trEL V t u = trEP V t u (ptL t).length ∧ (trT V u (treeOf t)).flat = (trTP V t u (ptL t).length).flatten ++ [nth t (t.length - 1)] := by
 obtain ⟨n, l, hx, _, _, _, _, h5, _, _⟩ := tree_parts h
 rw [h5] at hk
 unfold trEL trEP trTP ptL
 rw [hx, h5]
 simp only [T.args, List.length_map, List.take_length, trE, trT, hk, if_false, T.flat_mk, true_and]
 rw [← flats_flatten]
theorem tr_err {V : VR} {t : List Nd} {u : Int} {j : Nat} (h : measB t = true) (hk : ¬ (nth t (t.length - 1)).K = 0) (hj : j < (ptL t).length) (h0 : trEP V t u j = 0) (he : ¬ trEL V (nthL (ptL t) j) (u + nthI (binds (nth t (t.length - 1))) j) = 0) :
  trEL V t u = trEL V (nthL (ptL t) j) (u + nthI (binds (nth t (t.length - 1))) j) ∧ trL V t u = [] := by
 obtain ⟨h1, _⟩ := tr_snoc (V := V) (u := u) h hj
 rw [if_pos h0] at h1
 have h2 : trEL V t u = trEP V t u (j + 1) := by
  rw [(tr_root h hk).1]
  unfold trEP ptL
  rw [List.length_map, List.take_length]
  exact trEs_take V _ _ _ (by have := h1 ▸ he; exact this)
 rw [h1] at h2
 refine ⟨h2, ?_⟩
 unfold trL
 rw [if_neg (by rw [h2]; exact he)]
theorem tr_done {V : VR} {t : List Nd} {u : Int} (h : measB t = true) (hk : ¬ (nth t (t.length - 1)).K = 0) (h0 : trEP V t u (ptL t).length = 0) :
  trEL V t u = 0 ∧ trL V t u = (trTP V t u (ptL t).length).flatten ++ [nth t (t.length - 1)] := by
 obtain ⟨h1, h2⟩ := tr_root (V := V) (u := u) h hk
 have h3 : trEL V t u = 0 := h1.trans h0
 refine ⟨h3, ?_⟩
 unfold trL
 rw [if_pos h3, h2]
theorem tr_var {V : VR} {t : List Nd} {u : Int} (h : measB t = true) (hk : (nth t (t.length - 1)).K = 0) : trEL V t u = (V (nth t (t.length - 1)) u).1 ∧ trL V t u = (if (V (nth t (t.length - 1)) u).1 = 0 then (V (nth t (t.length - 1)) u).2.flat else []) ∧ t = [nth t (t.length - 1)] := by
 obtain ⟨n, l, hx, h1, h2, _, h4, h5, _, _⟩ := tree_parts h
 rw [h5] at hk ⊢
 have hE : trEL V t u = (V n u).1 := by unfold trEL; rw [hx]; simp [trE, hk]
 refine ⟨hE, ?_, ?_⟩
 ·
  unfold trL
  rw [hE, hx]
  simp [trT, hk]
 ·
  have hl : l = [] := List.eq_nil_of_length_eq_zero (by rw [← h2]; simp [many, binds, hk, shp])
  rw [h4, hl]
  simp [T.flats_nil]
mutual
theorem tr_len {V : VR} {b : Nat} (hb : 1 ≤ b) (hV : ∀ n u, (V n u).1 = 0 → (V n u).2.flat.length ≤ b) : ∀ (x : T) (u : Int), trE V u x = 0 → (trT V u x).flat.length ≤ x.flat.length * b
 | .mk n l, u, h => by
  by_cases hk : n.K = 0
  ·
   simp only [trE, trT, hk, if_true] at h ⊢
   have := hV n u h
   have h2 := Nat.mul_le_mul_right b (T.flat_pos (.mk n l))
   omega
  ·
   simp only [trE, trT, hk, if_false, T.flat_mk, List.length_append, List.length_singleton, Nat.add_mul] at h ⊢
   have := tr_lens hb hV l _ h
   omega
theorem tr_lens {V : VR} {b : Nat} (hb : 1 ≤ b) (hV : ∀ n u, (V n u).1 = 0 → (V n u).2.flat.length ≤ b) : ∀ (l : List T) (us : List Int), trEs V l us = 0 → (T.flats (trTs V l us)).length ≤ (T.flats l).length * b
 | [], us, _ => by simp [trTs, T.flats_nil]
 | y :: l, [], _ => by simp [trTs, T.flats_nil]
 | y :: l, u :: us, h => by
  simp only [trEs] at h
  by_cases h1 : trE V u y = 0
  ·
   rw [if_pos h1] at h
   simp only [trTs, T.flats_cons, List.length_append, Nat.add_mul]
   have := tr_len hb hV y u h1
   have := tr_lens hb hV l us h
   omega
  ·
   rw [if_neg h1] at h
   exact absurd h h1
end
theorem ubinds {u : Int} {n : Nd} (hu : 0 ≤ u) : ∀ v ∈ (binds n).map (u + ·), 0 ≤ v := by
 intro v hv
 obtain ⟨b, hb, rfl⟩ := List.mem_map.1 hv
 have := binds_b n b hb
 omega
abbrev vN (m : Int) : Nd := ⟨0, m, 0, ⟨#[]⟩⟩
theorem var_node {n : Nd} (h : right n = true) (hk : n.K = 0) : n = vN n.N ∧ 0 ≤ n.N ∧ n.N ≤ 99 := by
 rw [right_var hk, decide_eq_true_eq] at h
 obtain ⟨K, N, M, S⟩ := n
 obtain ⟨h1, h2, h3, h4⟩ := h
 simp only at hk h1 h2 h3 h4
 subst hk h3 h4
 exact ⟨rfl, h1, h2⟩
theorem vN_right {m : Int} (h1 : 0 ≤ m) (h2 : m ≤ 99) : right (vN m) = true := by
 rw [right_var rfl]
 simp [h1, h2]
def shV (by_ fr : Int) : VR := fun n u => if fr ≤ n.N - u then (if n.N + by_ - u < fr then (30, .mk n []) else if 99 < n.N + by_ then (2, .mk n []) else (0, .mk (vN (n.N + by_)) [])) else (0, .mk n [])
theorem shV_len (by_ fr : Int) (n : Nd) (u : Int) : (shV by_ fr n u).2.flat.length ≤ 1 := by
 unfold shV
 (repeat' split) <;> simp [T.flat_mk, T.flats_nil]
def clamp (n : Int) : Int := max (-1000) (min n 1000)
def sfE (t : List Nd) (by_ fr : Int) : Int := if chk t = 0 then trEL (shV (clamp by_) (max 0 (clamp fr))) t 0 else chk t
def sfA (t : List Nd) (by_ fr : Int) : List Nd := if chk t = 0 then trL (shV (clamp by_) (max 0 (clamp fr))) t 0 else []
theorem sfE_ok {t : List Nd} {b f : Int} (h : chk t = 0) : sfE t b f = trEL (shV (clamp b) (max 0 (clamp f))) t 0 ∧ sfA t b f = trL (shV (clamp b) (max 0 (clamp f))) t 0 := ⟨if_pos h, if_pos h⟩
theorem sfE_no {t : List Nd} {b f : Int} (h : ¬ chk t = 0) : sfE t b f = chk t ∧ sfA t b f = [] := ⟨if_neg h, if_neg h⟩
theorem trL_len {V : VR} {b : Nat} (hb : 1 ≤ b) (hV : ∀ n u, (V n u).1 = 0 → (V n u).2.flat.length ≤ b) {t : List Nd} (h : measB t = true) (u : Int) : (trL V t u).length ≤ t.length * b := by
 unfold trL
 split
 ·
  rename_i he
  have := tr_len hb hV (treeOf t) u he
  rw [(treeOf_meas h).2] at this
  exact this
 · simp
def nthLs (l : List (List Nd)) (i : Int) : List Nd := nthL l i.toNat
def puV (k : Int) (l : List (List Nd)) : VR := fun n u =>
 if n.N - u < k then (0, .mk n []) else if n.N - u < k + l.length then (sfE (nthLs l (n.N - u - k)) (u + k) 0, treeOf (sfA (nthLs l (n.N - u - k)) (u + k) 0)) else (0, .mk (vN (n.N - l.length)) [])
theorem trTs_len (V : VR) : ∀ (l : List T) (us : List Int), l.length ≤ us.length → (trTs V l us).length = l.length
 | [], us, _ => by simp [trTs]
 | y :: l, [], h => by simp at h
 | y :: l, u :: us, h => by simp [trTs, trTs_len V l us (by simpa using h)]
theorem trTP_len {V : VR} {t : List Nd} {u : Int} {j : Nat} (h : measB t = true) (hj : j ≤ (ptL t).length) : (trTP V t u j).length = j := by
 have h1 := root_many h
 have h2 := ptL_length h
 have h3 : (binds (nth t (t.length - 1))).length = (treeOf t).args.length := h1
 unfold trTP
 rw [List.length_map, trTs_len V _ _ (by rw [List.length_take, List.length_map]; omega), List.length_take]
 omega
theorem pt_nonvar {t : List Nd} {j : Nat} (h : measB t = true) (hj : j < (ptL t).length) : ¬ (nth t (t.length - 1)).K = 0 := fun hk => by
 have h1 := ptL_length h
 have h2 : many (nth t (t.length - 1)) = 0 := by simp [many, binds, hk, shp]
 omega
theorem tr_bad {V : VR} {t : List Nd} {u : Int} {j : Nat} (h : measB t = true) (hj : j < (ptL t).length) (h0 : trEP V t u j = 0) (he : ¬ trEL V (nthL (ptL t) j) (u + nthI (binds (nth t (t.length - 1))) j) = 0) :
  trEL V t u = trEL V (nthL (ptL t) j) (u + nthI (binds (nth t (t.length - 1))) j) ∧ trL V t u = [] := tr_err h (pt_nonvar h hj) hj h0 he
theorem tr_end {V : VR} {t : List Nd} {u : Int} (h : measB t = true) (hv : (nth t (t.length - 1)).K = 0 → V (nth t (t.length - 1)) u = (0, .mk (nth t (t.length - 1)) [])) (h0 : trEP V t u (ptL t).length = 0) :
  trEL V t u = 0 ∧ trL V t u = (trTP V t u (ptL t).length).flatten ++ [nth t (t.length - 1)] := by
 by_cases hk : (nth t (t.length - 1)).K = 0
 ·
  obtain ⟨h1, h2, h3⟩ := tr_var (V := V) (u := u) h hk
  rw [hv hk] at h1 h2
  have h4 : (ptL t).length = 0 := by rw [ptL_length h]; simp [many, binds, hk, shp]
  rw [h4]
  refine ⟨h1, ?_⟩
  rw [h2, (tr_zero V t u).2]
  simp [T.flat_mk, T.flats_nil]
 · exact tr_done h hk h0
theorem tr_nm {V : VR} {b : Nat} (hb : 1 ≤ b) (hV : ∀ n u, (V n u).1 = 0 → (V n u).2.flat.length ≤ b) {t : List Nd} {u : Int} (h : measB t = true) (hv : (nth t (t.length - 1)).K = 0 → V (nth t (t.length - 1)) u = (0, .mk (nth t (t.length - 1)) [])) (h0 : trEP V t u (ptL t).length = 0) :
  (trTP V t u (ptL t).length).flatten.length ≤ t.length * b := by
 have h1 := trL_len hb hV h u
 rw [(tr_end h hv h0).2, List.length_append] at h1
 omega
section
variable {t : List Nd} {u : Int} (h : measB t = true) (hk : (nth t (t.length - 1)).K = 0)
include h hk
theorem sh_low {b fr : Int} (h1 : fr ≤ (nth t (t.length - 1)).N - u) (h2 : (nth t (t.length - 1)).N + b - u < fr) : trEL (shV b fr) t u = 30 ∧ trL (shV b fr) t u = [] := by
 obtain ⟨e1, e2, _⟩ := tr_var (V := shV b fr) (u := u) h hk
 rw [e1, e2]
 simp [shV, h1, h2]
theorem sh_high {b fr : Int} (h1 : fr ≤ (nth t (t.length - 1)).N - u) (h2 : ¬ (nth t (t.length - 1)).N + b - u < fr) (h3 : 99 < (nth t (t.length - 1)).N + b) : trEL (shV b fr) t u = 2 ∧ trL (shV b fr) t u = [] := by
 obtain ⟨e1, e2, _⟩ := tr_var (V := shV b fr) (u := u) h hk
 rw [e1, e2]
 simp [shV, h1, h2, h3]
theorem sh_good {b fr : Int} (h1 : fr ≤ (nth t (t.length - 1)).N - u) (h2 : ¬ (nth t (t.length - 1)).N + b - u < fr) (h3 : ¬ 99 < (nth t (t.length - 1)).N + b) : trEL (shV b fr) t u = 0 ∧ trL (shV b fr) t u = [vN ((nth t (t.length - 1)).N + b)] := by
 obtain ⟨e1, e2, _⟩ := tr_var (V := shV b fr) (u := u) h hk
 rw [e1, e2]
 simp [shV, h1, h2, h3, T.flat_mk, T.flats_nil]
end
end Go.Proofs.YthdemmcfnpmmiaaDoor
/- Terms compared: what the comparer computes, on trees; its laws. -/
namespace Go.Proofs.YthdemmcfnpmmiaaDoor
set_option linter.unusedSimpArgs false
set_option linter.unusedVariables false
def tz : T := .mk ndz []
def kid (t : T) (i : Nat) : T := t.args.getD i tz
def idleK (k : Int) (i : Nat) : Bool := decide (k = 20 ∧ i = 2) || decide (k = 24 ∧ i = 2) || decide (k = 15 ∧ i = 1) || decide (k = 22 ∧ (i = 2 ∨ i = 3 ∨ i = 4))
mutual
def muT : T → Nat
 | .mk n l => (if n.K = 4 ∨ n.K = 7 then 4 else 1) + muTs l
def muTs : List T → Nat
 | [] => 0
 | t :: l => muT t + muTs l
end
def icN (u : Int) (n : Nd) : Nd := if n.K = 0 ∧ u ≤ n.N then ⟨n.K, n.N + 1, n.M, n.S⟩ else n
mutual
def icT (u : Int) : T → T
 | .mk n l => .mk (icN u n) (icTs l ((binds n).map (u + ·)))
def icTs : List T → List Int → List T
 | [], _ => []
 | t :: l, us => icT (us.headD 0) t :: icTs l us.tail
end
mutual
def icE (u : Int) : T → Bool
 | .mk n l => decide (n.K = 0 ∧ u ≤ n.N ∧ 99 ≤ n.N) || icEs l ((binds n).map (u + ·))
def icEs : List T → List Int → Bool
 | [], _ => false
 | t :: l, us => icE (us.headD 0) t || icEs l us.tail
end
def cN (k : Int) : Nd := ⟨k, 0, 0, ⟨#[]⟩⟩
def apT (t : T) : T := .mk (cN 5) [icT 0 t, .mk (cN 0) []]
def bodT (t : T) : T := if t.root.K = 4 then kid t 1 else apT t
def bodE (t : T) : Bool := decide (¬ t.root.K = 4) && icE 0 t
def fsT (t : T) : T := if t.root.K = 7 then kid t 1 else .mk (cN 8) [t]
def snT (t : T) : T := if t.root.K = 7 then kid t 2 else .mk (cN 9) [t]
def kidsF (a b : T) (i : Nat) : List (T × T) := ((List.range' i (a.args.length - i)).filter fun j => !idleK a.root.K j).map fun j => (kid a j, kid b j)
def seqF (f : T → T → Int × Bool) : List (T × T) → Int × Bool
 | [] => (0, true)
 | p :: l => if (f p.1 p.2).2 = true then seqF f l else ((f p.1 p.2).1, false)
def stepE (a b : T) : Bool := decide (a.root.K = 4 ∨ b.root.K = 4) && (bodE a || bodE b)
def stepL (a b : T) : Option (List (T × T)) :=
 if a.root.K = 4 ∨ b.root.K = 4 then some [(bodT a, bodT b)]
 else if a.root.K = 7 ∨ b.root.K = 7 then some [(fsT a, fsT b), (snT a, snT b)]
 else if a.root = b.root then some (kidsF a b 0) else none
def cvB (f : T → T → Int × Bool) (a b : T) : Int × Bool :=
 if stepE a b = true then (2, false) else match stepL a b with
 | none => (0, false)
 | some l => seqF f l
def cvX (f : T → T → Int × Bool) (x y : Int × T) : Int × Bool :=
 if ¬ x.1 = 0 then (x.1, false) else if x.2.root.K = 29 then (0, true) else if ¬ y.1 = 0 then (y.1, false) else if y.2.root.K = 29 then (0, true) else cvB f x.2 y.2
mutual
def cvN : Nat → T → T → Int × Bool
 | 0, _, _ => (2, false)
 | n + 1, a, b => if a.root.K = 29 ∨ b.root.K = 29 then (0, true) else cvX (cvN n) (brN n a) (brN n b)
def brN : Nat → T → Int × T
 | 0, t => (2, t)
 | n + 1, t => if t.root.K = 20 then (if (cvN n (kid t 0) (kid t 1)).2 = true then brN n (kid t 3) else ((cvN n (kid t 0) (kid t 1)).1, t)) else (0, t)
end
def cv (a b : T) : Int × Bool := cvN (2 * (muT a + muT b) + 1) a b
def br (t : T) : Int × T := brN (2 * muT t) t
theorem mu_pos (t : T) : 0 < muT t := by
 obtain ⟨n, l⟩ := t
 simp only [muT]
 split <;> omega
theorem mus_get : ∀ (l : List T) (i : Nat), i < l.length → muT (l.getD i tz) ≤ muTs l
 | [], _, h => by simp at h
 | t :: l, 0, _ => by simp [muTs]
 | t :: l, i + 1, h => by
  have := mus_get l i (by simpa using h)
  simp only [List.getD_cons_succ, muTs]
  omega
theorem mus_get2 : ∀ (l : List T) (i j : Nat), i < j → j < l.length → muT (l.getD i tz) + muT (l.getD j tz) ≤ muTs l
 | [], _, _, _, h => by simp at h
 | t :: l, 0, j + 1, _, h => by
  have := mus_get l j (by simpa using h)
  simp only [List.getD_cons_zero, List.getD_cons_succ, muTs]
  omega
 | t :: l, i + 1, j + 1, h1, h => by
  have := mus_get2 l i j (by omega) (by simpa using h)
  simp only [List.getD_cons_succ, muTs]
  omega
theorem mu_root (t : T) : muT t = (if t.root.K = 4 ∨ t.root.K = 7 then 4 else 1) + muTs t.args := by
 obtain ⟨n, l⟩ := t
 rfl
theorem kid_mu {t : T} {i : Nat} (h : i < t.args.length) : muT (kid t i) + 1 ≤ muT t := by
 have h1 := mus_get t.args i h
 rw [mu_root t]
 unfold kid
 split <;> omega
theorem kid_mu2 {t : T} {i j : Nat} (hij : i < j) (h : j < t.args.length) : muT (kid t i) + muT (kid t j) + 1 ≤ muT t := by
 have h1 := mus_get2 t.args i j hij h
 rw [mu_root t]
 unfold kid
 split <;> omega
theorem kid_mu4 {t : T} {i : Nat} (hk : t.root.K = 4 ∨ t.root.K = 7) (hi : 0 < i) (h : i < t.args.length) : muT (kid t i) + 5 ≤ muT t := by
 have h1 := mus_get2 t.args 0 i hi h
 have h2 := mu_pos (t.args.getD 0 tz)
 rw [mu_root t, if_pos hk]
 unfold kid
 omega
theorem icN_K (u : Int) (n : Nd) : (icN u n).K = n.K := by unfold icN; split <;> rfl
mutual
theorem ic_mu : ∀ (t : T) (u : Int), muT (icT u t) = muT t
 | .mk n l, u => by simp only [icT, muT, icN_K, ic_mus l]
theorem ic_mus : ∀ (l : List T) (us : List Int), muTs (icTs l us) = muTs l
 | [], _ => by simp only [icTs]
 | t :: l, us => by simp only [icTs, muTs, ic_mu t, ic_mus l]
end
theorem ap_mu (t : T) : muT (apT t) = muT t + 2 := by
 simp only [apT, muT, muTs, ic_mu]
 rw [if_neg (by decide), if_neg (by decide)]
 omega
theorem bod_mu {t : T} (hn : t.root.K = 4 → 1 < t.args.length) : muT (bodT t) + (if t.root.K = 4 then 5 else 0) ≤ muT t + 2 := by
 unfold bodT
 by_cases h : t.root.K = 4
 ·
  rw [if_pos h, if_pos h]
  have := kid_mu4 (.inl h) (by decide) (hn h)
  omega
 ·
  rw [if_neg h, if_neg h, ap_mu]
  omega
theorem fs_mu {t : T} (hn : t.root.K = 7 → 2 < t.args.length) : muT (fsT t) + (if t.root.K = 7 then 5 else 0) ≤ muT t + 1 ∧ muT (snT t) + (if t.root.K = 7 then 5 else 0) ≤ muT t + 1 := by
 unfold fsT snT
 by_cases h : t.root.K = 7
 ·
  rw [if_pos h, if_pos h, if_pos h]
  have h1 := kid_mu4 (.inr h) (i := 1) (by decide) (by have := hn h; omega)
  have h2 := kid_mu4 (.inr h) (i := 2) (by decide) (hn h)
  omega
 ·
  rw [if_neg h, if_neg h, if_neg h]
  simp only [muT, muTs]
  rw [if_neg (by decide), if_neg (by decide)]
  omega
theorem wf_root {t : T} (h : t.wf = true) : right t.root = true ∧ many t.root = t.args.length ∧ T.wfs t.args = true := by
 obtain ⟨n, l⟩ := t
 exact wf_parts h
theorem wfs_get : ∀ {l : List T} {i : Nat}, T.wfs l = true → i < l.length → (l.getD i tz).wf = true
 | [], _, _, h => by simp at h
 | t :: l, 0, hw, _ => (wf_cons hw).1
 | t :: l, i + 1, hw, h => wfs_get (l := l) (i := i) (wf_cons hw).2 (by simpa using h)
theorem kid_wf {t : T} {i : Nat} (hw : t.wf = true) (h : i < t.args.length) : (kid t i).wf = true := wfs_get (wf_root hw).2.2 h
theorem args4 {t : T} (hw : t.wf = true) (h : t.root.K = 4) : t.args.length = 2 := by rw [← (wf_root hw).2.1]; simp [many, binds, h, shp]
theorem args7 {t : T} (hw : t.wf = true) (h : t.root.K = 7) : t.args.length = 3 := by rw [← (wf_root hw).2.1]; simp [many, binds, h, shp]
theorem args20 {t : T} (hw : t.wf = true) (h : t.root.K = 20) : t.args.length = 4 := by rw [← (wf_root hw).2.1]; simp [many, binds, h, shp]
theorem icN_right {u : Int} {n : Nd} (hr : right n = true) (hu : 0 ≤ u) (h : ¬ (n.K = 0 ∧ u ≤ n.N ∧ 99 ≤ n.N)) : right (icN u n) = true ∧ many (icN u n) = many n := by
 unfold icN
 split
 ·
  rename_i hc
  obtain ⟨e, a, b⟩ := var_node hr hc.1
  have hn : (⟨n.K, n.N + 1, n.M, n.S⟩ : Nd) = vN (n.N + 1) := by
   have h1 : n.K = 0 := hc.1
   have h2 : n.M = 0 := by rw [e, vN]
   have h3 : n.S = ⟨#[]⟩ := by rw [e, vN]
   rw [h1, h2, h3, vN]
  rw [hn]
  exact ⟨vN_right (by omega) (by omega), by rw [e]; simp [many, binds, vN, shp]⟩
 · exact ⟨hr, rfl⟩
mutual
theorem ic_wf : ∀ (t : T) (u : Int), t.wf = true → 0 ≤ u → icE u t = false → (icT u t).wf = true
 | .mk n l, u, hw, hu, he => by
  obtain ⟨h1, h2, h3⟩ := wf_parts hw
  simp only [icE, Bool.or_eq_false_iff, decide_eq_false_iff_not] at he
  obtain ⟨a, b⟩ := icN_right h1 hu he.1
  obtain ⟨c, d⟩ := ic_wfs l ((binds n).map (u + ·)) h3 (ubinds hu) (by simp [← h2, many]) he.2
  simp only [icT, T.wf, a, b, c, d, h2, Bool.and_eq_true, beq_iff_eq, and_self]
theorem ic_wfs : ∀ (l : List T) (us : List Int), T.wfs l = true → (∀ v ∈ us, 0 ≤ v) → l.length = us.length → icEs l us = false → T.wfs (icTs l us) = true ∧ (icTs l us).length = l.length
 | [], _, _, _, _, _ => by simp [icTs, T.wfs]
 | t :: l, [], _, _, h, _ => by simp at h
 | t :: l, u :: us, hw, hu, hl, he => by
  obtain ⟨h1, h2⟩ := wf_cons hw
  simp only [icEs, List.headD_cons, List.tail_cons, Bool.or_eq_false_iff] at he
  have a := ic_wf t u h1 (hu u (by simp)) he.1
  obtain ⟨b, c⟩ := ic_wfs l us h2 (fun v hv => hu v (by simp [hv])) (by simpa using hl) he.2
  simp only [icTs, List.headD_cons, List.tail_cons, T.wfs, a, b, List.length_cons, c, Bool.and_self, and_self]
end
theorem cN_right {k : Nat} (h : k < 30 ∧ k ≠ 1 ∧ k ≠ 25 ∧ k ≠ 26 ∧ k ≠ 27) : right (cN k) = true ∧ many (cN k) = (shp k).b.length := by
 have : ∀ k : Fin 30, k.val ≠ 1 → k.val ≠ 25 → k.val ≠ 26 → k.val ≠ 27 → right (cN (k.val : Int)) = true ∧ many (cN (k.val : Int)) = (shp k.val).b.length := by decide
 exact this ⟨k, h.1⟩ h.2.1 h.2.2.1 h.2.2.2.1 h.2.2.2.2
theorem ap_wf {t : T} (hw : t.wf = true) (he : icE 0 t = false) : (apT t).wf = true := by
 have h1 := ic_wf t 0 hw (Int.le_refl 0) he
 have h2 := (cN_right (k := 5) (by decide))
 have h3 := (cN_right (k := 0) (by decide))
 have h4 : right (cN 5) = true := h2.1
 have h5 : right (cN 0) = true := h3.1
 have h6 : many (cN 5) = 2 := h2.2
 have h7 : many (cN 0) = 0 := h3.2
 simp only [apT, T.wf, T.wfs, h1, h4, h5, h6, h7, List.length_cons, List.length_nil, BEq.rfl, Bool.and_self]
theorem bod_wf {t : T} (hw : t.wf = true) (he : bodE t = false) : (bodT t).wf = true := by
 unfold bodT
 by_cases h : t.root.K = 4
 · rw [if_pos h]; exact kid_wf hw (by rw [args4 hw h]; decide)
 ·
  rw [if_neg h]
  unfold bodE at he
  rw [decide_eq_true h, Bool.true_and] at he
  exact ap_wf hw he
theorem one_wf {k : Nat} {t : T} (hk : k = 8 ∨ k = 9) (hw : t.wf = true) : (T.mk (cN k) [t]).wf = true := by
 have h2 := cN_right (k := k) (by rcases hk with rfl | rfl <;> decide)
 simp only [T.wf, T.wfs, hw, Bool.and_true, Bool.and_eq_true, beq_iff_eq]
 refine ⟨h2.1, h2.2.trans ?_⟩
 rcases hk with rfl | rfl <;> rfl
theorem fs_wf {t : T} (hw : t.wf = true) : (fsT t).wf = true ∧ (snT t).wf = true := by
 unfold fsT snT
 by_cases h : t.root.K = 7
 ·
  rw [if_pos h, if_pos h]
  exact ⟨kid_wf hw (by rw [args7 hw h]; decide), kid_wf hw (by rw [args7 hw h]; decide)⟩
 ·
  rw [if_neg h, if_neg h]
  exact ⟨one_wf (.inl rfl) hw, one_wf (.inr rfl) hw⟩
theorem step_ok {a b : T} {l : List (T × T)} (ha : a.wf = true) (hb : b.wf = true) (he : stepE a b = false) (hl : stepL a b = some l) : ∀ p ∈ l, p.1.wf = true ∧ p.2.wf = true ∧ muT p.1 + muT p.2 + 1 ≤ muT a + muT b := by
 unfold stepL at hl
 split at hl
 ·
  rename_i h4
  obtain rfl := Option.some.inj hl
  unfold stepE at he
  rw [decide_eq_true h4, Bool.true_and, Bool.or_eq_false_iff] at he
  intro p hp
  rw [List.mem_singleton] at hp
  subst hp
  refine ⟨bod_wf ha he.1, bod_wf hb he.2, ?_⟩
  have h1 := bod_mu (t := a) (fun h => by rw [args4 ha h]; decide)
  have h2 := bod_mu (t := b) (fun h => by rw [args4 hb h]; decide)
  show muT (bodT a) + muT (bodT b) + 1 ≤ _
  rcases h4 with h4 | h4
  ·
   rw [if_pos h4] at h1
   split at h2 <;> omega
  ·
   rw [if_pos h4] at h2
   split at h1 <;> omega
 ·
  split at hl
  ·
   rename_i h7
   obtain rfl := Option.some.inj hl
   obtain ⟨a1, a2⟩ := fs_mu (t := a) (fun h => by rw [args7 ha h]; decide)
   obtain ⟨b1, b2⟩ := fs_mu (t := b) (fun h => by rw [args7 hb h]; decide)
   have hf := fs_wf ha
   have hg := fs_wf hb
   intro p hp
   simp only [List.mem_cons, List.not_mem_nil, or_false] at hp
   rcases hp with rfl | rfl
   ·
    refine ⟨hf.1, hg.1, ?_⟩
    show muT (fsT a) + muT (fsT b) + 1 ≤ _
    rcases h7 with h7 | h7
    ·
     rw [if_pos h7] at a1
     split at b1 <;> omega
    ·
     rw [if_pos h7] at b1
     split at a1 <;> omega
   ·
    refine ⟨hf.2, hg.2, ?_⟩
    show muT (snT a) + muT (snT b) + 1 ≤ _
    rcases h7 with h7 | h7
    ·
     rw [if_pos h7] at a2
     split at b2 <;> omega
    ·
     rw [if_pos h7] at b2
     split at a2 <;> omega
  ·
   split at hl
   ·
    rename_i hr
    obtain rfl := Option.some.inj hl
    intro p hp
    obtain ⟨j, hj, rfl⟩ := List.mem_map.1 hp
    have hj1 := (List.mem_filter.1 hj).1
    rw [List.mem_range'] at hj1
    obtain ⟨q, hq, rfl⟩ := hj1
    have hla : 0 + 1 * q < a.args.length := by omega
    have hlb : 0 + 1 * q < b.args.length := by rw [← (wf_root hb).2.1, ← hr, (wf_root ha).2.1]; exact hla
    have h1 := kid_mu hla
    have h2 := kid_mu hlb
    exact ⟨kid_wf ha hla, kid_wf hb hlb, by show muT (kid a _) + muT (kid b _) + 1 ≤ _; omega⟩
   · cases hl
theorem seqF_congr {f g : T → T → Int × Bool} : ∀ {l : List (T × T)}, (∀ p ∈ l, f p.1 p.2 = g p.1 p.2) → seqF f l = seqF g l
 | [], _ => rfl
 | p :: l, h => by
  simp only [seqF]
  rw [h p (by simp), seqF_congr (fun q hq => h q (by simp [hq]))]
theorem seqF_app {f : T → T → Int × Bool} : ∀ (l m : List (T × T)), seqF f (l ++ m) = if (seqF f l).2 = true then seqF f m else ((seqF f l).1, false)
 | [], m => by simp [seqF]
 | p :: l, m => by
  simp only [List.cons_append, seqF]
  split
  · exact seqF_app l m
  · simp
mutual
theorem cv_more : ∀ (n : Nat) (a b : T), a.wf = true → b.wf = true → 2 * (muT a + muT b) + 1 ≤ n → cvN (n + 1) a b = cvN n a b
 | 0, a, b, _, _, h => by omega
 | n + 1, a, b, ha, hb, h => by
  have h1 := br_more n a ha (by have := mu_pos b; omega)
  have h2 := br_more n b hb (by have := mu_pos a; omega)
  have e : cvN (n + 1 + 1) a b = if a.root.K = 29 ∨ b.root.K = 29 then (0, true) else cvX (cvN (n + 1)) (brN (n + 1) a) (brN (n + 1) b) := by simp only [cvN]
  have e2 : cvN (n + 1) a b = if a.root.K = 29 ∨ b.root.K = 29 then (0, true) else cvX (cvN n) (brN n a) (brN n b) := by simp only [cvN]
  rw [e, e2, h1.1, h2.1]
  split
  · rfl
  ·
   unfold cvX
   split
   · rfl
   ·
    split
    · rfl
    ·
     split
     · rfl
     ·
      split
      · rfl
      ·
       unfold cvB
       split
       · rfl
       ·
        rename_i hE
        cases hl : stepL (brN n a).2 (brN n b).2 with
        | none => rfl
        | some l =>
         refine seqF_congr fun p hp => ?_
         obtain ⟨p1, p2, p3⟩ := step_ok h1.2.1 h2.2.1 (by simpa using hE) hl p hp
         exact cv_more n p.1 p.2 p1 p2 (by have := h1.2.2; have := h2.2.2; omega)
theorem br_more : ∀ (n : Nat) (t : T), t.wf = true → 2 * muT t ≤ n → brN (n + 1) t = brN n t ∧ (brN n t).2.wf = true ∧ muT (brN n t).2 ≤ muT t
 | 0, t, _, h => by have := mu_pos t; omega
 | n + 1, t, ht, h => by
  have e : brN (n + 1 + 1) t = if t.root.K = 20 then (if (cvN (n + 1) (kid t 0) (kid t 1)).2 = true then brN (n + 1) (kid t 3) else ((cvN (n + 1) (kid t 0) (kid t 1)).1, t)) else (0, t) := by simp only [brN]
  have e2 : brN (n + 1) t = if t.root.K = 20 then (if (cvN n (kid t 0) (kid t 1)).2 = true then brN n (kid t 3) else ((cvN n (kid t 0) (kid t 1)).1, t)) else (0, t) := by simp only [brN]
  rw [e, e2]
  split
  ·
   rename_i hk
   have h4 := args20 ht hk
   have m1 := kid_mu2 (t := t) (i := 0) (j := 1) (by decide) (by omega)
   have m3 := kid_mu (t := t) (i := 3) (by omega)
   have c1 := cv_more n (kid t 0) (kid t 1) (kid_wf ht (by omega)) (kid_wf ht (by omega)) (by omega)
   have c2 := br_more n (kid t 3) (kid_wf ht (by omega)) (by omega)
   rw [c1, c2.1]
   split
   · exact ⟨rfl, c2.2.1, by omega⟩
   · exact ⟨rfl, ht, Nat.le_refl _⟩
  · exact ⟨rfl, ht, Nat.le_refl _⟩
end
theorem cv_fuel {a b : T} (ha : a.wf = true) (hb : b.wf = true) : ∀ {n : Nat}, 2 * (muT a + muT b) + 1 ≤ n → cvN n a b = cv a b := fun {n} h => by
 obtain ⟨d, rfl⟩ := Nat.exists_eq_add_of_le h
 induction d with
 | zero => rfl
 | succ d ih => rw [← Nat.add_assoc, cv_more _ a b ha hb (by omega)]; exact ih (by omega)
theorem br_fuel {t : T} (ht : t.wf = true) : ∀ {n : Nat}, 2 * muT t ≤ n → brN n t = br t := fun {n} h => by
 obtain ⟨d, rfl⟩ := Nat.exists_eq_add_of_le h
 induction d with
 | zero => rfl
 | succ d ih => rw [← Nat.add_assoc, (br_more _ t ht (by omega)).1]; exact ih (by omega)
theorem br_wf {t : T} (ht : t.wf = true) : (br t).2.wf = true ∧ muT (br t).2 ≤ muT t := (br_more _ t ht (Nat.le_refl _)).2
theorem br_no {t : T} (h : ¬ t.root.K = 20) : br t = (0, t) := by
 unfold br
 obtain ⟨d, hd⟩ : ∃ d, 2 * muT t = d + 1 := ⟨2 * muT t - 1, by have := mu_pos t; omega⟩
 rw [hd]
 simp only [brN, if_neg h]
theorem br_eq {t : T} (ht : t.wf = true) (h : t.root.K = 20) : br t = if (cv (kid t 0) (kid t 1)).2 = true then br (kid t 3) else ((cv (kid t 0) (kid t 1)).1, t) := by
 have h4 := args20 ht h
 have m1 := kid_mu2 (t := t) (i := 0) (j := 1) (by decide) (by omega)
 have m3 := kid_mu (t := t) (i := 3) (by omega)
 obtain ⟨d, hd⟩ : ∃ d, 2 * muT t = d + 1 := ⟨2 * muT t - 1, by have := mu_pos t; omega⟩
 have e : br t = brN (d + 1) t := by unfold br; rw [hd]
 rw [e]
 simp only [brN, if_pos h]
 rw [cv_fuel (kid_wf ht (by omega)) (kid_wf ht (by omega)) (by omega), br_fuel (kid_wf ht (by omega)) (by omega)]
theorem cv_tick {a b : T} (h : a.root.K = 29 ∨ b.root.K = 29) : cv a b = (0, true) := by
 unfold cv
 simp only [cvN, if_pos h]
theorem cv_eq {a b : T} (ha : a.wf = true) (hb : b.wf = true) (h : ¬ (a.root.K = 29 ∨ b.root.K = 29)) : cv a b = cvX cv (br a) (br b) := by
 have e : cv a b = cvX (cvN (2 * (muT a + muT b))) (brN (2 * (muT a + muT b)) a) (brN (2 * (muT a + muT b)) b) := by
  unfold cv
  simp only [cvN, if_neg h]
 rw [e, br_fuel ha (by omega), br_fuel hb (by omega)]
 obtain ⟨a1, a2⟩ := br_wf ha
 obtain ⟨b1, b2⟩ := br_wf hb
 unfold cvX
 split
 · rfl
 ·
  split
  · rfl
  ·
   split
   · rfl
   ·
    split
    · rfl
    ·
     unfold cvB
     split
     · rfl
     ·
      rename_i hE
      cases hl : stepL (br a).2 (br b).2 with
      | none => rfl
      | some l =>
       refine seqF_congr fun p hp => ?_
       obtain ⟨p1, p2, p3⟩ := step_ok a1 b1 (by simpa using hE) hl p hp
       exact cv_fuel p1 p2 (by omega)
end Go.Proofs.YthdemmcfnpmmiaaDoor
/- Terms compared: each is one with itself; two in either order; no number grows too great; numbers; what applies a function to its variable. -/
namespace Go.Proofs.YthdemmcfnpmmiaaDoor
set_option linter.unusedSimpArgs false
set_option linter.unusedVariables false
theorem seq_two {f : T → T → Int × Bool} (h : ∀ a b, (f a b).2 = true → (f a b).1 = 0) : ∀ l, (seqF f l).2 = true → (seqF f l).1 = 0
 | [], _ => rfl
 | p :: l, q => by
  simp only [seqF] at q ⊢
  split at q
  · rename_i h1; rw [if_pos h1]; exact seq_two h l q
  · cases q
def Rfl (r : Int × Bool) : Prop := r = (0, true) ∨ ¬ r.1 = 0 ∧ r.2 = false
theorem seq_refl {f : T → T → Int × Bool} : ∀ {l : List (T × T)}, (∀ p ∈ l, p.1 = p.2 ∧ Rfl (f p.1 p.1)) → Rfl (seqF f l)
 | [], _ => .inl rfl
 | p :: l, h => by
  obtain ⟨h1, h2⟩ := h p (by simp)
  simp only [seqF, ← h1]
  rcases h2 with h2 | h2
  · rw [h2]; exact seq_refl (fun q hq => h q (by simp [hq]))
  · rw [h2.2]; exact .inr ⟨h2.1, rfl⟩
theorem step_self {t : T} {l : List (T × T)} (h : stepL t t = some l) : ∀ p ∈ l, p.1 = p.2 := by
 unfold stepL at h
 split at h
 · obtain rfl := Option.some.inj h; intro p hp; rw [List.mem_singleton] at hp; subst hp; rfl
 ·
  split at h
  ·
   obtain rfl := Option.some.inj h; intro p hp
   simp only [List.mem_cons, List.not_mem_nil, or_false] at hp
   rcases hp with rfl | rfl <;> rfl
  ·
   rw [if_pos rfl] at h
   obtain rfl := Option.some.inj h; intro p hp
   obtain ⟨j, _, rfl⟩ := List.mem_map.1 hp
   rfl
theorem step_some (t : T) : ∃ l, stepL t t = some l := by
 unfold stepL
 split
 · exact ⟨_, rfl⟩
 ·
  split
  · exact ⟨_, rfl⟩
  · rw [if_pos rfl]; exact ⟨_, rfl⟩
theorem cvN_refl : ∀ (n : Nat) (t : T), Rfl (cvN n t t)
 | 0, t => .inr ⟨by simp only [cvN]; decide, by simp only [cvN]⟩
 | n + 1, t => by
  simp only [cvN]
  split
  · exact .inl rfl
  ·
   unfold cvX
   split
   · rename_i h; exact .inr ⟨h, rfl⟩
   ·
    rename_i h
    split
    · exact .inl rfl
    ·
     unfold cvB
     split
     · exact .inr ⟨(by decide : ¬ (2 : Int) = 0), rfl⟩
     ·
      obtain ⟨l, hl⟩ := step_some (brN n t).2
      rw [hl]
      exact seq_refl fun p hp => ⟨step_self hl p hp, cvN_refl n p.1⟩
theorem cv_refl (t : T) : Rfl (cv t t) := cvN_refl _ t
theorem cvN_two : ∀ (n : Nat) (a b : T), (cvN n a b).2 = true → (cvN n a b).1 = 0
 | 0, a, b, h => by simp only [cvN] at h; cases h
 | n + 1, a, b, h => by
  simp only [cvN] at h ⊢
  by_cases h0 : a.root.K = 29 ∨ b.root.K = 29
  · rw [if_pos h0]
  ·
   rw [if_neg h0] at h ⊢
   unfold cvX at h ⊢
   split
   · rename_i q; rw [if_pos q] at h; cases h
   ·
    rename_i q; rw [if_neg q] at h
    split
    · rfl
    ·
     rename_i q2; rw [if_neg q2] at h
     split
     · rename_i q3; rw [if_pos q3] at h; cases h
     ·
      rename_i q3; rw [if_neg q3] at h
      split
      · rfl
      ·
       rename_i q4; rw [if_neg q4] at h
       unfold cvB at h ⊢
       split
       · rename_i q5; rw [if_pos q5] at h; cases h
       ·
        rename_i q5; rw [if_neg q5] at h
        revert h
        cases stepL (brN n a).2 (brN n b).2 with
        | none => intro _; rfl
        | some l => intro h; exact seq_two (cvN_two n) l h
theorem cv_two {a b : T} (h : (cv a b).2 = true) : (cv a b).1 = 0 := cvN_two _ a b h
mutual
def lamT : T → Nat
 | .mk n l => (if n.K = 4 then 1 else 0) + lamTs l
def lamTs : List T → Nat
 | [] => 0
 | t :: l => lamT t + lamTs l
end
mutual
def vbT (B : Int) : T → Prop
 | .mk n l => (n.K = 0 → n.N ≤ B) ∧ vbTs B l
def vbTs (B : Int) : List T → Prop
 | [] => True
 | t :: l => vbT B t ∧ vbTs B l
end
theorem lams_get : ∀ (l : List T) (i : Nat), i < l.length → lamT (l.getD i tz) ≤ lamTs l
 | [], _, h => by simp at h
 | t :: l, 0, _ => by simp [lamTs]
 | t :: l, i + 1, h => by
  have := lams_get l i (by simpa using h)
  simp only [List.getD_cons_succ, lamTs]
  omega
theorem lams_get2 : ∀ (l : List T) (i j : Nat), i < j → j < l.length → lamT (l.getD i tz) + lamT (l.getD j tz) ≤ lamTs l
 | [], _, _, _, h => by simp at h
 | t :: l, 0, j + 1, _, h => by
  have := lams_get l j (by simpa using h)
  simp only [List.getD_cons_zero, List.getD_cons_succ, lamTs]
  omega
 | t :: l, i + 1, j + 1, h1, h => by
  have := lams_get2 l i j (by omega) (by simpa using h)
  simp only [List.getD_cons_succ, lamTs]
  omega
theorem lam_root (t : T) : lamT t = (if t.root.K = 4 then 1 else 0) + lamTs t.args := by
 obtain ⟨n, l⟩ := t
 rfl
theorem kid_lam {t : T} {i : Nat} (h : i < t.args.length) : lamT (kid t i) + (if t.root.K = 4 then 1 else 0) ≤ lamT t := by
 have h1 := lams_get t.args i h
 rw [lam_root t]
 unfold kid
 omega
theorem kid_lam2 {t : T} {i j : Nat} (hij : i < j) (h : j < t.args.length) : lamT (kid t i) + lamT (kid t j) ≤ lamT t := by
 have h1 := lams_get2 t.args i j hij h
 rw [lam_root t]
 unfold kid
 omega
theorem vbs_get {B : Int} : ∀ (l : List T) (i : Nat), vbTs B l → i < l.length → vbT B (l.getD i tz)
 | [], _, _, h => by simp at h
 | t :: l, 0, h, _ => by simp only [vbTs] at h; exact h.1
 | t :: l, i + 1, h, hi => by simp only [vbTs] at h; exact vbs_get l i h.2 (by simpa using hi)
theorem vb_root {B : Int} {t : T} (h : vbT B t) : (t.root.K = 0 → t.root.N ≤ B) ∧ vbTs B t.args := by
 obtain ⟨n, l⟩ := t
 show (n.K = 0 → n.N ≤ B) ∧ vbTs B l
 simpa only [vbT] using h
theorem kid_vb {B : Int} {t : T} {i : Nat} (h : vbT B t) (hi : i < t.args.length) : vbT B (kid t i) := vbs_get _ _ (vb_root h).2 hi
mutual
theorem vb_mono {B C : Int} (h : B ≤ C) : ∀ (t : T), vbT B t → vbT C t
 | .mk n l, q => by
  simp only [vbT] at q ⊢
  exact ⟨fun hk => Int.le_trans (q.1 hk) h, vbs_mono h l q.2⟩
theorem vbs_mono {B C : Int} (h : B ≤ C) : ∀ (l : List T), vbTs B l → vbTs C l
 | [], _ => by simp only [vbTs]
 | t :: l, q => by
  simp only [vbTs] at q ⊢
  exact ⟨vb_mono h t q.1, vbs_mono h l q.2⟩
end
mutual
theorem ic_lam : ∀ (t : T) (u : Int), lamT (icT u t) = lamT t
 | .mk n l, u => by simp only [icT, lamT, icN_K, ic_lams l]
theorem ic_lams : ∀ (l : List T) (us : List Int), lamTs (icTs l us) = lamTs l
 | [], _ => by simp only [icTs]
 | t :: l, us => by simp only [icTs, lamTs, ic_lam t, ic_lams l]
end
mutual
theorem ic_vb {B : Int} : ∀ (t : T) (u : Int), vbT B t → vbT (B + 1) (icT u t) ∧ (B < 99 → icE u t = false)
 | .mk n l, u, h => by
  simp only [vbT] at h
  obtain ⟨a, b⟩ := ic_vbs l ((binds n).map (u + ·)) h.2
  refine ⟨?_, fun hB => ?_⟩
  ·
   simp only [icT, vbT]
   refine ⟨fun hk => ?_, a⟩
   rw [icN_K] at hk
   have := h.1 hk
   unfold icN
   split
   · show n.N + 1 ≤ B + 1; omega
   · omega
  ·
   simp only [icE, Bool.or_eq_false_iff, decide_eq_false_iff_not]
   exact ⟨fun q => by have := h.1 q.1; omega, b hB⟩
theorem ic_vbs {B : Int} : ∀ (l : List T) (us : List Int), vbTs B l → vbTs (B + 1) (icTs l us) ∧ (B < 99 → icEs l us = false)
 | [], _, _ => by simp [icTs, vbTs, icEs]
 | t :: l, us, h => by
  simp only [vbTs] at h
  obtain ⟨a, b⟩ := ic_vb t (us.headD 0) h.1
  obtain ⟨c, d⟩ := ic_vbs l us.tail h.2
  simp only [icTs, vbTs, icEs, Bool.or_eq_false_iff]
  exact ⟨⟨a, c⟩, fun hB => ⟨b hB, d hB⟩⟩
end
theorem ap_lv {B : Int} {t : T} (h0 : 0 ≤ B) (h : vbT B t) : lamT (apT t) = lamT t ∧ vbT (B + 1) (apT t) := by
 refine ⟨by simp [apT, lamT, lamTs, ic_lam, cN], ?_⟩
 simp only [apT, vbT, vbTs]
 refine ⟨fun hk => by simp [cN] at hk, (ic_vb t 0 h).1, ⟨fun _ => ?_, trivial⟩, trivial⟩
 show (0 : Int) ≤ B + 1
 omega
theorem fs_lv {B : Int} {t : T} (hw : t.wf = true) (h : vbT B t) : lamT (fsT t) ≤ lamT t ∧ lamT (snT t) ≤ lamT t ∧ vbT B (fsT t) ∧ vbT B (snT t) := by
 unfold fsT snT
 by_cases h7 : t.root.K = 7
 ·
  rw [if_pos h7, if_pos h7]
  have h3 := args7 hw h7
  have a := kid_lam (t := t) (i := 1) (by omega)
  have b := kid_lam (t := t) (i := 2) (by omega)
  exact ⟨by omega, by omega, kid_vb h (by omega), kid_vb h (by omega)⟩
 ·
  rw [if_neg h7, if_neg h7]
  simp [lamT, lamTs, vbT, vbTs, cN, h]
theorem seq_ok {f : T → T → Int × Bool} : ∀ {l : List (T × T)}, (∀ p ∈ l, (f p.1 p.2).1 = 0) → (seqF f l).1 = 0
 | [], _ => rfl
 | p :: l, h => by
  simp only [seqF]
  split
  · exact seq_ok (fun q hq => h q (by simp [hq]))
  · exact h p (by simp)
mutual
theorem cvN_ok : ∀ (n : Nat) (a b : T) (B : Int), a.wf = true → b.wf = true → 2 * (muT a + muT b) + 1 ≤ n → 0 ≤ B → vbT B a → vbT B b → B + lamT a + lamT b ≤ 99 → (cvN n a b).1 = 0
 | 0, a, b, B, _, _, h, _, _, _, _ => by omega
 | n + 1, a, b, B, ha, hb, h, h0, va, vb, hB => by
  simp only [cvN]
  split
  · rfl
  ·
   obtain ⟨a1, a2, a3⟩ := brN_ok n a B ha (by have := mu_pos b; omega) h0 va (by omega)
   obtain ⟨b1, b2, b3⟩ := brN_ok n b B hb (by have := mu_pos a; omega) h0 vb (by omega)
   obtain ⟨_, wa, ma⟩ := br_more n a ha (by have := mu_pos b; omega)
   obtain ⟨_, wb, mb⟩ := br_more n b hb (by have := mu_pos a; omega)
   unfold cvX
   rw [if_neg (not_not_intro a1)]
   split
   · rfl
   ·
    try rw [if_neg (not_not_intro b1)]
    split
    · rfl
    ·
     unfold cvB
     have hE : stepE (brN n a).2 (brN n b).2 = false := by
      unfold stepE
      by_cases h4 : (brN n a).2.root.K = 4 ∨ (brN n b).2.root.K = 4
      ·
       rw [decide_eq_true h4, Bool.true_and, Bool.or_eq_false_iff]
       have hl : 1 ≤ lamT (brN n a).2 + lamT (brN n b).2 := by
        rw [lam_root (brN n a).2, lam_root (brN n b).2]
        rcases h4 with q | q <;> rw [if_pos q] <;> omega
       exact ⟨by unfold bodE; rw [(ic_vb _ 0 a2).2 (by omega), Bool.and_false], by unfold bodE; rw [(ic_vb _ 0 b2).2 (by omega), Bool.and_false]⟩
      · rw [decide_eq_false h4, Bool.false_and]
     rw [hE, if_neg (by decide)]
     cases hl : stepL (brN n a).2 (brN n b).2 with
     | none => rfl
     | some l =>
      refine seq_ok fun p hp => ?_
      obtain ⟨p1, p2, p3⟩ := step_ok wa wb hE hl p hp
      unfold stepL at hl
      split at hl
      ·
       rename_i h4
       obtain rfl := Option.some.inj hl
       rw [List.mem_singleton] at hp
       subst hp
       have la : lamT (bodT (brN n a).2) + (if (brN n a).2.root.K = 4 then 1 else 0) ≤ lamT (brN n a).2 ∧ vbT (B + 1) (bodT (brN n a).2) := by
        unfold bodT
        split
        · rename_i q; have := kid_lam (t := (brN n a).2) (i := 1) (by rw [args4 wa q]; decide); rw [if_pos q] at this; exact ⟨this, vb_mono (by omega) _ (kid_vb a2 (by rw [args4 wa q]; decide))⟩
        · rename_i q; obtain ⟨x, y⟩ := ap_lv h0 a2; exact ⟨by omega, y⟩
       have lb : lamT (bodT (brN n b).2) + (if (brN n b).2.root.K = 4 then 1 else 0) ≤ lamT (brN n b).2 ∧ vbT (B + 1) (bodT (brN n b).2) := by
        unfold bodT
        split
        · rename_i q; have := kid_lam (t := (brN n b).2) (i := 1) (by rw [args4 wb q]; decide); rw [if_pos q] at this; exact ⟨this, vb_mono (by omega) _ (kid_vb b2 (by rw [args4 wb q]; decide))⟩
        · rename_i q; obtain ⟨x, y⟩ := ap_lv h0 b2; exact ⟨by omega, y⟩
       refine cvN_ok n _ _ (B + 1) p1 p2 (by omega) (by omega) la.2 lb.2 ?_
       have x := la.1
       have y := lb.1
       show B + 1 + (lamT (bodT (brN n a).2) : Int) + (lamT (bodT (brN n b).2) : Int) ≤ 99
       rcases h4 with q | q
       ·
        rw [if_pos q] at x
        split at y <;> omega
       ·
        rw [if_pos q] at y
        split at x <;> omega
      ·
       split at hl
       ·
        obtain rfl := Option.some.inj hl
        obtain ⟨x1, x2, x3, x4⟩ := fs_lv wa a2
        obtain ⟨y1, y2, y3, y4⟩ := fs_lv wb b2
        simp only [List.mem_cons, List.not_mem_nil, or_false] at hp
        rcases hp with rfl | rfl
        · exact cvN_ok n _ _ B p1 p2 (by omega) h0 x3 y3 (by show B + (lamT (fsT _) : Int) + (lamT (fsT _) : Int) ≤ 99; omega)
        · exact cvN_ok n _ _ B p1 p2 (by omega) h0 x4 y4 (by show B + (lamT (snT _) : Int) + (lamT (snT _) : Int) ≤ 99; omega)
       ·
        split at hl
        ·
         rename_i hr
         obtain rfl := Option.some.inj hl
         obtain ⟨j, hj, rfl⟩ := List.mem_map.1 hp
         have hj1 := (List.mem_filter.1 hj).1
         rw [List.mem_range'] at hj1
         obtain ⟨q, hq, rfl⟩ := hj1
         have hla : 0 + 1 * q < (brN n a).2.args.length := by omega
         have hlb : 0 + 1 * q < (brN n b).2.args.length := by rw [← (wf_root wb).2.1, ← hr, (wf_root wa).2.1]; exact hla
         have x := kid_lam hla
         have y := kid_lam hlb
         exact cvN_ok n _ _ B p1 p2 (by omega) h0 (kid_vb a2 hla) (kid_vb b2 hlb) (by show B + (lamT (kid _ _) : Int) + (lamT (kid _ _) : Int) ≤ 99; omega)
        · cases hl
theorem brN_ok : ∀ (n : Nat) (t : T) (B : Int), t.wf = true → 2 * muT t ≤ n → 0 ≤ B → vbT B t → B + lamT t ≤ 99 → (brN n t).1 = 0 ∧ vbT B (brN n t).2 ∧ lamT (brN n t).2 ≤ lamT t
 | 0, t, B, _, h, _, _, _ => by have := mu_pos t; omega
 | n + 1, t, B, ht, h, h0, vt, hB => by
  simp only [brN]
  split
  ·
   rename_i hk
   have h4 := args20 ht hk
   have m1 := kid_mu2 (t := t) (i := 0) (j := 1) (by decide) (by omega)
   have m3 := kid_mu (t := t) (i := 3) (by omega)
   have l1 := kid_lam2 (t := t) (i := 0) (j := 1) (by decide) (by omega)
   have l3 := kid_lam (t := t) (i := 3) (by omega)
   split
   ·
    obtain ⟨x, y, z⟩ := brN_ok n (kid t 3) B (kid_wf ht (by omega)) (by omega) h0 (kid_vb vt (by omega)) (by omega)
    exact ⟨x, y, by omega⟩
   · exact ⟨cvN_ok n _ _ B (kid_wf ht (by omega)) (kid_wf ht (by omega)) (by omega) h0 (kid_vb vt (by omega)) (kid_vb vt (by omega)) (by omega), vt, Nat.le_refl _⟩
  · exact ⟨rfl, vt, Nat.le_refl _⟩
end
theorem cvN_self : ∀ (n : Nat) (t : T) (B : Int), t.wf = true → 2 * (muT t + muT t) + 1 ≤ n → 0 ≤ B → vbT B t → B + lamT t ≤ 99 → (cvN n t t).1 = 0
 | 0, t, B, _, h, _, _, _ => by omega
 | n + 1, t, B, ht, h, h0, vt, hB => by
  simp only [cvN]
  split
  · rfl
  ·
   obtain ⟨a1, a2, a3⟩ := brN_ok n t B ht (by have := mu_pos t; omega) h0 vt hB
   obtain ⟨_, wa, ma⟩ := br_more n t ht (by have := mu_pos t; omega)
   unfold cvX
   rw [if_neg (not_not_intro a1)]
   split
   · rfl
   ·
    unfold cvB
    have hE : stepE (brN n t).2 (brN n t).2 = false := by
     unfold stepE bodE
     by_cases h4 : (brN n t).2.root.K = 4 <;> simp [h4]
    rw [hE, if_neg (by decide)]
    obtain ⟨l, hl⟩ := step_some (brN n t).2
    rw [hl]
    refine seq_ok fun p hp => ?_
    have hs := step_self hl p hp
    obtain ⟨p1, _, p3⟩ := step_ok wa wa hE hl p hp
    rw [← hs] at p3 ⊢
    unfold stepL at hl
    split at hl
    ·
     rename_i h4
     obtain rfl := Option.some.inj hl
     rw [List.mem_singleton] at hp
     subst hp
     have q : (brN n t).2.root.K = 4 := h4.elim id id
     have e : bodT (brN n t).2 = kid (brN n t).2 1 := if_pos q
     have x := kid_lam (t := (brN n t).2) (i := 1) (by rw [args4 wa q]; decide)
     show (cvN n (bodT (brN n t).2) (bodT (brN n t).2)).1 = 0
     rw [e]
     simp only [e] at p1 p3
     exact cvN_self n _ B p1 (by omega) h0 (kid_vb a2 (by rw [args4 wa q]; decide)) (by omega)
    ·
     split at hl
     ·
      obtain rfl := Option.some.inj hl
      obtain ⟨x1, x2, x3, x4⟩ := fs_lv wa a2
      simp only [List.mem_cons, List.not_mem_nil, or_false] at hp
      rcases hp with rfl | rfl
      · exact cvN_self n _ B p1 (by omega) h0 x3 (by show B + (lamT (fsT _) : Int) ≤ 99; omega)
      · exact cvN_self n _ B p1 (by omega) h0 x4 (by show B + (lamT (snT _) : Int) ≤ 99; omega)
     ·
      rw [if_pos rfl] at hl
      obtain rfl := Option.some.inj hl
      obtain ⟨j, hj, rfl⟩ := List.mem_map.1 hp
      have hj1 := (List.mem_filter.1 hj).1
      rw [List.mem_range'] at hj1
      obtain ⟨q, hq, rfl⟩ := hj1
      have hla : 0 + 1 * q < (brN n t).2.args.length := by omega
      have x := kid_lam hla
      exact cvN_self n _ B p1 (by omega) h0 (kid_vb a2 hla) (by show B + (lamT (kid _ _) : Int) ≤ 99; omega)
theorem cv_self {t : T} {B : Int} (ht : t.wf = true) (h0 : 0 ≤ B) (hv : vbT B t) (hB : B + lamT t ≤ 99) : cv t t = (0, true) := by
 have h := cvN_self _ t B ht (Nat.le_refl _) h0 hv hB
 rcases cv_refl t with q | q
 · exact q
 · exact absurd h q.1
end Go.Proofs.YthdemmcfnpmmiaaDoor
/- Couples of slices of nodes. -/
namespace Go.Proofs.YthdemmcfnpmmiaaDoor
set_option linter.unusedSimpArgs false
set_option linter.unusedVariables false
open Go Go.RowKit
abbrev Cp := Sl × Sl
def cpz : Cp := (slz, slz)
def encC (s : Cp) : List Value := [.slice s.1.1 s.1.2.2.length s.1.2.1, .slice s.2.1 s.2.2.2.length s.2.2.1]
def encCs (l : List Cp) : List Value := l.flatMap encC
def nthC (t : List Cp) (k : Nat) : Cp := t.getD k cpz
theorem encC_len (s : Cp) : (encC s).length = 2 := rfl
theorem encC_one (l : List Cp) : ∀ u ∈ encCs l, u.oneCell' = true := by
 intro u hu
 obtain ⟨n, _, hn⟩ := List.mem_flatMap.1 hu
 simp [encC] at hn
 rcases hn with rfl | rfl <;> rfl
theorem own_cs {w : World} {A : Option Addr} {k cap e : Nat} {t : List Cp} (h : (Res.row A t.length cap e 2 (encCs t)).holds w) (hk : k < t.length) : ElemAt w A (k * 2) (encC (nthC t k)) := by
 have := own_elem h hk
 rwa [show (encCs t) = t.flatMap encC from rfl, enc_at encC_len t k hk cpz] at this
def dAllC (t : List Cp) : Dat := ⟨fun w I => ∀ s ∈ t, (s.1.2.2.length ≤ s.1.2.1 ∧ RowI w I 4 s.1.1 s.1.2.2.length (encNs s.1.2.2)) ∧ (s.2.2.2.length ≤ s.2.2.1 ∧ RowI w I 4 s.2.1 s.2.2.2.length (encNs s.2.2.2)),
 fun _ _ _ _ _ h hk s hs => ⟨⟨(h s hs).1.1, (h s hs).1.2.mono hk⟩, ⟨(h s hs).2.1, (h s hs).2.2.mono hk⟩⟩⟩
theorem nthC_mem {t : List Cp} {k : Nat} (h : k < t.length) : nthC t k ∈ t := by
 have : nthC t k = t[k] := by simp [nthC, h]
 rw [this]
 exact List.getElem_mem h
section
variable {w : World} {I : Nat → Prop}
theorem allC_at {t : List Cp} {k : Nat} (h : (dAllC t).φ w I) (hk : k < t.length) : (dRow 4 (nthC t k).1.1 (nthC t k).1.2.2.length (nthC t k).1.2.1 (encNs (nthC t k).1.2.2)).φ w I ∧ (dRow 4 (nthC t k).2.1 (nthC t k).2.2.2.length (nthC t k).2.2.1 (encNs (nthC t k).2.2.2)).φ w I := h _ (nthC_mem hk)
theorem allC_nil : (dAllC []).φ w I := fun _ h => by cases h
theorem allC_cons {A B : Option Addr} {c d : Nat} {L M : List Nd} {t : List Cp} (h : (dRow 4 A L.length c (encNs L)).φ w I) (h2 : (dRow 4 B M.length d (encNs M)).φ w I) (ht : (dAllC t).φ w I) : (dAllC (((A, c, L), (B, d, M)) :: t)).φ w I := fun s hs => by
 rcases List.mem_cons.1 hs with rfl | hs
 · exact ⟨h, h2⟩
 · exact ht s hs
theorem allC_append {a b : List Cp} (ha : (dAllC a).φ w I) (hb : (dAllC b).φ w I) : (dAllC (a ++ b)).φ w I := fun s hs => by
 rcases List.mem_append.1 hs with hs | hs
 · exact ha s hs
 · exact hb s hs
theorem allC_take {a : List Cp} (ha : (dAllC a).φ w I) (k : Nat) : (dAllC (a.take k)).φ w I := fun s hs => ha s (List.mem_of_mem_take hs)
end
end Go.Proofs.YthdemmcfnpmmiaaDoor
/- Conversions of integers, remainders, truths compared. -/
namespace Go.Proofs.YthdemmcfnpmmiaaDoor
set_option linter.unusedSimpArgs false
set_option linter.unusedVariables false
open Go Go.RowKit
section
variable {P : Program} {X : Prop} {Next : Act → World → Prop} {o : Oper} {a : Act} {w w0 : World} {N : Nat} {l : List (Nat × Value)} {d : Nat}
theorem r_nilCheckE {x : Operand} {A : Option Addr} {j : Nat} (hs : SteV P X Next o a w) (hR : Reg a N l) (hd : o.dst = some d) (ho : o.op = .nilCheck x) (hx : ev l x = some (.pointer (eP A j))) (hA : A.isSome = true) (hdN : d < N)
  (k : ∀ a', Reg a' N ((d, .pointer (eP A j)) :: l) → Next a' w) : X := by
 obtain ⟨ad, rfl⟩ := Option.isSome_iff_exists.1 hA
 exact r_pure hs hR hd hdN (by unfold execOp; rw [ho]; simp only [hR.ev hx]; rfl) k
end
end Go.Proofs.YthdemmcfnpmmiaaDoor
/- One field of an element of an own row is stored. -/
namespace Go.Proofs.YthdemmcfnpmmiaaDoor
set_option linter.unusedSimpArgs false
set_option linter.unusedVariables false
open Go Go.RowKit
theorem nth_set_self {L : List Nd} {k : Nat} {z : Nd} (h : k < L.length) : nth (L.set k z) k = z := by simp [nth, h]
theorem flatMap_set_cell {α : Type} {f : α → List Value} {size : Nat} (hf : ∀ x, (f x).length = size) {L : List α} {k off : Nat} (hk : k < L.length) (ho : off < size) {v : Value} {z : α} (hz : f z = (f L[k]).set off v) :
  (L.flatMap f).take (k * size + off) ++ [v] ++ (L.flatMap f).drop (k * size + off + 1) = (L.set k z).flatMap f := by
 have e : L = L.take k ++ L[k] :: L.drop (k + 1) := by rw [← List.drop_eq_getElem_cons hk, List.take_append_drop]
 have e2 : L.set k z = L.take k ++ z :: L.drop (k + 1) := by rw [List.set_eq_take_append_cons_drop, if_pos hk]
 have hl : ((L.take k).flatMap f).length = k * size := by
  rw [enc_length hf, List.length_take, Nat.min_eq_left (by omega)]
 have hx : (f L[k]).length = size := hf _
 have e3 : L.flatMap f = (L.take k).flatMap f ++ (f L[k] ++ (L.drop (k + 1)).flatMap f) := by
  have := congrArg (List.flatMap f) e
  rw [List.flatMap_append, List.flatMap_cons] at this
  exact this
 rw [e2, List.flatMap_append, List.flatMap_cons, hz, e3]
 generalize (L.drop (k + 1)).flatMap f = B
 generalize (L.take k).flatMap f = A at hl ⊢
 rw [← hl]
 have h1 : (A ++ (f L[k] ++ B)).take (A.length + off) = A ++ (f L[k]).take off := by
  rw [List.take_length_add_append, List.take_append_of_le_length (by omega)]
 have h2 : (A ++ (f L[k] ++ B)).drop (A.length + off + 1) = (f L[k]).drop (off + 1) ++ B := by
  rw [Nat.add_assoc, List.drop_length_add_append, List.drop_append_of_le_length (by omega)]
 rw [h1, h2, List.set_eq_take_append_cons_drop, if_pos (by omega)]
 simp
section
variable {P : Program} {X : Prop} {Next : Act → World → Prop} {op : Oper} {a : Act} {w w0 : World} {N : Nat} {l : List (Nat × Value)} {Z M : Nat → Prop} {m : List Res} {ds : List Dat}
theorem m_storeF {t : TypeId} {x y : Operand} {A : Option Addr} {L : List Nd} {i j k off cap e : Nat} {v : Value} {z : Nd} (hs : Ste P X Next op a w) (hR : Reg a N l) (hS : St w0 Z M w m ds) (hd : op.dst = none) (ho : op.op = .store t x y)
  (hx : ev l x = some (.pointer (eP A j))) (hy : ev l y = some v) (hi : m[i]? = some (.row A L.length cap e 4 (L.flatMap encN))) (hj : j = k * 4 + off) (hk : k < L.length) (hof : off < 4)
  (hz : encN z = (encN (nth L k)).set off v) (hc : v.cells.toList = [v]) (h1 : v.oneCell' = true) (hsz : (P.info? t).map (·.size) = some 1)
  (kk : ∀ a' w', Reg a' N l → St w0 Z M w' (m.set i (.row A (L.set k z).length cap e 4 ((L.set k z).flatMap encN))) ds → Next a' w') : X := by
 subst hj
 have hnk : nth L k = L[k] := by simp [nth, hk]
 rw [hnk] at hz
 obtain ⟨ad, rfl⟩ := row_some hS hi (by omega)
 have hlen : (L.flatMap encN).length = L.length * 4 := enc_length encN_len L
 obtain ⟨w', g1, g2⟩ := St.over (P := P) hS hi rfl (k * 4 + off) [v] (by rw [hlen, List.length_singleton]; omega) (by simpa using h1)
 rw [List.length_singleton, flatMap_set_cell encN_len hk hof hz] at g2
 have g3 : St w0 Z M w' (m.set i (.row (some ad) (L.set k z).length cap e 4 ((L.set k z).flatMap encN))) ds := by rw [List.length_set]; exact g2
 cases hq : P.info? t with
 | none => simp [hq] at hsz
 | some inf =>
  have hii : inf.size = 1 := by simpa [hq] using hsz
  have hvs : v.cells.size = inf.size := by
   have := congrArg List.length hc
   simpa [hii] using this
  have h3 : (storeVar t (ad.add (k * 4 + off)) v).run P w = .ok () w' := by
   rw [← hc] at g1
   simp [storeVar, Sem.run_bind, sizeOf, typeInfo, hq, hvs, g1]
  refine hs.skip w' ?_ ?_
  ·
   unfold execOp; rw [ho]
   simp only [hR.ev hx, hR.ev hy, eP, Option.map_some, Instr.storeAt, Instr.sureAddr, Sem.run_bind, Sem.run_pure, Result.andThen_ok, h3]
  ·
   rw [hd]
   exact kk _ _ (hR.put_none _) g3
end
end Go.Proofs.YthdemmcfnpmmiaaDoor
/- A term shifted in place, node by node from the root on: plain lists. -/
namespace Go.Proofs.YthdemmcfnpmmiaaDoor
set_option linter.unusedSimpArgs false
set_option linter.unusedVariables false
theorem nth_mid {u v : List Nd} {n : Nd} : nth (u ++ [n] ++ v) u.length = n := by simp [nth]
theorem nth_set (L : List Nd) (i k : Nat) (z : Nd) : nth (L.set i z) k = if i = k ∧ i < L.length then z else nth L k := by
 unfold nth
 rw [List.getD_eq_getElem?_getD, List.getElem?_set, List.getD_eq_getElem?_getD]
 by_cases h : i = k
 ·
  subst h
  by_cases h2 : i < L.length
  · simp [h2]
  · simp [h2]
 · simp [h]
theorem right_N {n : Nd} (h : right n = true) : 0 ≤ n.N ∧ n.N ≤ 99 := by
 obtain ⟨h1, h2, h3, h4⟩ := (right_split n).1 h
 unfold fieldsBad at h2
 by_cases hn : (shp n.K.toNat).n = true
 ·
  have := h3 hn
  unfold most at this
  refine ⟨this.1, ?_⟩
  have := this.2
  (repeat' split at this) <;> omega
 ·
  have hn' : (shp n.K.toNat).n = false := by simpa using hn
  simp only [hn', Bool.not_false, Bool.true_and, Bool.or_eq_false_iff, Bool.not_eq_false', decide_eq_true_eq] at h2
  omega
mutual
theorem vis_len : ∀ (x : T) (o k : Int), x.wf = true → (visT o k x).length = x.flat.length
 | .mk n l, o, k, hw => by
  obtain ⟨_, h2, h3⟩ := wf_parts hw
  simp only [visT, List.length_cons, T.flat_mk, List.length_append, List.length_nil]
  rw [vis_lens l o _ h3 (by simp [← h2, many])]
theorem vis_lens : ∀ (l : List T) (o : Int) (ks : List Int), T.wfs l = true → l.length = ks.length → (visTs o l ks).length = (T.flats l).length
 | [], _, _, _, _ => by simp [visTs, T.flats_nil]
 | _ :: _, _, [], _, h => by simp at h
 | x :: l, o, v :: ks, hw, h => by
  obtain ⟨h1, h2⟩ := wf_cons hw
  simp only [visTs, List.length_append, T.flats_cons]
  rw [vis_lens l _ ks h2 (by simpa using h), vis_len x o v h1]
  omega
end
theorem nodesL_len {t : List Nd} (hc : chk t = 0) : (nodesL t).length = t.length := by
 obtain ⟨hw, hf, _⟩ := treeOf_ok hc
 have := vis_len (treeOf t) 0 0 hw
 rw [hf] at this
 exact this
end Go.Proofs.YthdemmcfnpmmiaaDoor
/- The nodes of a term from its root on, each with how many binders it is under: as subst.nodes hands them over. -/
namespace Go.Proofs.YthdemmcfnpmmiaaDoor
set_option linter.unusedSimpArgs false
set_option linter.unusedVariables false
def nodesN (t : List Nd) : List (Nd × Int) := (nodesL t).map fun x => (nth t x.1.toNat, x.2)
end Go.Proofs.YthdemmcfnpmmiaaDoor
/- Results that lie in cells. -/
namespace Go.Proofs.YthdemmcfnpmmiaaDoor
set_option linter.unusedSimpArgs false
set_option linter.unusedVariables false
open Go Go.RowKit
section
variable {P : Program} {fn : Func} {N : Nat} {l : List (Nat × Value)} {a : Act} {w w0 : World} {Z M : Nat → Prop} {m : List Res} {ds : List Dat} {R : Ending → World → Prop}
theorem St.cast {m' : List Res} (h : St w0 Z M w m ds) (e : m = m') : St w0 Z M w m' ds := e ▸ h
end
end Go.Proofs.YthdemmcfnpmmiaaDoor
/- Terms put into one, node by node from the root on: plain lists. -/
namespace Go.Proofs.YthdemmcfnpmmiaaDoor
set_option linter.unusedSimpArgs false
set_option linter.unusedVariables false
structure RevN (t R : List Nd) (k : Nat) : Prop where
 len : R.length = t.length
 at_ : ∀ i, i < t.length → nth R i = if i < k ∨ t.length - k ≤ i then nth t (t.length - 1 - i) else nth t i
theorem RevN.zero (t : List Nd) : RevN t t 0 := ⟨rfl, fun i hi => by rw [if_neg (by omega)]⟩
theorem RevN.step {t R : List Nd} {k j : Nat} {u v : Nd} (h : RevN t R k) (hk : 2 * k + 1 < t.length) (hj : j = t.length - 1 - k) (hu : u = nth R j) (hv : v = nth R k) : RevN t ((R.set k u).set j v) (k + 1) := by
 subst hj
 obtain ⟨h1, h2⟩ := h
 refine ⟨by simp [h1], fun i hi => ?_⟩
 rw [nth_set, nth_set, hu, hv, h2 _ (by omega), h2 _ (by omega), h2 i hi]
 simp only [List.length_set]
 by_cases e1 : t.length - 1 - k = i
 ·
  subst e1
  rw [if_pos ⟨rfl, by omega⟩, if_neg (by omega), if_pos (by omega)]
  congr 1
  omega
 ·
  rw [if_neg (by omega)]
  by_cases e2 : k = i
  ·
   subst e2
   rw [if_pos ⟨rfl, by omega⟩, if_neg (by omega), if_pos (by omega)]
  ·
   rw [if_neg (by omega)]
   by_cases e3 : i < k ∨ t.length - k ≤ i
   · rw [if_pos e3, if_pos (by omega)]
   · rw [if_neg e3, if_neg (by omega)]
theorem RevN.done {t R : List Nd} {k : Nat} (h : RevN t R k) (hk : t.length ≤ 2 * k + 1) : R = t.reverse := by
 obtain ⟨h1, h2⟩ := h
 apply List.ext_getElem
 · simp [h1]
 ·
  intro i hi hi'
  have h3 := h2 i (by omega)
  have h4 : nth R i = R[i] := by simp [nth, hi]
  have h5 : nth t (t.length - 1 - i) = t[t.length - 1 - i] := by
   have : t.length - 1 - i < t.length := by omega
   simp [nth, this]
  rw [List.getElem_reverse, ← h4, h3, ← h5]
  split
  · rfl
  ·
   congr 1
   omega
def reE (l : List (List Nd)) (x : Nd × Int) : Int := if x.1.K = 0 then (puV 0 l x.1 x.2).1 else 0
def reL (l : List (List Nd)) (x : Nd × Int) : List Nd := if x.1.K = 0 then (puV 0 l x.1 x.2).2.flat else [x.1]
def reR (l : List (List Nd)) (pre : List (Nd × Int)) : List Nd := pre.flatMap fun x => (reL l x).reverse
theorem reR_snoc (l : List (List Nd)) (pre : List (Nd × Int)) (x : Nd × Int) : reR l (pre ++ [x]) = reR l pre ++ (reL l x).reverse := by simp [reR]
theorem reR_append (l : List (List Nd)) (p q : List (Nd × Int)) : reR l (p ++ q) = reR l p ++ reR l q := by simp [reR]
mutual
def visN (u : Int) : T → List (Nd × Int)
 | .mk n l => (n, u) :: visNs l ((binds n).map (u + ·))
def visNs : List T → List Int → List (Nd × Int)
 | [], _ => []
 | _ :: _, [] => []
 | t :: l, u :: us => visNs l us ++ visN u t
end
mutual
theorem vis_N (B : List Nd) : ∀ (x : T) (A : List Nd) (u : Int) (C : List Nd), B = A ++ x.flat ++ C → (visT A.length u x).map (fun y => (nth B y.1.toNat, y.2)) = visN u x
 | .mk n l, A, u, C, h => by
  have e : ((A.length : Int) + ((T.flats l).length : Int)).toNat = (A ++ T.flats l).length := by rw [List.length_append]; omega
  have hB : B = (A ++ T.flats l) ++ [n] ++ C := by rw [h, T.flat_mk]; simp
  simp only [visT, List.map_cons, visN]
  rw [e]
  have hn : nth B (A ++ T.flats l).length = n := by rw [hB, nth_mid]
  rw [hn, vis_Ns B l A ((binds n).map (u + ·)) ([n] ++ C) (by rw [hB]; simp)]
theorem vis_Ns (B : List Nd) : ∀ (l : List T) (A : List Nd) (us : List Int) (C : List Nd), B = A ++ T.flats l ++ C → (visTs A.length l us).map (fun y => (nth B y.1.toNat, y.2)) = visNs l us
 | [], _, _, _, _ => by simp [visTs, visNs]
 | _ :: _, _, [], _, _ => by simp [visTs, visNs]
 | x :: l, A, u :: us, C, h => by
  have h1 := vis_Ns B l (A ++ x.flat) us C (by rw [h, T.flats_cons]; simp)
  have h2 := vis_N B x A u (T.flats l ++ C) (by rw [h, T.flats_cons]; simp)
  simp only [visTs, List.map_append, visNs]
  rw [List.length_append] at h1
  rw [← h1, ← h2]
  simp
end
theorem nodesN_vis {t : List Nd} (hc : chk t = 0) : nodesN t = visN 0 (treeOf t) := by
 obtain ⟨_, hf, _⟩ := treeOf_ok hc
 have := vis_N t (treeOf t) [] 0 [] (by simp [hf])
 exact this
mutual
theorem re_T (l : List (List Nd)) : ∀ (x : T) (u : Int), x.wf = true → ((trE (puV 0 l) u x = 0 ↔ ∀ y ∈ visN u x, reE l y = 0) ∧ reR l (visN u x) = (trT (puV 0 l) u x).flat.reverse)
 | .mk n ps, u, hw => by
  obtain ⟨h1, h2, h3⟩ := wf_parts hw
  by_cases hk : n.K = 0
  ·
   have hl : ps = [] := List.eq_nil_of_length_eq_zero (by rw [← h2]; simp [many, binds, hk, shp])
   subst hl
   simp [visN, visNs, trE, trT, hk, reE, reR, reL]
  ·
   obtain ⟨a1, a2⟩ := re_Ts l ps ((binds n).map (u + ·)) h3
   simp only [visN, trE, trT, hk, if_false, List.mem_cons, forall_eq_or_imp, T.flat_mk, List.reverse_append]
   constructor
   ·
    rw [a1]
    have : reE l (n, u) = 0 := by simp [reE, hk]
    simp [this]
   ·
    have : reR l ((n, u) :: visNs ps ((binds n).map (u + ·))) = (reL l (n, u)).reverse ++ reR l (visNs ps ((binds n).map (u + ·))) := by simp [reR]
    rw [this, a2]
    simp [reL, hk]
theorem re_Ts (l : List (List Nd)) : ∀ (ps : List T) (us : List Int), T.wfs ps = true → ((trEs (puV 0 l) ps us = 0 ↔ ∀ y ∈ visNs ps us, reE l y = 0) ∧ reR l (visNs ps us) = (T.flats (trTs (puV 0 l) ps us)).reverse)
 | [], _, _ => by simp [visNs, trEs, trTs, T.flats_nil, reR]
 | _ :: _, [], _ => by simp [visNs, trEs, trTs, T.flats_nil, reR]
 | x :: ps, u :: us, hw => by
  obtain ⟨h1, h2⟩ := wf_cons hw
  obtain ⟨a1, a2⟩ := re_T l x u h1
  obtain ⟨b1, b2⟩ := re_Ts l ps us h2
  simp only [visNs, trEs, trTs, List.mem_append, T.flats_cons, List.reverse_append, reR_append]
  constructor
  ·
   by_cases he : trE (puV 0 l) u x = 0
   ·
    rw [if_pos he, b1]
    constructor
    ·
     intro h y hy
     rcases hy with hy | hy
     · exact h y hy
     · exact a1.1 he y hy
    ·
     intro h y hy
     exact h y (.inl hy)
   ·
    rw [if_neg he]
    constructor
    · intro h; exact absurd h he
    · intro h; exact absurd (a1.2 fun y hy => h y (.inr hy)) he
  · rw [a2, b2]
end
structure OutI (l : List (List Nd)) (pre : List (Nd × Int)) (O : List Nd) : Prop where
 er : ∀ y ∈ pre, reE l y = 0
 out : O = reR l pre ∨ (8000 ≤ O.length ∧ 8000 < (reR l pre).length)
 bd : O.length ≤ 16000 + pre.length
theorem OutI.nil (l : List (List Nd)) : OutI l [] [] := ⟨(fun _ h => by cases h), .inl rfl, by simp⟩
theorem er_snoc {l : List (List Nd)} {pre : List (Nd × Int)} {x : Nd × Int} (h : ∀ y ∈ pre, reE l y = 0) (hx : reE l x = 0) : ∀ y ∈ pre ++ [x], reE l y = 0 := by
 intro y hy
 rcases List.mem_append.1 hy with hy | hy
 · exact h y hy
 · rw [List.mem_singleton] at hy; subst hy; exact hx
theorem OutI.step {l : List (List Nd)} {pre : List (Nd × Int)} {O S : List Nd} {x : Nd × Int} (h : OutI l pre O) (hx : reE l x = 0) (hS : S = (reL l x).reverse) (hn : (O ++ S).length ≤ 16000 ∨ S.length = 1) : OutI l (pre ++ [x]) (O ++ S) := by
 have hb := h.bd
 refine ⟨er_snoc h.er hx, ?_, ?_⟩
 ·
  rw [reR_snoc, ← hS]
  rcases h.out with q1 | ⟨q1, q3⟩
  · exact .inl (by rw [q1])
  ·
   right
   rw [List.length_append, List.length_append]
   omega
 ·
  rw [List.length_append] at hn
  rw [List.length_append, List.length_append, List.length_singleton]
  omega
theorem OutI.len {l : List (List Nd)} {t O : List Nd} {pre : List (Nd × Int)} (h : OutI l pre O) (hc : chk t = 0) (hp : pre <+: nodesN t) : O.length ≤ 20000 := by
 have h1 := h.bd
 have h2 := hp.length_le
 have h3 : (nodesN t).length = t.length := by unfold nodesN; rw [List.length_map, nodesL_len hc]
 have h4 := (treeOf_ok hc).2.2.2
 omega
theorem OutI.all {l : List (List Nd)} {t O : List Nd} (hc : chk t = 0) (h : OutI l (nodesN t) O) :
  trEL (puV 0 l) t 0 = 0 ∧ (4000 < O.length → 4000 < (trL (puV 0 l) t 0).length) ∧ (O.length ≤ 4000 → O.reverse = trL (puV 0 l) t 0) := by
 obtain ⟨hw, _, _, _⟩ := treeOf_ok hc
 obtain ⟨h1, h2⟩ := re_T l (treeOf t) 0 hw
 rw [← nodesN_vis hc] at h1 h2
 have h3 : trEL (puV 0 l) t 0 = 0 := h1.2 h.er
 have h4 : trL (puV 0 l) t 0 = (trT (puV 0 l) 0 (treeOf t)).flat := by unfold trL; rw [if_pos h3]
 have h5 : (reR l (nodesN t)).length = (trL (puV 0 l) t 0).length := by rw [h2, h4, List.length_reverse]
 refine ⟨h3, fun hl => ?_, fun hl => ?_⟩
 ·
  rw [← h5]
  rcases h.out with q1 | ⟨_, q3⟩
  · rw [← q1]; exact hl
  · omega
 ·
  rcases h.out with q1 | ⟨q1, _⟩
  · rw [q1, h2, List.reverse_reverse, h4]
  · omega
end Go.Proofs.YthdemmcfnpmmiaaDoor
/- The parts of a term by its measures, as term.backward hands them over; slices of slices made. -/
namespace Go.Proofs.YthdemmcfnpmmiaaDoor
set_option linter.unusedSimpArgs false
set_option linter.unusedVariables false
open Go Go.RowKit
theorem all_rep {w : World} {I : Nat → Prop} (n : Nat) : (dAll (List.replicate n slz)).φ w I := fun s hs => by
 rw [List.eq_of_mem_replicate hs]
 exact ⟨Nat.le_refl _, RowI.nil _ _ _ _⟩
theorem zeros_encS (n : Nat) : (List.replicate n slz).flatMap encS = List.replicate n (.slice none 0 0) := by
 induction n with
 | zero => rfl
 | succ n ih => rw [List.replicate_succ, List.flatMap_cons, ih]; rfl
section
variable {P : Program} {X : Prop} {Next : Act → World → Prop} {o : Oper} {a : Act} {w w0 : World} {N : Nat} {l : List (Nat × Value)} {d : Nat} {Z M : Nat → Prop} {m : List Res} {ds : List Dat}
theorem m_makeSs {t e : TypeId} {n by_ : Nat} {x y : Operand} {p q : Int} {kx ky : IntKind} (hs : SteV P X Next o a w) (hR : Reg a N l) (hS : St w0 Z M w m ds) (hd : o.dst = some d) (ho : o.op = .makeSlice t x y) (hx : ev l x = some (.int kx p)) (hy : ev l y = some (.int ky q))
  (hp : p = (n : Int)) (hq' : q = (n : Int)) (ht : P.underlying t = some (.slice e)) (hi : (P.info? e).map (fun i => (i.zero, i.size, i.bytes)) = some (some (.slice none 0 0), 1, by_)) (hby : by_ ≤ 100) (hn : n ≤ 1000) (hdN : d < N)
  (k : ∀ a' w' g, Reg a' N ((d, .slice (some ⟨g, 0, none⟩) (List.replicate n slz).length (List.replicate n slz).length) :: l) → St w0 Z M w' (m ++ [.row (some ⟨g, 0, none⟩) (List.replicate n slz).length (List.replicate n slz).length e 1 (encSs (List.replicate n slz))]) ds → Next a' w') : X :=
 m_makeSlice hs hR hS hd ho hx hy hp hq' ht hi rfl rfl (decide_eq_true (by omega)) (by omega) hdN (fun a' w' g hR' hS' => k a' w' g (by rw [List.length_replicate]; exact hR') (by rw [List.length_replicate, encSs, zeros_encS]; exact hS'))
end
end Go.Proofs.YthdemmcfnpmmiaaDoor
/- Terms compared: lists and trees; what the comparer's loops keep. -/
namespace Go.Proofs.YthdemmcfnpmmiaaDoor
set_option linter.unusedSimpArgs false
set_option linter.unusedVariables false
open Go Go.RowKit
theorem right_sz {n : Nd} (h : right n = true) : n.S.size < 1000000 := by
 unfold right at h
 simp only [Bool.and_eq_true] at h
 have h3 := h.2.2
 split at h3
 ·
  unfold nameOk at h3
  split at h3
  · cases h3
  ·
   simp only [Bool.and_eq_true, decide_eq_true_eq] at h3
   omega
 ·
  rw [beq_iff_eq] at h3
  omega
theorem meas_sml {t : List Nd} (h : measB t = true) : sml t := fun k hk => right_sz (right_at h hk)
def psI (t : List Nd) (a r p : Nat) : Prop := ∃ st, scanT [] (t.take a) = some st ∧ r ≤ st.length ∧ (T.flats (st.take (st.length - r))).length = p
theorem trees_le : ∀ st : List T, st.length ≤ (T.flats st).length
 | [] => by simp
 | x :: st => by
  have := trees_le st
  have := T.flat_pos x
  rw [T.flats_cons, List.length_append, List.length_cons]
  omega
theorem psI_len {t : List Nd} {a r p : Nat} (ha : a ≤ t.length) (h : psI t a r p) : r ≤ a ∧ p ≤ a := by
 obtain ⟨st, h1, h2, h3⟩ := h
 have h4 := scan_flats h1 ha
 have h5 := trees_le st
 have h6 := congrArg List.length (flats_take_pre st (st.length - r))
 rw [List.length_append] at h6
 omega
theorem psI_step {t : List Nd} {a r p : Nat} (hb : measB t = true) (ha : a ≤ t.length) (hr : 0 < r) (h : psI t a r p) :
    0 < a ∧ right (nth t (a - 1)) = true ∧ psI t (a - 1) (r - 1 + many (nth t (a - 1))) p := by
  have h0 := psI_len ha h
  obtain ⟨st, h1, h2, h3⟩ := h
  obtain ⟨b, rfl⟩ : ∃ b, a = b + 1 := ⟨a - 1, by omega⟩
  rw [Nat.add_sub_cancel]
  obtain ⟨s, hs⟩ := meas_scan hb b
  obtain ⟨hr1, hm⟩ := meas_at hb (by omega) hs
  refine ⟨by omega, hr1, s, hs, ?_, ?_⟩ <;>
  · have h4 := scan_step hs (show b < t.length by omega)
    rw [h1] at h4
    unfold pushT at h4
    rw [if_pos (by simp [hr1, hm])] at h4
    obtain rfl := Option.some.inj h4
    simp only [List.length_append, List.length_take, List.length_singleton] at h2 h3
    first
      | omega
      | (rw [List.take_append_of_le_length (by rw [List.length_take]; omega), List.take_take] at h3
         rw [← h3]
         congr 3
         omega)
theorem psI_end {t : List Nd} {a p : Nat} (ha : a ≤ t.length) (h : psI t a 0 p) : a = p := by
 obtain ⟨st, h1, _, h3⟩ := h
 rw [Nat.sub_zero, List.take_length] at h3
 rw [← h3, scan_flats h1 ha]
theorem psI_start {t : List Nd} {k : Nat} (hb : measB t = true) (hk : k < many (nth t (t.length - 1))) : psI t (posL t (t.length - 1) k) 1 (posL t (t.length - 1) (k + 1)) := by
 have hm := root_many hb
 obtain ⟨n, l, hx, _, h2, h3, h4, _, h6, hs⟩ := tree_parts hb
 have hp := posL_root hb
 rw [hx] at hp
 simp only [T.args] at hp
 have hkl : k < l.length := by rw [hm, hx] at hk; exact hk
 rw [hp, hp]
 have hpre : t.take (T.flats (l.take (l.length - k))).length = T.flats (l.take (l.length - k)) := by
  rw [h4, flats_take_pre l (l.length - k), List.append_assoc, List.take_left' rfl]
 refine ⟨l.take (l.length - k), ?_, ?_, ?_⟩
 · rw [hpre]; exact scan_prefix h3 _
 · rw [List.length_take]; omega
 ·
  rw [List.length_take, List.take_take]
  congr 3
  omega
theorem binds_many {n : Nd} (h : right n = true) : (bindsR n).length = many n := by rw [bindsR_eq h]; rfl
theorem fill_step {t : List Nd} {Lr : List Sl} {k i q : Nat} {A : Option Addr} {c : Nat} (hb : measB t = true) (hk : k < many (nth t (t.length - 1))) (hn : Lr.length = many (nth t (t.length - 1))) (hL : lsts (Lr.drop (many (nth t (t.length - 1)) - k)) = ptD t k)
  (hi : i = many (nth t (t.length - 1)) - (k + 1)) {a : Nat} (ha : a = posL t (t.length - 1) (k + 1)) (hq : q = posL t (t.length - 1) k - a) : lsts ((Lr.set i ((A, c, (t.drop a).take q) : Sl)).drop (many (nth t (t.length - 1)) - (k + 1))) = ptD t (k + 1) := by
 subst hi hq
 rw [List.drop_set, if_neg (by omega), Nat.sub_self]
 have e : many (nth t (t.length - 1)) - k = many (nth t (t.length - 1)) - (k + 1) + 1 := by omega
 have hd : Lr.drop (many (nth t (t.length - 1)) - (k + 1)) = nthS Lr (many (nth t (t.length - 1)) - (k + 1)) :: Lr.drop (many (nth t (t.length - 1)) - k) := by
  rw [List.drop_eq_getElem_cons (by omega), ← e]
  simp [nthS, show many (nth t (t.length - 1)) - (k + 1) < Lr.length by omega]
 rw [hd, List.set_cons_zero]
 exact parts_step hb hL hk ha rfl
mutual
theorem flat_mu : ∀ t : T, t.flat.length ≤ muT t
 | .mk n l => by
  have := flats_mu l
  rw [T.flat_mk, List.length_append, List.length_singleton]
  simp only [muT]
  split <;> omega
theorem flats_mu : ∀ l : List T, (T.flats l).length ≤ muTs l
 | [] => by simp [T.flats_nil]
 | t :: l => by
  have := flat_mu t
  have := flats_mu l
  rw [T.flats_cons, List.length_append]
  simp only [muTs]
  omega
end
theorem len_mu {t : List Nd} (h : measB t = true) : t.length ≤ muT (treeOf t) := by
 obtain ⟨_, hf⟩ := treeOf_meas h
 have := flat_mu (treeOf t)
 rwa [hf] at this
theorem root_tr {t : List Nd} (h : measB t = true) : (treeOf t).root = nth t (t.length - 1) := by
 obtain ⟨n, l, hx, _, _, _, _, h4, _, _⟩ := tree_parts h
 rw [hx, h4]
 rfl
theorem mt_wf {t : List Nd} (h : measB t = true) : (treeOf t).wf = true := (treeOf_meas h).1
theorem kid_tr {t : List Nd} {i : Nat} (h : measB t = true) (hi : i < (treeOf t).args.length) : nthL (ptL t) i = (kid (treeOf t) i).flat ∧ treeOf (nthL (ptL t) i) = kid (treeOf t) i ∧ measB (nthL (ptL t) i) = true := by
 have h1 : nthL (ptL t) i = (kid (treeOf t) i).flat := by
  unfold nthL ptL kid
  simp [hi]
 have hw := kid_wf (mt_wf h) hi
 rw [h1]
 exact ⟨rfl, treeOf_flat hw, meas_flat hw⟩
theorem kid_at {t : List Nd} {Ls : List Sl} {i : Nat} (h : measB t = true) (hL : lsts Ls = ptL t) (hi : i < (treeOf t).args.length) : Ls.length = (treeOf t).args.length ∧ treeOf (nthS Ls i).2.2 = kid (treeOf t) i ∧ measB (nthS Ls i).2.2 = true := by
 have e := lsts_nth Ls i
 rw [hL] at e
 rw [e]
 obtain ⟨_, h2, h3⟩ := kid_tr h hi
 refine ⟨?_, h2, h3⟩
 rw [← lsts_len, hL]
 simp [ptL]
theorem parts_len {t : List Nd} {Ls : List Sl} (hL : lsts Ls = ptL t) : Ls.length = (treeOf t).args.length := by
 rw [← lsts_len, hL]
 simp [ptL]
theorem args_le {t : T} (h : t.wf = true) : t.args.length ≤ 8 := by
 obtain ⟨h1, h2, _⟩ := wf_root h
 rw [← h2]
 exact many_le h1
def brL (t : List Nd) : List Nd := (br (treeOf t)).2.flat
def brE (t : List Nd) : Int := (br (treeOf t)).1
def bodL (t : List Nd) : List Nd := (bodT (treeOf t)).flat
def apL (t : List Nd) : List Nd := (apT (treeOf t)).flat
theorem brL_ok {t : List Nd} (h : measB t = true) : measB (brL t) = true ∧ treeOf (brL t) = (br (treeOf t)).2 ∧ muT (treeOf (brL t)) ≤ muT (treeOf t) := by
 obtain ⟨h1, h2⟩ := br_wf (mt_wf h)
 unfold brL
 rw [treeOf_flat h1]
 exact ⟨meas_flat h1, rfl, h2⟩
theorem brL_no {t : List Nd} (h : measB t = true) (hk : ¬ (nth t (t.length - 1)).K = 20) : brL t = t ∧ brE t = 0 := by
 unfold brL brE
 rw [br_no (by rw [root_tr h]; exact hk)]
 exact ⟨(treeOf_meas h).2, rfl⟩
theorem bodL_lam {t : List Nd} {Ls : List Sl} (h : measB t = true) (hL : lsts Ls = ptL t) (hk : (nth t (t.length - 1)).K = 4) : 1 < Ls.length ∧ (nthS Ls 1).2.2 = bodL t ∧ bodE (treeOf t) = false := by
 have hr : (treeOf t).root.K = 4 := by rw [root_tr h]; exact hk
 have h4 := args4 (mt_wf h) hr
 refine ⟨by rw [parts_len hL]; omega, ?_, by unfold bodE; rw [decide_eq_false (by simpa using hr)]; rfl⟩
 have e := lsts_nth Ls 1
 rw [hL] at e
 rw [e, (kid_tr h (by omega)).1]
 unfold bodL bodT
 rw [if_pos hr]
theorem bodL_oth {t : List Nd} (h : measB t = true) (hk : ¬ (nth t (t.length - 1)).K = 4) : apL t = bodL t ∧ bodE (treeOf t) = icE 0 (treeOf t) := by
 have hr : ¬ (treeOf t).root.K = 4 := by rw [root_tr h]; exact hk
 unfold apL bodL bodT bodE
 rw [if_neg hr, decide_eq_true hr]
 exact ⟨rfl, Bool.true_and _⟩
theorem ap_flat (x : T) : (apT x).flat = (icT 0 x).flat ++ [cN 0] ++ [cN 5] := by
 unfold apT
 rw [T.flat_mk, T.flats_cons, T.flats_one, T.flat_mk, T.flats_nil]
 rfl
theorem app1_flat (k : Int) (x : T) : (T.mk (cN k) [x]).flat = x.flat ++ [cN k] := by rw [T.flat_mk, T.flats_one]
def trC (x : Cp) : T × T := (treeOf x.1.2.2, treeOf x.2.2.2)
def muC (x : Cp) : Nat := muT (trC x).1 + muT (trC x).2
def goC (x : Cp) : Prop := measB x.1.2.2 = true ∧ measB x.2.2.2 = true
def wgt (Ls : List Cp) : Nat := (Ls.map fun x => 13 ^ muC x).sum
theorem cv_t {a b : T} (h : (cv a b).2 = true) : cv a b = (0, true) := by
 have seq : ∀ (f : T → T → Int × Bool) (l : List (T × T)), (seqF f l).2 = true → seqF f l = (0, true) := fun f l => by
  induction l with
  | nil => intro _; rfl
  | cons p l ih =>
   intro h
   simp only [seqF] at h ⊢
   split at h
   · rename_i h1; rw [if_pos h1]; exact ih h
   · cases h
 unfold cv at h ⊢
 simp only [cvN] at h ⊢
 split at h
 · rename_i h1; rw [if_pos h1]
 ·
  rename_i h1
  rw [if_neg h1]
  unfold cvX at h ⊢
  split at h
  · cases h
  ·
   rename_i h2
   rw [if_neg h2]
   split at h
   · rename_i h3; rw [if_pos h3]
   ·
    rename_i h3
    rw [if_neg h3]
    split at h
    · cases h
    ·
     rename_i h4
     rw [if_neg h4]
     split at h
     · rename_i h5; rw [if_pos h5]
     ·
      rename_i h5
      rw [if_neg h5]
      unfold cvB at h ⊢
      split at h
      · cases h
      ·
       rename_i h6
       rw [if_neg h6]
       split at h
       · cases h
       ·
        rename_i l h7
        exact seq _ l h
structure CInv (A B : T) (N : Nat) (Ls : List Cp) : Prop where
 ok : ∀ x ∈ Ls, goC x
 pos : ∀ i, i < Ls.length → i + 12 * muC (nthC Ls i) ≤ 12 * N
 cv : cv A B = seqF cv (Ls.reverse.map trC)
theorem CInv.start {a b : List Nd} {A B : Option Addr} {c d N : Nat} (ha : measB a = true) (hb : measB b = true) (hN : muT (treeOf a) + muT (treeOf b) ≤ N) : CInv (treeOf a) (treeOf b) N [(((A, c, a) : Sl), ((B, d, b) : Sl))] := by
 refine ⟨fun x hx => ?_, fun i hi => ?_, ?_⟩
 · rw [List.mem_singleton] at hx; subst hx; exact ⟨ha, hb⟩
 ·
  have : i = 0 := by simpa using hi
  subst this
  show 0 + 12 * (muT (treeOf a) + muT (treeOf b)) ≤ _
  omega
 ·
  show _ = seqF Go.Proofs.YthdemmcfnpmmiaaDoor.cv [(treeOf a, treeOf b)]
  simp only [seqF]
  split
  · rename_i h; exact cv_t h
  ·
   rename_i h
   have : (Go.Proofs.YthdemmcfnpmmiaaDoor.cv (treeOf a) (treeOf b)).2 = false := by simpa using h
   rw [← this]
theorem mu2 (x : Cp) : 2 ≤ muC x := by
 have := mu_pos (trC x).1
 have := mu_pos (trC x).2
 unfold muC
 omega
section
variable {A B : T} {N : Nat} {Ls : List Cp}
theorem CInv.bound (h : CInv A B N Ls) : Ls.length ≤ 12 * N := by
 rcases Nat.eq_zero_or_pos Ls.length with h0 | h0
 · omega
 ·
  have h1 := h.pos (Ls.length - 1) (by omega)
  have := mu2 (nthC Ls (Ls.length - 1))
  omega
theorem CInv.done (h : CInv A B N Ls) (h0 : Ls.length = 0) : Go.Proofs.YthdemmcfnpmmiaaDoor.cv A B = (0, true) := by
 rw [h.cv, List.eq_nil_of_length_eq_zero h0]
 rfl
theorem snocC (h0 : 0 < Ls.length) : Ls = Ls.take (Ls.length - 1) ++ [nthC Ls (Ls.length - 1)] := by
 have h1 : nthC Ls (Ls.length - 1) = Ls[Ls.length - 1] := by simp [nthC, show Ls.length - 1 < Ls.length by omega]
 have := List.take_add_one (l := Ls) (i := Ls.length - 1)
 rw [List.getElem?_eq_getElem (by omega), ← h1, show Ls.length - 1 + 1 = Ls.length by omega, List.take_length] at this
 exact this
theorem CInv.last (h : CInv A B N Ls) (h0 : 0 < Ls.length) : goC (nthC Ls (Ls.length - 1)) ∧ muC (nthC Ls (Ls.length - 1)) ≤ N ∧
  (Go.Proofs.YthdemmcfnpmmiaaDoor.cv A B = if (Go.Proofs.YthdemmcfnpmmiaaDoor.cv (trC (nthC Ls (Ls.length - 1))).1 (trC (nthC Ls (Ls.length - 1))).2).2 = true then seqF Go.Proofs.YthdemmcfnpmmiaaDoor.cv ((Ls.take (Ls.length - 1)).reverse.map trC) else ((Go.Proofs.YthdemmcfnpmmiaaDoor.cv (trC (nthC Ls (Ls.length - 1))).1 (trC (nthC Ls (Ls.length - 1))).2).1, false)) := by
 refine ⟨h.ok _ (nthC_mem (by omega)), by have := h.pos (Ls.length - 1) (by omega); omega, ?_⟩
 have e := h.cv
 rw [snocC h0, List.reverse_append, List.reverse_singleton, List.singleton_append, List.map_cons, seqF] at e
 exact e
theorem CInv.stop (h : CInv A B N Ls) (h0 : 0 < Ls.length) {e : Int} (hc : Go.Proofs.YthdemmcfnpmmiaaDoor.cv (trC (nthC Ls (Ls.length - 1))).1 (trC (nthC Ls (Ls.length - 1))).2 = (e, false)) : Go.Proofs.YthdemmcfnpmmiaaDoor.cv A B = (e, false) := by
 rw [(h.last h0).2.2, hc]
 rfl
theorem nthC_take {i k : Nat} (h : i < k) (hk : k ≤ Ls.length) : nthC (Ls.take k) i = nthC Ls i := by
 unfold nthC
 rw [List.getD_eq_getElem?_getD, List.getD_eq_getElem?_getD, List.getElem?_take_of_lt h]
theorem CInv.next (h : CInv A B N Ls) (h0 : 0 < Ls.length) {K : List Cp} (hl : K.length ≤ 12) (hm : ∀ y ∈ K, goC y ∧ muC y + 1 ≤ muC (nthC Ls (Ls.length - 1)))
  (hc : Go.Proofs.YthdemmcfnpmmiaaDoor.cv (trC (nthC Ls (Ls.length - 1))).1 (trC (nthC Ls (Ls.length - 1))).2 = seqF Go.Proofs.YthdemmcfnpmmiaaDoor.cv (K.reverse.map trC)) : CInv A B N (Ls.take (Ls.length - 1) ++ K) ∧ wgt (Ls.take (Ls.length - 1) ++ K) < wgt Ls := by
 have hlen : (Ls.take (Ls.length - 1)).length = Ls.length - 1 := by rw [List.length_take]; omega
 refine ⟨⟨fun x hx => ?_, fun i hi => ?_, ?_⟩, ?_⟩
 ·
  rcases List.mem_append.1 hx with hx | hx
  · exact h.ok x (List.mem_of_mem_take hx)
  · exact (hm x hx).1
 ·
  rw [List.length_append, hlen] at hi
  rcases Nat.lt_or_ge i (Ls.length - 1) with h1 | h1
  ·
   have e : nthC (Ls.take (Ls.length - 1) ++ K) i = nthC Ls i := by
    rw [← nthC_take (Ls := Ls) (k := Ls.length - 1) h1 (by omega)]
    unfold nthC
    rw [List.getD_eq_getElem?_getD, List.getElem?_append_left (by omega), ← List.getD_eq_getElem?_getD]
   rw [e]
   exact h.pos i (by omega)
  ·
   have hj : i - (Ls.length - 1) < K.length := by omega
   have e : nthC (Ls.take (Ls.length - 1) ++ K) i = K[i - (Ls.length - 1)] := by
    unfold nthC
    rw [List.getD_eq_getElem?_getD, List.getElem?_append_right (by omega), hlen, List.getElem?_eq_getElem hj]
    rfl
   have h2 := (hm _ (List.getElem_mem hj)).2
   have h3 := h.pos (Ls.length - 1) (by omega)
   rw [e]
   omega
 · rw [(h.last h0).2.2, hc, List.reverse_append, List.map_append, seqF_app]
 ·
  have e : wgt Ls = wgt (Ls.take (Ls.length - 1)) + 13 ^ muC (nthC Ls (Ls.length - 1)) := by
   conv => lhs; rw [snocC h0]
   simp [wgt]
  have e2 : wgt (Ls.take (Ls.length - 1) ++ K) = wgt (Ls.take (Ls.length - 1)) + wgt K := by simp [wgt]
  have hK : ∀ (K : List Cp) (m : Nat), (∀ y ∈ K, muC y + 1 ≤ m) → wgt K ≤ K.length * 13 ^ (m - 1) := fun K m hm => by
   induction K with
   | nil => simp [wgt]
   | cons y K ih =>
    have h1 := ih (fun z hz => hm z (by simp [hz]))
    have h2 : 13 ^ muC y ≤ 13 ^ (m - 1) := Nat.pow_le_pow_right (by decide) (by have := hm y (by simp); omega)
    have e3 : wgt (y :: K) = 13 ^ muC y + wgt K := by simp [wgt]
    rw [e3, List.length_cons, Nat.add_mul]
    omega
  have h1 := hK K _ (fun y hy => (hm y hy).2)
  have h2 := mu2 (nthC Ls (Ls.length - 1))
  obtain ⟨d, hd⟩ : ∃ d, muC (nthC Ls (Ls.length - 1)) = d + 1 := ⟨muC (nthC Ls (Ls.length - 1)) - 1, by omega⟩
  rw [e, e2]
  rw [hd, Nat.add_sub_cancel] at h1
  rw [hd, Nat.pow_succ]
  have h3 : K.length * 13 ^ d ≤ 12 * 13 ^ d := Nat.mul_le_mul_right _ hl
  have h4 : 0 < 13 ^ d := Nat.pow_pos (by decide)
  omega
theorem CInv.skip (h : CInv A B N Ls) (h0 : 0 < Ls.length) (hc : Go.Proofs.YthdemmcfnpmmiaaDoor.cv (trC (nthC Ls (Ls.length - 1))).1 (trC (nthC Ls (Ls.length - 1))).2 = (0, true)) : CInv A B N (Ls.take (Ls.length - 1)) ∧ wgt (Ls.take (Ls.length - 1)) < wgt Ls := by
 have := h.next h0 (K := []) (by simp) (by intro y hy; cases hy) (by rw [hc]; rfl)
 rwa [List.append_nil] at this
end
section
variable {x : Cp}
theorem c_tick (hx : goC x) (h : (nth x.1.2.2 (x.1.2.2.length - 1)).K = 29 ∨ (nth x.2.2.2 (x.2.2.2.length - 1)).K = 29) : cv (trC x).1 (trC x).2 = (0, true) :=
 cv_tick (by rw [show (trC x).1.root = _ from root_tr hx.1, show (trC x).2.root = _ from root_tr hx.2]; exact h)
theorem c_eq (hx : goC x) (h1 : ¬ (nth x.1.2.2 (x.1.2.2.length - 1)).K = 29) (h2 : ¬ (nth x.2.2.2 (x.2.2.2.length - 1)).K = 29) : cv (trC x).1 (trC x).2 = cvX cv (br (trC x).1) (br (trC x).2) :=
 cv_eq (mt_wf hx.1) (mt_wf hx.2) (by rw [show (trC x).1.root = _ from root_tr hx.1, show (trC x).2.root = _ from root_tr hx.2]; exact fun h => h.elim h1 h2)
theorem c_e1 (hx : goC x) (h1 : ¬ (nth x.1.2.2 (x.1.2.2.length - 1)).K = 29) (h2 : ¬ (nth x.2.2.2 (x.2.2.2.length - 1)).K = 29) (he : ¬ brE x.1.2.2 = 0) : cv (trC x).1 (trC x).2 = (brE x.1.2.2, false) := by
 rw [c_eq hx h1 h2]
 unfold cvX
 exact if_pos he
theorem brL_root {t : List Nd} (h : measB t = true) : (br (treeOf t)).2.root = nth (brL t) ((brL t).length - 1) := by
 obtain ⟨h1, h2, _⟩ := brL_ok h
 rw [← h2]
 exact root_tr h1
theorem c_k1 (hx : goC x) (h1 : ¬ (nth x.1.2.2 (x.1.2.2.length - 1)).K = 29) (h2 : ¬ (nth x.2.2.2 (x.2.2.2.length - 1)).K = 29) (he : brE x.1.2.2 = 0) (hk : (nth (brL x.1.2.2) ((brL x.1.2.2).length - 1)).K = 29) : cv (trC x).1 (trC x).2 = (0, true) := by
 rw [c_eq hx h1 h2]
 unfold cvX
 have e : ¬ ¬ (br (trC x).1).1 = 0 := fun q => q he
 rw [if_neg e, if_pos (by rw [show (trC x).1 = treeOf x.1.2.2 from rfl, brL_root hx.1]; exact hk)]
theorem c_e2 (hx : goC x) (h1 : ¬ (nth x.1.2.2 (x.1.2.2.length - 1)).K = 29) (h2 : ¬ (nth x.2.2.2 (x.2.2.2.length - 1)).K = 29) (he : brE x.1.2.2 = 0) (hk : ¬ (nth (brL x.1.2.2) ((brL x.1.2.2).length - 1)).K = 29) (he2 : ¬ brE x.2.2.2 = 0) : cv (trC x).1 (trC x).2 = (brE x.2.2.2, false) := by
 rw [c_eq hx h1 h2]
 unfold cvX
 have e : ¬ ¬ (br (trC x).1).1 = 0 := fun q => q he
 rw [if_neg e, if_neg (by rw [show (trC x).1 = treeOf x.1.2.2 from rfl, brL_root hx.1]; exact hk)]
 exact if_pos he2
theorem c_k2 (hx : goC x) (h1 : ¬ (nth x.1.2.2 (x.1.2.2.length - 1)).K = 29) (h2 : ¬ (nth x.2.2.2 (x.2.2.2.length - 1)).K = 29) (he : brE x.1.2.2 = 0) (hk : ¬ (nth (brL x.1.2.2) ((brL x.1.2.2).length - 1)).K = 29) (he2 : brE x.2.2.2 = 0) (hk2 : (nth (brL x.2.2.2) ((brL x.2.2.2).length - 1)).K = 29) : cv (trC x).1 (trC x).2 = (0, true) := by
 rw [c_eq hx h1 h2]
 unfold cvX
 have e : ¬ ¬ (br (trC x).1).1 = 0 := fun q => q he
 have e2 : ¬ ¬ (br (trC x).2).1 = 0 := fun q => q he2
 rw [if_neg e, if_neg (by rw [show (trC x).1 = treeOf x.1.2.2 from rfl, brL_root hx.1]; exact hk), if_neg e2, if_pos (by rw [show (trC x).2 = treeOf x.2.2.2 from rfl, brL_root hx.2]; exact hk2)]
structure CB (x : Cp) : Prop where
 ok : goC x
 n1 : ¬ (nth x.1.2.2 (x.1.2.2.length - 1)).K = 29
 n2 : ¬ (nth x.2.2.2 (x.2.2.2.length - 1)).K = 29
 e1 : brE x.1.2.2 = 0
 e2 : brE x.2.2.2 = 0
 k1 : ¬ (nth (brL x.1.2.2) ((brL x.1.2.2).length - 1)).K = 29
 k2 : ¬ (nth (brL x.2.2.2) ((brL x.2.2.2).length - 1)).K = 29
theorem CB.cv (h : CB x) : Go.Proofs.YthdemmcfnpmmiaaDoor.cv (trC x).1 (trC x).2 = cvB Go.Proofs.YthdemmcfnpmmiaaDoor.cv (treeOf (brL x.1.2.2)) (treeOf (brL x.2.2.2)) := by
 rw [c_eq h.ok h.n1 h.n2]
 unfold cvX
 have e : ¬ ¬ (br (trC x).1).1 = 0 := fun q => q h.e1
 have e2 : ¬ ¬ (br (trC x).2).1 = 0 := fun q => q h.e2
 rw [if_neg e, if_neg (by rw [show (trC x).1 = treeOf x.1.2.2 from rfl, brL_root h.ok.1]; exact h.k1), if_neg e2, if_neg (by rw [show (trC x).2 = treeOf x.2.2.2 from rfl, brL_root h.ok.2]; exact h.k2), (brL_ok h.ok.1).2.1, (brL_ok h.ok.2).2.1]
 rfl
theorem CB.step (h : CB x) {l : List (T × T)} {K : List Cp} (hE : stepE (treeOf (brL x.1.2.2)) (treeOf (brL x.2.2.2)) = false) (hl : stepL (treeOf (brL x.1.2.2)) (treeOf (brL x.2.2.2)) = some l) (hK : K.reverse.map trC = l) (hm : ∀ y ∈ K, goC y) :
  (∀ y ∈ K, goC y ∧ muC y + 1 ≤ muC x) ∧ Go.Proofs.YthdemmcfnpmmiaaDoor.cv (trC x).1 (trC x).2 = seqF Go.Proofs.YthdemmcfnpmmiaaDoor.cv (K.reverse.map trC) := by
 obtain ⟨a1, a2, a3⟩ := brL_ok h.ok.1
 obtain ⟨b1, b2, b3⟩ := brL_ok h.ok.2
 refine ⟨fun y hy => ⟨hm y hy, ?_⟩, ?_⟩
 ·
  have h1 := step_ok (mt_wf a1) (mt_wf b1) hE hl (trC y) (by rw [← hK]; exact List.mem_map_of_mem (List.mem_reverse.2 hy))
  have h2 : muC y = muT (trC y).1 + muT (trC y).2 := rfl
  have h3 : muC x = muT (treeOf x.1.2.2) + muT (treeOf x.2.2.2) := rfl
  omega
 ·
  rw [h.cv]
  unfold cvB
  rw [if_neg (by rw [hE]; decide), hl, hK]
theorem CB.err (h : CB x) (hE : stepE (treeOf (brL x.1.2.2)) (treeOf (brL x.2.2.2)) = true) : Go.Proofs.YthdemmcfnpmmiaaDoor.cv (trC x).1 (trC x).2 = (2, false) := by
 rw [h.cv]
 unfold cvB
 exact if_pos hE
theorem CB.none (h : CB x) (hE : stepE (treeOf (brL x.1.2.2)) (treeOf (brL x.2.2.2)) = false) (hl : stepL (treeOf (brL x.1.2.2)) (treeOf (brL x.2.2.2)) = none) : Go.Proofs.YthdemmcfnpmmiaaDoor.cv (trC x).1 (trC x).2 = (0, false) := by
 rw [h.cv]
 unfold cvB
 rw [if_neg (by rw [hE]; decide), hl]
end
section
variable {a b : List Nd}
theorem st_no (ha : measB a = true) (hb : measB b = true) (h1 : ¬ (nth a (a.length - 1)).K = 4) (h2 : ¬ (nth b (b.length - 1)).K = 4) : stepE (treeOf a) (treeOf b) = false := by
 unfold stepE
 rw [root_tr ha, root_tr hb, decide_eq_false (fun h => h.elim h1 h2)]
 rfl
theorem st_lam (ha : measB a = true) (hb : measB b = true) (h : (nth a (a.length - 1)).K = 4 ∨ (nth b (b.length - 1)).K = 4) : stepE (treeOf a) (treeOf b) = (bodE (treeOf a) || bodE (treeOf b)) ∧ stepL (treeOf a) (treeOf b) = some [(bodT (treeOf a), bodT (treeOf b))] := by
 unfold stepE stepL
 rw [root_tr ha, root_tr hb, decide_eq_true h, if_pos h]
 exact ⟨Bool.true_and _, rfl⟩
theorem st_pair (ha : measB a = true) (hb : measB b = true) (h1 : ¬ (nth a (a.length - 1)).K = 4) (h2 : ¬ (nth b (b.length - 1)).K = 4) (h : (nth a (a.length - 1)).K = 7 ∨ (nth b (b.length - 1)).K = 7) : stepL (treeOf a) (treeOf b) = some [(fsT (treeOf a), fsT (treeOf b)), (snT (treeOf a), snT (treeOf b))] := by
 unfold stepL
 rw [root_tr ha, root_tr hb, if_neg (fun h => h.elim h1 h2), if_pos h]
theorem st_oth (ha : measB a = true) (hb : measB b = true) (h1 : ¬ (nth a (a.length - 1)).K = 4) (h2 : ¬ (nth b (b.length - 1)).K = 4) (h3 : ¬ (nth a (a.length - 1)).K = 7) (h4 : ¬ (nth b (b.length - 1)).K = 7) :
  stepL (treeOf a) (treeOf b) = if nth a (a.length - 1) = nth b (b.length - 1) then some (kidsF (treeOf a) (treeOf b) 0) else none := by
 unfold stepL
 rw [root_tr ha, root_tr hb, if_neg (fun h => h.elim h1 h2), if_neg (fun h => h.elim h3 h4)]
theorem fs_list {P : List Sl} (ha : measB a = true) (hk : (nth a (a.length - 1)).K = 7) (hP : lsts P = ptL a) : P.length = 3 ∧ treeOf (nthS P 1).2.2 = fsT (treeOf a) ∧ treeOf (nthS P 2).2.2 = snT (treeOf a) ∧ measB (nthS P 1).2.2 = true ∧ measB (nthS P 2).2.2 = true := by
 have hr : (treeOf a).root.K = 7 := by rw [root_tr ha]; exact hk
 have h3 := args7 (mt_wf ha) hr
 obtain ⟨h4, h5, h6⟩ := kid_at (i := 1) ha hP (by omega)
 obtain ⟨_, h7, h8⟩ := kid_at (i := 2) ha hP (by omega)
 unfold fsT snT
 rw [if_pos hr, if_pos hr]
 exact ⟨by omega, h5, h7, h6, h8⟩
theorem fs_made (ha : measB a = true) (hk : ¬ (nth a (a.length - 1)).K = 7) {u v : List Nd} (hu : u = a ++ [cN 8]) (hv : v = a ++ [cN 9]) : treeOf u = fsT (treeOf a) ∧ treeOf v = snT (treeOf a) ∧ measB u = true ∧ measB v = true := by
 have hr : ¬ (treeOf a).root.K = 7 := by rw [root_tr ha]; exact hk
 have hf := (treeOf_meas ha).2
 have h8 := one_wf (k := 8) (.inl rfl) (mt_wf ha)
 have h9 := one_wf (k := 9) (.inr rfl) (mt_wf ha)
 have e8 : u = (T.mk (cN 8) [treeOf a]).flat := by rw [app1_flat, hf]; exact hu
 have e9 : v = (T.mk (cN 9) [treeOf a]).flat := by rw [app1_flat, hf]; exact hv
 unfold fsT snT
 rw [if_neg hr, if_neg hr, e8, e9]
 exact ⟨treeOf_flat h8, treeOf_flat h9, meas_flat h8, meas_flat h9⟩
theorem bod_list (ha : measB a = true) (he : bodE (treeOf a) = false) : treeOf (bodL a) = bodT (treeOf a) ∧ measB (bodL a) = true := by
 have h := bod_wf (mt_wf ha) he
 exact ⟨treeOf_flat h, meas_flat h⟩
theorem kids_end {x y : T} : kidsF x y x.args.length = [] := by
 unfold kidsF
 rw [Nat.sub_self]
 rfl
theorem kids_step {x y : T} {i : Nat} (h : i < x.args.length) : kidsF x y i = if idleK x.root.K i = true then kidsF x y (i + 1) else (kid x i, kid y i) :: kidsF x y (i + 1) := by
 unfold kidsF
 rw [show x.args.length - i = (x.args.length - (i + 1)) + 1 by omega, List.range'_succ, List.filter_cons]
 by_cases hi : idleK x.root.K i = true
 · rw [if_neg (by simp [hi]), if_pos hi]
 · rw [if_pos (by simp [hi]), if_neg hi, List.map_cons]
end
end Go.Proofs.YthdemmcfnpmmiaaDoor
/- A row and a box of the caller's, both changed; a term shifted in place. -/
namespace Go.Proofs.YthdemmcfnpmmiaaDoor
set_option linter.unusedSimpArgs false
set_option linter.unusedVariables false
open Go Go.RowKit
def M2 (A : Option Addr) (g : Nat) : Nat → Prop := fun k => k = g ∨ rM A k
section
variable {w0 w w' : World} {Z M : Nat → Prop} {m m' : List Res} {ds : List Dat} {A : Option Addr} {n n' cap e size g : Nat} {t : TypeId} {cs cs' xs xs' : List Value}
theorem St.start2 (hb : (Res.box g t cs).holds w0) (hr : (Res.row A n cap e size xs).holds w0) (hap : ∀ k, rM A k → k ≠ g) (h : ∀ d ∈ ds, d.φ w0 (imm Z w0 [.box g t cs, .row A n cap e size xs] w0)) : St w0 Z (M2 A g) w0 [.box g t cs, .row A n cap e size xs] ds := by
 refine ⟨rfl, rfl, rfl, Nat.le_refl _, fun _ _ _ => rfl, ?_, ?_, ?_, h⟩
 ·
  intro r hr'
  simp only [List.mem_cons, List.not_mem_nil, or_false] at hr'
  rcases hr' with rfl | rfl
  · exact hb
  · exact hr
 ·
  intro r hr' k hk
  simp only [List.mem_cons, List.not_mem_nil, or_false] at hr'
  rcases hr' with rfl | rfl
  ·
   have : g = k := by simpa [Res.blk] using hk
   subst this
   exact ⟨(Array.getElem?_eq_some_iff.1 hb).1, .inr (.inl rfl)⟩
  · exact ⟨row_lt hr hk, .inr (.inr hk)⟩
 ·
  refine .cons (fun s hs k h1 h2 => ?_) (.cons (fun _ h => by cases h) .nil)
  rw [List.mem_singleton] at hs
  subst hs
  have : g = k := by simpa [Res.blk] using h1
  subst this
  exact hap _ h2 rfl
theorem imm_start2 (hZ : ∀ k, Z k → k < w0.heap.size) (hg : ¬ Z g) (hA : ∀ k, rM A k → ¬ Z k) {k : Nat} (hk : Z k) : imm Z w0 [.box g t cs, .row A n cap e size xs] w0 k ∧ w0.heap[k]? = w0.heap[k]? := by
 refine ⟨⟨hZ k hk, fun _ => hk, fun r hr h => ?_⟩, rfl⟩
 simp only [List.mem_cons, List.not_mem_nil, or_false] at hr
 rcases hr with rfl | rfl
 ·
  have : g = k := by simpa [Res.blk] using h
  subst this
  exact hg hk
 · exact hA k h hk
theorem St.callX {Mc : Nat → Prop} (h : St w0 Z M w m ds) (hf : Fr Mc w w') (hM : ∀ k, Mc k → ∃ r ∈ m, r.blk = some k) (hb : m'.map Res.blk = m.map Res.blk) (hh : ∀ r ∈ m', r.holds w') : St w0 Z M w' m' ds := by
 have key : ∀ r ∈ m', ∃ r0 ∈ m, r0.blk = r.blk := fun r hr => by
  have h1 : r.blk ∈ m.map Res.blk := by rw [← hb]; exact List.mem_map_of_mem hr
  obtain ⟨r0, h2, h3⟩ := List.mem_map.1 h1
  exact ⟨r0, h2, h3⟩
 refine h.step hf.os hf.tape hf.output hf.size (fun k hk hn => hf.old k hk (fun hc => ?_)) hh (fun r hr k hk => ?_) ?_
 ·
  obtain ⟨r, h1, h2⟩ := hM k hc
  exact hn r h1 h2
 ·
  obtain ⟨r0, h1, h2⟩ := key r hr
  rw [hk] at h2
  exact ⟨Nat.lt_of_lt_of_le (h.own r0 h1 k h2).1 hf.size, .inl ⟨r0, h1, h2⟩⟩
 ·
  have h1 := h.apart
  have e : ∀ l : List Res, (l.Pairwise fun r s => ∀ k, r.blk = some k → s.blk ≠ some k) ↔ (l.map Res.blk).Pairwise fun r s => ∀ k, r = some k → s ≠ some k := fun l => by rw [List.pairwise_map]
  rw [e, hb, ← e]
  exact h1
theorem St.call2 (h : St w0 Z M w [.box g t cs, .row A n cap e size xs] ds) (hf : Fr (M2 A g) w w') (hb : (Res.box g t cs').holds w') (hr : (Res.row A n' cap e size xs').holds w') : St w0 Z M w' [.box g t cs', .row A n' cap e size xs'] ds := by
 refine h.callX hf (fun k hk => ?_) rfl (fun r hr' => ?_)
 ·
  rcases hk with rfl | hk
  · exact ⟨_, List.mem_cons_self .., rfl⟩
  · exact ⟨_, List.mem_cons_of_mem _ (List.mem_cons_self ..), hk⟩
 ·
  simp only [List.mem_cons, List.not_mem_nil, or_false] at hr'
  rcases hr' with rfl | rfl
  · exact hb
  · exact hr
theorem St.apart2 (h : St w0 Z M w [.box g t cs, .row A n cap e size xs] ds) : ∀ k, rM A k → k ≠ g := fun k hk hg => by
 subst hg
 exact apart_get h.apart (i := 0) (j := 1) (by decide) rfl rfl rfl hk
end
theorem St.box_dataM {w0 w : World} {Z : Nat → Prop} {m : List Res} {ds : List Dat} {g0 : Nat} (h : St w0 Z (· = g0) w m ds) {i : Nat} {g : Nat} {t : TypeId} {cs : List Value} (hi : m[i]? = some (.box g t cs)) {j : Nat} {t' : TypeId} {cs' : List Value} (hj : m[j]? = some (.box g0 t' cs')) (hij : i ≠ j) :
  St w0 Z (· = g0) w (m.eraseIdx i) ds ∧ (dBox g cs).φ w (imm Z w0 (m.eraseIdx i) w) := by
 refine ⟨h.drop _ (List.eraseIdx_sublist m i), ⟨(h.own _ (List.mem_of_getElem? hi) g rfl).1, fun hlt => ?_, fun r hmem e => ?_⟩, box_cells (h.res hi)⟩
 ·
  rcases (h.own _ (List.mem_of_getElem? hi) g rfl).2 with h1 | h1
  ·
   have hlt' : g < w0.heap.size := hlt
   omega
  ·
   have hb : g = g0 := h1
   subst hb
   exact absurd rfl (apart_get h.apart hij hi hj rfl)
 obtain ⟨j', hj'⟩ := List.mem_iff_getElem?.1 hmem
 rw [List.getElem?_eraseIdx] at hj'
 by_cases hji : j' < i
 ·
  rw [if_pos hji] at hj'
  exact apart_get h.apart (by omega : j' ≠ i) hj' hi e rfl
 ·
  rw [if_neg hji] at hj'
  exact apart_get h.apart (by omega : j' + 1 ≠ i) hj' hi e rfl
def swpL : List Res → Nat → List Res
 | a :: b :: l, 0 => b :: a :: l
 | a :: l, i + 1 => a :: swpL l i
 | l, _ => l
theorem swp_perm : ∀ (l : List Res) (i : Nat), (swpL l i).Perm l
 | [], i => by cases i <;> exact .refl _
 | [a], 0 => .refl _
 | [a], i + 1 => by cases i <;> exact .refl _
 | a :: b :: l, 0 => .swap ..
 | a :: b :: l, i + 1 => .cons _ (swp_perm (b :: l) i)
theorem St.swp {w0 w : World} {Z M : Nat → Prop} {m : List Res} {ds : List Dat} (h : St w0 Z M w m ds) (i : Nat) : St w0 Z M w (swpL m i) ds := h.perm (swp_perm m i).symm
theorem all_set {w : World} {I : Nat → Prop} {L : List Sl} {k : Nat} {z : Sl} (h : (dAll L).φ w I) (hz : (dRow 4 z.1 z.2.2.length z.2.1 (encNs z.2.2)).φ w I) : (dAll (L.set k z)).φ w I := fun s hs => by
 rcases List.mem_or_eq_of_mem_set hs with h1 | h1
 · exact h s h1
 · rw [h1]; exact hz
theorem set_nth_self {u : List Nd} {a : Nat} (h : a < u.length) : u.set a (nth u a) = u := by
 have : nth u a = u[a] := by simp [nth, h]
 rw [this]
 exact List.set_getElem_self h
theorem free_no {u : List Nd} {a : Nat} {un : Int} (h : a < u.length) (hn : ¬ ((nth u a).K = 0 ∧ un ≤ (nth u a).N)) : u.set a (icN un (nth u a)) = u := by
 unfold icN
 rw [if_neg hn, set_nth_self h]
theorem free_yes {u : List Nd} {a : Nat} {un : Int} (h1 : (nth u a).K = 0) (h2 : un ≤ (nth u a).N) : u.set a (icN un (nth u a)) = u.set a ⟨(nth u a).K, (nth u a).N + 1, (nth u a).M, (nth u a).S⟩ := by
 unfold icN
 rw [if_pos ⟨h1, h2⟩]
section
variable {Ap Bp : List Nd} {x : T} {un : Int} {i : Nat}
abbrev wkU (x : T) (un : Int) : List Int := (binds x.root).map (un + ·)
def wkL (Ap Bp : List Nd) (x : T) (un : Int) (i : Nat) : List Nd := Ap ++ (T.flats (x.args.take i) ++ (T.flats (icTs (x.args.drop i) ((wkU x un).drop i)) ++ icN un x.root :: Bp))
def wkE (x : T) (un : Int) (i : Nat) : Bool := decide (x.root.K = 0 ∧ un ≤ x.root.N ∧ 99 ≤ x.root.N) || icEs (x.args.drop i) ((wkU x un).drop i)
theorem flat_eta (x : T) : x.flat = T.flats x.args ++ [x.root] := by obtain ⟨n, l⟩ := x; exact T.flat_mk n l
theorem icTs_nil (us : List Int) : icTs [] us = [] := by simp only [icTs]
theorem icEs_nil (us : List Int) : icEs [] us = false := by simp only [icEs]
theorem wk_len (h : i = x.args.length) : (Ap ++ T.flats (x.args.take i)).length + 1 = Ap.length + x.flat.length := by
 subst h
 rw [List.take_length, flat_eta x]
 simp only [List.length_append, List.length_singleton]
 omega
theorem wk_at {e : Nat} (he : e + 1 = Ap.length + x.flat.length) : nth (Ap ++ x.flat ++ Bp) e = x.root ∧ e < (Ap ++ x.flat ++ Bp).length := by
 have h1 := congrArg List.length (flat_eta x)
 simp only [List.length_append, List.length_singleton] at h1
 refine ⟨?_, by simp only [List.length_append]; omega⟩
 unfold nth
 rw [flat_eta x, show Ap ++ (T.flats x.args ++ [x.root]) ++ Bp = (Ap ++ T.flats x.args) ++ (x.root :: Bp) by simp, List.getD_eq_getElem?_getD, List.getElem?_append_right (by rw [List.length_append]; omega), show e - (Ap ++ T.flats x.args).length = 0 by rw [List.length_append]; omega]
 rfl
theorem wk_start {e : Nat} (he : e + 1 = Ap.length + x.flat.length) : (Ap ++ x.flat ++ Bp).set e (icN un (nth (Ap ++ x.flat ++ Bp) e)) = wkL Ap Bp x un x.args.length := by
 rw [(wk_at he).1]
 have h1 := congrArg List.length (flat_eta x)
 simp only [List.length_append, List.length_singleton] at h1
 unfold wkL
 rw [List.take_length, List.drop_length, icTs_nil, T.flats_nil, List.nil_append, flat_eta x, show Ap ++ (T.flats x.args ++ [x.root]) ++ Bp = (Ap ++ T.flats x.args) ++ (x.root :: Bp) by simp, List.set_append_right _ _ (by rw [List.length_append]; omega), show e - (Ap ++ T.flats x.args).length = 0 by rw [List.length_append]; omega, List.set_cons_zero, List.append_assoc]
theorem wk_node {e : Nat} (he : e + 1 = Ap.length + x.flat.length) : nth (wkL Ap Bp x un x.args.length) e = icN un x.root := by
 rw [← wk_start he, (wk_at he).1, nth_set_self (wk_at he).2]
theorem icN_bindsR {n : Nd} {u : Int} (h : right n = true) : bindsR (icN u n) = binds n := by
 unfold icN
 split
 ·
  rename_i hc
  have hb : ∀ m : Nd, m.K = 0 → binds m = [] := fun m hm => by simp [binds, hm, shp]
  rw [hb n hc.1]
  unfold bindsR
  split
  · exact hb _ hc.1
  · rfl
 · exact bindsR_eq h
theorem wk_n (hw : x.wf = true) : (binds x.root).length = x.args.length := (wf_root hw).2.1
theorem wk_before (hi : i < x.args.length) : wkL Ap Bp x un (i + 1) = (Ap ++ T.flats (x.args.take i)) ++ (kid x i).flat ++ (T.flats (icTs (x.args.drop (i + 1)) ((wkU x un).drop (i + 1))) ++ icN un x.root :: Bp) := by
 unfold wkL
 have e : x.args.take (i + 1) = x.args.take i ++ [kid x i] := by
  rw [List.take_add_one, List.getElem?_eq_getElem hi]
  simp [kid, hi]
 rw [e, T.flats_append, T.flats_one]
 simp only [List.append_assoc]
theorem wk_pos (hi : i < x.args.length) : (Ap ++ T.flats (x.args.take (i + 1))).length = (Ap ++ T.flats (x.args.take i)).length + (kid x i).flat.length := by
 have e : x.args.take (i + 1) = x.args.take i ++ [kid x i] := by
  rw [List.take_add_one, List.getElem?_eq_getElem hi]
  simp [kid, hi]
 rw [e, T.flats_append, T.flats_one]
 simp only [List.length_append]
 omega
theorem wk_drop (hw : x.wf = true) (hi : i < x.args.length) : x.args.drop i = kid x i :: x.args.drop (i + 1) ∧ (wkU x un).drop i = (un + nthI (binds x.root) i) :: (wkU x un).drop (i + 1) := by
 have hb := wk_n hw
 have hl : (wkU x un).length = x.args.length := by simp [wkU, hb]
 refine ⟨?_, ?_⟩
 ·
  rw [List.drop_eq_getElem_cons hi]
  simp [kid, hi]
 ·
  rw [List.drop_eq_getElem_cons (by omega)]
  simp [wkU, nthI, hb, hi]
theorem wk_after (hw : x.wf = true) (hi : i < x.args.length) : (Ap ++ T.flats (x.args.take i)) ++ (icT (un + nthI (binds x.root) i) (kid x i)).flat ++ (T.flats (icTs (x.args.drop (i + 1)) ((wkU x un).drop (i + 1))) ++ icN un x.root :: Bp) = wkL Ap Bp x un i := by
 obtain ⟨h1, h2⟩ := wk_drop (un := un) hw hi
 unfold wkL
 rw [h1, h2]
 simp only [icTs, List.headD_cons, List.tail_cons, T.flats_cons, List.append_assoc]
theorem wkE_step (hw : x.wf = true) (hi : i < x.args.length) {ce : Int} : (if icE (un + nthI (binds x.root) i) (kid x i) = true then (2 : Int) else if wkE x un (i + 1) = true then 2 else ce) = if wkE x un i = true then 2 else ce := by
 obtain ⟨h1, h2⟩ := wk_drop (un := un) hw hi
 have e : wkE x un i = (icE (un + nthI (binds x.root) i) (kid x i) || wkE x un (i + 1)) := by
  unfold wkE
  rw [h1, h2]
  simp only [icEs, List.headD_cons, List.tail_cons]
  cases decide (x.root.K = 0 ∧ un ≤ x.root.N ∧ 99 ≤ x.root.N) <;> cases icE (un + nthI (binds x.root) i) (kid x i) <;> simp
 rw [e]
 cases icE (un + nthI (binds x.root) i) (kid x i) <;> simp
theorem wkE_start {ce : Int} : (if x.root.K = 0 ∧ un ≤ x.root.N ∧ 99 ≤ x.root.N then (2 : Int) else ce) = if wkE x un x.args.length = true then 2 else ce := by
 unfold wkE
 rw [List.drop_length, icEs_nil, Bool.or_false]
 simp only [decide_eq_true_eq]
theorem wkE_end : wkE x un 0 = icE un x := by
 obtain ⟨n, l⟩ := x
 unfold wkE
 rw [icE]
 rfl
theorem wkL_end : wkL Ap Bp x un 0 = Ap ++ (icT un x).flat ++ Bp := by
 obtain ⟨n, l⟩ := x
 simp only [wkL, List.take_zero, List.drop_zero, T.flats_nil, List.nil_append, icT, T.flat_mk, T.root, T.args, wkU, List.append_assoc, List.cons_append]
theorem ap_made {t : List Nd} {A B : Option Addr} {c d : Nat} : (lsts [((A, c, [] ++ (icT 0 (treeOf t)).flat ++ []) : Sl), ((B, d, [cN 0]) : Sl)]).flatten ++ [cN 5] = apL t := by
 unfold apL
 rw [ap_flat]
 simp [lsts]
mutual
theorem ic_flat : ∀ (t : T) (u : Int), (icT u t).flat.length = t.flat.length
 | .mk n l, u => by simp only [icT, T.flat_mk, List.length_append, List.length_singleton, ics_flat l]
theorem ics_flat : ∀ (l : List T) (us : List Int), (T.flats (icTs l us)).length = (T.flats l).length
 | [], _ => by simp only [icTs]
 | t :: l, us => by simp only [icTs, T.flats_cons, List.length_append, ic_flat t, ics_flat l]
end
theorem wk_llen : (wkL Ap Bp x un i).length = (Ap ++ x.flat ++ Bp).length := by
 have h1 := congrArg List.length (flat_eta x)
 have h3 : T.flats x.args = T.flats (x.args.take i) ++ T.flats (x.args.drop i) := by rw [← T.flats_append, List.take_append_drop]
 have h4 := congrArg List.length h3
 simp only [wkL, List.length_append, List.length_cons, List.length_nil, ics_flat] at h1 h4 ⊢
 omega
theorem ap_len {t : List Nd} {A B : Option Addr} {c d : Nat} (hb : measB t = true) : (lsts [((A, c, [] ++ (icT 0 (treeOf t)).flat ++ []) : Sl), ((B, d, [cN 0]) : Sl)]).flatten.length = t.length + 1 := by
 have h1 := ic_flat (treeOf t) 0
 rw [(treeOf_meas hb).2] at h1
 simp [lsts, h1]
theorem wk_le : (Ap ++ T.flats (x.args.take i)).length ≤ (Ap ++ x.flat ++ Bp).length := by
 have h1 := congrArg List.length (flat_eta x)
 have h3 : T.flats x.args = T.flats (x.args.take i) ++ T.flats (x.args.drop i) := by rw [← T.flats_append, List.take_append_drop]
 have h4 := congrArg List.length h3
 simp only [List.length_append, List.length_singleton] at h1 h4 ⊢
 omega
theorem right_sz_ic {n : Nd} {u : Int} (h : right n = true) : (icN u n).S.size < 1000000 := by
 have := right_sz h
 unfold icN
 split <;> exact this
theorem kid_flat (hi : i < x.args.length) : (kid x i).flat.length + 1 ≤ x.flat.length := by
 have h1 := congrArg List.length (flat_eta x)
 have h2 := wk_pos (Ap := []) hi
 have h3 : T.flats x.args = T.flats (x.args.take (i + 1)) ++ T.flats (x.args.drop (i + 1)) := by rw [← T.flats_append, List.take_append_drop]
 have h4 := congrArg List.length h3
 simp only [List.nil_append, List.length_append, List.length_singleton] at h1 h2 h4
 omega
end
end Go.Proofs.YthdemmcfnpmmiaaDoor
