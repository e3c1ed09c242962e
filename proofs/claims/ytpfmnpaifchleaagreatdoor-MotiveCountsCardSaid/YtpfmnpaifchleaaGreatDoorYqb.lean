import Derived.Test.YtpfmnpaifchleaaGreatDoorYqa
import Derived.Sort.LoopGhostIn
import Derived.RangeFuncNested
import Derived.RangeFuncLeaves
import Derived.WalkSpells
namespace Go.Proofs.YtpfmnpaifchleaaGreatDoor
open Go Go.RowKit
set_option linter.defProp false
def Ai := @decide_eq_false
def Am := @wp_skip
def Aw := @decide_eq_true
def A4 := @wp_block
def AH := @wp_loop_ghost
def AM := @List.take_of_length_le
def AP := @List.getD_eq_getElem?_getD
def Bv := @List.length_singleton
def BT := @List.length_map
def BV := @wp_ret
def Cb := @Decidable.em
def Ch := @List.mem_map
def C3 := @List.map_append
def CL := @List.append_nil
def Di := @decide_eq_false_iff_not
def Em := @List.flatten_cons
def En := @Bool.eq_false_or_eq_true
def E0 := @List.take_append_of_le_length
def ET := @Bool.not_eq_true'
def F3 := @List.any_eq_true
def FT := @Bool.or_eq_true
end Go.Proofs.YtpfmnpaifchleaaGreatDoor
namespace Go.Proofs.YtpfmnpaifchleaaGreatDoor
set_option linter.unusedSimpArgs false
set_option linter.unusedVariables false
section
/- Guarded operations that only compute, with the choice behind them, as one step: 'a && b', 'a || b' without cases. -/
open Go Go.RowKit
def JC {α : Type} : Nat → List α → Option (List α)
 | 0, l => some l
 | _ + 1, [] => none
 | n + 1, _ :: l => JC n l
def Sd (d : Nat) : List (Nat × Value) → Option (List (Nat × Value))
 | [] => none
 | (i, v) :: l => cond (Nat.beq i d) (some ((i, v) :: l)) (Sd d l)
def upJ (d : Nat) : List (Nat × Value) → List (Nat × Value)
 | [] => []
 | (i, v) :: l => cond (Nat.beq i d) [] ((i, v) :: upJ d l)
theorem OR {d : Nat} : ∀ {l r : List (Nat × Value)}, Sd d l = some r → l = upJ d l ++ r
 | [], _, h => by cases h
 | (i, v) :: l, r, h => by
  unfold Sd at h
  unfold upJ
  cases hb : Nat.beq i d with
  | true => rw [hb] at h; cases h; rfl
  | false => rw [hb] at h; rw [cond_false, List.cons_append, ← OR (l := l) h]
def newK (dj : Nat) (l m : List (Nat × Value)) : Bool := m.all fun p => !Nat.beq p.1 dj && (l.lookup p.1).isNone
theorem Kh {i : Nat} {r : List (Nat × Value)} : ∀ {m : List (Nat × Value)}, (∀ p ∈ m, p.1 ≠ i) → (m ++ r).lookup i = r.lookup i
 | [], _ => rfl
 | (d, v) :: m, h => by
  rw [List.cons_append, D1 (Ne.symm (h (d, v) (by simp)))]
  exact Kh fun p hp => h p (by simp [hp])
def gOK (j dj : Nat) (q : Bool) (N : Nat) (l : List (Nat × Value)) (o : Oper) : Bool :=
 (match o.guard with | some (j', q') => Nat.beq j' j && q' == q | none => false) &&
 (match o.dst with | some d => decide (d < N) && !Nat.beq d dj && (l.lookup d).isNone | none => false)
section
variable {P : Program} {ops : Array Oper} {Q : Exit → Act → World → Prop} {a : Act} {w : World} {N : Nat} {l l2 m : List (Nat × Value)} {dj dp j n : Nat} {oj o op : Oper} {q b x : Bool} {L rest : List Oper} {X Y : Operand}
theorem U0 (h : Reg a N (m ++ (dj, .bool q) :: l)) (hm : newK dj l m = true) (hv : l.lookup dj = some (.bool b)) (hb : b = q) : Reg a N l := by
 have hne : ∀ i u, l.lookup i = some u → ∀ p ∈ m, p.1 ≠ i ∧ p.1 ≠ dj := fun i u hi p hp => by
  have h1 := List.all_eq_true.1 hm p hp
  simp only [AK, ET] at h1
  exact ⟨fun e => by rw [e, hi] at h1; simp at h1, fun e => by rw [e] at h1; simp at h1⟩
 have hl : ∀ i u, l.lookup i = some u → (m ++ (dj, .bool q) :: l).lookup i = some u := fun i u hi => by
  rw [Kh fun p hp => (hne i u hi p hp).1]
  by_cases e : i = dj
  ·
   subst e
   rw [DC, ← hb, ← hv, hi]
  · rw [D1 e]; exact hi
 exact ⟨fun q => h.dfr (hl _ _ q), fun D q => h.dfr1 D (hl _ _ q), h.top, h.size, fun i u hi hu => h.get i u hi (hl _ _ hu)⟩
theorem Reg.pop {d : Nat} {v : Value} (h : Reg a N ((d, v) :: l)) (hd : l.lookup d = none) : Reg a N l := by
 have hl : ∀ i u, l.lookup i = some u → ((d, v) :: l).lookup i = some u := fun i u hi => by
  rw [D1 (fun e => by rw [e, hd] at hi; cases hi)]; exact hi
 exact ⟨fun q => h.dfr (hl _ _ q), fun D q => h.dfr1 D (hl _ _ q), h.top, h.size, fun i u hi hu => h.get i u hi (hl _ _ hu)⟩
def gEnd (N dj dp : Nat) (q x : Bool) (l : List (Nat × Value)) (F : Act → Prop) : Prop :=
 ∀ (a' : Act) (l2 : List (Nat × Value)), Reg a' N l2 → Sd dj l2 = some ((dj, .bool q) :: l) → newK dj l (upJ dj l2) = true → l2.lookup dp = some (.bool x) → F a'
theorem gEnd.fin {F : Act → Prop} (h : gEnd N dj dp q x l F) (hR : Reg a N l2) (h1 : Sd dj l2 = some ((dj, .bool q) :: l) := by exact rfl) (h2 : newK dj l (upJ dj l2) = true := by kernel_rfl) (h3 : l2.lookup dp = some (.bool x) := by exact rfl) : F a := h a l2 hR h1 h2 h3
theorem gEnd.mk {F : Act → Prop} (hv : l.lookup dj = some (.bool b)) (hb : b = q) (k : ∀ a', Reg a' N ((dp, .bool x) :: l) → F a') : gEnd N dj dp q x l F := fun a' l2 hR h1 h2 h3 =>
 k a' (hR.cons (U0 (m := upJ dj l2) (by rw [← OR h1]; exact hR) h2 hv hb) h3)
theorem Ru (hj : ops[j]? = some oj) (hdj : oj.dst = some dj) (hdN : dj < N) (hv : l.lookup dj = some (.bool b)) (hb : (b == q) = false) :
  ∀ (n : Nat) {L rest : List Oper} {a : Act}, Reg a N l → (L.take n).all (gOK j dj q N l) = true → JC n L = some rest → (∀ a', Reg a' N l → wpList P ops Q rest a' w) → wpList P ops Q L a w
 | 0, L, rest, a, hR, _, h, k => by cases h; exact k a hR
 | n + 1, [], rest, a, _, _, h, _ => by cases h
 | n + 1, o :: L, rest, a, hR, hg, h, k => by
  simp only [List.take_succ_cons, List.all_cons, AK, gOK] at hg
  obtain ⟨⟨h1, h2⟩, h3⟩ := hg
  cases hgd : o.guard with
  | none => rw [hgd] at h1; cases h1
  | some g =>
   obtain ⟨j', q'⟩ := g
   rw [hgd] at h1
   simp only [AK, beq_iff_eq] at h1
   rw [h1.2, Nat.eq_of_beq_eq_true h1.1] at hgd
   cases hd : o.dst with
   | none => rw [hd] at h2; cases h2
   | some d =>
    rw [hd] at h2
    simp only [AK, B8, Option.isNone_iff_eq_none] at h2
    refine UK hR hd h2.1.1 (Qm hR hgd hj hdj hdN hv hb) fun a' hR' => ?_
    exact Ru hj hdj hdN hv hb n (hR'.pop h2.2) h3 h k
theorem TU (n : Nat) (x : Bool) (hR : Reg a N l) (hT : b = true → Reg a N ((dj, .bool true) :: l) → gEnd N dj dp true x l (fun a' => wpList P ops Q rest a' w) → wpList P ops Q L a w)
  (k : ∀ a', Reg a' N ((dp, .bool (b && x)) :: l) → wpList P ops Q rest a' w)
  (h0 : L.head?.bind (·.guard) = some (j, true) := by exact rfl) (hj : ops[j]? = some oj := by exact rfl) (hdj : oj.dst = some dj := by exact rfl) (hv : l.lookup dj = some (.bool b) := by exact rfl) (hrest : JC (n + 1) L = some rest := by exact rfl)
  (hop : JC n L = some (op :: rest) := by exact rfl) (hg : op.guard = none := by exact rfl) (hd : op.dst = some dp := by exact rfl) (ho : op.op = .pick (.tmp dj) X (.const (.bool false)) := by exact rfl)
  (hdN : dj < N := by decide) (hpN : dp < N := by decide) (hgs : (L.take n).all (gOK j dj true N l) = true := by kernel_rfl) (hc : Nat.beq dj 1000000 = false := by exact rfl) : wpList P ops Q L a w := by
 cases hb : b with
 | true =>
  refine hT hb (hR.setb hv hb) (.mk hv hb fun a' h => k a' ?_)
  rw [hb, Bool.true_and]; exact h
 | false =>
  refine Ru hj hdj hdN (q := true) hv (by rw [hb]; rfl) n hR hgs hop fun a1 h1 => ?_
  refine FG (GN hg) h1 hd ho (by show cond (Nat.beq dj 1000000) none _ = _; rw [hc]; simp only [cond_false]; rw [hv, hb]) rfl hpN fun a2 h2 => k a2 ?_
  rw [hb, Bool.false_and]; exact h2
theorem l_or (n : Nat) (x : Bool) (hR : Reg a N l) (hT : b = false → Reg a N ((dj, .bool false) :: l) → gEnd N dj dp false x l (fun a' => wpList P ops Q rest a' w) → wpList P ops Q L a w)
  (k : ∀ a', Reg a' N ((dp, .bool (b || x)) :: l) → wpList P ops Q rest a' w)
  (h0 : L.head?.bind (·.guard) = some (j, false) := by exact rfl) (hj : ops[j]? = some oj := by exact rfl) (hdj : oj.dst = some dj := by exact rfl) (hv : l.lookup dj = some (.bool b) := by exact rfl) (hrest : JC (n + 1) L = some rest := by exact rfl)
  (hop : JC n L = some (op :: rest) := by exact rfl) (hg : op.guard = none := by exact rfl) (hd : op.dst = some dp := by exact rfl) (ho : op.op = .pick (.tmp dj) (.const (.bool true)) Y := by exact rfl)
  (hdN : dj < N := by decide) (hpN : dp < N := by decide) (hgs : (L.take n).all (gOK j dj false N l) = true := by kernel_rfl) (hc : Nat.beq dj 1000000 = false := by exact rfl) : wpList P ops Q L a w := by
 cases hb : b with
 | false =>
  refine hT hb (hR.setb hv hb) (.mk hv hb fun a' h => k a' ?_)
  rw [hb, Bool.false_or]; exact h
 | true =>
  refine Ru hj hdj hdN (q := false) hv (by rw [hb]; rfl) n hR hgs hop fun a1 h1 => ?_
  refine EX (GN hg) h1 hd ho (by show cond (Nat.beq dj 1000000) none _ = _; rw [hc]; simp only [cond_false]; rw [hv, hb]) rfl hpN fun a2 h2 => k a2 ?_
  rw [hb, Bool.true_or]; exact h2
end
def UE : Nat → Nat → Option Nat
 | 0, F => some F
 | n + 1, F + 1 => UE n F
 | _ + 1, 0 => none
theorem MU : ∀ {n F f : Nat}, UE n F = some f → F = f + n
 | 0, _, _, h => by cases h; rfl
 | n + 1, F + 1, f, h => by rw [MU (n := n) (F := F) h]; omega
 | _ + 1, 0, _, h => by cases h
def Sc (ops : Array Oper) : List Nat → Array Bool → Bool
 | [], _ => true
 | i :: is, L => Region.free .any ops L i && (Region.ready .any ops L).contains i && Sc ops is (L.setIfInBounds i true)
def gAt (ops : Array Oper) (j dj : Nat) (q : Bool) (N : Nat) (l : List (Nat × Value)) (i : Nat) : Bool := match ops[i]? with | some o => gOK j dj q N l o | none => false
def PV (is : List Nat) (L : Array Bool) : Array Bool := is.foldl (fun L i => L.setIfInBounds i true) L
theorem K9 (f : Nat) : ∀ n, UE n (f + n) = some f
 | 0 => rfl
 | n + 1 => K9 f n
theorem Li {ops : Array Oper} {ip : Nat} : ∀ {is : List Nat} {L : Array Bool}, Sc ops (is ++ [ip]) L = true → Sc ops is L = true ∧ Region.free .any ops (PV is L) ip = true ∧ (Region.ready .any ops (PV is L)).contains ip = true
 | [], L, h => by simp only [List.nil_append, Sc, AK] at h; exact ⟨rfl, h.1.1, h.1.2⟩
 | i :: is, L, h => by
  simp only [List.cons_append, Sc, AK] at h ⊢
  have h' := Li h.2
  exact ⟨⟨h.1, h'.1⟩, h'.2⟩
section
variable {P : Program} {ops : Array Oper} {Q : Exit → Act → World → Prop} {a : Act} {w : World} {N : Nat} {l l2 m : List (Nat × Value)} {dj dp j : Nat} {oj o op : Oper} {q b x : Bool} {S : World → Prop} {F fuel i0 : Nat} {listed : Array Bool} {X Y : Operand} {is : List Nat}
theorem Ny (hP : DD Q) (hs : Region.noSelect ops = true) (hS : S w) (hj : ops[j]? = some oj) (hdj : oj.dst = some dj) (hdN : dj < N) (hv : l.lookup dj = some (.bool b)) (hb : (b == q) = false) :
  ∀ (is : List Nat) {listed : Array Bool} {a : Act} {F : Nat}, Reg a N l → is.all (gAt ops j dj q N l) = true → Sc ops is listed = true → UE is.length F = some fuel → (∀ a', Reg a' N l → wpAnyH P .any ops Q S fuel (PV is listed) a' w) → wpAnyH P .any ops Q S F listed a w
 | [], listed, a, F, hR, _, _, h, k => by cases h; exact k a hR
 | i :: is, listed, a, F, hR, hg, hq, h, k => by
  simp only [List.all_cons, AK, gAt] at hg
  obtain ⟨hg, h3⟩ := hg
  cases hi : ops[i]? with
  | none => rw [hi] at hg; cases hg
  | some o =>
   rw [hi] at hg
   simp only [gOK, AK] at hg
   obtain ⟨h1, h2⟩ := hg
   cases hgd : o.guard with
   | none => rw [hgd] at h1; cases h1
   | some g =>
    obtain ⟨j', q'⟩ := g
    rw [hgd] at h1
    simp only [AK, beq_iff_eq] at h1
    rw [h1.2, Nat.eq_of_beq_eq_true h1.1] at hgd
    cases hd : o.dst with
    | none => rw [hd] at h2; cases h2
    | some d =>
     rw [hd] at h2
     simp only [AK, B8, Option.isNone_iff_eq_none] at h2
     simp only [Sc, AK] at hq
     cases F with
     | zero => cases h
     | succ F =>
      refine Vs hi hs hq.1.1 hq.1.2 (fun c a w h => hP c _ _ _ _ h) hd h2.1.1 hR (Qm hR hgd hj hdj hdN hv hb) hS fun a' hR' => ?_
      exact Ny hP hs hS hj hdj hdN hv hb is (hR'.pop h2.2) h3 hq.2 h k
theorem WL (i0 : Nat) (is : List Nat) (ip : Nat) (x : Bool) (hP : DD Q) (hR : Reg a N l) (hS : S w) (hT : b = true → Reg a N ((dj, .bool true) :: l) → gEnd N dj dp true x l (fun a' => wpAnyH P .any ops Q S fuel ((PV (i0 :: is) listed).setIfInBounds ip true) a' w) → wpAnyH P .any ops Q S F listed a w)
  (k : ∀ a', Reg a' N ((dp, .bool (b && x)) :: l) → wpAnyH P .any ops Q S fuel ((PV (i0 :: is) listed).setIfInBounds ip true) a' w)
  (hi : ops[i0]? = some o := by exact rfl) (h0 : o.guard = some (j, true) := by exact rfl) (hj : ops[j]? = some oj := by exact rfl) (hdj : oj.dst = some dj := by exact rfl) (hv : l.lookup dj = some (.bool b) := by exact rfl)
  (hop : ops[ip]? = some op := by exact rfl) (hg : op.guard = none := by exact rfl) (hd : op.dst = some dp := by exact rfl) (ho : op.op = .pick (.tmp dj) X (.const (.bool false)) := by exact rfl) (hF : UE (is.length + 2) F = some fuel := by exact rfl)
  (hdN : dj < N := by decide) (hpN : dp < N := by decide) (hgs : (i0 :: is).all (gAt ops j dj true N l) = true := by kernel_rfl) (hc : Nat.beq dj 1000000 = false := by exact rfl) (hne : dp ≠ 1000000 := by decide) (hs : Region.noSelect ops = true := by kernel_rfl) (hq : Sc ops ((i0 :: is) ++ [ip]) listed = true := by kernel_rfl) : wpAnyH P .any ops Q S F listed a w := by
 cases hb : b with
 | true =>
  refine hT hb (hR.setb hv hb) (.mk hv hb fun a' h => k a' ?_)
  rw [hb, Bool.true_and]; exact h
 | false =>
  obtain ⟨q1, q2, q3⟩ := Li hq
  obtain rfl : F = fuel + 1 + (is.length + 1) := by rw [MU hF]; omega
  refine Ny (fuel := fuel + 1) hP hs hS hj hdj hdN (q := true) hv (by rw [hb]; rfl) (i0 :: is) hR hgs q1 (K9 _ _) fun a1 h1 => ?_
  refine Sx hop hs q2 q3 (fun c a w h => hP c _ _ _ _ h) hd hpN h1 (AJ hg) (fun _ _ => FG (sy h1 hd hpN) h1 hd ho (by show cond (Nat.beq dj 1000000) none _ = _; rw [hc]; simp only [cond_false]; rw [hv, hb]) rfl hpN (gt hne)) hS fun a2 h2 => k a2 ?_
  rw [hb, Bool.false_and]; exact h2
theorem d_or (i0 : Nat) (is : List Nat) (ip : Nat) (x : Bool) (hP : DD Q) (hR : Reg a N l) (hS : S w) (hT : b = false → Reg a N ((dj, .bool false) :: l) → gEnd N dj dp false x l (fun a' => wpAnyH P .any ops Q S fuel ((PV (i0 :: is) listed).setIfInBounds ip true) a' w) → wpAnyH P .any ops Q S F listed a w)
  (k : ∀ a', Reg a' N ((dp, .bool (b || x)) :: l) → wpAnyH P .any ops Q S fuel ((PV (i0 :: is) listed).setIfInBounds ip true) a' w)
  (hi : ops[i0]? = some o := by exact rfl) (h0 : o.guard = some (j, false) := by exact rfl) (hj : ops[j]? = some oj := by exact rfl) (hdj : oj.dst = some dj := by exact rfl) (hv : l.lookup dj = some (.bool b) := by exact rfl)
  (hop : ops[ip]? = some op := by exact rfl) (hg : op.guard = none := by exact rfl) (hd : op.dst = some dp := by exact rfl) (ho : op.op = .pick (.tmp dj) (.const (.bool true)) Y := by exact rfl) (hF : UE (is.length + 2) F = some fuel := by exact rfl)
  (hdN : dj < N := by decide) (hpN : dp < N := by decide) (hgs : (i0 :: is).all (gAt ops j dj false N l) = true := by kernel_rfl) (hc : Nat.beq dj 1000000 = false := by exact rfl) (hne : dp ≠ 1000000 := by decide) (hs : Region.noSelect ops = true := by kernel_rfl) (hq : Sc ops ((i0 :: is) ++ [ip]) listed = true := by kernel_rfl) : wpAnyH P .any ops Q S F listed a w := by
 cases hb : b with
 | false =>
  refine hT hb (hR.setb hv hb) (.mk hv hb fun a' h => k a' ?_)
  rw [hb, Bool.false_or]; exact h
 | true =>
  obtain ⟨q1, q2, q3⟩ := Li hq
  obtain rfl : F = fuel + 1 + (is.length + 1) := by rw [MU hF]; omega
  refine Ny (fuel := fuel + 1) hP hs hS hj hdj hdN (q := false) hv (by rw [hb]; rfl) (i0 :: is) hR hgs q1 (K9 _ _) fun a1 h1 => ?_
  refine Sx hop hs q2 q3 (fun c a w h => hP c _ _ _ _ h) hd hpN h1 (AJ hg) (fun _ _ => EX (sy h1 hd hpN) h1 hd ho (by show cond (Nat.beq dj 1000000) none _ = _; rw [hc]; simp only [cond_false]; rw [hv, hb]) rfl hpN (gt hne)) hS fun a2 h2 => k a2 ?_
  rw [hb, Bool.true_or]; exact h2
end
end
section
/- Runs of simple operations as one step. -/
open Go Go.RowKit
def pvI : BinOp → Int → Int → Option Value
 | .lss, p, q => some (.bool (decide (p < q)))
 | .leq, p, q => some (.bool (decide (p ≤ q)))
 | .gtr, p, q => some (.bool (decide (q < p)))
 | .geq, p, q => some (.bool (decide (q ≤ p)))
 | .eql, p, q => some (.bool (decide (p = q)))
 | .neq, p, q => some (.bool (!decide (p = q)))
 | _, _, _ => none
def pvB (op : BinOp) : Option Value → Option Value → Option Value
 | some (.int .i64 p), some (.int .i64 q) => pvI op p q
 | some (.int .u8 p), some (.int .u8 q) => pvI op p q
 | some (.string s), some (.string s') => match op with
  | .eql => some (.bool (decide (s = s')))
  | .neq => some (.bool (!decide (s = s')))
  | _ => none
 | _, _ => none
def pvP (x y : Option Value) : Option Value → Option Value
 | some (.bool true) => x
 | some (.bool false) => y
 | _ => none
def pvN : Option Value → Option Value
 | some (.bool b) => some (.bool (!b))
 | _ => none
def pvX (i : Nat) : Option Value → Option Value
 | some (.tuple vs) => vs[i]?
 | _ => none
def pvC : Option Value → Option Value
 | some (.pointer (some p)) => some (.pointer (some p))
 | _ => none
def pv (l : List (Nat × Value)) : Op → Option Value
 | .move x => ev l x
 | .assign x => ev l x
 | .pick c x y => pvP (ev l x) (ev l y) (ev l c)
 | .unOp .not _ x => pvN (ev l x)
 | .extract x i => pvX i (ev l x)
 | .nilCheck x => pvC (ev l x)
 | .binOp op _ x y _ => pvB op (ev l x) (ev l y)
 | _ => none
section
variable {P : Program} {o : Oper} {a : Act} {N : Nat} {l : List (Nat × Value)} {v : Value}
theorem VO {op : BinOp} {t u : TypeId} {x y : Operand} (hR : Reg a N l) (ho : o.op = .binOp op t x y u) (h : pvB op (ev l x) (ev l y) = some v) (w : World) : (execOp a.eval o).run P w = .ok (.value v) w := by
 unfold pvB at h
 split at h
 case h_1 p q h1 h2 | h_2 p q h1 h2 =>
  refine EL hR ho h1 h2 ?_
  unfold pvI at h
  split at h <;> first
   | (cases h; done)
   | (cases h; simp [binOp, Op.intCmp]; done)
   | (cases h; simp [binOp, Op.intCmp]; rfl)
 case h_3 s s' h1 h2 =>
  refine MZ hR ho h1 h2 ?_
  split at h <;> first
   | (cases h; simp only [Op.stringOp, toList_eq]; rfl)
   | cases h
 case h_4 => cases h
theorem UQ (hR : Reg a N l) (h : pv l o.op = some v) (w : World) : (execOp a.eval o).run P w = .ok (.value v) w := by
 cases ho : o.op with
 | move x => rw [ho] at h; unfold execOp; rw [ho]; simp only [hR.ev (show ev l x = some v from h)]; rfl
 | assign x => rw [ho] at h; unfold execOp; rw [ho]; simp only [hR.ev (show ev l x = some v from h)]; rfl
 | binOp op t x y u => rw [ho] at h; exact VO hR ho h w
 | unOp op t x =>
  rw [ho] at h
  cases op with
  | not =>
   have h : pvN (ev l x) = some v := h
   unfold pvN at h
   split at h
   ·
    rename_i b hx
    cases h
    unfold execOp; rw [ho]; simp only [hR.ev hx]; rfl
   · cases h
  | _ => cases h
 | extract x i =>
  rw [ho] at h
  have h : pvX i (ev l x) = some v := h
  unfold pvX at h
  split at h
  ·
   rename_i vs hx
   unfold execOp; rw [ho]; simp only [hR.ev hx, Instr.extract, h]; rfl
  · cases h
 | nilCheck x =>
  rw [ho] at h
  have h : pvC (ev l x) = some v := h
  unfold pvC at h
  split at h
  ·
   rename_i p hx
   cases h
   unfold execOp; rw [ho]; simp only [hR.ev hx]; rfl
  · cases h
 | pick c x y =>
  rw [ho] at h
  have h : pvP (ev l x) (ev l y) (ev l c) = some v := h
  unfold pvP at h
  split at h
  ·
   rename_i hc
   unfold execOp; rw [ho]; simp only [hR.ev hc, hR.ev h]; rfl
  ·
   rename_i hc
   unfold execOp; rw [ho]; simp only [hR.ev hc, hR.ev h]; rfl
  · cases h
 | _ => rw [ho] at h; cases h
end
def PB : Nat → Nat → List Value → Option (List Value)
 | 0, 0, _ => some []
 | 0, n + 1, c :: cs => match PB 0 n cs with | some r => some (c :: r) | none => none
 | j + 1, n, _ :: cs => PB j n cs
 | _, _, [] => none
theorem KR : ∀ {j n : Nat} {cs vs : List Value}, PB j n cs = some vs → (cs.drop j).take n = vs ∧ n = vs.length
 | 0, 0, _, _, h => by simp only [PB, Cs] at h; subst h; simp
 | 0, n + 1, c :: cs, vs, h => by
  unfold PB at h
  split at h
  ·
   rename_i r hr
   cases h
   have := KR hr
   rw [List.drop_zero] at this
   exact ⟨by rw [List.drop_zero, List.take_succ_cons, this.1], by rw [Ad, ← this.2]⟩
  · cases h
 | j + 1, n, c :: cs, vs, h => by
  have := KR (j := j) (n := n) (cs := cs) h
  simpa using this
 | 0, _ + 1, [], _, h => by cases h
 | _ + 1, 0, [], _, h => by cases h
 | _ + 1, _ + 1, [], _, h => by cases h
def Yl (P : Program) (S : World → Prop) (ops : Array Oper) (a : Act) (o : Oper) (v : Value) : Prop :=
 (Region.wanted o (yielded ops a.tmps) = true ∧ ∀ x, S x → (execOp a.eval o).run P x = .ok (.value v) x) ∨ (Region.wanted o (yielded ops a.tmps) = false ∧ v = undef)
section
variable {P : Program} {ops : Array Oper} {Q : Exit → Act → World → Prop} {a : Act} {w w0 w1 : World} {Z M J : Nat → Prop} {m : List Res} {ds : List Dat} {ps : List (World → Prop)} {N d : Nat} {l l' : List (Nat × Value)} {v : Value} {o : Oper} {rest L : List Oper} {x : Operand} {t e : TypeId} {g j j' f n c sz i fuel F : Nat} {is : List Nat} {A : Option Addr} {s : ByteArray} {cs : List Value} {S : World → Prop} {listed : Array Bool}
theorem Yl.v_ (hR : Reg a N l) (hv : pv l o.op = some v := by exact rfl) (hw : Region.wanted o (yielded ops a.tmps) = true := by first | exact AJ rfl | exact wt ‹_›) : Yl P S ops a o v := .inl ⟨hw, fun x _ => UQ hR hv x⟩
theorem Yl.p_ (hw : Region.wanted o (yielded ops a.tmps) = false := by first | exact wff ‹_› | exact wu ‹_›) : Yl P S ops a o undef := .inr ⟨hw, rfl⟩
theorem Qi (hR : Reg a N l) (hd : o.dst = some d) (hdN : d < N) (hw : Region.wanted o (yielded ops a.tmps) = true)
  (h : ∀ x, S x → ∀ {X : Prop} {Next : Act → World → Prop}, SteV P X Next o a x → (∀ a', Reg a' N ((d, v) :: l) → Next a' x) → X) : Yl P S ops a o v :=
 .inl ⟨hw, fun x hx => h x hx (sy hR hd hdN) (gt (by have := hR.top; omega))⟩
theorem Yl.f_ (hR : Reg a N l) (ho : o.op = .fieldAddr t x f := by exact rfl) (hx : ev l x = some (.pointer (some ⟨g, j, none⟩)) := by exact rfl) (ht : Fld P t f c := by infer_instance) (hj : NF (j + c) j' := by first | (dsimp only [Nat.reduceAdd]; exact NF.mk) | exact NF.mk)
  (hd : o.dst = some d := by exact rfl) (hdN : d < N := by decide) (hw : Region.wanted o (yielded ops a.tmps) = true := by first | exact AJ rfl | exact wt ‹_›) : Yl P S ops a o (.pointer (some ⟨g, j', none⟩)) :=
 have ⟨_, _, _, h1, h2, h3, h4, h5⟩ := ht.h
 Qi hR hd hdN hw fun _ _ _ _ hs k => H5 hs hR hd ho hx h1 h2 h4 h5 (by unfold NF at hj; rw [h3, hj]; simp) hdN k
theorem Tv (hS : St w0 Z M w m ds) (hi : Res.box g e cs ∈ m) (hv : cs[j]? = some v) : w.cell? ⟨g, j, none⟩ = some v := by
 have hb : w.heap[g]? = some (.cells cs.toArray e (0, 0)) := hS.hold _ hi
 rw [cell_of_row w g j cs.toArray e (0, 0) hb]
 simpa using hv
theorem Yl.l_ (hR : Reg a N l) (hS : St w0 Z M w m ds) (ho : o.op = .load t x := by exact rfl) (hx : ev l x = some (.pointer (some ⟨g, j, none⟩)) := by exact rfl) (hi : Res.box g e cs ∈ m := by repeat (first | exact List.Mem.head _ | refine List.Mem.tail _ ?_)) (hv : cs[j]? = some v := by exact rfl)
  (ht : NAg P t := by infer_instance) (hd : o.dst = some d := by exact rfl) (hdN : d < N := by decide) (hw : Region.wanted o (yielded ops a.tmps) = true := by first | exact AJ rfl | exact wt ‹_›) : Yl P (fun x => x = w) ops a o v :=
 have ⟨_, h1, h2⟩ := ht.h
 Qi hR hd hdN hw fun _ hw' _ _ hs k => BR hs hR hd ho hx (hw' ▸ Tv hS hi hv) h1 h2 hdN k
theorem Yl.a_ {vs : List Value} (hR : Reg a N l) (hS : St w0 Z M w m ds) (ho : o.op = .load t x := by exact rfl) (hx : ev l x = some (.pointer (some ⟨g, j, none⟩)) := by exact rfl) (hi : Res.box g e cs ∈ m := by repeat (first | exact List.Mem.head _ | refine List.Mem.tail _ ?_))
  (ht : Agg P t sz := by infer_instance) (hn : PB j sz cs = some vs := by exact rfl) (hd : o.dst = some d := by exact rfl) (hdN : d < N := by decide) (hw : Region.wanted o (yielded ops a.tmps) = true := by first | exact AJ rfl | exact wt ‹_›) : Yl P (fun x => x = w) ops a o (.agg vs.toArray) :=
 have ⟨_, h1, h2, h3⟩ := ht.h
 have ⟨h4, h5⟩ := KR hn
 Qi hR hd hdN hw fun _ hw' _ _ hs k => C9 hs hR hd ho hx (hw' ▸ (by
  have h6 := ((F1 (hS.hold _ hi)).drop j).take sz
  rw [h4] at h6
  have h7 : (⟨g, 0, none⟩ : Addr).add j = ⟨g, j, none⟩ := by unfold Addr.add; by_cases h0 : j = 0 <;> simp [h0]
  rw [h7] at h6
  exact h6)) h1 h2 (by rw [h3, h5]) hdN k
theorem Yl.c_ (hR : Reg a N l) (ho : o.op = .load t x := by exact rfl) (hx : ev l x = some (.pointer (some ⟨g, j, none⟩)) := by exact rfl) (hk : cel g j v ∈ ps := by repeat (first | exact List.Mem.head _ | refine List.Mem.tail _ ?_))
  (ht : NAg P t := by infer_instance) (hd : o.dst = some d := by exact rfl) (hdN : d < N := by decide) (hw : Region.wanted o (yielded ops a.tmps) = true := by first | exact AJ rfl | exact wt ‹_›) : Yl P (sW w1 J ps) ops a o v :=
 have ⟨_, h1, h2⟩ := ht.h
 have ⟨k', hk'⟩ := List.mem_iff_getElem?.1 hk
 Qi hR hd hdN hw fun _ hy _ _ hs k => BR hs hR hd ho hx (hy.c k' hk') h1 h2 hdN k
theorem Yl.n_ (hR : Reg a N l) (ho : o.op = .call { callee := .builtin .len, args := #[x], argTypes := #[t] } := by exact rfl) (hx : ev l x = some (.slice A n c) := by exact rfl)
  (ht : Slc P t e := by infer_instance) (hd : o.dst = some d := by exact rfl) (hdN : d < N := by decide) (hw : Region.wanted o (yielded ops a.tmps) = true := by first | exact AJ rfl | exact wt ‹_›) : Yl P S ops a o (.int .i64 (n : Int)) :=
 Qi hR hd hdN hw fun _ _ _ _ hs k => P4 hs hR hd ho rfl hx ht.h hdN k
theorem Yl.s_ (hR : Reg a N l) (ho : o.op = .call { callee := .builtin .len, args := #[x], argTypes := #[t] } := by exact rfl) (hx : ev l x = some (.string s) := by exact rfl)
  (ht : StrT P t := by infer_instance) (hd : o.dst = some d := by exact rfl) (hdN : d < N := by decide) (hw : Region.wanted o (yielded ops a.tmps) = true := by first | exact AJ rfl | exact wt ‹_›) : Yl P S ops a o (.int .i64 (s.size : Int)) :=
 Qi hR hd hdN hw fun _ _ _ _ hs k => r_lenS hs hR hd ho rfl hx ht.h hdN k
theorem lst (hR : Reg a N l) (k : ∀ a', Reg a' N ((d, v) :: l) → wpList P ops Q rest a' w) (hy : Yl P (fun x => x = w) ops a o v := by first | exact Yl.v_ ‹_› | exact Yl.f_ ‹_› | exact Yl.l_ ‹_› ‹_› | exact Yl.p_ | exact Yl.n_ ‹_› | exact Yl.s_ ‹_› | exact Yl.a_ ‹_› ‹_›) (hd : o.dst = some d := by exact rfl) (hdN : d < N := by decide) :
  wpList P ops Q (o :: rest) a w := by
 rcases hy with ⟨h1, h2⟩ | ⟨h1, rfl⟩
 · exact Cv (Bb h1) hR hd hdN (h2 w rfl) k
 · exact UK hR hd hdN h1 k
theorem lR {G : Act → Prop} (hR : Reg a N l) (k : ∀ a', Reg a' N l' → G a')
  (run : (∀ a', Reg a' N l' → G a') → ∀ a, Reg a N l → wpList P ops Q L a w := by (intro kk _ hR; (repeat refine lst hR fun _ hR => ?_); exact kk _ hR)) : wpList P ops Q L a w := run k a hR
def dGo (is : List Nat) (X : Prop) : Prop := X
theorem gE {X : Prop} (h : X) : dGo [] X := h
theorem gst (hP : DD Q) (hR : Reg a N l) (hS : sW w1 J ps w) (k : ∀ a', Reg a' N ((d, v) :: l) → dGo is (wpAnyH P .any ops Q (sW w1 J ps) fuel (listed.setIfInBounds i true) a' w)) (hi : ops[i]? = some o := by exact rfl)
  (hy : Yl P (sW w1 J ps) ops a o v := by first | exact Yl.v_ ‹_› | exact Yl.f_ ‹_› | exact Yl.c_ ‹_› | exact Yl.p_ | exact Yl.n_ ‹_›) (hd : o.dst = some d := by exact rfl) (hdN : d < N := by decide) (hs : Region.noSelect ops = true := by kernel_rfl) (hf : Region.free .any ops listed i = true := by kernel_rfl) (hr : (Region.ready .any ops listed).contains i = true := by kernel_rfl) :
  dGo (i :: is) (wpAnyH P .any ops Q (sW w1 J ps) (fuel + 1) listed a w) := by
 rcases hy with ⟨h1, h2⟩ | ⟨h1, rfl⟩
 · exact dt i hi hP hR h1 h2 hS k hd hdN hs hf hr
 · exact dp i hi hP hR h1 hS k hd hdN hs hf hr
theorem dR {G : Act → Prop} (is : List Nat) (hR : Reg a N l) (k : ∀ a', Reg a' N l' → G a') (hP : DD Q := by assumption) (hS : sW w1 J ps w := by assumption)
  (run : (∀ a', Reg a' N l' → G a') → DD Q → sW w1 J ps w → ∀ a, Reg a N l → dGo is (wpAnyH P .any ops Q (sW w1 J ps) F listed a w) := by (intro kk hP hS _ hR; (repeat refine gst hP hR hS fun _ hR => ?_); exact gE (kk _ hR))) : wpAnyH P .any ops Q (sW w1 J ps) F listed a w := run k hP hS a hR
end
section
variable {P : Program} {ops : Array Oper} {Q : Exit → Act → World → Prop} {a : Act} {w w1 : World} {J : Nat → Prop} {ps : List (World → Prop)} {N : Nat} {l : List (Nat × Value)} {dj dp j : Nat} {oj o op : Oper} {b q x : Bool} {L rest : List Oper} {F fuel i0 : Nat} {listed : Array Bool} {X Y : Operand} {is : List Nat}
def Xp (X : Prop) : Prop := X
theorem Vl (h : Reg a N ((dj, .bool q) :: l) → gEnd N dj dp q x l (fun a' => wpList P ops Q rest a' w) → wpList P ops Q L a w := by
  (intro hR kk; (repeat (first | exact kk.fin hR | refine lst hR fun _ hR => ?_)); done)) :
  Xp (Reg a N ((dj, .bool q) :: l) → gEnd N dj dp q x l (fun a' => wpList P ops Q rest a' w) → wpList P ops Q L a w) := h
theorem Vm (h : DD Q → sW w1 J ps w → Reg a N ((dj, .bool q) :: l) → gEnd N dj dp q x l (fun a' => wpAnyH P .any ops Q (sW w1 J ps) fuel ((PV is listed).setIfInBounds i0 true) a' w) → dGo (is ++ [i0]) (wpAnyH P .any ops Q (sW w1 J ps) F listed a w) := by
  (intro hP hS hR kk; (repeat refine gst hP hR hS fun _ hR => ?_); exact gE (kk.fin hR))) :
  Xp (DD Q → sW w1 J ps w → Reg a N ((dj, .bool q) :: l) → gEnd N dj dp q x l (fun a' => wpAnyH P .any ops Q (sW w1 J ps) fuel ((PV is listed).setIfInBounds i0 true) a' w) → dGo (is ++ [i0]) (wpAnyH P .any ops Q (sW w1 J ps) F listed a w)) := h
theorem lAn (n : Nat) (x : Bool) (hR : Reg a N l) (k : ∀ a', Reg a' N ((dp, .bool (b && x)) :: l) → wpList P ops Q rest a' w)
  (h0 : L.head?.bind (·.guard) = some (j, true) := by exact rfl) (hj : ops[j]? = some oj := by exact rfl) (hdj : oj.dst = some dj := by exact rfl) (hv : l.lookup dj = some (.bool b) := by exact rfl) (hrest : JC (n + 1) L = some rest := by exact rfl)
  (hop : JC n L = some (op :: rest) := by exact rfl) (hg : op.guard = none := by exact rfl) (hd : op.dst = some dp := by exact rfl) (ho : op.op = .pick (.tmp dj) X (.const (.bool false)) := by exact rfl)
  (run : Xp (Reg a N ((dj, .bool true) :: l) → gEnd N dj dp true x l (fun a' => wpList P ops Q rest a' w) → wpList P ops Q L a w) := by exact Vl) (hdN : dj < N := by decide) (hpN : dp < N := by decide) (hgs : (L.take n).all (gOK j dj true N l) = true := by kernel_rfl) (hc : Nat.beq dj 1000000 = false := by exact rfl) : wpList P ops Q L a w :=
 TU n x hR (fun _ => run) k h0 hj hdj hv hrest hop hg hd ho hdN hpN hgs hc
theorem lOr (n : Nat) (x : Bool) (hR : Reg a N l) (k : ∀ a', Reg a' N ((dp, .bool (b || x)) :: l) → wpList P ops Q rest a' w)
  (h0 : L.head?.bind (·.guard) = some (j, false) := by exact rfl) (hj : ops[j]? = some oj := by exact rfl) (hdj : oj.dst = some dj := by exact rfl) (hv : l.lookup dj = some (.bool b) := by exact rfl) (hrest : JC (n + 1) L = some rest := by exact rfl)
  (hop : JC n L = some (op :: rest) := by exact rfl) (hg : op.guard = none := by exact rfl) (hd : op.dst = some dp := by exact rfl) (ho : op.op = .pick (.tmp dj) (.const (.bool true)) Y := by exact rfl)
  (run : Xp (Reg a N ((dj, .bool false) :: l) → gEnd N dj dp false x l (fun a' => wpList P ops Q rest a' w) → wpList P ops Q L a w) := by exact Vl) (hdN : dj < N := by decide) (hpN : dp < N := by decide) (hgs : (L.take n).all (gOK j dj false N l) = true := by kernel_rfl) (hc : Nat.beq dj 1000000 = false := by exact rfl) : wpList P ops Q L a w :=
 l_or n x hR (fun _ => run) k h0 hj hdj hv hrest hop hg hd ho hdN hpN hgs hc
theorem dAn (i0 : Nat) (is : List Nat) (ip : Nat) (x : Bool) (hR : Reg a N l) (k : ∀ a', Reg a' N ((dp, .bool (b && x)) :: l) → wpAnyH P .any ops Q (sW w1 J ps) fuel ((PV (i0 :: is) listed).setIfInBounds ip true) a' w) (hP : DD Q := by assumption) (hS : sW w1 J ps w := by assumption)
  (hi : ops[i0]? = some o := by exact rfl) (h0 : o.guard = some (j, true) := by exact rfl) (hj : ops[j]? = some oj := by exact rfl) (hdj : oj.dst = some dj := by exact rfl) (hv : l.lookup dj = some (.bool b) := by exact rfl)
  (hop : ops[ip]? = some op := by exact rfl) (hg : op.guard = none := by exact rfl) (hd : op.dst = some dp := by exact rfl) (ho : op.op = .pick (.tmp dj) X (.const (.bool false)) := by exact rfl) (hF : UE (is.length + 2) F = some fuel := by exact rfl)
  (run : Xp (DD Q → sW w1 J ps w → Reg a N ((dj, .bool true) :: l) → gEnd N dj dp true x l (fun a' => wpAnyH P .any ops Q (sW w1 J ps) fuel ((PV (i0 :: is) listed).setIfInBounds ip true) a' w) → dGo ((i0 :: is) ++ [ip]) (wpAnyH P .any ops Q (sW w1 J ps) F listed a w)) := by exact Vm)
  (hdN : dj < N := by decide) (hpN : dp < N := by decide) (hgs : (i0 :: is).all (gAt ops j dj true N l) = true := by kernel_rfl) (hc : Nat.beq dj 1000000 = false := by exact rfl) (hne : dp ≠ 1000000 := by decide) (hs : Region.noSelect ops = true := by kernel_rfl) (hq : Sc ops ((i0 :: is) ++ [ip]) listed = true := by kernel_rfl) : wpAnyH P .any ops Q (sW w1 J ps) F listed a w :=
 WL i0 is ip x hP hR hS (fun _ => run hP hS) k hi h0 hj hdj hv hop hg hd ho hF hdN hpN hgs hc hne hs hq
theorem dOr (i0 : Nat) (is : List Nat) (ip : Nat) (x : Bool) (hR : Reg a N l) (k : ∀ a', Reg a' N ((dp, .bool (b || x)) :: l) → wpAnyH P .any ops Q (sW w1 J ps) fuel ((PV (i0 :: is) listed).setIfInBounds ip true) a' w) (hP : DD Q := by assumption) (hS : sW w1 J ps w := by assumption)
  (hi : ops[i0]? = some o := by exact rfl) (h0 : o.guard = some (j, false) := by exact rfl) (hj : ops[j]? = some oj := by exact rfl) (hdj : oj.dst = some dj := by exact rfl) (hv : l.lookup dj = some (.bool b) := by exact rfl)
  (hop : ops[ip]? = some op := by exact rfl) (hg : op.guard = none := by exact rfl) (hd : op.dst = some dp := by exact rfl) (ho : op.op = .pick (.tmp dj) (.const (.bool true)) Y := by exact rfl) (hF : UE (is.length + 2) F = some fuel := by exact rfl)
  (run : Xp (DD Q → sW w1 J ps w → Reg a N ((dj, .bool false) :: l) → gEnd N dj dp false x l (fun a' => wpAnyH P .any ops Q (sW w1 J ps) fuel ((PV (i0 :: is) listed).setIfInBounds ip true) a' w) → dGo ((i0 :: is) ++ [ip]) (wpAnyH P .any ops Q (sW w1 J ps) F listed a w)) := by exact Vm)
  (hdN : dj < N := by decide) (hpN : dp < N := by decide) (hgs : (i0 :: is).all (gAt ops j dj false N l) = true := by kernel_rfl) (hc : Nat.beq dj 1000000 = false := by exact rfl) (hne : dp ≠ 1000000 := by decide) (hs : Region.noSelect ops = true := by kernel_rfl) (hq : Sc ops ((i0 :: is) ++ [ip]) listed = true := by kernel_rfl) : wpAnyH P .any ops Q (sW w1 J ps) F listed a w :=
 d_or i0 is ip x hP hR hS (fun _ => run hP hS) k hi h0 hj hdj hv hop hg hd ho hF hdN hpN hgs hc hne hs hq
end
end
section
/- Plain laws of levels, names and fields. -/
def lvIndex : List Int → Int
 | [] => -1
 | n :: t => if 0 ≤ n ∧ n ≤ 9 then (let r := lvIndex t; if r < 0 then r else r + 1) else 0
def Ie (n : Int) : Int := if 0 ≤ n ∧ n ≤ 9 then 0 else 1
theorem Mz {t : List Int} {k : Nat} (hk : k < t.length) : t.drop k = Ci t k :: t.drop (k + 1) := by
 rw [List.drop_eq_getElem_cons hk]
 simp [Ci, hk]
theorem Mn {t : List Int} {k : Nat} (hi : lvIndex t = (let r := lvIndex (t.drop k); if r < 0 then r else r + (k : Int))) (hk : k < t.length) (h : 0 ≤ Ci t k ∧ Ci t k ≤ 9) :
  lvIndex t = (let r := lvIndex (t.drop (k + 1)); if r < 0 then r else r + ((k + 1 : Nat) : Int)) := by
 rw [Mz hk] at hi
 simp only [lvIndex, At h] at hi
 rw [hi]
 simp only
 generalize lvIndex (t.drop (k + 1)) = r
 by_cases h0 : r < 0
 · simp [h0]
 ·
  simp [h0, show ¬ (r + 1 < 0) by omega]
  omega
theorem Mp {t : List Int} {k : Nat} (hi : lvIndex t = (let r := lvIndex (t.drop k); if r < 0 then r else r + (k : Int))) (hk : k < t.length) (h : 0 ≤ Ci t k → 9 < Ci t k) : lvIndex t = (k : Int) := by
 rw [Mz hk] at hi
 simp only [lvIndex, Aq (show ¬ (0 ≤ Ci t k ∧ Ci t k ≤ 9) by omega)] at hi
 rw [hi]
 simp
theorem Mo {t : List Int} {k : Nat} (hi : lvIndex t = (let r := lvIndex (t.drop k); if r < 0 then r else r + (k : Int))) (hk : t.length ≤ k) : lvIndex t = -1 := by
 rw [List.drop_eq_nil_of_le hk] at hi
 rw [hi]
 simp [lvIndex]
theorem RQ {n : Int} (h : 0 ≤ lvIndex [n]) : Ie n = 1 := by
 unfold Ie
 simp only [lvIndex] at h
 split <;> simp_all
theorem PJ {n : Int} (h : lvIndex [n] < 0) : Ie n = 0 := by
 unfold Ie
 simp only [lvIndex] at h
 split <;> simp_all
def okC (c i : Nat) : Prop := (97 ≤ orB c 32 ∧ orB c 32 ≤ 122) ∨ c = 95 ∨ (i ≠ 0 ∧ 48 ≤ c ∧ c ≤ 57)
def HL (s : ByteArray) (k : Nat) : Prop := ∀ i, i < k → okC (CK s i) i
theorem IM (s : ByteArray) : HL s 0 := fun i h => by omega
theorem Qaq {s : ByteArray} {k : Nat} (hi : HL s k) (h : okC (CK s k) k) : HL s (k + 1) := fun i hk => by
 by_cases hik : i = k
 · subst hik; exact h
 · exact hi i (by omega)
set_option maxRecDepth 100000 in
theorem KU (c : UInt8) (i : Nat) : okC c.toNat i ↔ (letter c = true ∨ (i ≠ 0 ∧ Ui c = true)) := by
 have h := RS ⟨c.toNat, UInt8.toNat_lt c⟩
 simp only [UInt8.ofNat_toNat] at h
 have hd : Ui c = true ↔ 48 ≤ c.toNat ∧ c.toNat ≤ 57 := by
  unfold Ui
  simp [UInt8.le_iff_toNat_le]
 unfold okC
 rw [← h, hd]
 omega
theorem Jl {s : ByteArray} {i : Nat} {c : UInt8} (h : s.data.toList[i]? = some c) : CK s i = c.toNat := by
 obtain ⟨hlt, h2⟩ := List.getElem?_eq_some_iff.1 h
 have hl : i < s.size := by rw [Array.length_toList] at hlt; exact hlt
 unfold CK
 rw [dif_pos hl]
 congr 1
theorem Il (s : ByteArray) : CJ s = true ↔ 0 < s.size ∧ s.size ≤ 16 ∧ HL s s.size := by
 have hsz : s.size = s.data.toList.length := by rw [Array.length_toList]; rfl
 unfold CJ
 cases hl : s.data.toList with
 | nil =>
  rw [hl] at hsz
  simp at hsz
  simp [hsz]
 | cons c r =>
  have h0 : CK s 0 = c.toNat := Jl (by rw [hl]; rfl)
  rw [hl] at hsz
  have hsz' : s.size = r.length + 1 := hsz
  clear hsz
  simp only [AK, B8, List.all_eq_true, FT]
  constructor
  ·
   rintro ⟨⟨h1, h2⟩, h3⟩
   refine ⟨by omega, h1, fun i hi => ?_⟩
   cases i with
   | zero => rw [h0, KU]; exact .inl h2
   | succ i =>
    have hlt : i < r.length := by omega
    rw [Jl (c := r[i]) (by rw [hl]; simp [hlt]), KU]
    rcases h3 _ (List.getElem_mem hlt) with h | h
    · exact .inl h
    · exact .inr ⟨by omega, h⟩
  ·
   rintro ⟨h1, h2, h3⟩
   refine ⟨⟨h2, ?_⟩, fun x hx => ?_⟩
   ·
    have := h3 0 h1
    rw [h0, KU] at this
    rcases this with h | h
    · exact h
    · exact absurd rfl h.1
   ·
    obtain ⟨i, hlt, rfl⟩ := List.mem_iff_getElem.1 hx
    have := h3 (i + 1) (by omega)
    rw [Jl (c := r[i]) (by rw [hl]; simp [hlt]), KU] at this
    rcases this with h | h
    · exact .inl h
    · exact .inr h.2
theorem OB {s : ByteArray} {k : Nat} (hk : k < s.size) (h : ¬ okC (CK s k) k) : CJ s = false := by
 rw [Bool.eq_false_iff]
 intro e
 exact h ((Il s).1 e |>.2.2 k hk)
theorem Gj {s : ByteArray} : s = (⟨#[]⟩ : ByteArray) ↔ s.size = 0 := by
 constructor
 · rintro rfl; rfl
 ·
  intro h
  cases s with
  | mk d =>
   have h' : d.size = 0 := h
   rw [Array.size_eq_zero_iff.1 h']
theorem TI {s : ByteArray} {k : Nat} (hi : HL s k) (hk : s.size ≤ k) : CJ s = ((!decide (s = (⟨#[]⟩ : ByteArray))) && decide (((s.size : Nat) : Int) ≤ 16)) := by
 rw [Bool.eq_iff_iff, Il]
 simp only [AK, ET, B8, Di, Gj]
 constructor
 · rintro ⟨h1, h2, _⟩; omega
 · rintro ⟨h1, h2⟩; exact ⟨by omega, by omega, fun i h => hi i (by omega)⟩
def TS (c : Nat) : Bool := ((decide ((97 : Int) ≤ c) && decide ((c : Int) ≤ 122)) || (decide ((65 : Int) ≤ c) && decide ((c : Int) ≤ 90))) || decide ((c : Int) = 95)
def Rs (n : Nd) : Bool := decide (n.N = 0) && decide (n.M = 0) && decide (n.S = (⟨#[]⟩ : ByteArray))
set_option maxRecDepth 100000 in
theorem Wu : ∀ c : Fin 256, TS c.val = true ↔ ((97 ≤ orB c.val 32 ∧ orB c.val 32 ≤ 122) ∨ c.val = 95) := by decide
theorem R2 {c i : Nat} (hc : c < 256) : okC c i ↔ (TS c = true ∨ (i ≠ 0 ∧ 48 ≤ c ∧ c ≤ 57)) := by
 have h := Wu ⟨c, hc⟩
 simp only at h
 unfold okC
 rw [h]
 omega
def BX (n : Nd) : List Int := if n.K = 26 ∨ n.K = 27 then (if right n then binds n else []) else if 0 ≤ n.K ∧ n.K < 30 then (shp n.K.toNat).b else []
theorem FO {n : Nd} (h : right n = true) : BX n = binds n := by
 have := Ng h
 unfold BX binds
 by_cases h1 : n.K = 26
 · simp [h1, h, binds]
 ·
  by_cases h2 : n.K = 27
  · simp [h2, h, binds]
  · simp [h1, h2, this]
def E3 (n : Nd) : Bool :=
 (((!((shp (((n.K)).toNat)).n)) && (!(decide ((n.N) = 0)))) || (((!((shp (((n.K)).toNat)).m)) && (!(decide ((n.M) = 0)))) || (((!((shp (((n.K)).toNat)).s)) && (!(decide (n.S = (⟨#[]⟩ : ByteArray))))) || ((shp (((n.K)).toNat)).s && (!(CJ n.S))))))
theorem Ec (n : Nd) : right n = true ↔ (0 ≤ n.K ∧ n.K < 30) ∧ E3 n = false ∧ ((shp n.K.toNat).n = true → 0 ≤ n.N ∧ n.N ≤ if n.K = 2 then 9 else most n.K) ∧ ((shp n.K.toNat).m = true → 0 ≤ n.M ∧ n.M ≤ 6) := by
 unfold right E3
 have hS : n.S = (⟨#[]⟩ : ByteArray) ↔ n.S.size = 0 := Gj
 simp only [AK, B8]
 rw [and_assoc, and_assoc, ← and_assoc (a := 0 ≤ n.K)]
 refine and_congr_right fun _ => ?_
 cases h1 : (shp n.K.toNat).n <;> cases h2 : (shp n.K.toNat).m <;> cases h3 : (shp n.K.toNat).s <;> simp [hS] <;> try (constructor <;> (rintro ⟨h4, h5, h6⟩; simp_all))
theorem shp_m (k : Nat) : (shp k).m = true ↔ k = 26 ∨ k = 27 := by
 unfold shp
 split <;> simp_all
theorem LU {n : Nd} (h : n.K < 0 ∨ 30 ≤ n.K) : right n = false := by
 rw [Bool.eq_false_iff]
 intro e
 have := ((Ec n).1 e).1
 omega
theorem QS {n : Nd} (h : E3 n = true) : right n = false := by
 rw [Bool.eq_false_iff]
 intro e
 have := ((Ec n).1 e).2.1
 rw [h] at this
 cases this
theorem P1 {n : Nd} (h : E3 n = false) (hk : n.K = 2) : right n = decide (Ie n.N = 0) := by
 rw [Bool.eq_iff_iff, Ec]
 simp [h, hk, shp, Ie]
theorem JN {n : Nd} (h : E3 n = false) (hk : n.K = 26) : right n = decide (0 ≤ n.N ∧ n.N ≤ most n.K ∧ 0 ≤ n.M ∧ n.M ≤ 6) := by
 rw [Bool.eq_iff_iff, Ec]
 simp [h, hk, shp]
 omega
theorem Nf {n : Nd} (h : E3 n = false) (hk : n.K = 27) : right n = decide (0 ≤ n.M ∧ n.M ≤ 6) := by
 rw [Bool.eq_iff_iff, Ec]
 simp [h, hk, shp]
theorem I4 {n : Nd} (h : E3 n = false) (h0 : 0 ≤ n.K) (h1 : n.K < 30) (hk : ¬ n.K = 2) (hk1 : ¬ n.K = 26) (hk2 : ¬ n.K = 27) : right n = (!(shp n.K.toNat).n || decide (0 ≤ n.N ∧ n.N ≤ most n.K)) := by
 have hm : (shp n.K.toNat).m = false := by
  rw [Bool.eq_false_iff]
  intro e
  rw [shp_m] at e
  omega
 rw [Bool.eq_iff_iff, Ec]
 simp only [h, hk, hm, h0, h1]
 cases (shp n.K.toNat).n <;> simp
theorem Pz {s : ByteArray} {k : Nat} (h0 : TS (CK s 0) = true) (h : TS (CK s k) = true ∨ (48 ≤ CK s k ∧ CK s k ≤ 57)) : okC (CK s k) k := by
 rw [R2 (Gd _ _)]
 by_cases hk : k = 0
 · subst hk; exact .inl h0
 ·
  rcases h with h | h
  · exact .inl h
  · exact .inr ⟨hk, h⟩
theorem QQ {s : ByteArray} {k : Nat} (hk : k < s.size) (h1 : TS (CK s k) = false) (h2 : CK s k < 48 ∨ 57 < CK s k) : CJ s = false := by
 refine OB hk ?_
 rw [R2 (Gd _ _), h1]
 simp
 omega
theorem P0 {s : ByteArray} (h : (s.size < 1 ∨ 16 < s.size) ∨ TS (CK s 0) = false) : CJ s = false := by
 rw [Bool.eq_false_iff]
 intro e
 obtain ⟨h1, h2, h3⟩ := (Il s).1 e
 rcases h with h | h
 · omega
 ·
  have := (R2 (Gd s 0)).1 (h3 0 h1)
  rw [h] at this
  simp at this
theorem QP {s : ByteArray} {k : Nat} (hi : HL s k) (hk : s.size ≤ k) (h1 : 1 ≤ s.size) (h2 : s.size ≤ 16) : CJ s = true :=
 (Il s).2 ⟨by omega, h2, fun i h => hi i (by omega)⟩
theorem Fu {n : Nd} (h : n.K = 0) : right n = decide (0 ≤ n.N ∧ n.N ≤ 99 ∧ n.M = 0 ∧ n.S = (⟨#[]⟩ : ByteArray)) := by
 rw [Bool.eq_iff_iff]; simp [right, h, shp, most, Gj, and_assoc]
theorem QR {n : Nd} (h : n.K = 1 ∨ n.K = 25) : right n = decide (n.N = 0 ∧ n.M = 0 ∧ CJ n.S = true) := by
 rw [Bool.eq_iff_iff]; rcases h with h | h <;> simp [right, h, shp, and_assoc]
theorem Nc {n : Nd} (h : n.K = 2) : right n = decide (Ie n.N = 0 ∧ n.M = 0 ∧ n.S = (⟨#[]⟩ : ByteArray)) := by
 rw [Bool.eq_iff_iff]; simp [right, h, shp, Ie, Gj, and_assoc]
theorem KH {n : Nd} (h : n.K = 3 ∨ n.K = 6) : right n = decide (0 ≤ n.N ∧ n.N ≤ 3 ∧ n.M = 0 ∧ n.S = (⟨#[]⟩ : ByteArray)) := by
 rw [Bool.eq_iff_iff]; rcases h with h | h <;> simp [right, h, shp, most, Gj, and_assoc]
theorem Fv {n : Nd} (h : n.K = 26) : right n = decide (CJ n.S = true ∧ 0 ≤ n.N ∧ n.N < 6 ∧ 0 ≤ n.M ∧ n.M ≤ 6) := by
 rw [Bool.eq_iff_iff]
 simp [right, h, shp, most]
 constructor
 · rintro ⟨⟨⟨h1, h2⟩, h3, h4⟩, h5⟩; exact ⟨h5, h1, by omega, h3, h4⟩
 · rintro ⟨h5, h1, h2, h3, h4⟩; exact ⟨⟨⟨h1, by omega⟩, h3, h4⟩, h5⟩
theorem FF {n : Nd} (h : n.K = 27) : right n = decide (CJ n.S = true ∧ n.N = 0 ∧ 0 ≤ n.M ∧ n.M ≤ 6) := by
 rw [Bool.eq_iff_iff]
 simp [right, h, shp]
 constructor
 · rintro ⟨⟨h1, h3, h4⟩, h5⟩; exact ⟨h5, h1, h3, h4⟩
 · rintro ⟨h5, h1, h3, h4⟩; exact ⟨⟨h1, h3, h4⟩, h5⟩
theorem QC (k : Nat) (h : k ≠ 0 ∧ k ≠ 1 ∧ k ≠ 2 ∧ k ≠ 3 ∧ k ≠ 6 ∧ k ≠ 25 ∧ k ≠ 26 ∧ k ≠ 27) : (shp k).n = false ∧ (shp k).m = false ∧ (shp k).s = false := by
 unfold shp
 split <;> simp_all
theorem Dv {n : Nd} (h1 : 0 ≤ n.K) (h2 : n.K < 30) (h : n.K ≠ 0 ∧ n.K ≠ 1 ∧ n.K ≠ 2 ∧ n.K ≠ 3 ∧ n.K ≠ 6 ∧ n.K ≠ 25 ∧ n.K ≠ 26 ∧ n.K ≠ 27) : right n = Rs n := by
 obtain ⟨h3, h4, h5⟩ := QC n.K.toNat (by omega)
 rw [Bool.eq_iff_iff]
 simp [right, Rs, h1, h2, h3, h4, h5, Gj]
theorem Qg {n : Nd} (h : n.K < 0 ∨ 30 ≤ n.K) : BX n = [] := by
 unfold BX
 rw [Aq (by omega), Aq (by omega)]
theorem MI {n : Nd} (h : n.K = 26 ∨ n.K = 27) (hr : right n = false) : BX n = [] := by
 unfold BX
 rw [At h, Aq (by simp [hr])]
theorem SI {n : Nd} (h : n.K = 26) (hr : right n = true) : BX n = List.replicate n.M.toNat 0 := by
 unfold BX
 rw [At (.inl h), At hr]
 simp [binds, h]
theorem Qh {n : Nd} (h : n.K = 27) (hr : right n = true) : BX n = [1] ++ List.replicate (n.M.toNat + 1) 0 := by
 unfold BX
 rw [At (.inr h), At hr]
 simp [binds, h]
end
section
/- Plain laws of measures: where each node's term begins, and how deep it is. -/
def meas (o : Int) : List T → List (Int × Int)
 | [] => []
 | t :: l => (o, (t.deep : Int)) :: meas (o + t.flat.length) l
mutual
def Ti (o : Int) : T → List (Int × Int)
 | .mk _ l => Dq o l ++ [(o, ((BZ l + 1 : Nat) : Int))]
def Dq (o : Int) : List T → List (Int × Int)
 | [] => []
 | t :: l => Ti o t ++ Dq (o + t.flat.length) l
end
theorem Ed (o : Int) (l : List T) : (meas o l).length = l.length := by
 induction l generalizing o with
 | nil => rfl
 | cons t l ih => simp [meas, ih]
theorem G7 (o : Int) (a b : List T) : meas o (a ++ b) = meas o a ++ meas (o + (AA a).length) b := by
 induction a generalizing o with
 | nil => simp [meas, AZ]
 | cons t a ih => simp [meas, ih, Bh, Int.add_assoc]
theorem HU (o : Int) (a b : List T) : Dq o (a ++ b) = Dq o a ++ Dq (o + (AA a).length) b := by
 induction a generalizing o with
 | nil => simp [Dq, AZ]
 | cons t a ih => simp [Dq, ih, Bh, Int.add_assoc]
mutual
theorem Js (o : Int) : ∀ t : T, (Ti o t).length = t.flat.length
 | .mk n l => by
  simp only [Ti, Bi, Ab, Fg o l]
  rfl
theorem Fg (o : Int) : ∀ l : List T, (Dq o l).length = (AA l).length
 | [] => by simp [Dq, AZ]
 | t :: l => by simp only [Dq, Bh, Ab, Js o t, Fg _ l]
end
theorem GD (n : Nd) (l : List T) : (T.mk n l).deep = BZ l + 1 := by simp [T.deep]
theorem OZ {t : T} {l : List T} (h : t ∈ l) : t.deep ≤ BZ l := by
 induction l with
 | nil => cases h
 | cons u l ih =>
  simp only [BZ]
  rcases AD.1 h with rfl | h
  · omega
  · have := ih h; omega
mutual
theorem M2 : ∀ t : T, t.deep ≤ t.flat.length
 | .mk n l => by
  have := Gt l
  simp only [T.deep, Bi, Ab, Bv]
  omega
theorem Gt : ∀ l : List T, BZ l ≤ (AA l).length
 | [] => by simp [BZ]
 | t :: l => by
  have h1 := M2 t
  have h2 := Gt l
  simp only [BZ, Bh, Ab]
  omega
end
def Fm (k : Nat) (L : List (Int × Int)) (b q : Nat) : Int := if q = 0 then k else (Ht L b).1
def EV (L : List (Int × Int)) (b : Nat) : Nat → Int
 | 0 => 1
 | q + 1 => max (EV L b q) ((Ht L (b + q)).2 + 1)
theorem Hd {st : List T} {i : Nat} (h : i < st.length) : ∃ o, Ht (meas 0 st) i = (o, (st[i].deep : Int)) ∧ o = ((AA (st.take i)).length : Int) := by
 have h1 : meas 0 st = meas 0 (st.take i) ++ meas (0 + (AA (st.take i)).length) (st.drop i) := by
  rw [← G7, List.take_append_drop]
 have h2 : st.drop i = st[i] :: st.drop (i + 1) := List.drop_eq_getElem_cons h
 have hl : (meas 0 (st.take i)).length = i := by rw [Ed, Ah]; omega
 refine ⟨_, ?_, rfl⟩
 rw [Ht, h1, h2, meas, AP, DV (by omega), hl]
 simp
theorem HM {st : List T} {i : Nat} : 0 ≤ (Ht (meas 0 st) i).2 ∧ (Ht (meas 0 st) i).2 ≤ (AA st).length := by
 by_cases h : i < st.length
 ·
  obtain ⟨o, h1, _⟩ := Hd h
  rw [h1]
  have h2 := OZ (List.getElem_mem h)
  have h3 := Gt st
  constructor
  · simp
  ·
   simp only
   omega
 ·
  have : Ht (meas 0 st) i = (0, 0) := by
   rw [Ht, AP, List.getElem?_eq_none (by rw [Ed]; omega)]
   rfl
  rw [this]
  simp
theorem Uk {st : List T} {b q : Nat} : 1 ≤ EV (meas 0 st) b q ∧ EV (meas 0 st) b q ≤ (AA st).length + 1 := by
 induction q with
 | zero => simp only [EV]; omega
 | succ q ih =>
  have := HM (st := st) (i := b + q)
  simp only [EV]
  omega
theorem Kt {st : List T} {b : Nat} : ∀ {q : Nat}, b + q ≤ st.length → EV (meas 0 st) b q = ((BZ ((st.drop b).take q) + 1 : Nat) : Int)
 | 0, _ => by simp [EV, BZ]
 | q + 1, h => by
  have ih := Kt (st := st) (b := b) (q := q) (by omega)
  obtain ⟨o, h1, _⟩ := Hd (st := st) (i := b + q) (by omega)
  have ht : (st.drop b).take (q + 1) = (st.drop b).take q ++ [st[b + q]] := by
   rw [List.take_add_one, List.getElem?_drop, Bx (by omega)]
   rfl
  have hd : ∀ a b : List T, BZ (a ++ b) = max (BZ a) (BZ b) := by
   intro a b
   induction a with
   | nil => simp [BZ]
   | cons t a ih => simp [BZ, ih, Nat.max_assoc]
  simp only [EV, ih, h1, ht, hd, BZ]
  omega
theorem ID {st st' : List T} {n : Nd} {k : Nat} (h : E5 st n = some st') (hk : (AA st).length = k) :
  meas 0 st' = (meas 0 st).take (st.length - many n) ++ [(Fm k (meas 0 st) (st.length - many n) (many n), EV (meas 0 st) (st.length - many n) (many n))] ∧
  Dq 0 st' = Dq 0 st ++ [(Fm k (meas 0 st) (st.length - many n) (many n), EV (meas 0 st) (st.length - many n) (many n))] := by
 unfold E5 at h
 split at h
 ·
  rename_i hc
  simp only [AK, B8] at hc
  obtain rfl := B4 h
  have hb : st.length - many n + many n ≤ st.length := by omega
  have hd := Kt hb
  rw [AM (by rw [BK]; omega)] at hd
  rw [hd]
  have hf : Fm k (meas 0 st) (st.length - many n) (many n) = 0 + ((AA (st.take (st.length - many n))).length : Int) := by
   unfold Fm
   split
   ·
    rename_i h0
    rw [h0, Nat.sub_zero, CQ, hk]
    omega
   ·
    obtain ⟨o, h1, h2⟩ := Hd (st := st) (i := st.length - many n) (by omega)
    rw [h1, h2]
    omega
  have e1 : (meas 0 st).take (st.length - many n) = meas 0 (st.take (st.length - many n)) := by
   have hm : meas 0 st = meas 0 (st.take (st.length - many n)) ++ meas (0 + (AA (st.take (st.length - many n))).length) (st.drop (st.length - many n)) := by
    rw [← G7, List.take_append_drop]
   rw [hm, List.take_left' (by rw [Ed, Ah]; omega)]
  have e2 : Dq 0 st = Dq 0 (st.take (st.length - many n)) ++ Dq (0 + (AA (st.take (st.length - many n))).length) (st.drop (st.length - many n)) := by
   rw [← HU, List.take_append_drop]
  constructor
  ·
   rw [G7, hf, e1]
   simp [meas, GD]
  ·
   rw [HU, hf, e2, BG]
   simp [Dq, Ti]
 · cases h
def DB (t : List Nd) : List (Int × Int) := match CM [] t with
 | some st => Dq 0 st
 | none => []
def BW (t : List Nd) : Bool := match CM [] t with
 | some [_] => true
 | _ => false
theorem K8 {t : List Nd} {k : Nat} (h : k < t.length) : t.take (k + 1) = t.take k ++ [nth t k] := by
 rw [List.take_add_one, Bx h]
 simp [nth, h]
theorem EK {t : List Nd} {k : Nat} {st : List T} (h : CM [] (t.take k) = some st) (hk : k < t.length) : CM [] (t.take (k + 1)) = E5 st (nth t k) := by
 rw [K8 hk, DN, h]
 simp only [Option.bind_some, CM]
 cases E5 st (nth t k) <;> rfl
theorem GQ {t : List Nd} {k : Nat} {st : List T} (h : CM [] (t.take k) = some st) (hk : k < t.length) (hp : E5 st (nth t k) = none) : CM [] t = none := by
 have : t = t.take (k + 1) ++ t.drop (k + 1) := (List.take_append_drop _ _).symm
 rw [this, DN, EK h hk, hp]
 rfl
theorem Gk {t : List Nd} {k : Nat} {st : List T} (h : CM [] (t.take k) = some st) (hk : k ≤ t.length) : (AA st).length = k := by
 rw [(Fs h (by simp [T.wfs])).1]
 simp [AZ, hk]
theorem IC {st : List T} {n : Nd} (h : right n = false ∨ st.length < many n) : E5 st n = none := by
 unfold E5
 rw [Aq]
 simp only [AK, B8]
 rintro ⟨h1, h2⟩
 rcases h with h | h
 · rw [h1] at h; cases h
 · omega
theorem FV {st : List T} {n : Nd} (h : right n = true) (h2 : many n ≤ st.length) : ∃ st', E5 st n = some st' ∧ st'.length = st.length - many n + 1 := by
 unfold E5
 rw [At (by simp [h, h2])]
 exact ⟨_, rfl, by simp⟩
def sml (t : List Nd) : Prop := ∀ k, k < t.length → (nth t k).S.size < 1000000
theorem RG {t : List Nd} {st : List T} (h : CM [] t = some st) : DB t = Dq 0 st := by
 unfold DB
 rw [h]
theorem Mk {t : List Nd} {st : List T} (h : CM [] t = some st) : BW t = decide (((st.length : Nat) : Int) = 1) := by
 unfold BW
 rw [h]
 cases st with
 | nil => rfl
 | cons a l => cases l with
  | nil => simp
  | cons b l => simp; omega
theorem KW {t : List Nd} (h : CM [] t = none) : DB t = [] ∧ BW t = false := by
 unfold DB BW
 rw [h]
 exact ⟨rfl, rfl⟩
theorem D0 {t : List Nd} (h : BW t = true) : ∃ x : T, CM [] t = some [x] ∧ DB t = Ti 0 x ∧ x.wf = true ∧ x.flat = t := by
 unfold BW at h
 split at h
 ·
  rename_i x hs
  have := Fs hs (by simp [T.wfs])
  simp [AA, T.wfs] at this
  exact ⟨x, hs, by unfold DB; rw [hs]; simp [Dq], this.2, this.1⟩
 · cases h
theorem Jt (x : T) : Ht (Ti 0 x) ((Ti 0 x).length - 1) = (0, (x.deep : Int)) ∧ 0 < (Ti 0 x).length := by
 cases x with
 | mk n l =>
  simp only [Ti, GD]
  constructor
  · simp [Ht]
  · simp
theorem RF {t : List Nd} (h : BW t = true) : 0 < (DB t).length := by
 obtain ⟨x, _, h2, _⟩ := D0 h
 rw [h2]
 exact (Jt x).2
theorem HN {t : List Nd} (h : BW t = true) : (DB t).length = t.length := by
 obtain ⟨x, _, h2, _, h4⟩ := D0 h
 rw [h2, Js, h4]
theorem Lu {t : List Nd} (hl : t.length ≤ 4000) (h : BW t = false) : chk t = 20 := by
 unfold chk
 rw [Aq (by omega)]
 unfold BW at h
 rcases hs : CM [] t with _ | _ | ⟨x, _ | ⟨y, l⟩⟩
 · rfl
 · rfl
 · rw [hs] at h; cases h
 · rfl
theorem Lv {t : List Nd} (hl : t.length ≤ 4000) (h : BW t = true) (hd : 60 < (Ht (DB t) ((DB t).length - 1)).2) : chk t = 22 := by
 obtain ⟨x, hs, h2, _⟩ := D0 h
 rw [h2, (Jt x).1] at hd
 unfold chk
 rw [Aq (by omega), hs]
 simp only
 rw [At]
 simp only at hd
 omega
theorem Lt {t : List Nd} (hl : t.length ≤ 4000) (h : BW t = true) (hd : ¬ 60 < (Ht (DB t) ((DB t).length - 1)).2) : chk t = 0 := by
 obtain ⟨x, hs, h2, _⟩ := D0 h
 rw [h2, (Jt x).1] at hd
 unfold chk
 rw [Aq (by omega), hs]
 simp only
 rw [Aq]
 simp only at hd
 omega
theorem Ho {t : List Nd} (hl : 4000 < t.length) : chk t = 21 := by
 unfold chk
 rw [At (by omega)]
def EU (t : List Nd) : List (Int × Int) := if chk t = 0 then DB t else []
theorem IV {t : List Nd} (h : ¬ chk t = 0) : EU t = [] := by unfold EU; rw [Aq h]
theorem Kj {t : List Nd} (h : chk t = 0) : EU t = DB t := by unfold EU; rw [At h]
theorem FL {t : List Nd} (h : chk t = 0) : 0 < t.length := by
 obtain ⟨x, _, rfl, _⟩ := Pc.1 h
 exact EJ x
end
section
/- Plain laws of the document's check. -/
theorem DU {n : Nd} (h : right n = true) : (BX n).length = many n := by
 rw [FO h]
 rfl
theorem Uw (n : Nd) : (BX n).length ≤ 8 := by
 by_cases h : right n = true
 · rw [DU h]; exact FY h
 ·
  unfold BX
  have := QD n.K.toNat
  split
  · simp
  ·
   split
   · omega
   · simp
def dl (st : List T) : List Int := st.map fun x => (x.deep : Int)
theorem Je (st : List T) : (dl st).length = st.length := by simp [dl]
theorem Ga (a b : List T) : BZ (a ++ b) = max (BZ a) (BZ b) := by
 induction a with
 | nil => simp [BZ]
 | cons t a ih => simp [BZ, ih, Nat.max_assoc]
def Ju (st : List T) (j : Nat) : Int := (BZ (st.drop (st.length - j)) : Int)
theorem RH (st : List T) : Ju st 0 = 0 := by simp [Ju, BZ]
theorem RI {st : List T} {j : Nat} (h : j < st.length) : max (Ju st j) (Ci (dl st) (st.length - j - 1)) = Ju st (j + 1) := by
 have h1 : st.length - j - 1 < st.length := by omega
 have h2 : Ci (dl st) (st.length - j - 1) = (st[st.length - j - 1].deep : Int) := by simp [Ci, dl, h1]
 have h3 : st.drop (st.length - (j + 1)) = st[st.length - j - 1] :: st.drop (st.length - j) := by
  rw [show st.length - (j + 1) = st.length - j - 1 by omega, List.drop_eq_getElem_cons h1, show st.length - j - 1 + 1 = st.length - j by omega]
 rw [h2, Ju, Ju, h3, BZ]
 omega
theorem Wp {st : List T} {j : Nat} : 0 ≤ Ju st j ∧ Ju st j ≤ (AA st).length := by
 have h1 := Gt (st.drop (st.length - j))
 have h2 : (AA st).length = (AA (st.take (st.length - j))).length + (AA (st.drop (st.length - j))).length := by
  rw [← Ab, ← C4, List.take_append_drop]
 unfold Ju
 omega
theorem Nq {st st' : List T} {n : Nd} (h : E5 st n = some st') : dl st' = (dl st).take (st.length - many n) ++ [Ju st (many n) + 1] ∧ BZ st ≤ BZ st' ∧ Ju st (many n) + 1 ≤ (BZ st' : Int) := by
 unfold E5 at h
 split at h
 ·
  rename_i hc
  simp only [AK, B8] at hc
  obtain rfl := B4 h
  have hs : st = st.take (st.length - many n) ++ st.drop (st.length - many n) := (List.take_append_drop _ _).symm
  have h1 : BZ st = max (BZ (st.take (st.length - many n))) (BZ (st.drop (st.length - many n))) := by rw [← Ga, List.take_append_drop]
  refine ⟨?_, ?_, ?_⟩
  · simp [dl, Ju, GD, List.map_take]
  ·
   rw [Ga, h1]
   simp only [BZ, GD]
   omega
  ·
   rw [Ga]
   simp only [BZ, GD, Ju]
   omega
 · cases h
theorem Pw {t : List Nd} : ∀ {st st' : List T}, CM st t = some st' → BZ st ≤ BZ st' := by
 induction t with
 | nil => intro st st' h; simp only [CM] at h; obtain rfl := B4 h; exact Af _
 | cons n t ih =>
  intro st st' h
  simp only [CM] at h
  cases hp : E5 st n with
  | none => simp [hp] at h
  | some s =>
   simp only [hp] at h
   exact Bo (Nq hp).2.1 (ih h)
def NT (t : List Nd) : Bool := match CM [] t with
 | some [x] => decide (60 < x.deep)
 | _ => false
theorem PZ {t : List Nd} {k : Nat} {st : List T} (hb : BW t = true) (h : CM [] (t.take k) = some st) (hk : k < t.length) (hr : right (nth t k) = true) (hm : many (nth t k) ≤ st.length) (hd : 60 < Ju st (many (nth t k)) + 1) : NT t = true := by
 obtain ⟨x, hs, _⟩ := D0 hb
 obtain ⟨st', hp, _⟩ := FV hr hm
 have h1 := EK h hk
 rw [hp] at h1
 have h2 : CM st' (t.drop (k + 1)) = some [x] := by
  have := hs
  rw [show t = t.take (k + 1) ++ t.drop (k + 1) from (List.take_append_drop _ _).symm, DN, h1] at this
  simpa using this
 have h3 := Pw h2
 have h4 := (Nq hp).2.2
 unfold NT
 rw [hs]
 simp only [BZ] at h3
 simp only [B8]
 omega
def KC (st : List T) : Prop := ∀ x ∈ st, x.deep ≤ 60
theorem LK {st st' : List T} {n : Nd} (h : E5 st n = some st') (hs : KC st) (hd : ¬ 60 < Ju st (many n) + 1) : KC st' := by
 unfold E5 at h
 split at h
 ·
  obtain rfl := B4 h
  intro x hx
  rcases B5.1 hx with hx | hx
  · exact hs x (List.mem_of_mem_take hx)
  ·
   rw [AB] at hx
   subst hx
   rw [GD]
   unfold Ju at hd
   omega
 · cases h
theorem NS {t : List Nd} {st : List T} (h : CM [] t = some st) (hs : KC st) : NT t = false := by
 unfold NT
 rw [h]
 match st, hs with
 | [], _ => rfl
 | [x], hs => simp [hs x (by simp)]
 | x :: y :: l, _ => rfl
theorem MA {t : List Nd} (hl : t.length ≤ 4000) (h : BW t = true) : chk t = if NT t = true then 22 else 0 := by
 obtain ⟨x, hs, _⟩ := D0 h
 unfold chk NT
 rw [Aq (by omega), hs]
 simp only [B8]
theorem Tj {t : List Nd} {k : Nat} {st : List T} (h : CM [] (t.take k) = some st) (hk : k < t.length) (hq : right (nth t k) = false ∨ ((st.length : Nat) : Int) < (((BX (nth t k)).length : Nat) : Int)) : BW t = false := by
 refine (KW (GQ h hk (IC ?_))).2
 rcases En (right (nth t k)) with hr | hr
 ·
  rcases hq with h | h
  · exact .inl h
  ·
   rw [DU hr] at h
   exact .inr (by omega)
 · exact .inl hr
theorem OG {t : List Nd} {k : Nat} {st : List T} (hb : BW t = true) (h : CM [] (t.take k) = some st) (hk : k < t.length) : right (nth t k) = true ∧ many (nth t k) ≤ st.length := by
 obtain ⟨x, hs, _⟩ := D0 hb
 cases hp : E5 st (nth t k) with
 | none => rw [GQ h hk hp] at hs; cases hs
 | some s =>
  unfold E5 at hp
  split at hp
  ·
   rename_i hc
   simp only [AK, B8] at hc
   exact hc
  · cases hp
theorem LO {t u : List Nd} {k : Nat} (hi : t.take k = u.take k) (hk : k < t.length) (hu : k < u.length) (h : nth t k = nth u k) : t.take (k + 1) = u.take (k + 1) := by
 rw [K8 hk, K8 hu, hi, h]
theorem Oq {t u : List Nd} (h : ¬ t.length = u.length) : decide (t = u) = false := by
 rw [Di]
 rintro rfl
 exact h rfl
theorem QJ {t u : List Nd} {k : Nat} (hk : k < t.length) (hu : k < u.length) (h : ¬ nth t k = nth u k) : decide (t = u) = false := by
 rw [Di]
 rintro rfl
 exact h rfl
theorem Or {t u : List Nd} {k : Nat} (hi : t.take k = u.take k) (hk : t.length ≤ k) (hu : u.length ≤ k) : decide (t = u) = true := by
 rw [AM hk, AM hu] at hi
 simpa using hi
def Df (b : Nat) (t : List Nd) : Bool := decide (b < t.length) || t.any fun n => decide (100 < n.S.size)
def Lf (t : List Nd) (k : Nat) : Prop := ∀ i, i < k → (nth t i).S.size ≤ 100
theorem PL {t : List Nd} {k : Nat} (hi : Lf t k) (h : (nth t k).S.size ≤ 100) : Lf t (k + 1) := fun i hik => by
 by_cases e : i = k
 · subst e; exact h
 · exact hi i (by omega)
theorem G6 {t : List Nd} {k : Nat} (h : k < t.length) : nth t k ∈ t := by
 have : nth t k = t[k] := by simp [nth, h]
 rw [this]
 exact List.getElem_mem h
theorem Sb {b : Nat} {t : List Nd} (h : b < t.length) : Df b t = true := by simp [Df, h]
theorem Ub {b : Nat} {t : List Nd} {k : Nat} (hk : k < t.length) (h : 100 < (nth t k).S.size) : Df b t = true := by
 unfold Df
 rw [FT, F3]
 exact .inr ⟨_, G6 hk, by simpa using h⟩
theorem Ua {b : Nat} {t : List Nd} {k : Nat} (hi : Lf t k) (hk : t.length ≤ k) (hl : t.length ≤ b) : Df b t = false := by
 unfold Df
 rw [Bool.or_eq_false_iff]
 refine ⟨by simpa using hl, ?_⟩
 rw [List.any_eq_false]
 intro n hn
 obtain ⟨i, hlt, rfl⟩ := List.mem_iff_getElem.1 hn
 have := hi i (by omega)
 have e : nth t i = t[i] := by simp [nth, hlt]
 rw [e] at this
 simp
 omega
theorem G9 {b : Nat} {t : List Nd} (h : Df b t = false) : t.length ≤ b ∧ sml t := by
 unfold Df at h
 rw [Bool.or_eq_false_iff] at h
 refine ⟨by simpa using h.1, fun k hk => ?_⟩
 have := List.any_eq_false.1 h.2 _ (G6 hk)
 simp at this
 omega
theorem Hl {p : List Sl} {k : Nat} (h : k < p.length) : (Bt (p.take (k + 1))).flatten = (Bt (p.take k)).flatten ++ (BF p k).2.2 := by
 have e : p.take (k + 1) = p.take k ++ [BF p k] := by
  rw [List.take_add_one, Bx h]
  simp [BF, h]
 rw [e]
 simp only [Bt, C3, List.flatten_append, BJ, C6, Em, List.flatten_nil, CL]
theorem WD {p : List Sl} {k b : Nat} (hb : ∀ s ∈ p, s.2.2.length ≤ b) (h : k ≤ p.length) : (Bt (p.take k)).flatten.length ≤ k * b ∧ (BF p k).2.2.length ≤ b := by
 constructor
 ·
  induction k with
  | zero => simp [Bt]
  | succ k ih =>
   rw [Hl (by omega), Ab, Nat.add_mul]
   have := ih (by omega)
   have := hb _ (Hc (t := p) (k := k) (by omega))
   omega
 ·
  by_cases hk : k < p.length
  · exact hb _ (Hc hk)
  ·
   have : BF p k = slz := by simp [BF, AP, List.getElem?_eq_none (by omega : p.length ≤ k)]
   rw [this]
   simp [slz]
end
section
/- Code in a round of a loop over a function. -/
open Go Go.RowKit
abbrev rI (l : Nat) : Fence := Fence.wide.inRound l
def Ey (o : Oper) : Bool := match o.op with
 | .defer _ => false
 | _ => true
theorem IK {o : Oper} (h : Ey o = true) : ∀ c, o.op ≠ .defer c := fun c e => by
 unfold Ey at h
 rw [e] at h
 cases h
def JD (Q : Exit → Act → World → Prop) : Prop := ∀ a w, ¬ Q .outgrown a w
theorem B6 {K : Act → World → Prop} {Q : Exit → Act → World → Prop} (h : JD Q) : JD (Exit.then K Q) := fun a w hq => h a w hq
theorem BE {id : Nat} {Q : Exit → Act → World → Prop} (h : JD Q) : JD (Exit.inBlock id Q) := fun a w hq => h a w hq
section
variable {P : Program} {ops : Array Oper} {Q : Exit → Act → World → Prop} {l : Nat} {n : Nat}
theorem Wf {o : Oper} (hnd : Ey o = true) {K K' : Act → World → Prop} (hK : ∀ a w, K a w → K' a w) {a : Act} {w : World} (h : o.wp P a w K Q) : o.wpIn (rI l) n P a w K' Q := by
 refine ⟨fun _ _ => trivial, ?_⟩
 rw [Oper.semAt_eq _ _ _ (IK hnd)]
 unfold Oper.wp at h
 generalize (execOp a.eval o).run P w = r at *
 cases r with
 | ok x w' =>
  cases x with
  | value v => exact hK _ _ h
  | skip => exact hK _ _ h
  | defer d => exact hK _ _ h
  | enter f args =>
   refine ⟨(fun hd => by cases hd), CallsIn.inRound l (callsIn_wide.2 (Calls.mono h fun e w' he => ?_))⟩
   cases e with
   | returned v => exact hK _ _ he
   | panicked c => exact he
   | outgrown => exact he
  | row r args =>
   refine ⟨(fun hd => by cases hd), ?_⟩
   have h2 : RowsIn Fence.wide (n - 1) P r args w' fun v w'' => K' (a.put o.dst v) w'' := fun c cs _ => by
    obtain ⟨v, w'', hr, hs⟩ := Rows.mono h (fun v w'' he => hK _ _ he) c cs
    exact ⟨v, w'', hr, stepsIn_wide.2 hs⟩
   exact h2
  | _ => exact h.elim
 | halt x w' =>
  cases x with
  | panic v => exact h
  | _ => exact h.elim
theorem JR (hnd : ops.all Ey = true) (hQ : JD Q) : ∀ (is : List Nat) (a : Act) (w : World), wpOps P ops Q is a w → wpOpsIn (rI l) n P ops Q is a w
 | [], _, _, h => h
 | i :: rest, a, w, h => by
  unfold wpOps at h
  unfold wpOpsIn
  cases ho : ops[i]? with
  | none => rw [ho] at h; exact JR hnd hQ rest a w h
  | some o =>
   rw [ho] at h
   simp only at h ⊢
   have hno : Ey o = true := by
    rw [Array.all_eq_true] at hnd
    obtain ⟨hlt, hoe⟩ := AV.1 ho
    rw [← hoe]
    exact hnd i hlt
   split
   ·
    rename_i hw
    rw [At hw] at h
    rcases h with h | ⟨_, a', w', hl⟩
    · exact Wf hno (fun a w => JR hnd hQ rest a w) h
    · exact absurd hl (hQ a' w')
   ·
    rename_i hw
    rw [Aq hw] at h
    exact ⟨fun _ _ => trivial, JR hnd hQ rest _ w h⟩
end
section
variable {P : Program} {Q : Exit → Act → World → Prop} {a : Act} {w : World} {l n : Nat}
theorem K2 {ops : Array Oper} : ∀ (k : Nat) (a : Act) (w : World), wpList P ops Q (ops.toList.drop k) a w → wpOps P ops Q ((List.range ops.size).drop k) a w := by
 intro k
 induction hd : ops.size - k generalizing k with
 | zero =>
  intro a w h
  rw [List.drop_eq_nil_of_le (by simp; omega)] at h
  rw [List.drop_eq_nil_of_le (by simp; omega)]
  exact h
 | succ m ih =>
  intro a w h
  have hk : k < ops.size := by omega
  have e1 : ops.toList.drop k = ops[k] :: ops.toList.drop (k + 1) := by
   rw [List.drop_eq_getElem_cons (by simpa using hk)]
   simp
  have e2 : (List.range ops.size).drop k = k :: (List.range ops.size).drop (k + 1) := by
   rw [List.drop_eq_getElem_cons (by simpa using hk)]
   simp
  rw [e1] at h
  rw [e2]
  unfold wpOps
  rw [Array.getElem?_eq_getElem hk]
  unfold wpList at h
  simp only
  split
  ·
   rename_i hw
   rw [At hw] at h
   exact h.imp (fun h => Oper.wp_mono (fun a w => ih (k + 1) (by omega) a w) h) id
  ·
   rename_i hw
   rw [Aq hw] at h
   exact ih (k + 1) (by omega) _ _ h
theorem BH {id : Nat} {ls : List Oper} (hnd : ls.toArray.all Ey = true) (hQ : JD Q) (h : wpList P ls.toArray Q ls a w) : (Code.region id ls.toArray false).wpIn (rI l) n P Q a w :=
 wpIn_region (JR hnd hQ _ _ _ (by have := K2 (P := P) (ops := ls.toArray) (Q := Q) 0 a w (by simpa using h); simpa using this))
theorem Ks {ops : Array Oper} {S : World → Prop} {w0 : World} {Z M : Nat → Prop} {m : List Res} {ds : List Dat}
  {id k : Nat} (hm : P.follows .mixedOrders = true) (hn : ops.size = k) (hnd : ops.all Ey = true) (hS : St w0 Z M w m ds) (hp : DD Q) (hQ : JD Q)
  (h : ∀ (Q' : Exit → Act → World → Prop), DD Q' → (∀ a w, Q .normal a w → Q' .normal a w) → ∀ w', St w0 Z M w' m ds → wpAnyH P .any ops Q' S k (Array.replicate k false) a w') : (Code.region id ops true).wpIn (rI l) n P Q a w := by
 refine wpIn_region_draw fun t => JR hnd hQ _ _ _ ?_
 simp only [Region.schedule, hm, Bool.true_or, if_true]
 refine wpAny_sound ops.size t _ a _ (wpAny_of_held (S := S) _ _ _ _ ?_)
 subst hn
 exact h Q hp (fun _ _ h => h) _ hS.drew
end
end
section
/- Iterators: what they hand to whatever loop; the call of yield. -/
open Go Go.RowKit
structure Chg (C Mc : Nat → Prop) (W W' : World) (C' Mc' : Nat → Prop) : Prop where
 os : W'.os = W.os
 tape : W'.tape = W.tape
 output : W'.output = W.output
 size : W.heap.size ≤ W'.heap.size
 old : ∀ k, k < W.heap.size → ¬ Mc k → W'.heap[k]? = W.heap[k]?
 c : ∀ k, C' k → C k ∨ W.heap.size ≤ k
 m : ∀ k, Mc' k → Mc k ∨ W.heap.size ≤ k
structure JF (α : Type) where
 J : List α → World → (Nat → Prop) → (Nat → Prop) → Prop
 abide : ∀ s W W' C Mc, J s W C Mc → W.heap.size ≤ W'.heap.size → (∀ k, C k → W'.heap[k]? = W.heap[k]?) → J s W' C Mc
 sub : ∀ s W C Mc, J s W C Mc → (∀ k, Mc k → C k) ∧ (∀ k, C k → k < W.heap.size)
def Kz (W W' : World) : Prop := W'.os = W.os ∧ W'.tape = W.tape ∧ W'.output = W.output
def HV {α : Type} (P : Program) (g : Nat) (lb : Array Value) (encs : α → Array Value) (xs : List α) (Zd : Nat → Prop) (W0 : World) : Prop :=
 ∀ (l : Nat) (jf jx : JF α) (W : World) (C Mc : Nat → Prop), W0.heap.size ≤ W.heap.size → (∀ k, Zd k → W.heap[k]? = W0.heap[k]?) → (∀ k, Zd k → k < W.heap.size ∧ ¬ Mc k) →
  jf.J [] W C Mc →
  (∀ pre x W1 C1 M1, jf.J pre W1 C1 M1 → Kz W W1 → pre ++ [x] <+: xs → YieldAt Fence.wide 0 P l (encs x) W1 fun e W' => ∃ C' M', Chg C1 M1 W1 W' C' M' ∧
   ((e = .returned (.bool true) ∧ jf.J (pre ++ [x]) W' C' M') ∨ (e = .returned (.bool false) ∧ jx.J (pre ++ [x]) W' C' M'))) →
  CallsIn Fence.wide 0 P g (#[.func (.yield l) #[] #[]] ++ lb) W fun e W' => (∃ v, e = .returned v) ∧ ∃ C' M', Chg C Mc W W' C' M' ∧
   (jf.J xs W' C' M' ∨ ∃ pre, pre <+: xs ∧ jx.J pre W' C' M')
def dJ {α : Type} (jf : JF α) (s : List α) (C0 M0 : Nat → Prop) (s0 : Nat) : Dat :=
 ⟨fun w I => ∃ C Mc, jf.J s w C Mc ∧ (∀ k, C k → I k) ∧ (∀ k, C k → C0 k ∨ s0 ≤ k) ∧ (∀ k, Mc k → M0 k ∨ s0 ≤ k), fun w w' I I' hs h hk => by
  obtain ⟨C, Mc, h1, h2, h3, h4⟩ := h
  exact ⟨C, Mc, jf.abide s w w' C Mc h1 hs (fun k hC => (hk k (h2 k hC)).2), fun k hC => (hk k (h2 k hC)).1, h3, h4⟩⟩
section
variable {P : Program} {ops : Array Oper} {Q : Exit → Act → World → Prop} {rest : List Oper} {o : Oper} {a : Act} {w w0 : World} {N : Nat} {ls : List (Nat × Value)} {d : Nat} {m : List Res} {ds ds0 : List Dat}
theorem FC {o : Oper} {xs : List Operand} {ts : Array TypeId} {vs : List Value} {lp : Nat} {t : Operand} {r : Result Next} (hR : Reg a N ls) (ho : o.op = .call { callee := .value t, args := xs.toArray, argTypes := ts })
  (ht : ev ls t = some (.func (.yield lp) #[] #[])) (hx : evs ls xs = some vs) (hy : (Instr.yield lp vs.toArray).run P w = r) : (execOp a.eval o).run P w = r := by
 have hm : xs.toArray.map a.eval = vs.toArray := by rw [← hR.evs hx]; simp
 unfold execOp
 rw [ho]
 simp only [resolve, hm, hR.ev ht, Deferred.ofValue, AF, Bg, Az, invoke, Array.append_empty, Array.empty_append]
 exact hy
structure Ys {α : Type} (P : Program) (lp : Nat) (encs : α → Array Value) (xs : List α) (jf jx : JF α) (w0 : World) (C0 M0 Zd : Nat → Prop) : Prop where
 zd : ∀ k, Zd k → k < w0.heap.size ∧ ¬ M0 k
 c0 : ∀ k, C0 k → k < w0.heap.size
 y : ∀ pre x W1 C1 M1, jf.J pre W1 C1 M1 → Kz w0 W1 → pre ++ [x] <+: xs → YieldAt Fence.wide 0 P lp (encs x) W1 fun e W' => ∃ C' M', Chg C1 M1 W1 W' C' M' ∧
   ((e = .returned (.bool true) ∧ jf.J (pre ++ [x]) W' C' M') ∨ (e = .returned (.bool false) ∧ jx.J (pre ++ [x]) W' C' M'))
abbrev ED (w0 : World) : Nat → Prop := fun k => k < w0.heap.size
theorem F7 {α : Type} {jf jf' : JF α} {pre pre' : List α} {C0 M0 Zd : Nat → Prop} {w' : World} {C1 M1 C' M' : Nat → Prop} (hS : St w0 (ED w0) M0 w m ds)
  (hC : ∀ k, C1 k → imm (ED w0) w0 m w k) (h0 : ∀ k, C1 k → C0 k ∨ w0.heap.size ≤ k) (h1 : ∀ k, M1 k → M0 k ∨ w0.heap.size ≤ k) (hMC : ∀ k, M1 k → C1 k)
  (hc : Chg C1 M1 w w' C' M') (hj' : jf'.J pre' w' C' M')
  (hz : ∀ k, Zd k → k < w0.heap.size ∧ ¬ M0 k) (hds : ∀ d ∈ ds0, d.φ w0 Zd) : St w0 (ED w0) M0 w' m (dJ jf' pre' C0 M0 w0.heap.size :: ds0) := by
 have hown : ∀ r ∈ m, ∀ k, r.blk = some k → w'.heap[k]? = w.heap[k]? := fun r hr k e => by
  refine hc.old k (hS.own r hr k e).1 (fun hM => ?_)
  exact (hC k (hMC k hM)).2.2 r hr e
 have hhold : ∀ r ∈ m, r.holds w' := fun r hr => by
  have hh := hS.hold r hr
  cases r with
  | box g t cs => exact (hown _ hr g rfl).trans hh
  | mp g es c => exact (hown _ hr g rfl).trans hh
  | row A n cap e size xs =>
   refine ⟨hh.1, ?_⟩
   rcases hh.2 with q1 | ⟨g, cap', cur, hv, q1, q2, q3⟩
   · exact .inl q1
   ·
    refine .inr ⟨g, cap', cur, hv, q1, ?_, q3⟩
    have hA : A = some ⟨g, 0, none⟩ := by injection hv
    exact (hown _ hr g (by simp [Res.blk, hA])).trans q2
 have hold : ∀ k, k < w0.heap.size → ¬ M0 k → w'.heap[k]? = w0.heap[k]? := fun k hk hM => by
  refine (hc.old k (BS hk hS.size) (fun hM1 => ?_)).trans (hS.old k hk hM)
  rcases h1 k hM1 with q | q
  · exact hM q
  · omega
 refine ⟨hc.os.trans hS.os, hc.tape.trans hS.tape, hc.output.trans hS.output, Bo hS.size hc.size, hold, hhold,
  fun r hr k e => ⟨BS (hS.own r hr k e).1 hc.size, (hS.own r hr k e).2⟩, hS.apart, fun d hd => ?_⟩
 rcases AD.1 hd with rfl | hd
 ·
  refine ⟨C', M', hj', fun k hk => ⟨(jf'.sub _ _ _ _ hj').2 k hk, fun hlt => hlt, fun r hr e => ?_⟩, fun k hk => ?_, fun k hk => ?_⟩
  ·
   rcases hc.c k hk with q | q
   · exact (hC k q).2.2 r hr e
   ·
    have := (hS.own r hr k e).1
    omega
  ·
   rcases hc.c k hk with q | q
   · exact h0 k q
   · exact .inr (Bo hS.size q)
  ·
   rcases hc.m k hk with q | q
   · exact h1 k q
   · exact .inr (Bo hS.size q)
 ·
  refine d.mono _ _ _ _ (Bo hS.size hc.size) (hds d hd) fun k hk => ⟨⟨BS (hz k hk).1 (Bo hS.size hc.size), fun _ => (hz k hk).1, fun r hr e => ?_⟩, hold k (hz k hk).1 (hz k hk).2⟩
  rcases (hS.own r hr k e).2 with q | q
  ·
   have := (hz k hk).1
   omega
  · exact (hz k hk).2 q
theorem L4 {α : Type} {ro : Option Nat} {lp : Nat} {encs : α → Array Value} {xl : List α} {jf jx : JF α} {C0 M0 Zd : Nat → Prop} {t : Operand} {xs : List Operand} {ts : Array TypeId} {vs : List Value} {pre : List α} {i : Nat}
  (hY : Ys P lp encs xl jf jx w0 C0 M0 Zd) (hg : o.guard = none) (hR : Reg a N ls) (hS : St w0 (ED w0) M0 w m ds) (hd : o.dst = some d)
  (ho : o.op = .call { callee := .value t, args := xs.toArray, argTypes := ts }) (ht : ev ls t = some (.func (.yield lp) #[] #[])) (hx : evs ls xs = some vs) (hdN : d < N)
  (x : α) (he : vs.toArray = encs x) (hi : ds[i]? = some (dJ jf pre C0 M0 w0.heap.size)) (hp : pre ++ [x] <+: xl) (hds : ∀ d ∈ ds0, d.φ w0 Zd)
  (kt : ∀ a' w', Reg a' N ((d, .bool true) :: ls) → St w0 (ED w0) M0 w' m (dJ jf (pre ++ [x]) C0 M0 w0.heap.size :: ds0) → wpListIn (wf ro) 0 P ops Q rest a' w')
  (kf : ∀ a' w', Reg a' N ((d, .bool false) :: ls) → St w0 (ED w0) M0 w' m (dJ jx (pre ++ [x]) C0 M0 w0.heap.size :: ds0) → wpListIn (wf ro) 0 P ops Q rest a' w') :
  wpListIn (wf ro) 0 P ops Q (o :: rest) a w := by
 obtain ⟨C1, M1, hj, hC, h0, h1⟩ := hS.get hi
 obtain ⟨fn, tmps, assign, body, hrun, hround⟩ := hY.y pre x w C1 M1 hj ⟨hS.os, hS.tape, hS.output⟩ hp
 rw [← he] at hrun
 have hrun' := FC hR ho ht hx hrun
 have hnd : ∀ c, o.op ≠ .defer c := fun c e => by rw [ho] at e; cases e
 unfold wpListIn
 rw [At (by simp [Region.wanted, hg])]
 refine ⟨fun _ _ => trivial, ?_⟩
 rw [Oper.semAt_eq _ _ _ hnd, hrun']
 refine ⟨fun hd => by simp [wf, Fence.wide] at hd, ?_⟩
 have hround' : RoundIn (wf ro) 0 P lp fn tmps assign body w fun e W' => ∃ C' M', Chg C1 M1 w W' C' M' ∧
   ((e = .returned (.bool true) ∧ jf.J (pre ++ [x]) W' C' M') ∨ (e = .returned (.bool false) ∧ jx.J (pre ++ [x]) W' C' M')) := by
  cases ro <;> exact hround
 refine hround'.mono ?_
 rintro e W' ⟨C', M', hc, ⟨rfl, hj'⟩ | ⟨rfl, hj'⟩⟩
 ·
  rw [hd]
  exact kt _ _ (hR.put hdN _) (F7 (jf := jf) (pre := pre) hS hC h0 h1 (jf.sub _ _ _ _ hj).1 hc hj' hY.zd hds)
 ·
  rw [hd]
  exact kf _ _ (hR.put hdN _) (F7 (jf := jf) (pre := pre) hS hC h0 h1 (jf.sub _ _ _ _ hj).1 hc hj' hY.zd hds)
end
end
section
/- A loop over an iterator: the caller's law. -/
open Go Go.RowKit
def FR (m : List Res) (k : Nat) : Prop := ∃ r ∈ m, r.blk = some k
structure CSt (w0 : World) (M I0 : Nat → Prop) (wl : World) (m0 : List Res) (W : World) (m : List Res) (ds : List Dat) : Prop where
 hold : ∀ r ∈ m, r.holds W
 own : ∀ r ∈ m, ∀ k, r.blk = some k → k < W.heap.size ∧ ¬ I0 k ∧ (w0.heap.size ≤ k ∨ M k) ∧ (FR m0 k ∨ wl.heap.size ≤ k)
 apart : m.Pairwise fun r s => ∀ k, r.blk = some k → s.blk ≠ some k
 dat : ∀ d ∈ ds, d.φ W I0
 low : ∀ k, k < wl.heap.size → k < W.heap.size
 old : ∀ k, k < wl.heap.size → ¬ FR m0 k → W.heap[k]? = wl.heap[k]?
theorem Fj {r : Res} {w : World} {k : Nat} (h : r.holds w) (hk : r.blk = some k) : ∃ o, w.heap[k]? = some o ∧ MO o := by
 cases r with
 | box g t cs =>
  have : g = k := by simpa [Res.blk] using hk
  subst this
  exact ⟨_, h, .inl ⟨_, _, _, rfl⟩⟩
 | mp g es c =>
  have : g = k := by simpa [Res.blk] using hk
  subst this
  exact ⟨_, h, .inr ⟨_, _, rfl⟩⟩
 | row A n cap e size xs =>
  rcases h.2 with ⟨q1, _⟩ | ⟨g, cap', cur, hv, _, q2, _⟩
  ·
   have : A = none := by injection q1
   subst this
   cases hk
  ·
   have hA : A = some ⟨g, 0, none⟩ := by injection hv
   subst hA
   have : g = k := by simpa [Res.blk] using hk
   subst this
   exact ⟨_, q2, .inl ⟨_, _, _, rfl⟩⟩
theorem DF {r : Res} {w w' : World} (h : r.holds w) (hk : ∀ k, r.blk = some k → w'.heap[k]? = w.heap[k]?) : r.holds w' := by
 cases r with
 | box g t cs => exact (hk g rfl).trans h
 | mp g es c => exact (hk g rfl).trans h
 | row A n cap e size xs =>
  refine ⟨h.1, ?_⟩
  rcases h.2 with q1 | ⟨g, cap', cur, hv, q1, q2, q3⟩
  · exact .inl q1
  ·
   refine .inr ⟨g, cap', cur, hv, q1, ?_, q3⟩
   have hA : A = some ⟨g, 0, none⟩ := by injection hv
   exact (hk g (by simp [Res.blk, hA])).trans q2
theorem RR {w w' : World} {k : Nat} (h : k < w.heap.size) (hk : w'.heap[k]? = w.heap[k]?) : k < w'.heap.size := by
 rw [Array.getElem?_eq_getElem h] at hk
 exact (AV.1 hk).1
section
variable {I0 : Nat → Prop} {W W' w w0 wl : World} {m m' m0 : List Res} {ds ds' : List Dat} {Z M : Nat → Prop}
theorem CSt.keep (h : CSt w0 M I0 wl m0 W m ds) (hs : W.heap.size ≤ W'.heap.size) (hI0 : ∀ k, I0 k → k < wl.heap.size) (hI : ∀ k, k < wl.heap.size → W'.heap[k]? = W.heap[k]?) (hm : ∀ k, FR m k → W'.heap[k]? = W.heap[k]?) : CSt w0 M I0 wl m0 W' m ds :=
 ⟨fun r hr => DF (h.hold r hr) (fun k e => hm k ⟨r, hr, e⟩), fun r hr k e => ⟨RR (h.own r hr k e).1 (hm k ⟨r, hr, e⟩), (h.own r hr k e).2⟩, h.apart,
  fun d hd => d.mono _ _ _ _ hs (h.dat d hd) (fun k hk => ⟨hk, hI k (hI0 k hk)⟩), fun k hk => RR (h.low k hk) (hI k hk), fun k hk hn => (hI k hk).trans (h.old k hk hn)⟩
theorem CSt.st (h : CSt w0 M (imm Z w0 m0 wl) wl m0 W m ds) (hl : St w0 Z M wl m0 ds') (ho : Kz wl W) (hsz : wl.heap.size ≤ W.heap.size) : St w0 Z M W m (ds ++ [dAg W (imm Z w0 m W)]) := by
 have hI : ∀ k, imm Z w0 m0 wl k → imm Z w0 m W k := fun k hk => ⟨h.low k hk.1, hk.2.1, fun r hr e => (h.own r hr k e).2.1 hk⟩
 refine ⟨ho.1.trans hl.os, ho.2.1.trans hl.tape, ho.2.2.trans hl.output, Bo hl.size hsz, fun k hk hM => ?_, h.hold, fun r hr k e => ⟨(h.own r hr k e).1, (h.own r hr k e).2.2.1⟩, h.apart, fun d hd => ?_⟩
 ·
  refine (h.old k (BS hk hl.size) (fun ⟨r, hr, e⟩ => ?_)).trans (hl.old k hk hM)
  rcases (hl.own r hr k e).2 with q | q
  · omega
  · exact hM q
 ·
  rcases B5.1 hd with hd | hd
  · exact d.mono _ _ _ _ (Af _) (h.dat d hd) (fun k hk => ⟨hI k hk, rfl⟩)
  ·
   rw [AB] at hd
   subst hd
   exact ⟨Af _, fun k hk => ⟨hk, rfl⟩⟩
theorem Td (hS : St w0 Z M W m ds) (hS' : St w0 Z M W' m' ds') {i : Nat} (hi : ds'[i]? = some (dAg W (imm Z w0 m W))) (hM : ∀ k, M k → FR m k) :
  (∀ k, k < W.heap.size → ¬ FR m k → W'.heap[k]? = W.heap[k]?) ∧ (∀ k, FR m' k → FR m k ∨ W.heap.size ≤ k) ∧ W.heap.size ≤ W'.heap.size := by
 have hag := hS'.get hi
 have him : ∀ k, k < W.heap.size → ¬ FR m k → (k < w0.heap.size → Z k) → imm Z w0 m W k := fun k h1 h2 h3 => ⟨h1, h3, fun r hr e => h2 ⟨r, hr, e⟩⟩
 have h1 : ∀ k, k < W.heap.size → ¬ FR m k → W'.heap[k]? = W.heap[k]? := fun k hk hn => by
  by_cases hq : k < w0.heap.size
  ·
   have hMk : ¬ M k := fun q => hn (hM k q)
   exact (hS'.old k hq hMk).trans (hS.old k hq hMk).symm
  · exact (hag.2 k (him k hk hn (fun q => absurd q hq))).2
 refine ⟨h1, fun k ⟨r, hr, e⟩ => ?_, ?_⟩
 ·
  by_cases hn : FR m k
  · exact .inl hn
  ·
   right
   refine Nat.le_of_not_lt fun hk => ?_
   rcases (hS'.own r hr k e).2 with q | q
   · exact (hag.2 k (him k hk hn (fun q' => by omega))).1.2.2 r hr e
   · exact hn (hM k q)
 · exact hag.1
end
def Qa (B D : Nat) : Dat := ⟨fun w I => B ≤ D ∧ I D ∧ w.heap[D]? = some (.deferred (some [])), fun _ _ _ _ _ h hk => ⟨h.1, (hk D h.2.1).1, (hk D h.2.1).2.trans h.2.2⟩⟩
abbrev Vf (D : Nat) : Deferred := { target := .collected D, args := #[] }
def VN {α : Type} (Inv : List α → List Res → Prop) (Ix : Code → List α → List Res → Prop) (w0 : World) (Z M : Nat → Prop) (s : List α) (W : World) (m : List Res) : Exit → Act → World → Prop
 | .normal, _, W' => ∃ (m3 : List Res) (ds3 : List Dat) (i : Nat), St w0 Z M W' m3 ds3 ∧ ds3[i]? = some (dAg W (imm Z w0 m W)) ∧ Inv s m3
 | .ret, _, W' => ∃ (m3 : List Res) (ds3 : List Dat) (i : Nat), St w0 Z M W' m3 ds3 ∧ ds3[i]? = some (dAg W (imm Z w0 m W)) ∧ Ix .ret s m3
 | .exit id, _, W' => ∃ (m3 : List Res) (ds3 : List Dat) (i : Nat), St w0 Z M W' m3 ds3 ∧ ds3[i]? = some (dAg W (imm Z w0 m W)) ∧ Ix (.exit id) s m3
 | .goto t, _, W' => ∃ (m3 : List Res) (ds3 : List Dat) (i : Nat), St w0 Z M W' m3 ds3 ∧ ds3[i]? = some (dAg W (imm Z w0 m W)) ∧ Ix (.goto t) s m3
 | .panic _, _, _ => False
 | .outgrown, _, _ => False
theorem Cf {α : Type} {Inv : List α → List Res → Prop} {Ix : Code → List α → List Res → Prop} {w0 : World} {Z M : Nat → Prop} {s : List α} {W : World} {m : List Res} : JD (VN Inv Ix w0 Z M s W m) := fun _ _ h => h
theorem Ha {α : Type} {Inv : List α → List Res → Prop} {Ix : Code → List α → List Res → Prop} {w0 : World} {Z M : Nat → Prop} {s : List α} {W : World} {m : List Res} : DD (VN Inv Ix w0 Z M s W m) := fun _ _ _ _ _ h => h
def rJ {α γ : Type} (K : γ → List α → List Res → Prop) (w0 : World) (Z M : Nat → Prop) (wl : World) (m0 : List Res) (ds : List Dat) (l D : Nat) (o : γ → Obj) : JF α where
 J s W C Mc := ∃ c m1, K c s m1 ∧ CSt w0 M (imm Z w0 m0 wl) wl m0 W m1 ds ∧ wl.heap.size ≤ W.heap.size ∧ W.heap[l]? = some (o c) ∧ W.heap[D]? = some (.deferred (some [])) ∧ C = (fun k => k < wl.heap.size ∨ FR m1 k ∨ k = l ∨ k = D) ∧ Mc = (fun k => FR m1 k ∨ k = l)
 abide s W W' C Mc h hs hk := by
  obtain ⟨c, m1, h1, h2, h5, h3, h4, rfl, rfl⟩ := h
  exact ⟨c, m1, h1, h2.keep hs (fun k q => q.1) (fun k q => hk k (.inl q)) (fun k q => hk k (.inr (.inl q))), Bo h5 hs, (hk l (.inr (.inr (.inl rfl)))).trans h3, (hk D (.inr (.inr (.inr rfl)))).trans h4, rfl, rfl⟩
 sub s W C Mc h := by
  obtain ⟨c, m1, h1, h2, h5, h3, h4, rfl, rfl⟩ := h
  refine ⟨fun k q => ?_, fun k q => ?_⟩
  ·
   rcases q with q | q
   · exact .inr (.inl q)
   · exact .inr (.inr (.inl q))
  ·
   rcases q with q | ⟨r, hr, e⟩ | rfl | rfl
   · exact h2.low k q
   · exact (h2.own r hr k e).1
   · exact (AV.1 h3).1
   · exact (AV.1 h4).1
theorem II {W : World} {m : List Res} {l : Nat} {o : Obj} (hm : ∀ r ∈ m, r.holds W) (h : W.heap[l]? = some o) (ho : ¬ MO o) : ¬ FR m l := fun ⟨r, hr, e⟩ => by
 obtain ⟨o', hc, hp⟩ := Fj (hm r hr) e
 rw [h] at hc
 rw [← B4 hc] at hp
 exact ho hp
theorem CSt.back {w0 wl W W' : World} {Z M : Nat → Prop} {m0 m m' : List Res} {ds ds' : List Dat} (h : CSt w0 M (imm Z w0 m0 wl) wl m0 W m ds) (hS' : St w0 Z M W' m' ds') (hlz : wl.heap.size ≤ W.heap.size)
  (h1 : ∀ k, k < W.heap.size → ¬ FR m k → W'.heap[k]? = W.heap[k]?) (h2 : ∀ k, FR m' k → FR m k ∨ W.heap.size ≤ k) (h3 : W.heap.size ≤ W'.heap.size) : CSt w0 M (imm Z w0 m0 wl) wl m0 W' m' ds := by
 have hI : ∀ k, imm Z w0 m0 wl k → W'.heap[k]? = W.heap[k]? := fun k hk => h1 k (h.low k hk.1) (fun ⟨r, hr, e⟩ => (h.own r hr k e).2.1 hk)
 refine ⟨hS'.hold, fun r hr k e => ⟨(hS'.own r hr k e).1, fun hk => ?_, (hS'.own r hr k e).2, ?_⟩, hS'.apart, fun d hd => d.mono _ _ _ _ h3 (h.dat d hd) (fun k hk => ⟨hk, hI k hk⟩), fun k hk => BS (h.low k hk) h3, fun k hk hn => ?_⟩
 ·
  rcases h2 k ⟨r, hr, e⟩ with ⟨r', hr', e'⟩ | q
  · exact (h.own r' hr' k e').2.1 hk
  ·
   have := h.low k hk.1
   omega
 ·
  rcases h2 k ⟨r, hr, e⟩ with ⟨r', hr', e'⟩ | q
  · exact (h.own r' hr' k e').2.2.2
  · exact .inr (Bo hlz q)
 ·
  refine (h1 k (h.low k hk) (fun ⟨r, hr, e⟩ => ?_)).trans (h.old k hk hn)
  rcases (h.own r hr k e).2.2.2 with q | q
  · exact hn q
  · omega
theorem St.cst {w0 wl : World} {Z M : Nat → Prop} {m : List Res} {ds : List Dat} (h : St w0 Z M wl m ds) : CSt w0 M (imm Z w0 m wl) wl m wl m ds :=
 ⟨h.hold, fun r hr k e => ⟨(h.own r hr k e).1, fun hk => hk.2.2 r hr e, (h.own r hr k e).2, .inl ⟨r, hr, e⟩⟩, h.apart, h.dat, fun _ hk => hk, fun _ _ _ => rfl⟩
end
section
/- The law of a loop over an iterator. -/
open Go Go.RowKit
def rBody {α : Type} (P : Program) (l : Nat) (body : Code) (Inv : List α → List Res → Prop) (Ix : Code → List α → List Res → Prop) (w0 : World) (Z M : Nat → Prop) (ds : List Dat) (s : List α) (W : World) (m1 : List Res) (a1 : Act) (W1 : World) : Prop :=
 ∃ (m2 : List Res) (ds2 : List Dat) (i : Nat), St w0 Z M W1 m2 ds2 ∧ ds2[i]? = some (dAg W (imm Z w0 m1 W)) ∧ (∀ k, M k → FR m1 k) ∧ (∀ k, M k → FR m2 k) ∧
  ∀ W2, St w0 Z M W2 m2 (ds ++ [dAg W2 (imm Z w0 m2 W2)]) → body.wpIn (rI l) 0 P (VN Inv Ix w0 Z M s W2 m2) a1 W2
theorem Le {r : Loop} : ¬ MO (Obj.loop r) := by
 rintro (⟨_, _, _, h⟩ | ⟨_, _, h⟩) <;> cases h
theorem Sw {r : Option (List Deferred)} : ¬ MO (Obj.deferred r) := by
 rintro (⟨_, _, _, h⟩ | ⟨_, _, h⟩) <;> cases h
section
variable {P : Program}
theorem Hu {α : Type} {g : Operand} {ps : Array Tmp} {assign body : Code} {Q : Exit → Act → World → Prop} {a : Act} {w w0 : World} {Z M Zd : Nat → Prop} {m : List Res} {ds : List Dat} {gf : Nat} {lb : Array Value} {encs : α → Array Value} {xs : List α}
  (hg : a.eval g = .func (.func gf) #[] lb) (hok : FOK P gf) (hseq : HV P gf lb encs xs Zd w) (hps : ∀ x, (encs x).size = ps.size)
  (hS : St w0 Z M w m ds) (hZd : ∀ k, Zd k → imm Z w0 m w k) (Inv : List α → List Res → Prop) (Ix : Code → List α → List Res → Prop) (h0 : Inv [] m)
  (hround : ∀ (l : Nat) (pre : List α) (x : α) (W : World) (m1 : List Res), pre ++ [x] <+: xs → Inv pre m1 → St w0 Z M W m1 (ds ++ [dAg W (imm Z w0 m1 W)]) →
   assign.wpIn (rI l) 0 P (Exit.then (rBody P l body Inv Ix w0 Z M ds (pre ++ [x]) W m1) (fun _ _ _ => False)) { tmps := (ps.zip (encs x)).foldl (fun t (p, v) => t.setIfInBounds p v) a.tmps, defers := [] } W)
  (hdone : ∀ (D : Nat) (m' : List Res) (W : World), Inv xs m' → St w0 Z M W m' (ds ++ [Qa w0.heap.size D]) → Q .normal { a with defers := Vf D :: a.defers } W)
  (hstop : ∀ (D : Nat) (c : Code) (pre : List α) (m' : List Res) (W : World), pre <+: xs → Ix c pre m' → St w0 Z M W m' (ds ++ [Qa w0.heap.size D]) → c.wp P Q { a with defers := Vf D :: a.defers } W) :
  (Code.rangeFunc g ps assign body).wp P Q a w := by
 refine (wpIn_wide (n := 0)).1 (wpIn_rangeFunc ?_)
 intro fn _
 obtain ⟨rec, hrec⟩ : ∃ rec : LoopState → Option Code → Loop, rec = fun st pe => { state := st, pending := pe, fn, tmps := a.tmps, params := ps, assign, body, defers := w.heap.size } := ⟨_, rfl⟩
 obtain ⟨W1, hW1⟩ : ∃ W1, (w.alloc (.deferred (some []))).alloc (.loop (rec .ready none)) = W1 := ⟨_, rfl⟩
 have hsz1 : W1.heap.size = w.heap.size + 2 := by rw [← hW1]; simp
 have hL1 : W1.heap[w.heap.size + 1]? = some (.loop (rec .ready none)) := by
  rw [← hW1]; have := World.alloc_heap_new (w.alloc (.deferred (some []))) (.loop (rec .ready none)); rwa [World.size_alloc] at this
 have hK1 : W1.heap[w.heap.size]? = some (.deferred (some [])) := by
  rw [← hW1]; exact (Below.heap_alloc _ _ _ (by simp)).trans (World.alloc_heap_new w _)
 have hb1 : Below w.heap.size w W1 := by
  rw [← hW1]; exact (((Below.refl _ w).alloc (Af _) _).alloc (by simp) _)
 have hold1 : ∀ k, k < w.heap.size → W1.heap[k]? = w.heap[k]? := fun k hk => hb1.block k hk
 have hc0 := hS.cst
 have hso1 : Kz w W1 := ⟨hb1.os, hb1.tape, hb1.output⟩
 have hc1 : CSt w0 M (imm Z w0 m w) w m W1 m ds := hc0.keep (by omega) (fun k hk => hk.1) hold1 (fun k ⟨r, hr, e⟩ => hold1 k (hS.own r hr k e).1)
 refine ⟨w.heap.size + 1, [Vf w.heap.size], W1, { target := .fn (.func gf) lb, args := #[.func (.yield (w.heap.size + 1)) #[] #[]] }, W1, gf,
  #[.func (.yield (w.heap.size + 1)) #[] #[]] ++ lb, W1, ?_, ?_, (fun _ _ => trivial), ?_, (fun h => by cases h), ?_⟩
 · rw [← hW1, hrec]; exact run_enterLoop_outer _ _ _ _ _
 ·
  simp only [resolve, hg]
  simp [go_sem]
 · simp [invoke, go_sem, hok _ _]
 ·
  refine (hseq (w.heap.size + 1) (rJ (fun (_ : Unit) => Inv) w0 Z M w m ds (w.heap.size + 1) w.heap.size (fun _ => .loop (rec .ready none)))
   (rJ Ix w0 Z M w m ds (w.heap.size + 1) w.heap.size (fun c => .loop (rec .done (some c)))) W1 _ _ (by omega) ?_ ?_ ⟨(), m, h0, hc1, by omega, hL1, hK1, rfl, rfl⟩ ?_).mono ?_
  ·
   intro k hk
   exact hold1 k (hZd k hk).1
  ·
   intro k hk
   have hi := hZd k hk
   have hlt : k < w.heap.size := hi.1
   refine ⟨by omega, ?_⟩
   rintro (⟨r, hr, e⟩ | rfl)
   · exact hi.2.2 r hr e
   · omega
  ·
   -- one round
   rintro pre x W C1 M1 ⟨⟨⟩, m1, hinv, hcst, hlz, hl, hk, rfl, rfl⟩ hso hp
   have hy := run_yield (P := P) (args := encs x) hl (by rw [hrec]; exact hps x)
   rw [hrec] at hy
   have hnl : ¬ FR m1 (w.heap.size + 1) := II hcst.hold hl Le
   have hnd : ¬ FR m1 w.heap.size := II hcst.hold hk Sw
   have hso' : Kz w W := ⟨hso.1.trans hso1.1, hso.2.1.trans hso1.2.1, hso.2.2.trans hso1.2.2⟩
   have hS1 := hcst.st hS hso' hlz
   refine ⟨fn, _, assign, body, hy, roundIn_of_wpIn trivial (wpIn_mono (hround (w.heap.size + 1) pre x W m1 hp hinv hS1) ?_)⟩
   rintro e a1 Wa he
   cases e with
   | normal =>
    obtain ⟨m2, ds2, i2, hSa, hi2, hM1, hM2, hbody⟩ := he
    obtain ⟨q1, q2, q3⟩ := Td hS1 hSa hi2 hM1
    have hla : Wa.heap[w.heap.size + 1]? = some (.loop (rec .ready none)) := (q1 _ (AV.1 hl).1 hnl).trans hl
    have hka : Wa.heap[w.heap.size]? = some (.deferred (some [])) := (q1 _ (AV.1 hk).1 hnd).trans hk
    have hlt : w.heap.size + 1 < Wa.heap.size := (AV.1 hla).1
    refine ⟨_, run_beginRound hla (by rw [hrec]), ?_⟩
    have hca := hcst.back hSa hlz q1 q2 q3
    have hnl2 : ¬ FR m2 (w.heap.size + 1) := II hca.hold hla Le
    have hnd2 : ¬ FR m2 w.heap.size := II hca.hold hka Sw
    have hput : ∀ k, k ≠ w.heap.size + 1 → (Wa.putObj (w.heap.size + 1) (.loop { rec .ready none with state := .busy })).heap[k]? = Wa.heap[k]? := fun k h => World.putObj_heap_other h
    have hcb : CSt w0 M (imm Z w0 m w) w m (Wa.putObj (w.heap.size + 1) (.loop { rec .ready none with state := .busy })) m2 ds :=
     hca.keep (by rw [World.putObj_size]; omega) (fun k hk => hk.1) (fun k hk => hput k (by omega)) (fun k hk => hput k (fun e => hnl2 (e ▸ hk)))
    have hsa : Kz w (Wa.putObj (w.heap.size + 1) (.loop { rec .ready none with state := .busy })) := ⟨hSa.os.trans hS.os.symm, hSa.tape.trans hS.tape.symm, hSa.output.trans hS.output.symm⟩
    have hS2 := hcb.st hS hsa (by rw [World.putObj_size]; omega)
    refine wpIn_mono (hbody _ hS2) ?_
    have hl2 : (Wa.putObj (w.heap.size + 1) (.loop { rec .ready none with state := .busy })).heap[w.heap.size + 1]? = some (.loop { rec .ready none with state := .busy }) := World.putObj_heap_same hlt
    have hk2 : (Wa.putObj (w.heap.size + 1) (.loop { rec .ready none with state := .busy })).heap[w.heap.size]? = some (.deferred (some [])) := (hput _ (by omega)).trans hka
    have fin : ∀ (jump : Option Code) (W3 : World) (m3 : List Res) (ds3 : List Dat) (i3 : Nat), St w0 Z M W3 m3 ds3 → ds3[i3]? = some (dAg (Wa.putObj (w.heap.size + 1) (.loop { rec .ready none with state := .busy })) (imm Z w0 m2 (Wa.putObj (w.heap.size + 1) (.loop { rec .ready none with state := .busy })))) →
      (Instr.endRound (w.heap.size + 1) jump).run P W3 = .ok (.bool jump.isNone) (W3.putObj (w.heap.size + 1) (.loop (rec (if jump.isNone then .ready else .done) jump))) ∧
      CSt w0 M (imm Z w0 m w) w m (W3.putObj (w.heap.size + 1) (.loop (rec (if jump.isNone then .ready else .done) jump))) m3 ds ∧
      w.heap.size ≤ (W3.putObj (w.heap.size + 1) (.loop (rec (if jump.isNone then .ready else .done) jump))).heap.size ∧
      (W3.putObj (w.heap.size + 1) (.loop (rec (if jump.isNone then .ready else .done) jump))).heap[w.heap.size + 1]? = some (.loop (rec (if jump.isNone then .ready else .done) jump)) ∧
      (W3.putObj (w.heap.size + 1) (.loop (rec (if jump.isNone then .ready else .done) jump))).heap[w.heap.size]? = some (.deferred (some [])) ∧
      Chg (fun k => k < w.heap.size ∨ FR m1 k ∨ k = w.heap.size + 1 ∨ k = w.heap.size) (fun k => FR m1 k ∨ k = w.heap.size + 1) W (W3.putObj (w.heap.size + 1) (.loop (rec (if jump.isNone then .ready else .done) jump)))
       (fun k => k < w.heap.size ∨ FR m3 k ∨ k = w.heap.size + 1 ∨ k = w.heap.size) (fun k => FR m3 k ∨ k = w.heap.size + 1) := fun jump W3 m3 ds3 i3 hS3 hi3 => by
     obtain ⟨p1, p2, p3⟩ := Td hS2 hS3 hi3 hM2
     rw [World.putObj_size] at p3
     have hl3 : W3.heap[w.heap.size + 1]? = some (.loop { rec .ready none with state := .busy }) := (p1 _ (by simpa using hlt) hnl2).trans hl2
     have hk3 : W3.heap[w.heap.size]? = some (.deferred (some [])) := (p1 _ (AV.1 hk2).1 hnd2).trans hk2
     have hr := run_endRound (P := P) jump hl3
     have hlt3 := (AV.1 hl3).1
     have hc3 := hcb.back hS3 (by rw [World.putObj_size]; omega) p1 p2 (by rw [World.putObj_size]; exact p3)
     have hnl3 : ¬ FR m3 (w.heap.size + 1) := II hc3.hold hl3 Le
     have hput3 : ∀ k, k ≠ w.heap.size + 1 → (W3.putObj (w.heap.size + 1) (.loop (rec (if jump.isNone then .ready else .done) jump))).heap[k]? = W3.heap[k]? := fun k h => World.putObj_heap_other h
     have hown3 : ∀ k, FR m3 k → FR m1 k ∨ W.heap.size ≤ k := fun k q => by
      rcases p2 k q with q | q
      · exact q2 k q
      ·
       rw [World.putObj_size] at q
       right; omega
     refine ⟨by rw [hrec] at hr ⊢; exact hr, hc3.keep (by rw [World.putObj_size]; omega) (fun k hk => hk.1) (fun k hk => hput3 k (by omega)) (fun k hk => hput3 k (fun e => hnl3 (e ▸ hk))), by rw [World.putObj_size]; omega, World.putObj_heap_same hlt3, (hput3 _ (by omega)).trans hk3, ?_⟩
     refine ⟨hS3.os.trans hS1.os.symm, hS3.tape.trans hS1.tape.symm, hS3.output.trans hS1.output.symm, by rw [World.putObj_size]; omega, fun k hk hM => ?_, fun k q => ?_, fun k q => ?_⟩
     ·
      have hkl : k ≠ w.heap.size + 1 := fun e => hM (.inr e)
      have hk1 : ¬ FR m1 k := fun e => hM (.inl e)
      have hka' : k < Wa.heap.size := BS hk q3
      have hn2 : ¬ FR m2 k := fun q => by
       rcases q2 k q with q | q
       · exact hk1 q
       · omega
      rw [hput3 k hkl, p1 k (by rw [World.putObj_size]; exact hka') hn2, hput k hkl]
      exact q1 k hk hk1
     ·
      rcases q with q | q | q
      · exact .inl (.inl q)
      ·
       rcases hown3 k q with q | q
       · exact .inl (.inr (.inl q))
       · exact .inr q
      · exact .inl (.inr (.inr q))
     ·
      rcases q with q | q
      ·
       rcases hown3 k q with q | q
       · exact .inl (.inl q)
       · exact .inr q
      · exact .inl (.inr q)
    rintro e a3 W3 hp3
    cases e with
    | normal =>
     obtain ⟨m3, ds3, i3, hS3, hi3, hv3⟩ := hp3
     obtain ⟨hr, hc3, hz3, hl4, hk4, hch⟩ := fin none W3 m3 ds3 i3 hS3 hi3
     exact ⟨_, _, hr, _, _, hch, .inl ⟨rfl, (), m3, hv3, hc3, hz3, hl4, hk4, rfl, rfl⟩⟩
    | ret =>
     obtain ⟨m3, ds3, i3, hS3, hi3, hv3⟩ := hp3
     obtain ⟨hr, hc3, hz3, hl4, hk4, hch⟩ := fin (some .ret) W3 m3 ds3 i3 hS3 hi3
     exact ⟨_, _, hr, _, _, hch, .inr ⟨rfl, .ret, m3, hv3, hc3, hz3, hl4, hk4, rfl, rfl⟩⟩
    | exit id =>
     obtain ⟨m3, ds3, i3, hS3, hi3, hv3⟩ := hp3
     obtain ⟨hr, hc3, hz3, hl4, hk4, hch⟩ := fin (some (.exit id)) W3 m3 ds3 i3 hS3 hi3
     exact ⟨_, _, hr, _, _, hch, .inr ⟨rfl, .exit id, m3, hv3, hc3, hz3, hl4, hk4, rfl, rfl⟩⟩
    | goto t =>
     obtain ⟨m3, ds3, i3, hS3, hi3, hv3⟩ := hp3
     obtain ⟨hr, hc3, hz3, hl4, hk4, hch⟩ := fin (some (.goto t)) W3 m3 ds3 i3 hS3 hi3
     exact ⟨_, _, hr, _, _, hch, .inr ⟨rfl, .goto t, m3, hv3, hc3, hz3, hl4, hk4, rfl, rfl⟩⟩
    | panic ch => exact hp3.elim
    | outgrown => exact hp3.elim
   | _ => exact he.elim
  ·
   -- behind the iterator
   have after : ∀ (rc : Loop) (m' : List Res) (W' : World) (C' M' : Nat → Prop), CSt w0 M (imm Z w0 m w) w m W' m' ds → W'.heap[w.heap.size + 1]? = some (.loop rc) → W'.heap[w.heap.size]? = some (.deferred (some [])) →
     (∀ k, FR m' k → C' k) → Chg (fun k => k < w.heap.size ∨ FR m k ∨ k = w.heap.size + 1 ∨ k = w.heap.size) (fun k => FR m k ∨ k = w.heap.size + 1) W1 W' C' M' →
     St w0 Z M (W'.putObj (w.heap.size + 1) (.loop { rc with state := .exhausted })) m' (ds ++ [Qa w0.heap.size w.heap.size]) := fun rc m' W' C' M' hc hl hk hC hch => by
    have hnl : ¬ FR m' (w.heap.size + 1) := II hc.hold hl Le
    have hnd : ¬ FR m' w.heap.size := II hc.hold hk Sw
    have hput : ∀ k, k ≠ w.heap.size + 1 → (W'.putObj (w.heap.size + 1) (.loop { rc with state := .exhausted })).heap[k]? = W'.heap[k]? := fun k h => World.putObj_heap_other h
    have hsz := hch.size
    have hS' : St w0 Z M (W'.putObj (w.heap.size + 1) (.loop { rc with state := .exhausted })) m' ds := by
     refine hS.step (hch.os.trans hb1.os) (hch.tape.trans hb1.tape) (hch.output.trans hb1.output) (by rw [World.putObj_size]; omega) (fun k hk hne => ?_)
      (fun r hr => DF (hc.hold r hr) (fun k e => hput k (fun e' => hnl (e' ▸ ⟨r, hr, e⟩)))) (fun r hr k e => ⟨by rw [World.putObj_size]; exact (hc.own r hr k e).1, ?_⟩) hc.apart
     ·
      rw [hput k (by omega), hch.old k (by omega) (by rintro (⟨r, hr, e⟩ | rfl); exact hne r hr e; omega)]
      exact hold1 k hk
     · exact (hc.own r hr k e).2.2.2.imp (fun ⟨r', hr', e'⟩ => ⟨r', hr', e'⟩) id
    refine hS'.data _ ⟨hS.size, ⟨?_, fun hlt => ?_, fun r hr e => hnd ⟨r, hr, e⟩⟩, (hput _ (by omega)).trans hk⟩
    · rw [World.putObj_size]; exact (AV.1 hk).1
    ·
     have := hS.size
     omega
   rintro e W' ⟨⟨v, rfl⟩, C', M', hch, ⟨⟨⟩, m', hinv, hc, _, hl, hk, rfl, rfl⟩ | ⟨pre, hpre, c, m', hix, hc, _, hl, hk, rfl, rfl⟩⟩
   ·
    have he := run_endLoop (P := P) hl (by rw [hrec]; simp)
    rw [hrec] at he
    refine ⟨none, _, he, hdone _ m' _ hinv ?_⟩
    have := after _ m' W' _ _ hc hl hk (fun k q => .inr (.inl q)) hch
    rw [hrec] at this
    exact this
   ·
    have he := run_endLoop (P := P) hl (by rw [hrec]; simp)
    rw [hrec] at he
    refine ⟨some c, _, he, wpIn_wide.2 (hstop _ c pre m' _ hpre hix ?_)⟩
    have := after _ m' W' _ _ hc hl hk (fun k q => .inr (.inl q)) hch
    rw [hrec] at this
    exact this
end
end
section
/- Iterators' walks: how they begin and end; functions that hold a loop over a function. -/
open Go Go.RowKit
section
variable {α : Type} {P : Program} {jf jx : JF α} {W w w' w0 : World} {C Mc C0 M0 Zd Z M : Nat → Prop} {m : List Res} {ds ds0 : List Dat} {xs s : List α} {N : Nat} {l : List (Nat × Value)} {a : Act}
theorem OM (hj : jf.J [] W C Mc) (hds : ∀ d ∈ ds0, d.φ W Zd) (hz : ∀ k, Zd k → k < W.heap.size ∧ ¬ Mc k) : St W (ED W) Mc W [] (dJ jf [] C Mc W.heap.size :: ds0) := by
 refine St.start W _ _ _ fun d hd => ?_
 rcases AD.1 hd with rfl | hd
 · exact ⟨C, Mc, hj, fun k hC => ⟨(jf.sub _ _ _ _ hj).2 k hC, fun h => h, fun _ h => by cases h⟩, fun _ h => .inl h, fun _ h => .inl h⟩
 · exact d.mono _ _ _ _ (Af _) (hds d hd) fun k hk => ⟨⟨(hz k hk).1, fun h => h, fun _ h => by cases h⟩, rfl⟩
def Kl (jf jx : JF α) (xs : List α) (C0 M0 : Nat → Prop) (w0 : World) (e : Ending) (W' : World) : Prop :=
 (∃ v, e = .returned v) ∧ ∃ C' M', Chg C0 M0 w0 W' C' M' ∧ (jf.J xs W' C' M' ∨ ∃ pre, pre <+: xs ∧ jx.J pre W' C' M')
theorem Vj {jf : JF α} {i : Nat} (hS : St w0 (ED w0) M0 w m ds) (hi : ds[i]? = some (dJ jf s C0 M0 w0.heap.size)) : ∃ C' M', Chg C0 M0 w0 w C' M' ∧ jf.J s w C' M' := by
 obtain ⟨C', M', h1, h2, h3, h4⟩ := hS.get hi
 exact ⟨C', M', ⟨hS.os, hS.tape, hS.output, hS.size, hS.old, h3, h4⟩, h1⟩
theorem ON {v : Value} {i : Nat} (hS : St w0 (ED w0) M0 w m ds) (hi : ds[i]? = some (dJ jf s C0 M0 w0.heap.size)) (h : s = xs) : Kl jf jx xs C0 M0 w0 (.returned v) w := by
 subst h
 obtain ⟨C', M', h1, h2⟩ := Vj hS hi
 exact ⟨⟨v, rfl⟩, C', M', h1, .inl h2⟩
theorem IY {v : Value} {i : Nat} (hS : St w0 (ED w0) M0 w m ds) (hi : ds[i]? = some (dJ jx s C0 M0 w0.heap.size)) (h : s <+: xs) : Kl jf jx xs C0 M0 w0 (.returned v) w := by
 obtain ⟨C', M', h1, h2⟩ := Vj hS hi
 exact ⟨⟨v, rfl⟩, C', M', h1, .inr ⟨s, h, h2⟩⟩
theorem GJ {g : Nat} {fn : Func} {c : Code} {lb : List Value} {encs : α → Array Value} {W0 : World} (hf : P.funcs[g]? = some fn) (hb : fn.body = some c) (hN : fn.ntmps = N) (hsz : decide (lb.length + 1 ≤ N ∧ N ≤ 1000000) = true)
  (ds0 : List Dat) (hds : ∀ d ∈ ds0, d.φ W0 Zd)
  (h : ∀ (lp : Nat) (jf jx : JF α) (w0 : World) (C0 M0 : Nat → Prop), Ys P lp encs xs jf jx w0 C0 M0 Zd → (∀ d ∈ ds0, d.φ w0 Zd) → ∀ a, Reg a N ((1000000, .bool false) :: idx 0 (.func (.yield lp) #[] #[] :: lb)) →
   St w0 (ED w0) M0 w0 [] (dJ jf [] C0 M0 w0.heap.size :: ds0) → c.wp P (bodyPost P fn (Kl jf jx xs C0 M0 w0)) a w0) : HV P g lb.toArray encs xs Zd W0 := by
 intro lp jf jx W C Mc hs hag hz hj hY
 have hds' : ∀ d ∈ ds0, d.φ W Zd := fun d hd => d.mono _ _ _ _ hs (hds d hd) fun k hk => ⟨hk, hag k hk⟩
 have h1 : (#[.func (.yield lp) #[] #[]] ++ lb.toArray : Array Value) = (Value.func (.yield lp) #[] #[] :: lb).toArray := by simp
 rw [h1]
 refine callsIn_wide.2 (AE hf hb hN (by simpa using hsz) fun a hR => ?_)
 exact h lp jf jx W C Mc ⟨hz, (jf.sub _ _ _ _ hj).2, hY⟩ hds' a hR (OM hj hds' hz)
end
section
variable {P : Program} {ops : Array Oper} {Q : Exit → Act → World → Prop} {a : Act} {w : World} {rest : List Oper} {o : Oper} {ro : Option Nat}
theorem F0 {id : Nat} {ls : List Oper} (h : wpListIn (wf none) 0 P ls.toArray Q ls a w) : (Code.region id ls.toArray false).wp P Q a w :=
 (wpIn_wide (n := 0)).1 (wpIn_region_lit h)
theorem Qb {id l : Nat} {ls : List Oper} (h : wpListIn (wf (some l)) 0 P ls.toArray Q ls a w) : (Code.region id ls.toArray false).wpIn (rI l) 0 P Q a w := wpIn_region_lit h
theorem Fa {F : Fence} {n : Nat} (h : Q .normal a w) : wpListIn F n P ops Q [] a w := h
theorem Q7 (hg : o.guard = none) (hnd : Ey o = true) : Ste P (wpListIn (wf ro) 0 P ops Q (o :: rest) a w) (wpListIn (wf ro) 0 P ops Q rest) o a w :=
 MV (IK hnd) (by simp [Region.wanted, hg])
theorem B2 (hg : o.guard = none) (hnd : Ey o = true) : SteV P (wpListIn (wf ro) 0 P ops Q (o :: rest) a w) (wpListIn (wf ro) 0 P ops Q rest) o a w := (Q7 hg hnd).toSteV
end
section
variable {P : Program} {fn : Func} {R : Ending → World → Prop} {N : Nat} {l : List (Nat × Value)} {a : Act} {w : World}
def MF (P : Program) (fn : Func) (R : Ending → World → Prop) : Exit → Act → World → Prop
 | .panic _, _, _ => False
 | .outgrown, _, _ => False
 | e, a, w => bodyPostM Fence.wide 0 P fn R e a w
theorem IG : DD (MF P fn R) := fun _ _ _ _ _ h => h
theorem Uu {e : Exit} (h : MF P fn R e a w) : bodyPostM Fence.wide 0 P fn R e a w := by
 cases e with
 | panic _ => exact h.elim
 | outgrown => exact h.elim
 | _ => exact h
theorem FM {f : FuncId} {c : Code} {vs : List Value} (hf : P.funcs[f]? = some fn) (hb : fn.body = some c) (hN : fn.ntmps = N) (hsz : (decide (vs.length ≤ N ∧ N ≤ 1000000)) = true)
  (h : ∀ a, Reg a N ((1000000, .bool false) :: idx 0 vs) → c.wp P (MF P fn R) a w) : Calls P f vs.toArray w R := by
 subst hN
 have hsz0 := A9 hsz
 refine (callsIn_wide (n := 0)).1 (callsIn_of_wp_marks hf hb trivial (wpIn_wide.2 (wp_mono (h _ (Reg.start vs.toArray fn.ntmps (by simpa using hsz0.1) hsz0.2 _ fun i v hv => ?_)) (fun _ _ _ h => Uu h))))
 obtain ⟨_, h2⟩ := NH vs 0 i v hv
 have h3 : vs[i]? = some v := by simpa using h2
 obtain ⟨hlt, h4⟩ := List.getElem?_eq_some_iff.1 h3
 simp [Array.getElem?_append, hlt, h4]
abbrev shut (w : World) (D : Nat) : World := w.putObj D (.deferred none)
theorem Kc {v : Value} {how : Exit} (hhow : how = .ret ∨ how = .normal) (hR : Reg a N l) (h0 : l.lookup 1000000 = some (.bool false)) (hr : (results fn a.tmps).run P w = .ok v w) (h : R (.returned v) w) : MF P fn R how a w := by
 have h1 : LeavesInM Fence.wide 0 P fn a.tmps R a.defers .returning w := by
  rw [hR.dfr h0]
  exact ⟨v, hr, h⟩
 rcases hhow with rfl | rfl <;> exact h1
theorem Fx {v : Value} {D : Nat} {how : Exit} (hhow : how = .ret ∨ how = .normal) (hR : Reg a N l) (h0 : l.lookup 1000000 = some (.int .i64 (D : Int))) (hD : w.heap[D]? = some (.deferred (some []))) (hr : (results fn a.tmps).run P (shut w D) = .ok v (shut w D)) (h : R (.returned v) (shut w D)) : MF P fn R how a w := by
 have h1 : LeavesInM Fence.wide 0 P fn a.tmps R a.defers .returning w := by
  rw [hR.dfr1 D h0]
  exact ⟨by simp, .inl ⟨D, _, rfl, run_takeDeferred hD, v, hr, h⟩⟩
 rcases hhow with rfl | rfl <;> exact h1
theorem res0 (hr : fn.results = #[]) (w : World) : (results fn a.tmps).run P w = .ok (.tuple #[]) w := results_none hr _ _ _
theorem res1 {t : Nat} {v : Value} (hR : Reg a N l) (hr : fn.results = #[.tmp t]) (hv : ev l (.tmp t) = some v) (w : World) : (results fn a.tmps).run P w = .ok v w := by
 have h1 : a.tmps.getD t undef = v := hR.ev hv
 rw [results_tmp hr, h1]
theorem VI {t u : Nat} {v v' : Value} (hR : Reg a N l) (hr : fn.results = #[.tmp t, .tmp u]) (hv : ev l (.tmp t) = some v) (hv' : ev l (.tmp u) = some v') (w : World) : (results fn a.tmps).run P w = .ok (.tuple #[v, v']) w := by
 have h1 : a.tmps.getD t undef = v := hR.ev hv
 have h2 : a.tmps.getD u undef = v' := hR.ev hv'
 rw [results_tmp2 hr, h1, h2]
def Of (w : World) (k : Nat) : Prop := ∃ o, w.heap[k]? = some o ∧ MO o
def DatC (d : Dat) : Prop := ∀ (w w' : World) (I : Nat → Prop), d.φ w I → (∀ k, Of w k → w'.heap[k]? = w.heap[k]?) → d.φ w' I
theorem UL {w w' : World} {I : Nat → Prop} {size : Nat} {A : Option Addr} {n : Nat} {xs : List Value} (h : RowI w I size A n xs) (hs : size ≠ 0) (hk : ∀ k, Of w k → w'.heap[k]? = w.heap[k]?) : RowI w' I size A n xs :=
 ⟨h.1, fun hn => by
  obtain ⟨ad, rfl, hI, hc⟩ := h.2 hn
  refine ⟨ad, rfl, hI, hc.keep (hk _ ?_)⟩
  have hlen : 0 < xs.length := by rw [h.1]; exact Nat.mul_pos hn (Nat.pos_of_ne_zero hs)
  have h0 := hc 0 xs[0] (Bx hlen)
  rw [FQ] at h0
  unfold World.cell? at h0
  cases ho : w.heap[ad.block]? with
  | none => simp [ho] at h0
  | some o =>
   cases o with
   | cells cs t fz => exact ⟨_, ho, .inl ⟨cs, t, fz, rfl⟩⟩
   | _ => simp [ho] at h0⟩
theorem Lj {size : Nat} (hs : size ≠ 0) (A : Option Addr) (n cap : Nat) (xs : List Value) : DatC (Bw size A n cap xs) := fun _ _ _ h hk => ⟨h.1, UL h.2 hs hk⟩
theorem Ul (t : List Sl) : DatC (Cl t) := fun _ _ _ h hk s hs => ⟨(h s hs).1, UL (h s hs).2 (by decide) hk⟩
theorem St.shut {w0 w : World} {Z M : Nat → Prop} {m : List Res} {ds : List Dat} {D i : Nat} (h : St w0 Z M w m ds) (hi : ds[i]? = some (Qa w0.heap.size D)) (ds' : List Dat) (hd : ∀ d ∈ ds', d ∈ ds ∧ DatC d) : w.heap[D]? = some (.deferred (some [])) ∧ St w0 Z M (shut w D) m ds' := by
 obtain ⟨hB, hI, hD⟩ := h.get hi
 have hne : ∀ k, Of w k → (YtpfmnpaifchleaaGreatDoor.shut w D).heap[k]? = w.heap[k]? := fun k ⟨o, hk, hp⟩ => World.putObj_heap_other (fun e => by
  subst e
  rw [hD] at hk
  rw [← B4 hk] at hp
  rcases hp with ⟨_, _, _, h⟩ | ⟨_, _, h⟩ <;> cases h)
 have hblk : ∀ r ∈ m, ∀ k, r.blk = some k → (YtpfmnpaifchleaaGreatDoor.shut w D).heap[k]? = w.heap[k]? := fun r hr k e => hne k (Fj (h.hold r hr) e)
 refine ⟨hD, h.os, h.tape, h.output, by rw [World.putObj_size]; exact h.size, fun k hk hM => (World.putObj_heap_other (by omega)).trans (h.old k hk hM), fun r hr => DF (h.hold r hr) (hblk r hr),
  fun r hr k e => ⟨by rw [World.putObj_size]; exact (h.own r hr k e).1, (h.own r hr k e).2⟩, h.apart, fun d hdm => ?_⟩
 have h1 := (hd d hdm).2 w (YtpfmnpaifchleaaGreatDoor.shut w D) _ (h.dat d (hd d hdm).1) hne
 have himm : imm Z w0 m (YtpfmnpaifchleaaGreatDoor.shut w D) = imm Z w0 m w := by
  funext k
  unfold imm
  rw [World.putObj_size]
 rw [himm]
 exact h1
end
end
section
/- Slices held against nil; rows that a call hands over. -/
open Go Go.RowKit
section
variable {P : Program} {X : Prop} {Next : Act → World → Prop} {o : Oper} {a : Act} {w w' w0 : World} {N : Nat} {l : List (Nat × Value)} {d : Nat} {Z M : Nat → Prop} {m : List Res} {ds : List Dat}
theorem VG {op : BinOp} {t u : TypeId} {x y : Operand} {v : Value} {A A2 : Option Addr} {n c n2 c2 : Nat} (hR : Reg a N l) (ho : o.op = .binOp op t x y u) (hx : ev l x = some (.slice A n c)) (hy : ev l y = some (.slice A2 n2 c2))
  (h : (binOp op t (.slice A n c) (.slice A2 n2 c2)).run P w = .ok v w) : (execOp a.eval o).run P w = .ok (.value v) w := by
 have hg : (eqGuard op t x y (.slice A n c) (.slice A2 n2 c2)).run P w = .ok () w := by
  unfold eqGuard
  cases op <;> rfl
 unfold execOp
 rw [ho]
 simp only [hR.ev hx, hR.ev hy, AF, hg, Az, h, Bg]
theorem KL {t u e : TypeId} {x y : Operand} {A : Option Addr} {n c n2 c2 : Nat} (hs : SteV P X Next o a w) (hR : Reg a N l) (hd : o.dst = some d) (ho : o.op = .binOp .eql t x y u) (hx : ev l x = some (.slice A n c)) (hy : ev l y = some (.slice none n2 c2))
  (ht : P.underlying t = some (.slice e)) (hdN : d < N) (k : ∀ a', Reg a' N ((d, .bool A.isNone) :: l) → Next a' w) : X :=
 Cv hs hR hd hdN (VG hR ho hx hy (Lib.run_eql_slice_nil w t e A n c n2 c2 ht)) k
theorem N6 {I : Nat → Prop} {size : Nat} {A : Option Addr} {n cap : Nat} {xs : List Value} (h : (Bw size A n cap xs).φ w I) (hA : A.isNone = true) : n = 0 := by
 refine Nat.eq_zero_of_not_pos fun hn => ?_
 obtain ⟨ad, rfl, _⟩ := h.2.2 hn
 cases hA
theorem St.callO (h : St w0 Z M w m ds) {r : Res} (hf : Fr A6 w w') (hr : r.holds w') (hfr : ∀ k, r.blk = some k → w.heap.size ≤ k) : St w0 Z M w' (m ++ [r]) ds := by
 have hb := hf.below
 refine h.step hf.os hf.tape hf.output hf.size (fun k hk _ => hb.block k hk) ?_ ?_ ?_
 ·
  intro s hs
  rcases B5.1 hs with hs | hs
  · exact ER (h.hold s hs) hb (fun k e => (h.own s hs k e).1)
  ·
   rw [AB] at hs
   subst hs
   exact hr
 ·
  intro s hs k e
  rcases B5.1 hs with hs | hs
  · exact ⟨BS (h.own s hs k e).1 hf.size, .inl ⟨s, hs, e⟩⟩
  ·
   rw [AB] at hs
   subst hs
   obtain ⟨_, hc, _⟩ := Fj hr e
   exact ⟨(AV.1 hc).1, .inr (hfr k e)⟩
 ·
  rw [List.pairwise_append]
  refine ⟨h.apart, by simp, fun s hs t ht k e e' => ?_⟩
  rw [AB] at ht
  subst ht
  have := (h.own s hs k e).1
  have := hfr k e'
  omega
theorem St.fresh {i : Nat} {r : Res} (h : St w0 Z A6 w m ds) (hi : m[i]? = some r) (k : Nat) (hk : r.blk = some k) : w0.heap.size ≤ k :=
 ((h.own r (Ax hi) k hk).2).resolve_right (fun x => x)
theorem St.trim (h : St w0 Z M w m ds) {α : Type} {f : α → List Value} {size : Nat} (hf : ∀ x, (f x).length = size) {i e cap : Nat} {A : Option Addr} {L : List α} (hi : m[i]? = some (.row A L.length cap e size (L.flatMap f))) (q : Nat) (hq : q ≤ L.length) :
  St w0 Z M w (m.set i (.row A (L.take q).length cap e size ((L.take q).flatMap f))) ds := by
 have h1 : w.ownsRow 0 e size (.slice A L.length cap) L.length (L.flatMap f) := h.res hi
 have h2 := O6 h1 hq
 have hl : (L.take q).length = q := by rw [Ah]; omega
 rw [FJ hf] at h2
 refine h.turn hi rfl rfl rfl (Af _) (fun _ _ _ => rfl) ?_ (fun k hk => ?_)
 ·
  rw [hl]
  exact h2
 ·
  have hk' : (Res.row A L.length cap e size (L.flatMap f)).blk = some k := hk
  exact ⟨(h.own _ (Ax hi) k hk').1, .inl hk'⟩
theorem Ee {p q : Nat} {v0 u v : Value} {l' : List (Nat × Value)} (h : Reg a N ((1000000, v0) :: l')) (hp : p < N) (hq : q < N) (hk : l'.lookup 1000000 = none) :
  Reg { tmps := (#[p, q].zip #[u, v]).foldl (fun t (p, v) => t.setIfInBounds p v) a.tmps, defers := [] } N ((q, v) :: (p, u) :: (1000000, .bool false) :: l') :=
 h.round2 hp hq u v (fun i w hi hw => by rw [D1 hi]; exact hw) hk
theorem DG {l' : List (Nat × Value)} (h : Reg a N ((1000000, .bool false) :: l')) (D : Nat) : Reg { a with defers := Vf D :: a.defers } N ((1000000, .int .i64 (D : Int)) :: l') := by
 refine ⟨fun q => ?_, fun D' q => ?_, h.top, h.size, fun i v hi hv => h.get i v hi (by rw [D1 hi] at hv ⊢; exact hv)⟩
 ·
  rw [DC] at q
  cases q
 ·
  rw [DC] at q
  have : D = D' := by
   injection q with q
   injection q with _ q
   omega
  subst this
  show Vf D :: a.defers = _
  rw [h.dfr DC]
theorem Ik {w : World} {e size : Nat} : (Res.row none 0 0 e size []).holds w := ⟨by simp, .inl ⟨rfl, rfl⟩⟩
theorem Ij {w0 : World} {e size : Nat} : ∀ k, (Res.row none 0 0 e size []).blk = some k → w0.heap.size ≤ k := fun k hk => by cases hk
end
theorem Ql {Q : Exit → Act → World → Prop} {a : Act} {w : World} (h : Q .normal a w) : Exit.noGoto Q .normal a w := h
theorem L5 {Q : Exit → Act → World → Prop} {a : Act} {w : World} (h : Q .ret a w) : Exit.noGoto Q .ret a w := h
end
section
/- What iterators hand over: plain lists. -/
def bwL (t : List Nd) : List (Int × Nd) := (List.range t.length).map fun i => (((t.length - 1 - i : Nat) : Int), nth t (t.length - 1 - i))
theorem H9 (t : List Nd) : (bwL t).length = t.length := by simp [bwL]
theorem SG {t : List Nd} {k : Nat} (h : k < t.length) : (bwL t)[k]? = some (((t.length - 1 - k : Nat) : Int), nth t (t.length - 1 - k)) := by simp [bwL, h]
theorem Pi {t : List Nd} {k : Nat} {n : Nat} {i : Int} (h : k < t.length ∧ i = (t.length : Int) - (k : Int) - 1 ∧ n = t.length - (k + 1)) : (bwL t).take k ++ [(i, nth t n)] = (bwL t).take (k + 1) := by
 rw [List.take_add_one, SG h.1]
 obtain ⟨h1, rfl, rfl⟩ := h
 simp only [Option.toList_some]
 congr 3
 · omega
 ·
  congr 1
  omega
theorem Qe {t : List Nd} {k : Nat} {n : Nat} {i : Int} (h : k < t.length ∧ i = (t.length : Int) - (k : Int) - 1 ∧ n = t.length - (k + 1)) : (bwL t).take k ++ [(i, nth t n)] <+: bwL t := by
 rw [Pi h]
 exact List.take_prefix _ _
theorem WT {t : List Nd} {k : Nat} (h : t.length ≤ k) : (bwL t).take k = bwL t := AM (by rw [H9]; exact h)
mutual
def L2 (o u : Int) : T → List (Int × Int)
 | .mk n l => (o + (AA l).length, u) :: D9 o l ((binds n).map (u + ·))
def D9 (o : Int) : List T → List Int → List (Int × Int)
 | [], _ => []
 | _ :: _, [] => []
 | t :: l, u :: us => D9 (o + t.flat.length) l us ++ L2 o u t
end
theorem HC (o : Int) (A B : List T) (us vs : List Int) (h : A.length = us.length) : D9 o (A ++ B) (us ++ vs) = D9 (o + (AA A).length) B vs ++ D9 o A us := by
 induction A generalizing o us with
 | nil =>
  cases us with
  | nil => simp [D9, AZ]
  | cons _ _ => simp at h
 | cons t A ih =>
  cases us with
  | nil => simp at h
  | cons u us =>
   simp only [List.cons_append, D9, ih (o + t.flat.length) us (by simpa using h), Bh, Ab, BG]
   congr 2
   omega
theorem L6 (o u : Int) (t : T) : D9 o [t] [u] = L2 o u t := by simp [D9]
def Bk (t : List Nd) : T := match CM [] t with
 | some [x] => x
 | _ => .mk ndz []
theorem Du {x : T} (h : x.wf = true) : Bk x.flat = x := by
 unfold Bk
 rw [Gl [] x h]
 rfl
theorem Co {t : List Nd} (h : chk t = 0) : (Bk t).wf = true ∧ (Bk t).flat = t ∧ (Bk t).deep ≤ 60 ∧ t.length ≤ 4000 := by
 obtain ⟨x, hw, rfl, hl, hd⟩ := Pc.1 h
 rw [Du hw]
 exact ⟨hw, rfl, hd, hl⟩
def Cx (t : List Nd) : List (Int × Int) := L2 0 0 (Bk t)
structure VInv (t : List Nd) (k : Nat) (A : List T) (us : List Int) : Prop where
 len : A.length = us.length
 flat : AA A = t.take (t.length - k)
 wfs : T.wfs A = true
 rest : Cx t = (Cx t).take k ++ D9 0 A us
 klen : ((Cx t).take k).length = k
 bd : ∀ u ∈ us, 0 ≤ u ∧ u ≤ 2 * (k : Int)
theorem VInv.zero {t : List Nd} (h : chk t = 0) : VInv t 0 [Bk t] [0] := by
 obtain ⟨h1, h2, _, _⟩ := Co h
 refine ⟨rfl, by rw [DQ, h2]; simp, by simp [T.wfs, h1], by rw [L6]; rfl, rfl, fun u hu => ?_⟩
 rw [AB] at hu
 subst hu
 simp
theorem shp_b (k : Nat) : ∀ b ∈ (shp k).b, 0 ≤ b ∧ b ≤ 2 := by
 unfold shp
 split <;> simp
theorem Lz (n : Nd) : ∀ b ∈ binds n, 0 ≤ b ∧ b ≤ 2 := by
 intro b hb
 unfold binds at hb
 split at hb
 ·
  have := List.eq_of_mem_replicate hb
  omega
 ·
  split at hb
  ·
   rcases AD.1 hb with rfl | hb
   · omega
   ·
    have := List.eq_of_mem_replicate hb
    omega
  · exact shp_b _ _ hb
theorem LI {α : Type} {L : List α} (h : 0 < L.length) : ∃ p x, L = p ++ [x] := by
 rcases List.eq_nil_or_concat L with rfl | ⟨p, x, rfl⟩
 · simp at h
 · exact ⟨p, x, by simp⟩
theorem LF {α : Type} {Y X R : List α} {e : α} {k : Nat} (h : Y = X ++ e :: R) (hk : X.length = k) : Y.take (k + 1) = X ++ [e] := by
 subst hk
 rw [h, List.take_append, AM (by omega)]
 simp
def BI (n : Nd) : List Int := if right n = true then binds n else []
theorem Jp {n : Nd} (h : right n = true) : BI n = binds n := At h
theorem F2 (n : Nd) : (BI n).length ≤ 8 := by
 unfold BI
 split
 · rename_i h; exact FY h
 · simp
theorem VInv.step {t : List Nd} {k : Nat} {A : List T} {us : List Int} (h : VInv t k A us) (hk : k < t.length) :
  right (nth t (t.length - (k + 1))) = true ∧ 0 < us.length ∧ us.length ≤ t.length ∧ (0 ≤ Ci us (us.length - 1) ∧ Ci us (us.length - 1) ≤ 2 * (k : Int)) ∧
  (Cx t).take k ++ [((t.length : Int) - (k : Int) - 1, Ci us (us.length - 1))] = (Cx t).take (k + 1) ∧
  ∃ A', VInv t (k + 1) A' (us.take (us.length - 1) ++ (BI (nth t (t.length - (k + 1)))).map (Ci us (us.length - 1) + ·)) := by
 have hfl : (AA A).length = t.length - k := by rw [h.flat, Ah]; omega
 have hA : 0 < A.length := by
  cases A with
  | nil => simp [AZ] at hfl; omega
  | cons _ _ => simp
 obtain ⟨Ap, ⟨n, l⟩, rfl⟩ := LI hA
 have hu : 0 < us.length := by rw [← h.len]; exact hA
 obtain ⟨up, u, rfl⟩ := LI hu
 have hlen : Ap.length = up.length := by have := h.len; simpa using this
 have hlast : Ci (up ++ [u]) ((up ++ [u]).length - 1) = u := by simp [Ci]
 have htk : (up ++ [u]).take ((up ++ [u]).length - 1) = up := by simp
 have hf2 : AA Ap ++ (AA l ++ [n]) = t.take (t.length - k) := by
  have := h.flat
  rwa [C4, DQ, Bi] at this
 have hf3 : (AA (Ap ++ l)) ++ [n] = t.take (t.length - k) := by rw [C4, BG]; exact hf2
 have hl3 : (AA (Ap ++ l)).length = t.length - (k + 1) := by
  have := congrArg List.length hf3
  rw [Ab, Ah, Bv] at this
  omega
 have hn : nth t (t.length - (k + 1)) = n := by
  have h1 : (t.take (t.length - k))[t.length - (k + 1)]? = some n := by
   rw [← hf3, ← hl3]
   simp
  rw [List.getElem?_take_of_lt (by omega)] at h1
  simp [nth, h1]
 have hf4 : AA (Ap ++ l) = t.take (t.length - (k + 1)) := by
  have h1 := congrArg (List.take (t.length - (k + 1))) hf3
  rw [E0 (by omega), AM (by omega), List.take_take] at h1
  rw [h1]
  congr 1
  omega
 have hw := h.wfs
 rw [Fi, AK] at hw
 have hw2 : (T.mk n l).wf = true := by simpa [T.wfs] using hw.2
 rw [E8] at hw2
 simp only [AK, beq_iff_eq] at hw2
 have hv : D9 0 (Ap ++ [T.mk n l]) (up ++ [u]) = ((t.length : Int) - (k : Int) - 1, u) :: D9 0 (Ap ++ l) (up ++ (binds n).map (u + ·)) := by
  rw [HC _ _ _ _ _ hlen, HC _ _ _ _ _ hlen, L6, L2]
  simp only [List.cons_append, List.cons.injEq, DH, and_true]
  rw [C4, Ab] at hl3
  omega
 have hr := h.rest
 rw [hv] at hr
 have htake : (Cx t).take (k + 1) = (Cx t).take k ++ [((t.length : Int) - (k : Int) - 1, u)] := by
  exact LF hr h.klen
 have hbu := h.bd u (by simp)
 rw [hn, hlast, htk, Jp hw2.1.1]
 refine ⟨hw2.1.1, by simp, ?_, hbu, htake.symm, Ap ++ l, ⟨?_, hf4, ?_, ?_, ?_, ?_⟩⟩
 ·
  have h1 := Fc (Ap ++ [T.mk n l])
  rw [hfl, h.len] at h1
  omega
 ·
  rw [Ab, Ab, BT, hlen]
  have : (binds n).length = l.length := hw2.1.2
  omega
 · rw [Fi, hw.1, hw2.2]; rfl
 ·
  rw [htake, BG]
  exact hr
 · rw [htake, Ab, h.klen]; rfl
 ·
  intro v hvm
  rcases B5.1 hvm with hvm | hvm
  ·
   have := h.bd v (List.mem_append_left _ hvm)
   omega
  ·
   obtain ⟨b, hb, rfl⟩ := Ch.1 hvm
   have := Lz n b hb
   omega
theorem VInv.all {t : List Nd} {k : Nat} {A : List T} {us : List Int} (h : VInv t k A us) (hk : t.length ≤ k) : (Cx t).take k = Cx t := by
 have hfl := h.flat
 rw [show t.length - k = 0 by omega, List.take_zero] at hfl
 cases A with
 | nil =>
  have := h.rest
  simpa [D9] using this.symm
 | cons x A =>
  rw [Bh] at hfl
  have := SX x
  simp_all
theorem OH {u : Int} {bs : List Int} {j : Nat} (h : j < bs.length) : (bs.take (j + 1)).map (u + ·) = (bs.take j).map (u + ·) ++ [u + Ci bs j] := by
 have hn : Ci bs j = bs[j] := by simp [Ci, h]
 rw [List.take_add_one, Bx h, hn, C3]
 rfl
theorem Hp {n : Nd} (j : Nat) : 0 ≤ Ci (binds n) j ∧ Ci (binds n) j ≤ 2 := by
 by_cases h : j < (binds n).length
 ·
  have : Ci (binds n) j = (binds n)[j] := by simp [Ci, h]
  rw [this]
  exact Lz n _ (List.getElem_mem h)
 ·
  have : Ci (binds n) j = 0 := by simp [Ci, AP, List.getElem?_eq_none (by omega : (binds n).length ≤ j)]
  omega
theorem Kx {n : Nd} (j : Nat) : 0 ≤ Ci (BI n) j ∧ Ci (BI n) j ≤ 2 := by
 unfold BI
 split
 · exact Hp j
 · simp [Ci]
def DA (t : List Nd) (k : Nat) (x : List (Int × Int) × Int × Int) : List (Int × Int) × Int × Int :=
 if x.2.1 < 0 ∧ (nth t (t.length - (k + 1))).K ≠ 28 then x else
  if 0 < (if x.2.1 < 0 then 1 else x.2.2) + ((BI (nth t (t.length - (k + 1)))).length : Int) - 1 then
   (x.1, (if x.2.1 < 0 then ((t.length - (k + 1) : Nat) : Int) else x.2.1), (if x.2.1 < 0 then 1 else x.2.2) + ((BI (nth t (t.length - (k + 1)))).length : Int) - 1)
  else (x.1 ++ [(((t.length - (k + 1) : Nat) : Int), (if x.2.1 < 0 then ((t.length - (k + 1) : Nat) : Int) else x.2.1))], -1, (if x.2.1 < 0 then 1 else x.2.2) + ((BI (nth t (t.length - (k + 1)))).length : Int) - 1)
def prS (t : List Nd) : Nat → List (Int × Int) × Int × Int
 | 0 => ([], -1, 0)
 | k + 1 => DA t k (prS t k)
def O4 (t : List Nd) : List (Int × Int) := (prS t t.length).1
theorem Me (t : List Nd) : ∀ k, k ≤ t.length → -1 ≤ (prS t k).2.1 ∧ (prS t k).2.1 < t.length ∧ -(k : Int) ≤ (prS t k).2.2 ∧ (prS t k).2.2 ≤ 8 * (k : Int) + 1
 | 0, _ => by simp [prS]; omega
 | k + 1, hk => by
  obtain ⟨h1, h2, h3, h4⟩ := Me t k (by omega)
  have hb := F2 (nth t (t.length - (k + 1)))
  show -1 ≤ (DA t k (prS t k)).2.1 ∧ (DA t k (prS t k)).2.1 < t.length ∧ -((k + 1 : Nat) : Int) ≤ (DA t k (prS t k)).2.2 ∧ (DA t k (prS t k)).2.2 ≤ 8 * ((k + 1 : Nat) : Int) + 1
  unfold DA
  by_cases hr : (prS t k).2.1 < 0
  ·
   simp only [hr, true_and, if_true]
   split
   · omega
   · split <;> simp only [] <;> omega
  ·
   simp only [hr, false_and, if_false]
   split <;> simp only [] <;> omega
theorem P8 (t : List Nd) (k : Nat) (x : List (Int × Int) × Int × Int) : x.1 <+: (DA t k x).1 := by
 unfold DA
 (repeat' split) <;> first | exact List.prefix_refl _ | exact List.prefix_append _ _
theorem VX (t : List Nd) (k j : Nat) : (prS t k).1 <+: (prS t (k + j)).1 := by
 induction j with
 | zero => exact List.prefix_refl _
 | succ j ih => exact ih.trans (P8 t _ _)
theorem Ii {t : List Nd} {k : Nat} (h : k ≤ t.length) : (prS t k).1 <+: O4 t := by
 have := VX t k (t.length - k)
 rwa [show k + (t.length - k) = t.length by omega] at this
theorem T9 {t : List Nd} {k : Nat} (h1 : (prS t k).2.1 < 0) (h2 : (nth t (t.length - (k + 1))).K ≠ 28) : prS t (k + 1) = prS t k := by
 show DA t k (prS t k) = _
 unfold DA
 rw [At ⟨h1, h2⟩]
theorem TB {t : List Nd} {k : Nat} {n r : Int} (h1 : (prS t k).2.1 < 0) (h2 : (nth t (t.length - (k + 1))).K = 28) (h3 : 0 < n) (hn : n = (BI (nth t (t.length - (k + 1)))).length) (hr : r = ((t.length - (k + 1) : Nat) : Int)) : prS t (k + 1) = ((prS t k).1, r, n) := by
 show DA t k (prS t k) = _
 unfold DA
 simp only [h1, h2, true_and, if_true, ne_eq, not_true_eq_false, if_false]
 rw [At (by omega)]
 congr 2
 · exact hr.symm
 · omega
theorem KO {t : List Nd} {k : Nat} {n r : Int} (h1 : (prS t k).2.1 < 0) (h2 : (nth t (t.length - (k + 1))).K = 28) (h3 : ¬ 0 < n) (hn : n = (BI (nth t (t.length - (k + 1)))).length) (hr : r = ((t.length - (k + 1) : Nat) : Int)) : prS t (k + 1) = ((prS t k).1 ++ [(r, r)], -1, n) := by
 show DA t k (prS t k) = _
 unfold DA
 simp only [h1, h2, true_and, if_true, ne_eq, not_true_eq_false, if_false]
 rw [Aq (by omega), hr]
 congr 2
 omega
theorem prS_on {t : List Nd} {k : Nat} {n : Int} (h1 : ¬ (prS t k).2.1 < 0) (h3 : 0 < n) (hn : n = (prS t k).2.2 + (BI (nth t (t.length - (k + 1)))).length - 1) : prS t (k + 1) = ((prS t k).1, (prS t k).2.1, n) := by
 show DA t k (prS t k) = _
 unfold DA
 simp only [h1, false_and, if_false]
 rw [At (by omega), hn]
theorem Nt {t : List Nd} {k : Nat} {n i : Int} (h1 : ¬ (prS t k).2.1 < 0) (h3 : ¬ 0 < n) (hn : n = (prS t k).2.2 + (BI (nth t (t.length - (k + 1)))).length - 1) (hi : i = ((t.length - (k + 1) : Nat) : Int)) : prS t (k + 1) = ((prS t k).1 ++ [(i, (prS t k).2.1)], -1, n) := by
 show DA t k (prS t k) = _
 unfold DA
 simp only [h1, false_and, if_false]
 rw [Aq (by omega), hn, hi]
end
section
/- Regions that draw their order and, last of all, change what they have read. -/
open Go Go.RowKit
section
variable {P : Program} {ops : Array Oper} {Q : Exit → Act → World → Prop} {S : World → Prop} {late : List Nat} {a : Act} {w w0 : World} {N : Nat} {l : List (Nat × Value)} {d : Nat} {Z M : Nat → Prop} {m : List Res} {ds : List Dat} {oi : Oper} {i fuel : Nat} {listed : Array Bool}
def DL (P : Program) (ops : Array Oper) (Q : Exit → Act → World → Prop) (S : World → Prop) (late : List Nat) : Nat → Array Bool → Act → World → Prop
 | 0, listed, a, w => Region.ready .any ops listed = [] ∧ Q .normal a w
 | fuel + 1, listed, a, w => (Region.ready .any ops listed = [] → Q .normal a w) ∧
   ∀ j ∈ Region.ready .any ops listed, wpOp P ops Q j (fun a' w' => (late.contains j = false → S w → S w') ∧ DL P ops Q S late fuel (listed.setIfInBounds j true) a' w') a w
theorem F4 : ∀ (fuel : Nat) (listed : Array Bool) (a : Act) (w : World), DL P ops Q S late fuel listed a w → wpAny P .any ops Q fuel listed a w
 | 0, _, _, _, h => h
 | fuel + 1, _, _, _, h => ⟨h.1, fun i hi => wpOp_mono (fun _ _ h' => F4 fuel _ _ _ h'.2) (h.2 i hi)⟩
def Qo (ops : Array Oper) (late : List Nat) (i : Nat) : Bool := late.all fun j => match ops[j]? with
 | some oj => oj.after.toList.any fun e => Region.binds .any e && e.on == i
 | none => true
theorem Qn {j : Nat} {oj : Oper} (hl : Qo ops late i = true) (hj : late.contains j = true) (ho : ops[j]? = some oj) : ¬ ∀ e ∈ oj.after, Region.binds .any e = true → e.on ≠ i := by
 unfold Qo at hl
 rw [List.all_eq_true] at hl
 have h1 := hl j (by simpa using hj)
 simp only [ho] at h1
 intro hall
 obtain ⟨e, he, hb⟩ := F3.1 h1
 rw [AK, beq_iff_eq] at hb
 exact hall e (by simpa using he) hb.1 hb.2
theorem Kk {v : Value} (hi : ops[i]? = some oi) (hsel : ∀ (j : Nat) (o : Oper) cs b, ops[j]? = some o → o.op ≠ .select cs b) (hl : Qo ops late i = true)
  (hQ : ∀ c a w, Q (.panic c) (a.put oi.dst v) w → Q (.panic c) a w) : ∀ (fuel : Nat) (listed : Array Bool) (a : Act) (w : World),
   (∀ j oj, ops[j]? = some oj → j ≠ i → listed.getD j true = false → (∀ e ∈ oj.after, Region.binds .any e = true → e.on ≠ i) → oi.apart ops oj = true) →
   i ∈ Region.ready .any ops listed → YieldsIf P ops S oi v a → S w →
   DL P ops Q S late fuel (listed.setIfInBounds i true) (a.put oi.dst v) w → DL P ops Q S late (fuel + 1) listed a w
 | 0, listed, a, w, _, hr, hy, hS, H => by
  refine ⟨fun h => (by rw [h] at hr; cases hr), fun j hj => ?_⟩
  by_cases hji : j = i
  · subst hji; exact hy.wpOp hi hS ⟨fun _ h => h, H⟩
  ·
   have := ready_mono hj hji
   rw [H.1] at this
   cases this
 | fuel + 1, listed, a, w, hfree, hr, hy, hS, H => by
  refine ⟨fun h => (by rw [h] at hr; cases hr), fun j hj => ?_⟩
  by_cases hji : j = i
  · subst hji; exact hy.wpOp hi hS ⟨fun _ h => h, H⟩
  ·
   obtain ⟨hjun, oj, hoj, hall⟩ := mem_ready.1 hj
   have hnot : ∀ e ∈ oj.after, Region.binds .any e = true → e.on ≠ i := fun e he hb heq => by
    have h1 := hall e he hb
    have h0 := (mem_ready.1 hr).1
    rw [heq] at h1
    rcases Nat.lt_or_ge i listed.size with h' | h'
    · simp [h'] at h0 h1; rw [h0] at h1; cases h1
    · simp [Array.getElem?_eq_none h'] at h1
   have hnl : late.contains j = false := by
    cases hc : late.contains j with
    | false => rfl
    | true => exact absurd hnot (Qn hl hc hoj)
   refine wpOp_mono (fun a' w' h3 => ⟨h3.2.1, Kk hi hsel hl hQ fuel (listed.setIfInBounds j true) a' w' (fun k ok hk hki hun hno => hfree k ok hk hki ?_ hno) (ready_mono hr (Ne.symm hji)) h3.1 (h3.2.1 hnl hS) ?_⟩)
    (wpOp_putIf hoj (hfree j oj hoj hji hjun hnot) (fun cs b => hsel i oi cs b hi) (fun cs b => hsel j oj cs b hoj) hQ hy (H.2 j (ready_mono hj hji)))
   ·
    by_cases hjk : j = k
    · subst hjk; exact hjun
    · rw [getD_set_ne true hjk] at hun; exact hun
   ·
    rw [Array.setIfInBounds_comm _ _ hji]
    exact h3.2.2
theorem OL {v : Value} (hi : ops[i]? = some oi) (hsel : ∀ (j : Nat) (o : Oper) cs b, ops[j]? = some o → o.op ≠ .select cs b)
  (hQ : ∀ c a w, Q (.panic c) (a.put oi.dst v) w → Q (.panic c) a w) : ∀ (fuel : Nat) (listed : Array Bool) (a : Act) (w : World),
   (∀ j oj, ops[j]? = some oj → j ≠ i → listed.getD j true = false → (∀ e ∈ oj.after, Region.binds .any e = true → e.on ≠ i) → oi.apart ops oj = true) →
   i ∈ Region.ready .any ops listed → YieldsIf P ops (fun _ => True) oi v a →
   DL P ops Q S late fuel (listed.setIfInBounds i true) (a.put oi.dst v) w → DL P ops Q S late (fuel + 1) listed a w
 | 0, listed, a, w, _, hr, hy, H => by
  refine ⟨fun h => (by rw [h] at hr; cases hr), fun j hj => ?_⟩
  by_cases hji : j = i
  · subst hji; exact hy.wpOp hi trivial ⟨fun _ h => h, H⟩
  ·
   have := ready_mono hj hji
   rw [H.1] at this
   cases this
 | fuel + 1, listed, a, w, hfree, hr, hy, H => by
  refine ⟨fun h => (by rw [h] at hr; cases hr), fun j hj => ?_⟩
  by_cases hji : j = i
  · subst hji; exact hy.wpOp hi trivial ⟨fun _ h => h, H⟩
  ·
   obtain ⟨hjun, oj, hoj, hall⟩ := mem_ready.1 hj
   have hnot : ∀ e ∈ oj.after, Region.binds .any e = true → e.on ≠ i := fun e he hb heq => by
    have h1 := hall e he hb
    have h0 := (mem_ready.1 hr).1
    rw [heq] at h1
    rcases Nat.lt_or_ge i listed.size with h' | h'
    · simp [h'] at h0 h1; rw [h0] at h1; cases h1
    · simp [Array.getElem?_eq_none h'] at h1
   refine wpOp_mono (fun a' w' h3 => ⟨h3.2.1, OL hi hsel hQ fuel (listed.setIfInBounds j true) a' w' (fun k ok hk hki hun hno => hfree k ok hk hki ?_ hno) (ready_mono hr (Ne.symm hji)) h3.1 ?_⟩)
    (wpOp_putIf hoj (hfree j oj hoj hji hjun hnot) (fun cs b => hsel i oi cs b hi) (fun cs b => hsel j oj cs b hoj) hQ hy (H.2 j (ready_mono hj hji)))
   ·
    by_cases hjk : j = k
    · subst hjk; exact hjun
    · rw [getD_set_ne true hjk] at hun; exact hun
   ·
    rw [Array.setIfInBounds_comm _ _ hji]
    exact h3.2.2
theorem Uh {v : Value} (hi : ops[i]? = some oi) (hs : Region.noSelect ops = true) (hf : Region.free .any ops listed i = true) (hr : (Region.ready .any ops listed).contains i = true)
  (hQ : ∀ c a w, Q (.panic c) (a.put oi.dst v) w → Q (.panic c) a w) (hd : oi.dst = some d) (hdN : d < N) (hR : Reg a N l) (hw : Region.wanted oi (yielded ops a.tmps) = true) (hy : ∀ x, (execOp a.eval oi).run P x = .ok (.value v) x)
  (h : ∀ a', Reg a' N ((d, v) :: l) → DL P ops Q S late fuel (listed.setIfInBounds i true) a' w) : DL P ops Q S late (fuel + 1) listed a w :=
 OL hi (Region.noSelect_spec hs) hQ fuel listed a w (Region.free_spec hi hf) (by simpa using hr) (.inl ⟨hw, fun x _ => hy x⟩) (by rw [hd]; exact h _ (hR.put hdN v))
theorem Fz {id n : Nat} (late : List Nat) (hm : P.follows .mixedOrders = true) (hn : ops.size = n) (hS : St w0 Z M w m ds) (hp : DD Q)
  (h : ∀ (Q' : Exit → Act → World → Prop), DD Q' → (∀ a w, Q .normal a w → Q' .normal a w) → ∀ w', St w0 Z M w' m ds → DL P ops Q' S late n (Array.replicate n false) a w') : (Code.region id ops true).wp P Q a w :=
 wp_region_any hm (F4 _ _ _ _ (by rw [hn]; exact h Q hp (fun _ _ h => h) _ hS.drew))
theorem Jd {l n k id : Nat} (late : List Nat) (hm : P.follows .mixedOrders = true) (hn : ops.size = k) (hnd : ops.all Ey = true) (hS : St w0 Z M w m ds) (hp : DD Q) (hQ : JD Q)
  (h : ∀ (Q' : Exit → Act → World → Prop), DD Q' → (∀ a w, Q .normal a w → Q' .normal a w) → ∀ w', St w0 Z M w' m ds → DL P ops Q' S late k (Array.replicate k false) a w') : (Code.region id ops true).wpIn (rI l) n P Q a w := by
 refine wpIn_region_draw fun t => JR hnd hQ _ _ _ ?_
 simp only [Region.schedule, hm, Bool.true_or, if_true]
 refine wpAny_sound ops.size t _ a _ (F4 (S := S) (late := late) _ _ _ _ ?_)
 subst hn
 exact h Q hp (fun _ _ h => h) _ hS.drew
theorem WI {v : Value} (hi : ops[i]? = some oi) (hs : Region.noSelect ops = true) (hf : Region.free .any ops listed i = true) (hr : (Region.ready .any ops listed).contains i = true) (hl : Qo ops late i = true)
  (hQ : ∀ c a w, Q (.panic c) (a.put oi.dst v) w → Q (.panic c) a w) (hd : oi.dst = some d) (hdN : d < N) (hR : Reg a N l) (hw : Region.wanted oi (yielded ops a.tmps) = true) (hy : ∀ x, S x → (execOp a.eval oi).run P x = .ok (.value v) x) (hS : S w)
  (h : ∀ a', Reg a' N ((d, v) :: l) → DL P ops Q S late fuel (listed.setIfInBounds i true) a' w) : DL P ops Q S late (fuel + 1) listed a w :=
 Kk hi (Region.noSelect_spec hs) hl hQ fuel listed a w (Region.free_spec hi hf) (by simpa using hr) (.inl ⟨hw, hy⟩) hS (by rw [hd]; exact h _ (hR.put hdN v))
theorem dl_all {rs : List Nat} (hr : Region.ready .any ops listed = rs) (hne : rs ≠ [])
  (h : ∀ i ∈ rs, wpOp P ops Q i (fun a' w' => (late.contains i = false → S w → S w') ∧ DL P ops Q S late fuel (listed.setIfInBounds i true) a' w') a w) : DL P ops Q S late (fuel + 1) listed a w :=
 ⟨fun h0 => absurd (hr ▸ h0) hne, hr ▸ h⟩
theorem Eg (hr : Region.ready .any ops listed = [i]) (h : wpOp P ops Q i (fun a' w' => (late.contains i = false → S w → S w') ∧ DL P ops Q S late fuel (listed.setIfInBounds i true) a' w') a w) : DL P ops Q S late (fuel + 1) listed a w :=
 dl_all hr (by simp) (fun j hj => by rw [AB] at hj; subst hj; exact h)
theorem GC (hr : Region.ready .any ops listed = []) (h : Q .normal a w) : ∀ fuel, DL P ops Q S late fuel listed a w
 | 0 => ⟨hr, h⟩
 | _ + 1 => ⟨fun _ => h, by rw [hr]; simp⟩
end
end
section
/- Rows changed in place; a row of the caller's that a call changes. -/
open Go Go.RowKit
section
variable {P : Program} {X : Prop} {Next : Act → World → Prop} {op : Oper} {a : Act} {w w' w0 : World} {N : Nat} {l : List (Nat × Value)} {d : Nat} {Z M : Nat → Prop} {m : List Res} {ds : List Dat}
theorem Ry {α : Type} (xs rest vs : List α) (o : Nat) (h : o + vs.length ≤ xs.length) : (((xs ++ rest).take o ++ vs ++ (xs ++ rest).drop (o + vs.length)).take xs.length = xs.take o ++ vs ++ xs.drop (o + vs.length)) ∧
  ((xs ++ rest).take o ++ vs ++ (xs ++ rest).drop (o + vs.length)).length = (xs ++ rest).length := by
 have h1 : (xs ++ rest).take o = xs.take o := E0 (by omega)
 have h2 : (xs ++ rest).drop (o + vs.length) = xs.drop (o + vs.length) ++ rest := List.drop_append_of_le_length h
 rw [h1, h2, ← BG]
 have h3 : (xs.take o ++ vs ++ xs.drop (o + vs.length)).length = xs.length := by simp; omega
 refine ⟨?_, by rw [Ab, h3, Ab]⟩
 rw [← h3, List.take_left']
 rfl
theorem addr0 (g o : Nat) : (⟨g, 0, none⟩ : Addr).add o = ⟨g, o, none⟩ := by unfold Addr.add; split <;> simp_all
theorem St.over (hS : St w0 Z M w m ds) {i : Nat} {A : Option Addr} {n cap e size : Nat} {xs : List Value} {ad : Addr} (hi : m[i]? = some (.row A n cap e size xs)) (hA : A = some ad) (o : Nat) (vs : List Value) (hfit : o + vs.length ≤ xs.length)
  (h1 : ∀ v ∈ vs, v.oneCell' = true) : ∃ w', (storeCells (ad.add o) vs).run P w = .ok () w' ∧ St w0 Z M w' (m.set i (.row A n cap e size (xs.take o ++ vs ++ xs.drop (o + vs.length)))) ds := by
 have hr : w.ownsRow 0 e size (.slice A n cap) n xs := hS.res hi
 rcases hr.2 with ⟨h2, h3⟩ | ⟨g, cap', cur, hv, h2, h3, h4, h5, h6, h7⟩
 ·
  injection h2 with ha
  rw [ha] at hA
  cases hA
 ·
  injection hv with ha hb hc
  subst hc
  rw [ha] at hA
  obtain rfl := B4 hA
  have hcur : cur.toList = xs ++ cur.toList.drop (n * size) := by rw [← h7, List.take_append_drop]
  have hlen : xs.length = n * size := hr.1
  have hl2 : xs.length + (cur.toList.drop (n * size)).length = cur.size := by
   have := congrArg List.length hcur
   simpa using this.symm
  obtain ⟨ho1, ho2⟩ := Ry xs (cur.toList.drop (n * size)) vs o hfit
  rw [← hcur] at ho1 ho2
  have hadd : (⟨g, 0, none⟩ : Addr).add o = ⟨g, o, none⟩ := addr0 g o
  refine ⟨_, by rw [hadd]; exact run_storeCells_at P g o e vs 0 cur w h3 (by omega) h1, ?_⟩
  simp only [Nat.add_zero]
  refine hS.turn hi rfl rfl rfl (by simp) (fun k hk hne => setRow_other w g k _ (fun e' => hne (by rw [e', ha]; rfl))) ⟨?_, .inr ⟨g, cap, _, by rw [ha], Nat.zero_le _, setRow_heap w g _ _ e (0, 0) h3, h4, h5, ?_, ?_⟩⟩ (fun k hk => ?_)
  · simp; omega
  · simpa [h6] using ho2
  ·
   rw [← hlen]
   simpa using ho1
  ·
   have hk' : (Res.row A n cap e size xs).blk = some k := hk
   exact ⟨by simpa using (hS.own _ (Ax hi) k hk').1, .inl hk'⟩
theorem Is {α : Type} {f : α → List Value} (hS : St w0 Z M w m ds) {i cap e size : Nat} {A : Option Addr} {L : List α} {ad : Addr} (hi : m[i]? = some (.row A L.length cap e size (L.flatMap f))) (hA : A = some ad) (hf : ∀ x, (f x).length = size)
  (hone : ∀ x, ∀ v ∈ f x, v.oneCell' = true) (k : Nat) (K : List α) (hfit : k + K.length ≤ L.length) (L' : List α) (hL : L.take k ++ K ++ L.drop (k + K.length) = L') :
  ∃ w', (storeCells (ad.add (k * size)) (K.flatMap f)).run P w = .ok () w' ∧ St w0 Z M w' (m.set i (.row A L'.length cap e size (L'.flatMap f))) ds := by
 subst hL
 have hK : (K.flatMap f).length = K.length * size := Dr hf K
 obtain ⟨w', h1, h2⟩ := St.over (P := P) hS hi hA (k * size) (K.flatMap f) (by rw [hK, Dr hf, ← Nat.add_mul]; exact Nat.mul_le_mul_right _ hfit) (fun v hv => by
  obtain ⟨x, _, hx⟩ := List.mem_flatMap.1 hv
  exact hone x v hx)
 refine ⟨w', h1, ?_⟩
 rw [hK, ← Nat.add_mul, FJ hf, Hm hf] at h2
 have hl : (L.take k ++ K ++ L.drop (k + K.length)).length = L.length := by simp; omega
 rw [hl, List.flatMap_append, List.flatMap_append]
 exact h2
theorem GT (hS : St w0 Z M w m ds) {i n cap e size : Nat} {A : Option Addr} {xs : List Value} (hi : m[i]? = some (.row A n cap e size xs)) (hn : 0 < n) : ∃ ad, A = some ad := by
 have hr : w.ownsRow 0 e size (.slice A n cap) n xs := hS.res hi
 obtain ⟨g, rfl⟩ := EY hr hn
 exact ⟨_, rfl⟩
theorem La {α : Type} {f : α → List Value} {t : TypeId} {x y : Operand} {A : Option Addr} {L : List α} {i j k cap e size : Nat} {v : Value} {z : α} (hs : Ste P X Next op a w) (hR : Reg a N l) (hS : St w0 Z M w m ds) (hd : op.dst = none) (ho : op.op = .store t x y)
  (hx : ev l x = some (.pointer (eP A j))) (hy : ev l y = some v) (hi : m[i]? = some (.row A L.length cap e size (L.flatMap f))) (hj : j = k * size) (hk : k < L.length) (hf : ∀ x, (f x).length = size) (hone : ∀ x, ∀ v ∈ f x, v.oneCell' = true)
  (hv : v.cells.toList = f z) (hsz : (P.info? t).map (·.size) = some size)
  (kk : ∀ a' w', Reg a' N l → St w0 Z M w' (m.set i (.row A (L.set k z).length cap e size ((L.set k z).flatMap f))) ds → Next a' w') : X := by
 subst hj
 obtain ⟨ad, rfl⟩ := GT hS hi (by omega)
 obtain ⟨w', h1, h2⟩ := Is (P := P) hS hi rfl hf hone k [z] (by rw [Bv]; omega) (L.set k z) (by rw [List.set_eq_take_append_cons_drop, At hk]; simp)
 cases hq : P.info? t with
 | none => simp [hq] at hsz
 | some inf =>
  have hii : inf.size = size := by simpa [hq] using hsz
  have hvs : v.cells.size = inf.size := by
   have := congrArg List.length hv
   rw [hf] at this
   simpa [hii] using this
  have h3 : (storeVar t (ad.add (k * size)) v).run P w = .ok () w' := by
   rw [List.flatMap_cons, List.flatMap_nil, CL, ← hv] at h1
   simp [storeVar, AF, sizeOf, typeInfo, hq, hvs, h1]
  refine hs.skip w' ?_ ?_
  ·
   unfold execOp; rw [ho]
   simp only [hR.ev hx, hR.ev hy, eP, Cm, Instr.storeAt, Instr.sureAddr, AF, Bg, Az, h3]
  ·
   rw [hd]
   exact kk _ _ (hR.put_none _) h2
abbrev rM (A : Option Addr) : Nat → Prop := fun k => A.map (·.block) = some k
theorem QO {A : Option Addr} {n cap e size : Nat} {xs : List Value} (h : (Res.row A n cap e size xs).holds w) {k : Nat} (hk : rM A k) : k < w.heap.size := by
 obtain ⟨_, hc, _⟩ := Fj h (k := k) hk
 exact (AV.1 hc).1
theorem MN (w0 : World) (Z : Nat → Prop) (ds : List Dat) (A : Option Addr) (n cap e size : Nat) (xs : List Value) (hb : (Res.row A n cap e size xs).holds w0) (h : ∀ d ∈ ds, d.φ w0 (imm Z w0 [.row A n cap e size xs] w0)) : St w0 Z (rM A) w0 [.row A n cap e size xs] ds :=
 ⟨rfl, rfl, rfl, Af _, fun _ _ _ => rfl, (fun r h => by rw [AB] at h; subst h; exact hb), (fun r h k e => by
  rw [AB] at h; subst h
  exact ⟨QO hb e, .inr e⟩), .cons (fun _ h => by cases h) .nil, h⟩
theorem Km {A : Option Addr} {n cap e size : Nat} {xs : List Value} (hZ : ∀ k, Z k → k < w0.heap.size) (hg : ∀ k, rM A k → ¬ Z k) {k : Nat} (hk : Z k) : imm Z w0 [.row A n cap e size xs] w0 k ∧ w0.heap[k]? = w0.heap[k]? :=
 ⟨⟨hZ k hk, fun _ => hk, fun r hr e => by
  rw [AB] at hr; subst hr
  exact hg k e hk⟩, rfl⟩
theorem St.callR (h : St w0 Z M w m ds) {i n n' cap e size : Nat} {A : Option Addr} {xs xs' : List Value} (hi : m[i]? = some (.row A n cap e size xs)) (hf : Fr (rM A) w w') (hb : (Res.row A n' cap e size xs').holds w') : St w0 Z M w' (m.set i (.row A n' cap e size xs')) ds :=
 h.turn hi hf.os hf.tape hf.output hf.size (fun k hk hne => hf.old k hk (fun e => hne e)) hb (fun k hk => ⟨QO hb hk, .inl hk⟩)
theorem Dw {i n cap e size : Nat} {A : Option Addr} {xs : List Value} (hi : m[i]? = some (.row A n cap e size xs)) : ∀ k, rM A k → ¬ imm Z w0 m w k := fun k hk h => h.2.2 _ (Ax hi) hk
end
end
section
/- copy and clear on rows of the call's own. -/
open Go Go.RowKit
section
variable {P : Program} {X : Prop} {Next : Act → World → Prop} {op : Oper} {a : Act} {w w' w0 : World} {N : Nat} {l : List (Nat × Value)} {d : Nat} {Z M : Nat → Prop} {m : List Res} {ds : List Dat}
theorem Jv (z : Array Value) (n : Nat) : (Builtin.zeroCells z n).toList = (List.replicate n z.toList).flatten := by
 unfold Builtin.zeroCells
 rw [Array.toList_map, Array.toList_range]
 induction n with
 | zero => simp
 | succ n ih =>
  rw [Nat.succ_mul, List.range_add, C3, ih, List.replicate_succ', List.flatten_append, List.flatten_singleton]
  congr 1
  rw [List.map_map]
  apply List.ext_getElem
  · simp
  ·
   intro i h1 h2
   have hi : i < z.size := by simpa using h1
   simp [Nat.mul_add_mod_of_lt hi, hi]
theorem Lk {size k q : Nat} {A A' : Option Addr} {ad : Addr} (h : Cut size A A' k q) (hA : A = some ad) (hq : 0 < q) : A' = some (ad.add (k * size)) := by
 subst hA
 have h1 := h 0 hq
 cases A' with
 | none => cases h1
 | some ad' =>
  rw [Nat.zero_mul, Nat.add_zero] at h1
  simpa [FQ] using h1
theorem RO {α : Type} {f : α → List Value} {t : TypeId} {x : Operand} {A A' : Option Addr} {L : List α} {i k q c' cap e size bytes : Nat} {z : Value} {z0 : α} (hs : SteV P X Next op a w) (hR : Reg a N l) (hS : St w0 Z M w m ds) (hd : op.dst = none)
  (ho : op.op = .call { callee := .builtin .clear, args := #[x], argTypes := #[t] }) (hx : ev l x = some (.slice A' q c')) (hi : m[i]? = some (.row A L.length cap e size (L.flatMap f))) (hcut : Cut size A A' k q) (hkq : k + q ≤ L.length)
  (ht : P.underlying t = some (.slice e)) (hinf : (P.info? e).map (fun i => (i.zero, i.size, i.bytes)) = some (some z, size, bytes)) (hf : ∀ x, (f x).length = size) (hone : ∀ x, ∀ v ∈ f x, v.oneCell' = true) (hz : z.cells.toList = f z0)
  (L' : List α) (hL : L.take k ++ List.replicate q z0 ++ L.drop (k + q) = L')
  (kk : ∀ a' w', Reg a' N l → St w0 Z M w' (m.set i (.row A L'.length cap e size (L'.flatMap f))) ds → Next a' w') : X := by
 have hkey : ∃ w', (Builtin.clear_ #[t] op.type #[.slice A' q c']).run P w = .ok (.tuple #[]) w' ∧ St w0 Z M w' (m.set i (.row A L'.length cap e size (L'.flatMap f))) ds := by
  rcases Nat.eq_zero_or_pos q with rfl | hq
  ·
   refine ⟨w, ?_, ?_⟩
   · cases A' <;> simp [Builtin.clear_, run_underlying ht]
   ·
    have : L' = L := by rw [← hL]; simp
    subst this
    have hset : m.set i (.row A L'.length cap e size (L'.flatMap f)) = m := by
     obtain ⟨hlt, he⟩ := List.getElem?_eq_some_iff.1 hi
     rw [← he, List.set_getElem_self]
    rw [hset]
    exact hS
  ·
   obtain ⟨ad, rfl⟩ := GT hS hi (by omega)
   obtain rfl := Lk hcut rfl hq
   obtain ⟨w', h1, h2⟩ := Is (P := P) hS hi rfl hf hone k (List.replicate q z0) (by rw [BP]; exact hkq) L' (by rw [BP]; exact hL)
   refine ⟨w', ?_, h2⟩
   have hv : (zeroValue e).run P w = .ok z w := by
    cases hqi : P.info? e with
    | none => simp [hqi] at hinf
    | some inf =>
     simp only [hqi, Cm, Cs, DH] at hinf
     simp [zeroValue, typeInfo, hqi, hinf.1]
   have hzc : (Builtin.zeroCells z.cells q).toList = (List.replicate q z0).flatMap f := by
    rw [Jv, hz, List.flatMap_def, List.map_replicate]
   obtain ⟨q', rfl⟩ : ∃ q', q = q' + 1 := ⟨q - 1, by omega⟩
   simp [Builtin.clear_, run_underlying ht, hv, hzc, h1]
 obtain ⟨w', h1, h2⟩ := hkey
 refine hs.val (.tuple #[]) w' ?_ ?_
 ·
  unfold execOp; rw [ho]
  simp only [resolve, invoke, builtin, AF, Bg, Az, List.map_toArray, BJ, C6, hR.ev hx, h1]
 ·
  rw [hd]
  exact kk _ _ (hR.put_none _) h2
theorem Vg {α : Type} {f : α → List Value} {t t2 : TypeId} {x y : Operand} {A A' B : Option Addr} {L K : List α} {i k q c' s c2 cap e size : Nat} (hs : SteV P X Next op a w) (hR : Reg a N l) (hS : St w0 Z M w m ds) (hd : op.dst = some d)
  (ho : op.op = .call { callee := .builtin .copy, args := #[x, y], argTypes := #[t, t2] }) (hx : ev l x = some (.slice A' q c')) (hy : ev l y = some (.slice B s c2)) (hi : m[i]? = some (.row A L.length cap e size (L.flatMap f))) (hcut : Cut size A A' k q) (hkq : k + q ≤ L.length)
  (ht : P.underlying t = some (.slice e)) (hsz : (P.info? e).map (·.size) = some size) (hf : ∀ x, (f x).length = size) (hone : ∀ x, ∀ v ∈ f x, v.oneCell' = true) (hK : K.length = Nat.min s q) (hsrc : 0 < K.length → ∃ ad, B = some ad ∧ CellsAt w ad (K.flatMap f))
  (L' : List α) (hL : L.take k ++ K ++ L.drop (k + K.length) = L') (hdN : d < N)
  (kk : ∀ a' w', Reg a' N ((d, .int .i64 (K.length : Int)) :: l) → St w0 Z M w' (m.set i (.row A L'.length cap e size (L'.flatMap f))) ds → Next a' w') : X := by
 have hKq : K.length ≤ q := hK ▸ Nat.min_le_right _ _
 have hkey : ∃ w', (Builtin.copy_ #[t, t2] op.type #[.slice A' q c', .slice B s c2]).run P w = .ok (.int .i64 (K.length : Int)) w' ∧ St w0 Z M w' (m.set i (.row A L'.length cap e size (L'.flatMap f))) ds := by
  cases hqi : P.info? e with
  | none => simp [hqi] at hsz
  | some inf =>
   have hii : inf.size = size := by simpa [hqi] using hsz
   rcases Nat.eq_zero_or_pos K.length with h0 | hpos
   ·
    have hK0 : K = [] := BB h0
    subst hK0
    refine ⟨w, ?_, ?_⟩
    ·
     have hm : Nat.min s q = 0 := hK.symm
     have hl0 : ∀ b, (loadCells b 0).run P w = .ok #[] w := fun b => run_loadCells_list (P := P) w b [] (by simp)
     cases A' <;> cases B <;> simp [Builtin.copy_, run_underlying ht, Builtin.lenOf, Builtin.firstCells, sizeOf, typeInfo, hqi, hm, storeCells, goInt, hl0]
    ·
     have : L' = L := by rw [← hL]; simp
     subst this
     have hset : m.set i (.row A L'.length cap e size (L'.flatMap f)) = m := by
      obtain ⟨hlt, he⟩ := List.getElem?_eq_some_iff.1 hi
      rw [← he, List.set_getElem_self]
     rw [hset]
     exact hS
   ·
    obtain ⟨ad, rfl⟩ := GT hS hi (by omega)
    obtain rfl := Lk hcut rfl (by omega)
    obtain ⟨w', h1, h2⟩ := Is (P := P) hS hi rfl hf hone k K (by omega) L' hL
    obtain ⟨bd, rfl, hc⟩ := hsrc hpos
    refine ⟨w', ?_, h2⟩
    have hl := run_loadCells_list (P := P) w bd (K.flatMap f) hc
    rw [Dr hf] at hl
    simp [Builtin.copy_, run_underlying ht, Builtin.lenOf, Builtin.firstCells, sizeOf, typeInfo, hqi, hii, ← hK, hl, h1, goInt]
 obtain ⟨w', h1, h2⟩ := hkey
 refine hs.val (.int .i64 (K.length : Int)) w' ?_ ?_
 ·
  unfold execOp; rw [ho]
  simp only [resolve, invoke, builtin, AF, Bg, Az, List.map_toArray, BJ, C6, hR.ev hx, hR.ev hy, h1]
 ·
  rw [hd]
  exact kk _ _ (hR.put hdN _) h2
theorem Va {α : Type} {f : α → List Value} (h : ∀ l : List α, ∀ u ∈ l.flatMap f, u.oneCell' = true) (x : α) : ∀ v ∈ f x, v.oneCell' = true := fun v hv => h [x] v (by simpa using hv)
theorem KT {α : Type} {f : α → List Value} {A A' : Option Addr} {L : List α} {i k q cap e size : Nat} (hS : St w0 Z M w m ds) (hi : m[i]? = some (.row A L.length cap e size (L.flatMap f))) (hcut : Cut size A A' k q) (hf : ∀ x, (f x).length = size) (hkq : k + q ≤ L.length) :
  0 < ((L.drop k).take q).length → ∃ ad, A' = some ad ∧ CellsAt w ad (((L.drop k).take q).flatMap f) := fun hpos => by
 have hq : 0 < q := by rw [Ah] at hpos; omega
 have h1 : w.ownsRow 0 e size (.slice A L.length cap) L.length (L.flatMap f) := hS.res hi
 obtain ⟨ad, rfl, hc⟩ := O7 h1 (by omega)
 refine ⟨_, Lk hcut rfl hq, ?_⟩
 rw [← FJ hf, ← Hm hf]
 exact (hc.drop _).take _
theorem CZ {A : Option Addr} {n n' c : Nat} (h : n = n') : Value.slice A n c = .slice A n' c := by rw [h]
theorem N8 {α : Type} {f : α → List Value} {t : TypeId} {x y : Operand} {A B : Option Addr} {L K : List α} {i n s c2 cap e size : Nat} (hs : SteV P X Next op a w) (hR : Reg a N l) (hS : St w0 Z M w m ds) (hd : op.dst = some d)
  (ho : op.op = .call { callee := .builtin .append, args := #[x, y], argTypes := #[t, t] }) (hx : ev l x = some (.slice A n cap)) (hy : ev l y = some (.slice B s c2)) (hi : m[i]? = some (.row A L.length cap e size (L.flatMap f))) (hfit : n + s ≤ L.length) (hpos : 0 < s)
  (ht : P.underlying t = some (.slice e)) (hsz : (P.info? e).map (·.size) = some size) (hf : ∀ x, (f x).length = size) (hone : ∀ x, ∀ v ∈ f x, v.oneCell' = true) (hK : K.length = s) (hsrc : 0 < K.length → ∃ ad, B = some ad ∧ CellsAt w ad (K.flatMap f))
  (L' : List α) (hL : L.take n ++ K ++ L.drop (n + K.length) = L') (hdN : d < N)
  (kk : ∀ a' w', Reg a' N ((d, .slice A (n + s) cap) :: l) → St w0 Z M w' (m.set i (.row A L'.length cap e size (L'.flatMap f))) ds → Next a' w') : X := by
 subst hK
 have hcap : L.length ≤ cap := Db (hS.res hi)
 obtain ⟨ad, rfl⟩ := GT hS hi (by omega)
 obtain ⟨bd, rfl, hc⟩ := hsrc hpos
 obtain ⟨w', h1, h2⟩ := Is (P := P) hS hi rfl hf hone n K (by omega) L' hL
 cases hqi : P.info? e with
 | none => simp [hqi] at hsz
 | some inf =>
  have hii : inf.size = size := by simpa [hqi] using hsz
  have hl := run_loadCells_list (P := P) w bd (K.flatMap f) hc
  rw [Dr hf] at hl
  have hcl : n + K.length ≤ cap := by omega
  have hrun : (Builtin.append_ #[t, t] op.type #[.slice (some ad) n cap, .slice (some bd) K.length c2]).run P w = .ok (.slice (some ad) (n + K.length) cap) w' := by
   simp [Builtin.append_, run_underlying ht, Builtin.lenOf, Builtin.firstCells, sizeOf, typeInfo, hqi, hii, hl, hcl, h1]
  refine hs.val (.slice (some ad) (n + K.length) cap) w' ?_ ?_
  ·
   unfold execOp; rw [ho]
   simp only [resolve, invoke, builtin, AF, Bg, Az, List.map_toArray, BJ, C6, hR.ev hx, hR.ev hy, hrun]
  ·
   rw [hd]
   exact kk _ _ (hR.put hdN _) h2
theorem cut_A {size k q cap : Nat} {A : Option Addr} (h : k + q ≤ cap) : Cut size A (if cap = k then A else A.map (·.add (k * size))) k q := fun j hj => by
 rw [Aq (by omega)]
 cases A with
 | none => rfl
 | some ad => simp [DE, Nat.add_mul]
theorem VM {t u : TypeId} {x : Operand} {A : Option Addr} {n c : Nat} {e : TypeId} (hs : SteV P X Next op a w) (hR : Reg a N l) (hd : op.dst = some d) (ho : op.op = .call { callee := .builtin .cap, args := #[x], argTypes := #[t] }) (_hu : op.type = u)
  (hx : ev l x = some (.slice A n c)) (ht : P.underlying t = some (.slice e)) (hdN : d < N) (k : ∀ a', Reg a' N ((d, .int .i64 (c : Int)) :: l) → Next a' w) : X :=
 Cv hs hR hd hdN (by
  unfold execOp; rw [ho]
  simp only [resolve, invoke, builtin, AF, Bg, Az, List.map_toArray, BJ, C6, hR.ev hx, Builtin.cap_]
  simp [run_underlying ht, goInt]) k
end
end
section
/- Conversions of integers, remainders, truths compared. -/
open Go Go.RowKit
section
variable {P : Program} {X : Prop} {Next : Act → World → Prop} {o : Oper} {a : Act} {w w0 : World} {N : Nat} {l : List (Nat × Value)} {d : Nat}
theorem Ew {x : Operand} {A : Option Addr} {j : Nat} (hs : SteV P X Next o a w) (hR : Reg a N l) (hd : o.dst = some d) (ho : o.op = .nilCheck x) (hx : ev l x = some (.pointer (eP A j))) (hA : A.isSome = true) (hdN : d < N)
  (k : ∀ a', Reg a' N ((d, .pointer (eP A j)) :: l) → Next a' w) : X := by
 obtain ⟨ad, rfl⟩ := Option.isSome_iff_exists.1 hA
 exact Cv hs hR hd hdN (by unfold execOp; rw [ho]; simp only [hR.ev hx]; rfl) k
theorem r_rem {x y : Operand} {t u : TypeId} {p q z : Int} (hs : SteV P X Next o a w) (hR : Reg a N l) (hd : o.dst = some d) (ho : o.op = .binOp .rem t x y u) (hx : ev l x = some (.int .i64 p)) (hy : ev l y = some (.int .i64 q)) (hdN : d < N)
  (hz : p.tmod q = z) (hq : q ≠ 0) (k : ∀ a', Reg a' N ((d, .int .i64 z) :: l) → Next a' w) : X :=
 Cv hs hR hd hdN (EL hR ho hx hy (by simp [binOp, Op.intDiv, hq, hz])) k
theorem Ou {op : BinOp} {t u : TypeId} {x y : Operand} {v : Value} {b c : Bool} (hR : Reg a N l) (ho : o.op = .binOp op t x y u) (hx : ev l x = some (.bool b)) (hy : ev l y = some (.bool c))
  (h : (binOp op t (.bool b) (.bool c)).run P w = .ok v w) : (execOp a.eval o).run P w = .ok (.value v) w := by
 have hg : (eqGuard op t x y (.bool b) (.bool c)).run P w = .ok () w := by
  unfold eqGuard
  cases op <;> rfl
 unfold execOp
 rw [ho]
 simp only [hR.ev hx, hR.ev hy, AF, hg, Az, h, Bg]
theorem Sr {t : TypeId} (ht : P.underlying t = some .bool) (b c : Bool) : (Op.equal t (.bool b) (.bool c)).run P w = .ok (b == c) w := by
 unfold Op.equal Op.maxDepth Op.equalIn
 simp only [AF, run_underlying ht, Az, Bg]
theorem r_eqlB {x y : Operand} {t u : TypeId} {b c : Bool} (hs : SteV P X Next o a w) (hR : Reg a N l) (hd : o.dst = some d) (ho : o.op = .binOp .eql t x y u) (hx : ev l x = some (.bool b)) (hy : ev l y = some (.bool c)) (ht : P.underlying t = some .bool) (hdN : d < N)
  (k : ∀ a', Reg a' N ((d, .bool (b == c)) :: l) → Next a' w) : X :=
 Cv hs hR hd hdN (Ou hR ho hx hy (by unfold binOp; simp only [AF, Sr ht, Az, Bg])) k
theorem Ra {x y : Operand} {t u : TypeId} {b c : Bool} (hs : SteV P X Next o a w) (hR : Reg a N l) (hd : o.dst = some d) (ho : o.op = .binOp .neq t x y u) (hx : ev l x = some (.bool b)) (hy : ev l y = some (.bool c)) (ht : P.underlying t = some .bool) (hdN : d < N)
  (k : ∀ a', Reg a' N ((d, .bool (!(b == c))) :: l) → Next a' w) : X :=
 Cv hs hR hd hdN (Ou hR ho hx hy (by unfold binOp; simp only [AF, Sr ht, Az, Bg])) k
end
end
section
/- One field of an element of an own row is stored. -/
open Go Go.RowKit
theorem Mh {L : List Nd} {k : Nat} {z : Nd} (h : k < L.length) : nth (L.set k z) k = z := by simp [nth, h]
theorem Ig {α : Type} {f : α → List Value} {size : Nat} (hf : ∀ x, (f x).length = size) {L : List α} {k off : Nat} (hk : k < L.length) (ho : off < size) {v : Value} {z : α} (hz : f z = (f L[k]).set off v) :
  (L.flatMap f).take (k * size + off) ++ [v] ++ (L.flatMap f).drop (k * size + off + 1) = (L.set k z).flatMap f := by
 have e : L = L.take k ++ L[k] :: L.drop (k + 1) := by rw [← List.drop_eq_getElem_cons hk, List.take_append_drop]
 have e2 : L.set k z = L.take k ++ z :: L.drop (k + 1) := by rw [List.set_eq_take_append_cons_drop, At hk]
 have hl : ((L.take k).flatMap f).length = k * size := by
  rw [Dr hf, Ah, Nat.min_eq_left (by omega)]
 have hx : (f L[k]).length = size := hf _
 have e3 : L.flatMap f = (L.take k).flatMap f ++ (f L[k] ++ (L.drop (k + 1)).flatMap f) := by
  have := congrArg (List.flatMap f) e
  rw [List.flatMap_append, List.flatMap_cons] at this
  exact this
 rw [e2, List.flatMap_append, List.flatMap_cons, hz, e3]
 generalize (L.drop (k + 1)).flatMap f = B
 generalize (L.take k).flatMap f = A at hl ⊢
 rw [← hl]
 have h1 : (A ++ (f L[k] ++ B)).take (A.length + off) = A ++ (f L[k]).take off := by
  rw [List.take_length_add_append, E0 (by omega)]
 have h2 : (A ++ (f L[k] ++ B)).drop (A.length + off + 1) = (f L[k]).drop (off + 1) ++ B := by
  rw [Nat.add_assoc, List.drop_length_add_append, List.drop_append_of_le_length (by omega)]
 rw [h1, h2, List.set_eq_take_append_cons_drop, At (by omega)]
 simp
section
variable {P : Program} {X : Prop} {Next : Act → World → Prop} {op : Oper} {a : Act} {w w0 : World} {N : Nat} {l : List (Nat × Value)} {Z M : Nat → Prop} {m : List Res} {ds : List Dat}
theorem TO {t : TypeId} {x y : Operand} {A : Option Addr} {L : List Nd} {i j k off cap e : Nat} {v : Value} {z : Nd} (hs : Ste P X Next op a w) (hR : Reg a N l) (hS : St w0 Z M w m ds) (hd : op.dst = none) (ho : op.op = .store t x y)
  (hx : ev l x = some (.pointer (eP A j))) (hy : ev l y = some v) (hi : m[i]? = some (.row A L.length cap e 4 (L.flatMap Eb))) (hj : j = k * 4 + off) (hk : k < L.length) (hof : off < 4)
  (hz : Eb z = (Eb (nth L k)).set off v) (hc : v.cells.toList = [v]) (h1 : v.oneCell' = true) (hsz : (P.info? t).map (·.size) = some 1)
  (kk : ∀ a' w', Reg a' N l → St w0 Z M w' (m.set i (.row A (L.set k z).length cap e 4 ((L.set k z).flatMap Eb))) ds → Next a' w') : X := by
 subst hj
 have hnk : nth L k = L[k] := by simp [nth, hk]
 rw [hnk] at hz
 obtain ⟨ad, rfl⟩ := GT hS hi (by omega)
 have hlen : (L.flatMap Eb).length = L.length * 4 := Dr Cq L
 obtain ⟨w', g1, g2⟩ := St.over (P := P) hS hi rfl (k * 4 + off) [v] (by rw [hlen, Bv]; omega) (by simpa using h1)
 rw [Bv, Ig Cq hk hof hz] at g2
 have g3 : St w0 Z M w' (m.set i (.row (some ad) (L.set k z).length cap e 4 ((L.set k z).flatMap Eb))) ds := by rw [List.length_set]; exact g2
 cases hq : P.info? t with
 | none => simp [hq] at hsz
 | some inf =>
  have hii : inf.size = 1 := by simpa [hq] using hsz
  have hvs : v.cells.size = inf.size := by
   have := congrArg List.length hc
   simpa [hii] using this
  have h3 : (storeVar t (ad.add (k * 4 + off)) v).run P w = .ok () w' := by
   rw [← hc] at g1
   simp [storeVar, AF, sizeOf, typeInfo, hq, hvs, g1]
  refine hs.skip w' ?_ ?_
  ·
   unfold execOp; rw [ho]
   simp only [hR.ev hx, hR.ev hy, eP, Cm, Instr.storeAt, Instr.sureAddr, AF, Bg, Az, h3]
  ·
   rw [hd]
   exact kk _ _ (hR.put_none _) g3
end
end
section
/- A loop over an iterator within an iterator: the inner one changes nothing at all. -/
open Go Go.RowKit
def dJX {α : Type} (jf : JF α) (s : List α) (C0 M0 : Nat → Prop) (s0 l D : Nat) (o : Obj) : Dat :=
 ⟨fun w I => (∃ C Mc, jf.J s w C Mc ∧ (∀ k, C k → I k) ∧ (∀ k, C k → C0 k ∨ s0 ≤ k) ∧ (∀ k, Mc k → M0 k ∨ s0 ≤ k) ∧ ¬ C l ∧ ¬ C D) ∧ (I l ∧ I D) ∧ w.heap[l]? = some o ∧ w.heap[D]? = some (.deferred (some [])), fun w w' I I' hs h hk => by
  obtain ⟨⟨C, Mc, h1, h2, h3, h4, h5, h6⟩, ⟨h7, h8⟩, h9, h10⟩ := h
  exact ⟨⟨C, Mc, jf.abide s w w' C Mc h1 hs (fun k hC => (hk k (h2 k hC)).2), fun k hC => (hk k (h2 k hC)).1, h3, h4, h5, h6⟩, ⟨(hk l h7).1, (hk D h8).1⟩, (hk l h7).2.trans h9, (hk D h8).2.trans h10⟩⟩
section
variable {P : Program} {ops : Array Oper} {Q : Exit → Act → World → Prop} {rest : List Oper} {o : Oper} {a : Act} {w w' w0 : World} {N : Nat} {ls : List (Nat × Value)} {d : Nat} {m : List Res} {ds ds0 : List Dat} {C0 M0 Zd : Nat → Prop}
theorem R1 (hz : ∀ k, Zd k → k < w0.heap.size ∧ ¬ M0 k) (hds : ∀ d ∈ ds0, d.φ w0 Zd) (hs : w0.heap.size ≤ w'.heap.size) (hold : ∀ k, k < w0.heap.size → ¬ M0 k → w'.heap[k]? = w0.heap[k]?)
  (hown : ∀ r ∈ m, ∀ k, r.blk = some k → k < w'.heap.size ∧ (w0.heap.size ≤ k ∨ M0 k)) : ∀ d ∈ ds0, d.φ w' (imm (ED w0) w0 m w') := fun d hd => by
 refine d.mono _ _ _ _ hs (hds d hd) fun k hk => ⟨⟨BS (hz k hk).1 hs, fun _ => (hz k hk).1, fun r hr e => ?_⟩, hold k (hz k hk).1 (hz k hk).2⟩
 rcases (hown r hr k e).2 with q | q
 ·
  have := (hz k hk).1
  omega
 · exact (hz k hk).2 q
theorem St.putL {α : Type} {jf : JF α} {s : List α} {l D : Nat} {ob : Obj} {r : Loop} (hS : St w0 (ED w0) M0 w m (dJX jf s C0 M0 w0.heap.size l D ob :: ds)) (hl : w0.heap.size ≤ l) (hlD : l ≠ D)
  (hz : ∀ k, Zd k → k < w0.heap.size ∧ ¬ M0 k) (hds : ∀ d ∈ ds0, d.φ w0 Zd) : St w0 (ED w0) M0 (w.putObj l (.loop r)) m (dJX jf s C0 M0 w0.heap.size l D (.loop r) :: ds0) := by
 obtain ⟨⟨C, Mc, h1, h2, h3, h4, h5, h6⟩, ⟨h7, h8⟩, h9, h10⟩ := hS.dat _ (List.mem_cons_self ..)
 have hlt : l < w.heap.size := h7.1
 have hput : ∀ k, k ≠ l → (w.putObj l (.loop r)).heap[k]? = w.heap[k]? := fun k h => World.putObj_heap_other h
 have hne : ∀ q ∈ m, ∀ k, q.blk = some k → k ≠ l := fun q hq k e e' => h7.2.2 q hq (e' ▸ e)
 have hold : ∀ k, k < w0.heap.size → ¬ M0 k → (w.putObj l (.loop r)).heap[k]? = w0.heap[k]? := fun k hk hM => (hput k (by omega)).trans (hS.old k hk hM)
 have hown : ∀ q ∈ m, ∀ k, q.blk = some k → k < (w.putObj l (.loop r)).heap.size ∧ (w0.heap.size ≤ k ∨ M0 k) := fun q hq k e => ⟨by rw [World.putObj_size]; exact (hS.own q hq k e).1, (hS.own q hq k e).2⟩
 have himm : imm (ED w0) w0 m (w.putObj l (.loop r)) = imm (ED w0) w0 m w := by
  funext k
  unfold imm
  rw [World.putObj_size]
 refine ⟨hS.os, hS.tape, hS.output, by rw [World.putObj_size]; exact hS.size, hold, fun q hq => DF (hS.hold q hq) (fun k e => hput k (hne q hq k e)), hown, hS.apart, fun d hd => ?_⟩
 rcases AD.1 hd with rfl | hd
 ·
  rw [himm]
  exact ⟨⟨C, Mc, jf.abide s w _ C Mc h1 (by rw [World.putObj_size]; exact Af _) (fun k hC => hput k (fun e => h5 (e ▸ hC))), h2, h3, h4, h5, h6⟩, ⟨h7, h8⟩, World.putObj_heap_same hlt, (hput D (Ne.symm hlD)).trans h10⟩
 · exact R1 hz hds (by rw [World.putObj_size]; exact hS.size) hold hown d hd
theorem Gx {α : Type} {jf jf' : JF α} {pre pre' : List α} {l D : Nat} {ob : Obj} {C1 M1 C' M' : Nat → Prop} (hS : St w0 (ED w0) M0 w m ds)
  (hC : ∀ k, C1 k → imm (ED w0) w0 m w k) (h0 : ∀ k, C1 k → C0 k ∨ w0.heap.size ≤ k) (h1 : ∀ k, M1 k → M0 k ∨ w0.heap.size ≤ k) (hMC : ∀ k, M1 k → C1 k)
  (hCl : ¬ C1 l) (hCD : ¬ C1 D) (hl : imm (ED w0) w0 m w l) (hD : imm (ED w0) w0 m w D) (hlo : w.heap[l]? = some ob) (hDo : w.heap[D]? = some (.deferred (some [])))
  (hc : Chg C1 M1 w w' C' M') (hj' : jf'.J pre' w' C' M')
  (hz : ∀ k, Zd k → k < w0.heap.size ∧ ¬ M0 k) (hds : ∀ d ∈ ds0, d.φ w0 Zd) : St w0 (ED w0) M0 w' m (dJX jf' pre' C0 M0 w0.heap.size l D ob :: ds0) := by
 have h := F7 (jf := jf) (pre := pre) hS hC h0 h1 hMC hc hj' hz hds
 have hnew : ∀ k, imm (ED w0) w0 m w k → imm (ED w0) w0 m w' k := fun k hk => ⟨BS hk.1 hc.size, hk.2.1, hk.2.2⟩
 refine ⟨h.os, h.tape, h.output, h.size, h.old, h.hold, h.own, h.apart, fun d hd => ?_⟩
 rcases AD.1 hd with rfl | hd
 ·
  refine ⟨⟨C', M', hj', fun k hk => ⟨(jf'.sub _ _ _ _ hj').2 k hk, fun hlt => hlt, fun r hr e => ?_⟩, fun k hk => ?_, fun k hk => ?_, fun hk => ?_, fun hk => ?_⟩, ⟨hnew l hl, hnew D hD⟩, (hc.old l hl.1 (fun q => hCl (hMC l q))).trans hlo, (hc.old D hD.1 (fun q => hCD (hMC D q))).trans hDo⟩
  ·
   rcases hc.c k hk with q | q
   · exact (hC k q).2.2 r hr e
   ·
    have := (hS.own r hr k e).1
    omega
  ·
   rcases hc.c k hk with q | q
   · exact h0 k q
   · exact .inr (Bo hS.size q)
  ·
   rcases hc.m k hk with q | q
   · exact h1 k q
   · exact .inr (Bo hS.size q)
  ·
   rcases hc.c l hk with q | q
   · exact hCl q
   · have := hl.1; omega
  ·
   rcases hc.c D hk with q | q
   · exact hCD q
   · have := hD.1; omega
 · exact h.dat d (List.mem_cons_of_mem _ hd)
theorem Vz {α : Type} {ro : Option Nat} {lp : Nat} {encs : α → Array Value} {xl : List α} {jf jx : JF α} {t : Operand} {xs : List Operand} {ts : Array TypeId} {vs : List Value} {pre : List α} {i l D : Nat} {ob : Obj}
  (hY : Ys P lp encs xl jf jx w0 C0 M0 Zd) (hg : o.guard = none) (hR : Reg a N ls) (hS : St w0 (ED w0) M0 w m ds) (hd : o.dst = some d)
  (ho : o.op = .call { callee := .value t, args := xs.toArray, argTypes := ts }) (ht : ev ls t = some (.func (.yield lp) #[] #[])) (hx : evs ls xs = some vs) (hdN : d < N)
  (x : α) (he : vs.toArray = encs x) (hi : ds[i]? = some (dJX jf pre C0 M0 w0.heap.size l D ob)) (hp : pre ++ [x] <+: xl) (hds : ∀ d ∈ ds0, d.φ w0 Zd)
  (kt : ∀ a' w', Reg a' N ((d, .bool true) :: ls) → St w0 (ED w0) M0 w' m (dJX jf (pre ++ [x]) C0 M0 w0.heap.size l D ob :: ds0) → wpListIn (wf ro) 0 P ops Q rest a' w')
  (kf : ∀ a' w', Reg a' N ((d, .bool false) :: ls) → St w0 (ED w0) M0 w' m (dJX jx (pre ++ [x]) C0 M0 w0.heap.size l D ob :: ds0) → wpListIn (wf ro) 0 P ops Q rest a' w') :
  wpListIn (wf ro) 0 P ops Q (o :: rest) a w := by
 obtain ⟨⟨C1, M1, hj, hC, h0, h1, q5, q6⟩, ⟨q7, q8⟩, q9, q10⟩ := hS.get hi
 obtain ⟨fn, tmps, assign, body, hrun, hround⟩ := hY.y pre x w C1 M1 hj ⟨hS.os, hS.tape, hS.output⟩ hp
 rw [← he] at hrun
 have hrun' := FC hR ho ht hx hrun
 have hnd : ∀ c, o.op ≠ .defer c := fun c e => by rw [ho] at e; cases e
 unfold wpListIn
 rw [At (by simp [Region.wanted, hg])]
 refine ⟨fun _ _ => trivial, ?_⟩
 rw [Oper.semAt_eq _ _ _ hnd, hrun']
 refine ⟨fun hd => by simp [wf, Fence.wide] at hd, ?_⟩
 have hround' : RoundIn (wf ro) 0 P lp fn tmps assign body w fun e W' => ∃ C' M', Chg C1 M1 w W' C' M' ∧
   ((e = .returned (.bool true) ∧ jf.J (pre ++ [x]) W' C' M') ∨ (e = .returned (.bool false) ∧ jx.J (pre ++ [x]) W' C' M')) := by
  cases ro <;> exact hround
 refine hround'.mono ?_
 rintro e W' ⟨C', M', hc, ⟨rfl, hj'⟩ | ⟨rfl, hj'⟩⟩
 ·
  rw [hd]
  exact kt _ _ (hR.put hdN _) (Gx (jf := jf) (pre := pre) hS hC h0 h1 (jf.sub _ _ _ _ hj).1 q5 q6 q7 q8 q9 q10 hc hj' hY.zd hds)
 ·
  rw [hd]
  exact kf _ _ (hR.put hdN _) (Gx (jf := jf) (pre := pre) hS hC h0 h1 (jf.sub _ _ _ _ hj).1 q5 q6 q7 q8 q9 q10 hc hj' hY.zd hds)
theorem V0 {ro : Option Nat} {lp : Nat} {t : Operand} {xs : List Operand} {ts : Array TypeId} {vs : List Value} {R : Ending → World → Prop}
  (hg : o.guard = none) (hR : Reg a N ls) (hd : o.dst = some d)
  (ho : o.op = .call { callee := .value t, args := xs.toArray, argTypes := ts }) (ht : ev ls t = some (.func (.yield lp) #[] #[])) (hx : evs ls xs = some vs) (hdN : d < N)
  (hy : YieldAt Fence.wide 0 P lp vs.toArray w R)
  (k : ∀ e w', R e w' → ∃ b, e = .returned (.bool b) ∧ ∀ a', Reg a' N ((d, .bool b) :: ls) → wpListIn (wf ro) 0 P ops Q rest a' w') :
  wpListIn (wf ro) 0 P ops Q (o :: rest) a w := by
 obtain ⟨fn, tmps, assign, body, hrun, hround⟩ := hy
 have hrun' := FC hR ho ht hx hrun
 have hnd : ∀ c, o.op ≠ .defer c := fun c e => by rw [ho] at e; cases e
 unfold wpListIn
 rw [At (by simp [Region.wanted, hg])]
 refine ⟨fun _ _ => trivial, ?_⟩
 rw [Oper.semAt_eq _ _ _ hnd, hrun']
 refine ⟨fun hd => by simp [wf, Fence.wide] at hd, ?_⟩
 have hround' : RoundIn (wf ro) 0 P lp fn tmps assign body w R := by cases ro <;> exact hround
 refine hround'.mono fun e W' he => ?_
 obtain ⟨b, rfl, hk⟩ := k e W' he
 rw [hd]
 exact hk _ (hR.put hdN _)
end
def SW {α : Type} (P : Program) (g : Nat) (lb : Array Value) (encs : α → Array Value) (xs : List α) (Dt : World → Prop) : Prop :=
 ∀ (l : Nat) (J Jx : List α → World → Prop) (W : World), (∀ pre W, J pre W → Dt W) → J [] W →
  (∀ pre x W1, J pre W1 → pre ++ [x] <+: xs → YieldAt Fence.wide 0 P l (encs x) W1 fun e W' => (e = .returned (.bool true) ∧ J (pre ++ [x]) W') ∨ (e = .returned (.bool false) ∧ Jx (pre ++ [x]) W')) →
  CallsIn Fence.wide 0 P g (#[.func (.yield l) #[] #[]] ++ lb) W fun e W' => (∃ v, e = .returned v) ∧ (J xs W' ∨ ∃ pre, pre <+: xs ∧ Jx pre W')
section
variable {β : Type}
def UP {α : Type} (Inv : List α → List β → List Res → Prop) (Ix : Code → List β → List Res → Prop) (w0 : World) (C0 M0 : Nat → Prop) (jf jx : JF β) (l D : Nat) (o : Obj) (s : List α) : Exit → Act → World → Prop
 | .normal, _, W' => ∃ (s' : List β) (m3 : List Res) (ds3 : List Dat), St w0 (ED w0) M0 W' m3 (dJX jf s' C0 M0 w0.heap.size l D o :: ds3) ∧ Inv s s' m3
 | .ret, _, W' => ∃ (s' : List β) (m3 : List Res) (ds3 : List Dat), St w0 (ED w0) M0 W' m3 (dJX jx s' C0 M0 w0.heap.size l D o :: ds3) ∧ Ix .ret s' m3
 | _, _, _ => False
theorem Ef {α : Type} {Inv : List α → List β → List Res → Prop} {Ix : Code → List β → List Res → Prop} {w0 : World} {C0 M0 : Nat → Prop} {jf jx : JF β} {l D : Nat} {o : Obj} {s : List α} : JD (UP Inv Ix w0 C0 M0 jf jx l D o s) := fun _ _ h => h
def rBodyP {α : Type} (P : Program) (l D : Nat) (o : Obj) (body : Code) (Inv : List α → List β → List Res → Prop) (Ix : Code → List β → List Res → Prop) (w0 : World) (C0 M0 : Nat → Prop) (jf jx : JF β) (ds0 : List Dat) (s : List α) (sb : List β) (a1 : Act) (W1 : World) : Prop :=
 ∃ (m2 : List Res) (ds2 : List Dat), St w0 (ED w0) M0 W1 m2 (dJX jf sb C0 M0 w0.heap.size l D o :: ds2) ∧
  ∀ o2 W2, St w0 (ED w0) M0 W2 m2 (dJX jf sb C0 M0 w0.heap.size l D o2 :: ds0) → body.wpIn (rI l) 0 P (UP Inv Ix w0 C0 M0 jf jx l D o2 s) a1 W2
theorem Tk {P : Program} {α : Type} {g : Operand} {ps : Array Tmp} {assign body : Code} {Q : Exit → Act → World → Prop} {a : Act} {w w0 : World} {C0 M0 Zd : Nat → Prop} {m : List Res} {ds ds0 : List Dat} {gf : Nat} {lb : Array Value} {encs : α → Array Value} {xs : List α} {Dt : World → Prop} {jf jx : JF β} {sb : List β} {i : Nat}
  (hg : a.eval g = .func (.func gf) #[] lb) (hok : FOK P gf) (hseq : SW P gf lb encs xs Dt) (hps : ∀ x, (encs x).size = ps.size)
  (hS : St w0 (ED w0) M0 w m ds) (hi : ds[i]? = some (dJ jf sb C0 M0 w0.heap.size)) (hz : ∀ k, Zd k → k < w0.heap.size ∧ ¬ M0 k) (hds : ∀ d ∈ ds0, d.φ w0 Zd)
  (Inv : List α → List β → List Res → Prop) (Ix : Code → List β → List Res → Prop) (h0 : Inv [] sb m)
  (hdat : ∀ pre s m1 W, Inv pre s m1 → (∀ r ∈ m1, r.holds W) → (∀ d ∈ ds0, d.φ W (imm (ED w0) w0 m1 W)) → Dt W)
  (hround : ∀ (l D : Nat) (o : Obj) (pre : List α) (x : α) (s : List β) (W : World) (m1 : List Res), pre ++ [x] <+: xs → Inv pre s m1 → St w0 (ED w0) M0 W m1 (dJX jf s C0 M0 w0.heap.size l D o :: ds0) →
   assign.wpIn (rI l) 0 P (Exit.then (rBodyP P l D o body Inv Ix w0 C0 M0 jf jx ds0 (pre ++ [x]) s) (fun _ _ _ => False)) { tmps := (ps.zip (encs x)).foldl (fun t (p, v) => t.setIfInBounds p v) a.tmps, defers := [] } W)
  (hdone : ∀ (l D : Nat) (o : Obj) (s : List β) (m' : List Res) (W : World), w0.heap.size ≤ D → Inv xs s m' → St w0 (ED w0) M0 W m' (dJX jf s C0 M0 w0.heap.size l D o :: ds0) → Q .normal { a with defers := Vf D :: a.defers } W)
  (hstop : ∀ (l D : Nat) (o : Obj) (c : Code) (s : List β) (m' : List Res) (W : World), w0.heap.size ≤ D → Ix c s m' → St w0 (ED w0) M0 W m' (dJX jx s C0 M0 w0.heap.size l D o :: ds0) → c.wp P Q { a with defers := Vf D :: a.defers } W) :
  (Code.rangeFunc g ps assign body).wp P Q a w := by
 refine (wpIn_wide (n := 0)).1 (wpIn_rangeFunc ?_)
 intro fn _
 obtain ⟨rec, hrec⟩ : ∃ rec : LoopState → Option Code → Loop, rec = fun st pe => { state := st, pending := pe, fn, tmps := a.tmps, params := ps, assign, body, defers := w.heap.size } := ⟨_, rfl⟩
 obtain ⟨W1, hW1⟩ : ∃ W1, (w.alloc (.deferred (some []))).alloc (.loop (rec .ready none)) = W1 := ⟨_, rfl⟩
 have hsz1 : W1.heap.size = w.heap.size + 2 := by rw [← hW1]; simp
 have hL1 : W1.heap[w.heap.size + 1]? = some (.loop (rec .ready none)) := by
  rw [← hW1]; have := World.alloc_heap_new (w.alloc (.deferred (some []))) (.loop (rec .ready none)); rwa [World.size_alloc] at this
 have hK1 : W1.heap[w.heap.size]? = some (.deferred (some [])) := by
  rw [← hW1]; exact (Below.heap_alloc _ _ _ (by simp)).trans (World.alloc_heap_new w _)
 have hb1 : Below w.heap.size w W1 := by
  rw [← hW1]; exact (((Below.refl _ w).alloc (Af _) _).alloc (by simp) _)
 have hold1 : ∀ k, k < w.heap.size → W1.heap[k]? = w.heap[k]? := fun k hk => hb1.block k hk
 obtain ⟨C, Mc, g1, g2, g3, g4⟩ := hS.get hi
 have hws := hS.size
 have hS1 : St w0 (ED w0) M0 W1 m (dJX jf sb C0 M0 w0.heap.size (w.heap.size + 1) w.heap.size (.loop (rec .ready none)) :: ds0) := by
  have hold : ∀ k, k < w0.heap.size → ¬ M0 k → W1.heap[k]? = w0.heap[k]? := fun k hk hM => (hold1 k (by omega)).trans (hS.old k hk hM)
  have hown : ∀ r ∈ m, ∀ k, r.blk = some k → k < W1.heap.size ∧ (w0.heap.size ≤ k ∨ M0 k) := fun r hr k e => ⟨by have := (hS.own r hr k e).1; omega, (hS.own r hr k e).2⟩
  refine ⟨hb1.os.trans hS.os, hb1.tape.trans hS.tape, hb1.output.trans hS.output, by omega, hold, fun r hr => DF (hS.hold r hr) (fun k e => hold1 k (hS.own r hr k e).1), hown, hS.apart, fun d hd => ?_⟩
  rcases AD.1 hd with rfl | hd
  ·
   refine ⟨⟨C, Mc, jf.abide sb w W1 C Mc g1 (by omega) (fun k hC => hold1 k (g2 k hC).1), fun k hC => ⟨by have := (g2 k hC).1; omega, (g2 k hC).2.1, (g2 k hC).2.2⟩, g3, g4, fun h => ?_, fun h => ?_⟩, ⟨⟨by omega, fun h => ?_, fun r hr e => ?_⟩, ⟨by omega, fun h => ?_, fun r hr e => ?_⟩⟩, hL1, hK1⟩
   · have := (g2 _ h).1; omega
   · have := (g2 _ h).1; omega
   · omega
   · have := (hS.own r hr _ e).1; omega
   · omega
   · have := (hS.own r hr _ e).1; omega
  · exact R1 hz hds (by omega) hold hown d hd
 have hl0 : w0.heap.size ≤ w.heap.size + 1 := by omega
 have hlD : w.heap.size + 1 ≠ w.heap.size := by omega
 refine ⟨w.heap.size + 1, [Vf w.heap.size], W1, { target := .fn (.func gf) lb, args := #[.func (.yield (w.heap.size + 1)) #[] #[]] }, W1, gf,
  #[.func (.yield (w.heap.size + 1)) #[] #[]] ++ lb, W1, ?_, ?_, (fun _ _ => trivial), ?_, (fun h => by cases h), ?_⟩
 · rw [← hW1, hrec]; exact run_enterLoop_outer _ _ _ _ _
 ·
  simp only [resolve, hg]
  simp [go_sem]
 · simp [invoke, go_sem, hok _ _]
 ·
  refine (hseq (w.heap.size + 1) (fun pre W => ∃ s m1, Inv pre s m1 ∧ St w0 (ED w0) M0 W m1 (dJX jf s C0 M0 w0.heap.size (w.heap.size + 1) w.heap.size (.loop (rec .ready none)) :: ds0))
   (fun _ W => ∃ c s m1, Ix c s m1 ∧ St w0 (ED w0) M0 W m1 (dJX jx s C0 M0 w0.heap.size (w.heap.size + 1) w.heap.size (.loop (rec .done (some c))) :: ds0)) W1 ?_ ⟨sb, m, h0, hS1⟩ ?_).mono ?_
  ·
   rintro pre W ⟨s, m1, hinv, hSt⟩
   exact hdat pre s m1 W hinv hSt.hold (fun d hd => hSt.dat d (List.mem_cons_of_mem _ hd))
  ·
   -- one round
   rintro pre x W ⟨s, m1, hinv, hSt⟩ hp
   have hl := (hSt.dat _ (List.mem_cons_self ..)).2.2.1
   have hy := run_yield (P := P) (args := encs x) hl (by rw [hrec]; exact hps x)
   rw [hrec] at hy
   refine ⟨fn, _, assign, body, hy, roundIn_of_wpIn trivial (wpIn_mono (hround (w.heap.size + 1) w.heap.size _ pre x s W m1 hp hinv hSt) ?_)⟩
   rintro e a1 Wa he
   cases e with
   | normal =>
    obtain ⟨m2, ds2, hSa, hbody⟩ := he
    have hla := (hSa.dat _ (List.mem_cons_self ..)).2.2.1
    refine ⟨_, run_beginRound hla (by rw [hrec]), ?_⟩
    have hS2 := hSa.putL (r := { rec .ready none with state := .busy }) hl0 hlD hz hds
    refine wpIn_mono (hbody _ _ hS2) ?_
    rintro e a3 W3 hp3
    cases e with
    | normal =>
     obtain ⟨s', m3, ds3, hS3, hv3⟩ := hp3
     have hl3 := (hS3.dat _ (List.mem_cons_self ..)).2.2.1
     have hr := run_endRound (P := P) none hl3
     rw [hrec] at hr
     have hS4 := hS3.putL (r := rec .ready none) hl0 hlD hz hds
     refine ⟨_, _, hr, .inl ⟨rfl, s', m3, hv3, ?_⟩⟩
     rw [hrec] at hS4 ⊢
     exact hS4
    | ret =>
     obtain ⟨s', m3, ds3, hS3, hv3⟩ := hp3
     have hl3 := (hS3.dat _ (List.mem_cons_self ..)).2.2.1
     have hr := run_endRound (P := P) (some .ret) hl3
     rw [hrec] at hr
     have hS4 := hS3.putL (r := rec .done (some .ret)) hl0 hlD hz hds
     refine ⟨_, _, hr, .inr ⟨rfl, .ret, s', m3, hv3, ?_⟩⟩
     rw [hrec] at hS4 ⊢
     exact hS4
    | _ => exact hp3.elim
   | _ => exact he.elim
  ·
   -- behind the iterator
   rintro e W' ⟨⟨v, rfl⟩, ⟨s, m1, hinv, hSt⟩ | ⟨pre, hpre, c, s, m1, hix, hSt⟩⟩
   ·
    have hl := (hSt.dat _ (List.mem_cons_self ..)).2.2.1
    have he := run_endLoop (P := P) hl (by rw [hrec]; simp)
    rw [hrec] at he
    have hS4 := hSt.putL (r := { rec .ready none with state := .exhausted }) hl0 hlD hz hds
    rw [hrec] at hS4
    exact ⟨none, _, he, hdone _ _ _ s m1 _ hS.size hinv hS4⟩
   ·
    have hl := (hSt.dat _ (List.mem_cons_self ..)).2.2.1
    have he := run_endLoop (P := P) hl (by rw [hrec]; simp)
    rw [hrec] at he
    have hS4 := hSt.putL (r := { rec .done (some c) with state := .exhausted }) hl0 hlD hz hds
    rw [hrec] at hS4
    exact ⟨some c, _, he, wpIn_wide.2 (hstop _ _ _ c s m1 _ hS.size hix hS4)⟩
end
end
section
/- slices.Backward of nodes: an iterator that changes nothing. The end of an iterator that holds a loop over an iterator. -/
open Go Go.RowKit
def bwD (q : Nat) (A : Option Addr) (c : Nat) (t : List Nd) (W : World) : Prop := W.cell? ⟨q, 0, none⟩ = some (.slice A t.length c) ∧ ∀ k, k < t.length → ElemAt W A (k * 4) (Eb (nth t k))
theorem Us {t : List Nd} {k : Nat} {x : Int × Nd} (hk : k ≤ t.length) (h : (bwL t).take k ++ [x] <+: bwL t) : k < t.length ∧ x = (((t.length - (k + 1) : Nat) : Int), nth t (t.length - (k + 1))) ∧ (bwL t).take k ++ [x] = (bwL t).take (k + 1) := by
 obtain ⟨r, hr⟩ := h
 have hl := congrArg List.length hr
 have hb := H9 t
 have htk : ((bwL t).take k).length = k := by rw [Ah]; omega
 rw [Ab, Ab, Bv, htk, hb] at hl
 have hlt : k < t.length := by omega
 have h1 : (bwL t)[k]? = some x := by
  rw [← hr, BG, DV (by omega), htk]
  simp
 rw [SG hlt] at h1
 have h2 := B4 h1
 refine ⟨hlt, ?_, ?_⟩
 · rw [← h2, show t.length - 1 - k = t.length - (k + 1) by omega]
 ·
  rw [List.take_add_one, SG hlt, h2]
  rfl
set_option maxRecDepth 100000 in
theorem L1 (q : Nat) (tA : Option Addr) (tc : Nat) (t : List Nd) (hl : t.length ≤ 1000000) :
  SW Tryz.prog 166 [.pointer (some ⟨q, 0, none⟩)].toArray (fun x : Int × Nd => #[.int .i64 x.1, .agg (Eb x.2).toArray]) (bwL t) (bwD q tA tc t) := by
 intro lp J Jx w0 hD h0 hY
 refine callsIn_wide.2 (AE Tryz.func166 rfl Tryz.ntmps166 rfl (vs := [.func (.yield lp) #[] #[], .pointer (some ⟨q, 0, none⟩)]) (fun a1 hR2 => ?_))
 have hD0 := hD [] w0 h0
 refine Ac (fun K4 hK5 => ?_)
 refine A0 ?_
 refine BR sv hR2 rfl rfl rfl hD0.1 Au rfl (by decide) (fun a6 hR7 => ?_)
 refine P4 sv hR7 rfl rfl rfl rfl Au (by decide) (fun a8 hR9 => ?_)
 refine P3 (z := (((t.length : Nat) : Int) - 1)) sv hR9 rfl rfl rfl rfl (by decide) (by omega) (by omega) (by omega) (fun a10 hR11 => ?_)
 refine asg hR11 (fun a12 hR13 => ?_)
 refine Ae (AC (hK5 _ _ ?_))
 refine A4 ?_
 refine AH (fun gn ga gw => ∃ k : Nat, (Reg ga 19 [(1000000, .bool false), (0, .func (.yield lp) #[] #[]), (1, .pointer (some ⟨q, 0, none⟩)), (3, .int .i64 (((t.length : Nat) : Int) - ((k : Nat) : Int) - 1))]) ∧ (J ((bwL t).take k) gw) ∧ (k ≤ t.length) ∧ (t.length - k) = gn) _ ⟨0, (hR13.sub (rc rfl (rc rfl (rc rfl (rc (ri rfl (by omega)) rnl))))), h0, by omega, rfl⟩ ?_
 rintro r14 a15 w16 ⟨k, hR17, hJ, hk, hn19⟩
 have hDk := hD _ _ hJ
 refine Ac (fun K20 hK21 => ?_)
 refine Ac (fun K22 hK23 => ?_)
 refine A0 ?_
 refine mv hR17 (fun a24 hR25 => ?_)
 refine r_geq sv hR25 rfl rfl rfl rfl (by decide) (fun a26 hR27 => ?_)
 refine Ae (AC (hK23 _ _ ?_))
 rcases Cb (0 ≤ (((t.length : Nat) : Int) - ((k : Nat) : Int) - 1)) with h28 | h28
 ·
  skip
  have hR29 := hR27.setb (d := 8) (b := true) rfl (Aw h28)
  refine CF (hR29.ev rfl) ?_
  refine Am ?_
  refine AC (hK21 _ _ ?_)
  refine Ac (fun K30 hK31 => ?_)
  refine A4 ?_
  refine Ac (fun K32 hK33 => ?_)
  refine F0 ?_
  have hel : ElemAt w16 tA ((t.length - (k + 1)) * 4) (Eb (nth t (t.length - (k + 1)))) := hDk.2 _ (by omega)
  refine CI (B2 rfl rfl) hR29 rfl rfl rfl (by decide) (fun a34 hR35 => ?_)
  refine CI (B2 rfl rfl) hR35 rfl rfl rfl (by decide) (fun a36 hR37 => ?_)
  refine BR (B2 rfl rfl) hR37 rfl rfl rfl hDk.1 Au rfl (by decide) (fun a38 hR39 => ?_)
  refine CI (B2 rfl rfl) hR39 rfl rfl rfl (by decide) (fun a40 hR41 => ?_)
  refine CV (i := (t.length) - (k + 1)) (j := ((t.length) - (k + 1)) * 4) (B2 rfl rfl) hR41 rfl rfl rfl rfl Au DK (by omega) (by omega) hel.some_ rfl (by decide) (fun a42 hR43 => ?_)
  refine Cw (B2 rfl rfl) hR43 rfl rfl rfl hel Ar rfl DK (by decide) (fun a44 hR45 => ?_)
  have hx := Pi (t := t) (k := k) (n := t.length - (k + 1)) (i := (((t.length : Nat) : Int) - ((k : Nat) : Int) - 1)) (by omega)
  have hpx := Qe (t := t) (k := k) (n := t.length - (k + 1)) (i := (((t.length : Nat) : Int) - ((k : Nat) : Int) - 1)) (by omega)
  refine V0 (t := .tmp 11) (xs := [.tmp 12, .tmp 16]) rfl hR45 rfl rfl rfl rfl (by decide) (hY _ ((((((t.length : Nat) : Int) - ((k : Nat) : Int) - 1), (nth t ((t.length) - (k + 1)))) : Int × Nd)) w16 hJ hpx) ?_
  rintro e w48 (⟨rfl, hJ2⟩ | ⟨rfl, hJ2⟩)
  ·
   refine ⟨true, rfl, fun a47 hR49 => ?_⟩
   refine GX (B2 rfl rfl) hR49 rfl rfl rfl (by decide) (fun a51 hR52 => ?_)
   refine Fa ?_
   refine AC (hK33 _ _ ?_)
   refine CP (hR52.ev rfl) ?_
   refine Am ?_
   refine A7 ?_
   refine AC (hK31 _ _ ?_)
   refine A0 ?_
   refine mv hR52 (fun a53 hR54 => ?_)
   refine P3 (z := (((t.length : Nat) : Int) - ((k : Nat) : Int) - 2)) sv hR54 rfl rfl rfl rfl (by decide) (by omega) (by omega) (by omega) (fun a55 hR56 => ?_)
   refine asg hR56 (fun a57 hR58 => ?_)
   refine Ae ?_
   rw [hx] at hJ2
   exact ⟨_, by omega, k + 1, (hR58.sub (rc rfl (rc rfl (rc rfl (rc (ri rfl (by omega)) rnl))))), hJ2, by omega, rfl⟩
  ·
   refine ⟨false, rfl, fun a47 hR49 => ?_⟩
   refine GX (B2 rfl rfl) hR49 rfl rfl rfl (by decide) (fun a61 hR62 => ?_)
   refine Fa ?_
   refine AC (hK33 _ _ ?_)
   refine CF (hR62.ev rfl) ?_
   refine BV ?_
   refine Bf ?_
   refine AX ?_
   refine AX ?_
   refine Bf ?_
   refine Kr hR62 rfl rfl ?_
   exact ⟨⟨_, rfl⟩, .inr ⟨_, hpx, hJ2⟩⟩
 ·
  skip
  have hR63 := hR27.setb (d := 8) (b := false) rfl (Ai h28)
  refine CP (hR63.ev rfl) ?_
  refine wp_exit ?_
  refine EW ?_
  refine EW ?_
  refine EH ?_
  refine Jc hR63 rfl rfl ?_
  rw [WT (by omega)] at hJ
  exact ⟨⟨_, rfl⟩, .inl hJ⟩
section
variable {α : Type} {P : Program} {jf jx : JF α} {w w0 : World} {C0 M0 Zd : Nat → Prop} {m : List Res} {ds ds0 : List Dat} {xs s : List α} {N : Nat} {l : List (Nat × Value)} {a : Act} {fn : Func}
theorem Pt {g : Nat} {fn : Func} {c : Code} {lb : List Value} {encs : α → Array Value} {W0 : World} (hf : P.funcs[g]? = some fn) (hb : fn.body = some c) (hN : fn.ntmps = N) (hsz : decide (lb.length + 1 ≤ N ∧ N ≤ 1000000) = true)
  (ds0 : List Dat) (hds : ∀ d ∈ ds0, d.φ W0 Zd)
  (h : ∀ (lp : Nat) (jf jx : JF α) (w0 : World) (C0 M0 : Nat → Prop), Ys P lp encs xs jf jx w0 C0 M0 Zd → (∀ d ∈ ds0, d.φ w0 Zd) → ∀ a, Reg a N ((1000000, .bool false) :: idx 0 (.func (.yield lp) #[] #[] :: lb)) →
   St w0 (ED w0) M0 w0 [] (dJ jf [] C0 M0 w0.heap.size :: ds0) → c.wp P (MF P fn (Kl jf jx xs C0 M0 w0)) a w0) : HV P g lb.toArray encs xs Zd W0 := by
 intro lp jf jx W C Mc hs hag hz hj hY
 have hds' : ∀ d ∈ ds0, d.φ W Zd := fun d hd => d.mono _ _ _ _ hs (hds d hd) fun k hk => ⟨hk, hag k hk⟩
 have h1 : (#[.func (.yield lp) #[] #[]] ++ lb.toArray : Array Value) = (Value.func (.yield lp) #[] #[] :: lb).toArray := by simp
 rw [h1]
 refine callsIn_wide.2 (FM hf hb hN (by simpa using hsz) fun a hR => ?_)
 exact h lp jf jx W C Mc ⟨hz, (jf.sub _ _ _ _ hj).2, hY⟩ hds' a hR (OM hj hds' hz)
theorem RV {l D : Nat} {o : Obj} (hS : St w0 (ED w0) M0 w m (dJX jf s C0 M0 w0.heap.size l D o :: ds)) (hD : w0.heap.size ≤ D) : w.heap[D]? = some (.deferred (some [])) ∧ ∃ C' M', Chg C0 M0 w0 (shut w D) C' M' ∧ jf.J s (shut w D) C' M' := by
 obtain ⟨⟨C', M', h1, h2, h3, h4, _, h6⟩, _, _, h10⟩ := hS.dat _ (List.mem_cons_self ..)
 have hput : ∀ k, k ≠ D → (shut w D).heap[k]? = w.heap[k]? := fun k h => World.putObj_heap_other h
 exact ⟨h10, C', M', ⟨hS.os, hS.tape, hS.output, by rw [World.putObj_size]; exact hS.size, fun k hk hM => (hput k (by omega)).trans (hS.old k hk hM), h3, h4⟩,
  jf.abide s w _ C' M' h1 (by rw [World.putObj_size]; exact Af _) (fun k hC => hput k (fun e => h6 (e ▸ hC)))⟩
theorem m_allX {ll D : Nat} {o : Obj} {how : Exit} (hhow : how = .ret ∨ how = .normal) (hR : Reg a N l) (h0 : l.lookup 1000000 = some (.int .i64 (D : Int))) (hr : fn.results = #[]) (hS : St w0 (ED w0) M0 w m (dJX jf s C0 M0 w0.heap.size ll D o :: ds)) (hD : w0.heap.size ≤ D) (h : s = xs) : MF P fn (Kl jf jx xs C0 M0 w0) how a w := by
 subst h
 obtain ⟨h1, C', M', h2, h3⟩ := RV hS hD
 exact Fx hhow hR h0 h1 (res0 hr _) ⟨⟨_, rfl⟩, C', M', h2, .inl h3⟩
theorem Wq {ll D : Nat} {o : Obj} {how : Exit} (hhow : how = .ret ∨ how = .normal) (hR : Reg a N l) (h0 : l.lookup 1000000 = some (.int .i64 (D : Int))) (hr : fn.results = #[]) (hS : St w0 (ED w0) M0 w m (dJX jx s C0 M0 w0.heap.size ll D o :: ds)) (hD : w0.heap.size ≤ D) (h : s <+: xs) : MF P fn (Kl jf jx xs C0 M0 w0) how a w := by
 obtain ⟨h1, C', M', h2, h3⟩ := RV hS hD
 exact Fx hhow hR h0 h1 (res0 hr _) ⟨⟨_, rfl⟩, C', M', h2, .inr ⟨s, h, h3⟩⟩
end
end
end Go.Proofs.YtpfmnpaifchleaaGreatDoor
