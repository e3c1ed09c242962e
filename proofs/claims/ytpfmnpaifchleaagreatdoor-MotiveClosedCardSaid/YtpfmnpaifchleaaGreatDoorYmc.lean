import Derived.Test.YtpfmnpaifchleaaGreatDoorYmb
namespace Go.Proofs.YtpfmnpaifchleaaGreatDoor
set_option linter.unusedSimpArgs false
set_option linter.unusedVariables false
section
/- slices.Backward of nodes: an iterator that changes nothing. The end of an iterator that holds a loop over an iterator. -/
open Go Go.RowKit
def bwD (q : Nat) (A : Option Addr) (c : Nat) (t : List Nd) (W : World) : Prop := W.cell? ⟨q, 0, none⟩ = some (.slice A t.length c) ∧ ∀ k, k < t.length → ElemAt W A (k * 4) (encN (nth t k))
theorem bwL_next {t : List Nd} {k : Nat} {x : Int × Nd} (hk : k ≤ t.length) (h : (bwL t).take k ++ [x] <+: bwL t) : k < t.length ∧ x = (((t.length - (k + 1) : Nat) : Int), nth t (t.length - (k + 1))) ∧ (bwL t).take k ++ [x] = (bwL t).take (k + 1) := by
 obtain ⟨r, hr⟩ := h
 have hl := congrArg List.length hr
 have hb := bwL_length t
 have htk : ((bwL t).take k).length = k := by rw [List.length_take]; omega
 rw [List.length_append, List.length_append, List.length_singleton, htk, hb] at hl
 have hlt : k < t.length := by omega
 have h1 : (bwL t)[k]? = some x := by
  rw [← hr, List.append_assoc, List.getElem?_append_right (by omega), htk]
  simp
 rw [bwL_at hlt] at h1
 have h2 := Option.some.inj h1
 refine ⟨hlt, ?_, ?_⟩
 · rw [← h2, show t.length - 1 - k = t.length - (k + 1) by omega]
 ·
  rw [List.take_add_one, bwL_at hlt, h2]
  rfl
set_option maxRecDepth 100000 in
theorem backward_pure (q : Nat) (tA : Option Addr) (tc : Nat) (t : List Nd) (hl : t.length ≤ 1000000) :
  YieldsP Tryz.prog 166 [.pointer (some ⟨q, 0, none⟩)].toArray (fun x : Int × Nd => #[.int .i64 x.1, .agg (encN x.2).toArray]) (bwL t) (bwD q tA tc t) := by
 intro lp J Jx w0 hD h0 hY
 refine callsIn_wide.2 (c_enter Tryz.func166 rfl Tryz.ntmps166 rfl (vs := [.func (.yield lp) #[] #[], .pointer (some ⟨q, 0, none⟩)]) (fun a1 hR2 => ?_))
 have hD0 := hD [] w0 h0
 refine wp_seq_k (fun K4 hK5 => ?_)
 refine c_region ?_
 refine m_loadC sv hR2 rfl rfl rfl hD0.1 Tryz.underlying22 rfl (by decide) (fun a6 hR7 => ?_)
 refine r_len sv hR7 rfl rfl rfl rfl Tryz.underlying22 (by decide) (fun a8 hR9 => ?_)
 refine r_sub (z := (((t.length : Nat) : Int) - 1)) sv hR9 rfl rfl rfl rfl (by decide) (by omega) (by omega) (by omega) (fun a10 hR11 => ?_)
 refine asg hR11 (fun a12 hR13 => ?_)
 refine wpList_nil (x_then_n (hK5 _ _ ?_))
 refine wp_block ?_
 refine wp_loop_ghost (fun gn ga gw => ∃ k : Nat, (Reg ga 19 [(1000000, .bool false), (0, .func (.yield lp) #[] #[]), (1, .pointer (some ⟨q, 0, none⟩)), (3, .int .i64 (((t.length : Nat) : Int) - ((k : Nat) : Int) - 1))]) ∧ (J ((bwL t).take k) gw) ∧ (k ≤ t.length) ∧ (t.length - k) = gn) _ ⟨0, (hR13.sub (rc rfl (rc rfl (rc rfl (rc (ri rfl (by omega)) rnl))))), h0, by omega, rfl⟩ ?_
 rintro r14 a15 w16 ⟨k, hR17, hJ, hk, hn19⟩
 have hDk := hD _ _ hJ
 refine wp_seq_k (fun K20 hK21 => ?_)
 refine wp_seq_k (fun K22 hK23 => ?_)
 refine c_region ?_
 refine mv hR17 (fun a24 hR25 => ?_)
 refine r_geq sv hR25 rfl rfl rfl rfl (by decide) (fun a26 hR27 => ?_)
 refine wpList_nil (x_then_n (hK23 _ _ ?_))
 rcases Decidable.em (0 ≤ (((t.length : Nat) : Int) - ((k : Nat) : Int) - 1)) with h28 | h28
 ·
  skip
  have hR29 := hR27.setb (d := 8) (b := true) rfl (decide_eq_true h28)
  refine wp_cond_true (hR29.ev rfl) ?_
  refine wp_skip ?_
  refine x_then_n (hK21 _ _ ?_)
  refine wp_seq_k (fun K30 hK31 => ?_)
  refine wp_block ?_
  refine wp_seq_k (fun K32 hK33 => ?_)
  refine cy_region ?_
  have hel : ElemAt w16 tA ((t.length - (k + 1)) * 4) (encN (nth t (t.length - (k + 1)))) := hDk.2 _ (by omega)
  refine r_move (st_listInV rfl rfl) hR29 rfl rfl rfl (by decide) (fun a34 hR35 => ?_)
  refine r_move (st_listInV rfl rfl) hR35 rfl rfl rfl (by decide) (fun a36 hR37 => ?_)
  refine m_loadC (st_listInV rfl rfl) hR37 rfl rfl rfl hDk.1 Tryz.underlying22 rfl (by decide) (fun a38 hR39 => ?_)
  refine r_move (st_listInV rfl rfl) hR39 rfl rfl rfl (by decide) (fun a40 hR41 => ?_)
  refine m_index (i := (t.length) - (k + 1)) (j := ((t.length) - (k + 1)) * 4) (st_listInV rfl rfl) hR41 rfl rfl rfl rfl Tryz.underlying22 sz30 (by omega) (by omega) hel.some_ rfl (by decide) (fun a42 hR43 => ?_)
  refine m_loadEN (st_listInV rfl rfl) hR43 rfl rfl rfl hel Tryz.underlying30 rfl sz30 (by decide) (fun a44 hR45 => ?_)
  have hx := bwL_step (t := t) (k := k) (n := t.length - (k + 1)) (i := (((t.length : Nat) : Int) - ((k : Nat) : Int) - 1)) (by omega)
  have hpx := bwL_prefix (t := t) (k := k) (n := t.length - (k + 1)) (i := (((t.length : Nat) : Int) - ((k : Nat) : Int) - 1)) (by omega)
  refine y_callP (t := .tmp 11) (xs := [.tmp 12, .tmp 16]) rfl hR45 rfl rfl rfl rfl (by decide) (hY _ ((((((t.length : Nat) : Int) - ((k : Nat) : Int) - 1), (nth t ((t.length) - (k + 1)))) : Int × Nd)) w16 hJ hpx) ?_
  rintro e w48 (⟨rfl, hJ2⟩ | ⟨rfl, hJ2⟩)
  ·
   refine ⟨true, rfl, fun a47 hR49 => ?_⟩
   refine r_not (st_listInV rfl rfl) hR49 rfl rfl rfl (by decide) (fun a51 hR52 => ?_)
   refine li_nil ?_
   refine x_then_n (hK33 _ _ ?_)
   refine wp_cond_false (hR52.ev rfl) ?_
   refine wp_skip ?_
   refine x_block_n ?_
   refine x_then_n (hK31 _ _ ?_)
   refine c_region ?_
   refine mv hR52 (fun a53 hR54 => ?_)
   refine r_sub (z := (((t.length : Nat) : Int) - ((k : Nat) : Int) - 2)) sv hR54 rfl rfl rfl rfl (by decide) (by omega) (by omega) (by omega) (fun a55 hR56 => ?_)
   refine asg hR56 (fun a57 hR58 => ?_)
   refine wpList_nil ?_
   rw [hx] at hJ2
   exact ⟨_, by omega, k + 1, (hR58.sub (rc rfl (rc rfl (rc rfl (rc (ri rfl (by omega)) rnl))))), hJ2, by omega, rfl⟩
  ·
   refine ⟨false, rfl, fun a47 hR49 => ?_⟩
   refine r_not (st_listInV rfl rfl) hR49 rfl rfl rfl (by decide) (fun a61 hR62 => ?_)
   refine li_nil ?_
   refine x_then_n (hK33 _ _ ?_)
   refine wp_cond_true (hR62.ev rfl) ?_
   refine wp_ret ?_
   refine x_block_r ?_
   refine x_then_r ?_
   refine x_then_r ?_
   refine x_block_r ?_
   refine e_ret0 hR62 rfl rfl ?_
   exact ⟨⟨_, rfl⟩, .inr ⟨_, hpx, hJ2⟩⟩
 ·
  skip
  have hR63 := hR27.setb (d := 8) (b := false) rfl (decide_eq_false h28)
  refine wp_cond_false (hR63.ev rfl) ?_
  refine wp_exit ?_
  refine x_then_e ?_
  refine x_then_e ?_
  refine x_block_eq ?_
  refine e_end0 hR63 rfl rfl ?_
  rw [bwL_all (by omega)] at hJ
  exact ⟨⟨_, rfl⟩, .inl hJ⟩
section
variable {α : Type} {P : Program} {jf jx : JF α} {w w0 : World} {C0 M0 Zd : Nat → Prop} {m : List Res} {ds ds0 : List Dat} {xs s : List α} {N : Nat} {l : List (Nat × Value)} {a : Act} {fn : Func}
theorem yields_ofM {g : Nat} {fn : Func} {c : Code} {lb : List Value} {encs : α → Array Value} {W0 : World} (hf : P.funcs[g]? = some fn) (hb : fn.body = some c) (hN : fn.ntmps = N) (hsz : decide (lb.length + 1 ≤ N ∧ N ≤ 1000000) = true)
  (ds0 : List Dat) (hds : ∀ d ∈ ds0, d.φ W0 Zd)
  (h : ∀ (lp : Nat) (jf jx : JF α) (w0 : World) (C0 M0 : Nat → Prop), Ys P lp encs xs jf jx w0 C0 M0 Zd → (∀ d ∈ ds0, d.φ w0 Zd) → ∀ a, Reg a N ((1000000, .bool false) :: idx 0 (.func (.yield lp) #[] #[] :: lb)) →
   St w0 (oldB w0) M0 w0 [] (dJ jf [] C0 M0 w0.heap.size :: ds0) → c.wp P (bodyM P fn (itPost jf jx xs C0 M0 w0)) a w0) : Yields P g lb.toArray encs xs Zd W0 := by
 intro lp jf jx W C Mc hs hag hz hj hY
 have hds' : ∀ d ∈ ds0, d.φ W Zd := fun d hd => d.mono _ _ _ _ hs (hds d hd) fun k hk => ⟨hk, hag k hk⟩
 have h1 : (#[.func (.yield lp) #[] #[]] ++ lb.toArray : Array Value) = (Value.func (.yield lp) #[] #[] :: lb).toArray := by simp
 rw [h1]
 refine callsIn_wide.2 (c_enterM hf hb hN (by simpa using hsz) fun a hR => ?_)
 exact h lp jf jx W C Mc ⟨hz, (jf.sub _ _ _ _ hj).2, hY⟩ hds' a hR (it_start hj hds' hz)
theorem itX_chg {l D : Nat} {o : Obj} (hS : St w0 (oldB w0) M0 w m (dJX jf s C0 M0 w0.heap.size l D o :: ds)) (hD : w0.heap.size ≤ D) : w.heap[D]? = some (.deferred (some [])) ∧ ∃ C' M', Chg C0 M0 w0 (shut w D) C' M' ∧ jf.J s (shut w D) C' M' := by
 obtain ⟨⟨C', M', h1, h2, h3, h4, _, h6⟩, _, _, h10⟩ := hS.dat _ (List.mem_cons_self ..)
 have hput : ∀ k, k ≠ D → (shut w D).heap[k]? = w.heap[k]? := fun k h => World.putObj_heap_other h
 exact ⟨h10, C', M', ⟨hS.os, hS.tape, hS.output, by rw [World.putObj_size]; exact hS.size, fun k hk hM => (hput k (by omega)).trans (hS.old k hk hM), h3, h4⟩,
  jf.abide s w _ C' M' h1 (by rw [World.putObj_size]; exact Nat.le_refl _) (fun k hC => hput k (fun e => h6 (e ▸ hC)))⟩
theorem m_allX {ll D : Nat} {o : Obj} {how : Exit} (hhow : how = .ret ∨ how = .normal) (hR : Reg a N l) (h0 : l.lookup 1000000 = some (.int .i64 (D : Int))) (hr : fn.results = #[]) (hS : St w0 (oldB w0) M0 w m (dJX jf s C0 M0 w0.heap.size ll D o :: ds)) (hD : w0.heap.size ≤ D) (h : s = xs) : bodyM P fn (itPost jf jx xs C0 M0 w0) how a w := by
 subst h
 obtain ⟨h1, C', M', h2, h3⟩ := itX_chg hS hD
 exact m_mark hhow hR h0 h1 (res0 hr _) ⟨⟨_, rfl⟩, C', M', h2, .inl h3⟩
theorem m_stopX {ll D : Nat} {o : Obj} {how : Exit} (hhow : how = .ret ∨ how = .normal) (hR : Reg a N l) (h0 : l.lookup 1000000 = some (.int .i64 (D : Int))) (hr : fn.results = #[]) (hS : St w0 (oldB w0) M0 w m (dJX jx s C0 M0 w0.heap.size ll D o :: ds)) (hD : w0.heap.size ≤ D) (h : s <+: xs) : bodyM P fn (itPost jf jx xs C0 M0 w0) how a w := by
 obtain ⟨h1, C', M', h2, h3⟩ := itX_chg hS hD
 exact m_mark hhow hR h0 h1 (res0 hr _) ⟨⟨_, rfl⟩, C', M', h2, .inr ⟨s, h, h3⟩⟩
end
end
section
/- What is left when the marks of proofs are taken out. -/
def isPrf (n : Nd) : Bool := decide (n.K = 28)
def nPrf (n : Nd) : Bool := !isPrf n
section
variable {α : Type} {t v z : List α} {i j q : Nat}
theorem rep_end {B : List α} (hi : i ≤ t.length) (hj : j = t.length) (hB : B = t.take i ++ v ++ t.drop (i + v.length)) : B.take (i + v.length) = t.take i ++ v ++ t.drop j := by
 subst hB
 rw [List.take_left' (by rw [List.length_append, List.length_take]; omega), List.drop_eq_nil_of_le (by omega), List.append_nil]
theorem rep_end2 {B C : List α} (hi : i ≤ t.length) (hj : j = t.length) (hB : B = t.take i ++ v ++ t.drop (i + v.length)) (hC : C = B.take (i + v.length) ++ z) : C.take (i + v.length) = t.take i ++ v ++ t.drop j := by
 rw [hC, List.take_left', ← rep_end hi hj hB]
 rw [hB]; simp; omega
theorem rep_mid2 {B K C E z2 : List α} {D : Nat} (h1 : i + v.length ≤ j) (h2 : j ≤ t.length) (hD : D = i + v.length + t.length - j) (hB : B = t.take i ++ v ++ t.drop (i + v.length)) (hK : K = (B.drop j).take (t.length - j))
  (hC : C = B.take (i + v.length) ++ K ++ B.drop (i + v.length + K.length)) (hE : E = C.take D ++ z ++ z2) : E.take D = t.take i ++ v ++ t.drop j := by
 have hX : (t.take i ++ v).length = i + v.length := by rw [List.length_append, List.length_take]; omega
 have hK' : K = t.drop j := by
  rw [hK, hB, ← hX, List.drop_append, List.drop_eq_nil_of_le (by omega), List.nil_append, List.drop_drop, hX, show i + v.length + (j - (i + v.length)) = j by omega]
  exact List.take_of_length_le (by rw [List.length_drop]; omega)
 have hBt : B.take (i + v.length) = t.take i ++ v := by rw [hB]; exact List.take_left' hX
 have hCt : C.take D = t.take i ++ v ++ t.drop j := by
  rw [hC, hK', hBt]
  exact List.take_left' (by rw [List.length_append, hX, List.length_drop]; omega)
 rw [hE, hCt, List.append_assoc]
 exact List.take_left' (by rw [List.length_append, hX, List.length_drop]; omega)
end
end
section
/- The proofs of a slice, and what is erased: plain lists. -/
structure PInv (t : List Nd) (k : Nat) (x : List (Int × Int) × Int × Int) : Prop where
 bd : ∀ y ∈ x.1, (t.length : Int) - k ≤ y.1 ∧ y.1 ≤ y.2 ∧ y.2 < t.length
 srt : x.1.Pairwise fun a b => b.2 < a.1
 cur : 0 ≤ x.2.1 → (t.length : Int) - k ≤ x.2.1 ∧ x.2.1 < t.length ∧ ∀ y ∈ x.1, x.2.1 < y.1
theorem prS_inv (t : List Nd) : ∀ k, k ≤ t.length → PInv t k (prS t k)
 | 0, _ => ⟨(fun _ h => by cases h), List.Pairwise.nil, (fun h => by simp [prS] at h)⟩
 | k + 1, hk => by
  have ih := prS_inv t k (by omega)
  rcases hx : prS t k with ⟨L, r, n⟩
  rw [hx] at ih
  obtain ⟨h1, h2, h3⟩ := ih
  simp only at h1 h2 h3
  have hst : prS t (k + 1) = prStep t k (L, r, n) := by rw [← hx]; rfl
  rw [hst]
  unfold prStep
  simp only
  by_cases hr : r < 0
  ·
   simp only [hr, true_and, if_true]
   split
   · exact ⟨fun y hy => by have := h1 y hy; (try simp only at this ⊢); omega, h2, fun h => by (try simp only at h); omega⟩
   ·
    split
    · exact ⟨fun y hy => by have := h1 y hy; omega, h2, fun _ => ⟨by (try simp only); omega, by (try simp only); omega, fun y hy => by have := h1 y hy; (try simp only); omega⟩⟩
    ·
     refine ⟨fun y hy => ?_, ?_, fun h => by (try simp only at h); omega⟩
     ·
      rcases List.mem_append.1 hy with hy | hy
      · have := h1 y hy; omega
      · rw [List.mem_singleton] at hy; subst hy; (try simp only); omega
     ·
      refine List.pairwise_append.2 ⟨h2, by simp, fun a ha b hb => ?_⟩
      rw [List.mem_singleton] at hb; subst hb
      have := h1 a ha
      (try simp only)
      omega
  ·
   obtain ⟨h4, h5, h6⟩ := h3 (by omega)
   simp only [hr, false_and, if_false]
   split
   · exact ⟨fun y hy => by have := h1 y hy; omega, h2, fun _ => ⟨by (try simp only); omega, h5, h6⟩⟩
   ·
    refine ⟨fun y hy => ?_, ?_, fun h => by (try simp only at h); omega⟩
    ·
     rcases List.mem_append.1 hy with hy | hy
     · have := h1 y hy; omega
     · rw [List.mem_singleton] at hy; subst hy; (try simp only); omega
    ·
     refine List.pairwise_append.2 ⟨h2, by simp, fun a ha b hb => ?_⟩
     rw [List.mem_singleton] at hb; subst hb
     exact h6 a ha
theorem prfL_nat {t : List Nd} {pre : List (Int × Int)} {x : Int × Int} (h : pre ++ [x] <+: prfL t) : ∃ i j : Nat, x = ((i : Int), (j : Int)) ∧ i ≤ j ∧ j < t.length ∧ ∀ y ∈ pre, (j : Int) < y.1 := by
 have hi := prS_inv t t.length (Nat.le_refl _)
 obtain ⟨rest, hr⟩ := h
 have hb := hi.bd x (by show x ∈ prfL t; rw [← hr]; simp)
 have hs : (prfL t).Pairwise fun a b => b.2 < a.1 := hi.srt
 rw [← hr, List.append_assoc, List.pairwise_append] at hs
 refine ⟨x.1.toNat, x.2.toNat, ?_, by omega, by omega, fun y hy => ?_⟩
 · ext <;> simp only [] <;> omega
 ·
  have := hs.2.2 y hy x (by simp)
  omega
abbrev tick : Nd := ⟨29, 0, 0, ⟨#[]⟩⟩
def repF (o : List Nd) (x : Int × Int) : List Nd := o.take x.1.toNat ++ [tick] ++ o.drop (x.2.toNat + 1)
def repP (t : List Nd) (pre : List (Int × Int)) : List Nd := pre.foldl repF t
theorem repP_snoc (t : List Nd) (pre : List (Int × Int)) (x : Int × Int) : repP t (pre ++ [x]) = repF (repP t pre) x := by simp [repP]
theorem repP_take (t : List Nd) (pre : List (Int × Int)) : ∀ m : Nat, (∀ y ∈ pre, (m : Int) ≤ y.1) → m ≤ t.length → (repP t pre).take m = t.take m := by
 induction h : pre.length generalizing pre with
 | zero =>
  have : pre = [] := List.eq_nil_of_length_eq_zero h
  subst this
  intro m _ _
  rfl
 | succ n ih =>
  obtain ⟨p, x, rfl⟩ : ∃ p x, pre = p ++ [x] := ⟨pre.dropLast, pre.getLast (by intro e; subst e; simp at h), (List.dropLast_concat_getLast _).symm⟩
  intro m hm hmt
  have h1 := ih p (by simpa using h) m (fun y hy => hm y (List.mem_append_left _ hy)) hmt
  have hx := hm x (by simp)
  have hl : m ≤ (repP t p).length := by
   have := congrArg List.length h1
   rw [List.length_take, List.length_take] at this
   omega
  rw [repP_snoc, repF, List.append_assoc, List.take_append_of_le_length (by rw [List.length_take]; omega), List.take_take, Nat.min_eq_left (by omega), h1]
theorem repP_len {t : List Nd} {pre : List (Int × Int)} {j : Nat} (hj : j < t.length) (h : ∀ y ∈ pre, (j : Int) < y.1) : j + 1 ≤ (repP t pre).length := by
 have h1 := repP_take t pre (j + 1) (fun y hy => by have := h y hy; omega) hj
 have := congrArg List.length h1
 rw [List.length_take, List.length_take] at this
 omega
theorem repP_le {t : List Nd} {pre : List (Int × Int)} (h : pre <+: prfL t) : (repP t pre).length ≤ t.length := by
 induction hn : pre.length generalizing pre with
 | zero =>
  have : pre = [] := List.eq_nil_of_length_eq_zero hn
  subst this
  exact Nat.le_refl _
 | succ n ih =>
  obtain ⟨p, x, rfl⟩ : ∃ p x, pre = p ++ [x] := ⟨pre.dropLast, pre.getLast (by intro e; subst e; simp at hn), (List.dropLast_concat_getLast _).symm⟩
  obtain ⟨i, j, rfl, hij, hj, hy⟩ := prfL_nat h
  have h1 := ih (List.IsPrefix.trans (List.prefix_append _ _) h) (by simpa using hn)
  have h2 := repP_len hj hy
  rw [repP_snoc, repF]
  simp only [List.length_append, List.length_take, List.length_drop, List.length_singleton, Int.toNat_natCast]
  omega
theorem repP_step {t : List Nd} {pre : List (Int × Int)} {i j : Nat} : (repP t pre).take i ++ [tick] ++ (repP t pre).drop (j + 1) = repP t (pre ++ [((i : Int), (j : Int))]) := by
 rw [repP_snoc]
 rfl
end
section
/- Rows of nodes that are kept from round to round: a tail of the resources. -/
open Go Go.RowKit
section
variable {w w' w0 : World} {Z M : Nat → Prop} {m m' : List Res} {ds : List Dat}
theorem St.perm (h : St w0 Z M w m ds) (hp : m.Perm m') : St w0 Z M w m' ds := by
 have hmem : ∀ r, r ∈ m' ↔ r ∈ m := fun r => hp.symm.mem_iff
 have himm : imm Z w0 m' w = imm Z w0 m w := by
  funext k
  unfold imm
  refine propext ⟨fun q => ⟨q.1, q.2.1, fun r hr => q.2.2 r ((hmem r).2 hr)⟩, fun q => ⟨q.1, q.2.1, fun r hr => q.2.2 r ((hmem r).1 hr)⟩⟩
 refine ⟨h.os, h.tape, h.output, h.size, h.old, fun r hr => h.hold r ((hmem r).1 hr), fun r hr => h.own r ((hmem r).1 hr), ?_, fun d hd => by rw [himm]; exact h.dat d hd⟩
 refine (hp.pairwise_iff ?_).1 h.apart
 intro r s hrs k e e'
 exact hrs k e' e
theorem St.rot {A T : List Res} {r : Res} (h : St w0 Z M w ((A ++ T) ++ [r]) ds) : St w0 Z M w ((A ++ [r]) ++ T) ds :=
 h.perm (by
  rw [List.append_assoc, List.append_assoc]
  exact List.Perm.append_left A List.perm_append_comm)
def rowOf (e : Nat) (s : Sl) : Res := .row s.1 s.2.2.length s.2.1 e 4 (encNs s.2.2)
theorem St.absorb {e : Nat} {A : List Res} {Ls : List Sl} {B : Option Addr} {c : Nat} {L : List Nd} (h : St w0 Z M w ((A ++ [.row B L.length c e 4 (encNs L)]) ++ Ls.map (rowOf e)) ds) : St w0 Z M w (A ++ (Ls ++ [((B, c, L) : Sl)]).map (rowOf e)) ds :=
 h.perm (by
  rw [List.map_append, List.append_assoc]
  exact List.Perm.append_left A List.perm_append_comm)
theorem St.tail_data {e : Nat} {A : List Res} {Ls : List Sl} (h : St w0 Z M w (A ++ Ls.map (rowOf e)) ds) (hM : ∀ k, ¬ M k) : St w0 Z M w A (ds ++ [dAll Ls]) := by
 have h1 : St w0 Z M w A ds := h.drop A (List.sublist_append_left _ _)
 refine h1.data _ fun s hs => ?_
 have hmem : rowOf e s ∈ A ++ Ls.map (rowOf e) := List.mem_append_right _ (List.mem_map_of_mem hs)
 have hr : w.ownsRow 0 e 4 (.slice s.1 s.2.2.length s.2.1) s.2.2.length (encNs s.2.2) := h.hold _ hmem
 refine ⟨own_cap hr, hr.1, fun hn => ?_⟩
 obtain ⟨g, hg⟩ := own_some hr hn
 have hblk : (rowOf e s).blk = some g := by show s.1.map (·.block) = some g; rw [hg]; rfl
 have hown := h.own _ hmem g hblk
 refine ⟨_, hg, ⟨hown.1, fun hlt => ?_, fun r hr' e' => ?_⟩, fun j u hu => hr.cells (g := g) (by rw [hg]; rfl) j u hu⟩
 ·
  have hlt' : g < w0.heap.size := hlt
  rcases hown.2 with q | q
  · omega
  · exact absurd q (hM g)
 ·
  have hap := h.apart
  rw [List.pairwise_append] at hap
  exact hap.2.2 r hr' _ (List.mem_map_of_mem hs) g e' hblk
theorem cut_row {α : Type} {f : α → List Value} {size k q cap : Nat} {A : Option Addr} {L : List α} {I : Nat → Prop} (h : (dRow size A L.length cap (L.flatMap f)).φ w I) (hf : ∀ x, (f x).length = size) (hkq : k + q ≤ L.length) :
  (dRow size (if cap = k then A else A.map (·.add (k * size))) ((L.drop k).take q).length (cap - k) (((L.drop k).take q).flatMap f)).φ w I := by
 have hq : ((L.drop k).take q).length = q := by rw [List.length_take, List.length_drop]; omega
 rw [hq, ← enc_take hf, ← enc_drop hf]
 have hc : L.length ≤ cap := h.1
 exact ⟨by omega, (h.2.from_ (k := k) (by omega) hc).take (k := q) (by omega)⟩
end
end
section
/- A row turned round in place. -/
structure RevTo (t R : List Sl) (k : Nat) : Prop where
 len : R.length = t.length
 at_ : ∀ i, i < t.length → nthS R i = if i < k ∨ t.length - k ≤ i then nthS t (t.length - 1 - i) else nthS t i
theorem nthS_set {R : List Sl} {i j : Nat} {u : Sl} (hi : i < R.length) : nthS (R.set i u) j = if i = j then u else nthS R j := by
 unfold nthS
 rw [List.getD_eq_getElem?_getD, List.getElem?_set, List.getD_eq_getElem?_getD]
 split
 · simp [*]
 · rfl
theorem RevTo.zero (t : List Sl) : RevTo t t 0 := ⟨rfl, fun i hi => by rw [if_neg (by omega)]⟩
theorem RevTo.step {t R : List Sl} {k j : Nat} {u v : Sl} (h : RevTo t R k) (hk : 2 * k + 1 < t.length) (hj : j = t.length - 1 - k) (hu : u = nthS R j) (hv : v = nthS R k) : RevTo t ((R.set k u).set j v) (k + 1) := by
 subst hj
 obtain ⟨h1, h2⟩ := h
 refine ⟨by simp [h1], fun i hi => ?_⟩
 rw [nthS_set (by rw [List.length_set]; omega), nthS_set (by omega), hu, hv, h2 _ (by omega), h2 _ (by omega), h2 i hi]
 by_cases e1 : t.length - 1 - k = i
 ·
  subst e1
  rw [if_pos rfl, if_neg (by omega), if_pos (by omega)]
  congr 1
  omega
 ·
  rw [if_neg e1]
  by_cases e2 : k = i
  ·
   subst e2
   rw [if_pos rfl, if_neg (by omega), if_pos (by omega)]
  ·
   rw [if_neg e2]
   by_cases e3 : i < k ∨ t.length - k ≤ i
   · rw [if_pos e3, if_pos (by omega)]
   · rw [if_neg e3, if_neg (by omega)]
theorem RevTo.done {t R : List Sl} {k : Nat} (h : RevTo t R k) (hk : t.length ≤ 2 * k + 1) : R = t.reverse := by
 obtain ⟨h1, h2⟩ := h
 apply List.ext_getElem
 · simp [h1]
 ·
  intro i hi hi'
  have h3 := h2 i (by omega)
  have h4 : nthS R i = R[i] := by simp [nthS, hi]
  have h5 : nthS t (t.length - 1 - i) = t[t.length - 1 - i] := by
   have : t.length - 1 - i < t.length := by omega
   simp [nthS, this]
  rw [List.getElem_reverse, ← h4, h3, ← h5]
  split
  · rfl
  ·
   congr 1
   omega
theorem all_rev {w : World} {I : Nat → Prop} {t : List Sl} (h : (dAll t).φ w I) : (dAll t.reverse).φ w I := fun s hs => h s (List.mem_reverse.1 hs)
end
section
/- What is erased, stripped, and the proofs: trees. -/
mutual
def prT (o : Nat) : T → List (Int × Int)
 | .mk n l => if n.K = 28 then [((o : Int), ((o + (T.flats l).length : Nat) : Int))] else prTs o l
def prTs (o : Nat) : List T → List (Int × Int)
 | [] => []
 | t :: l => prTs (o + t.flat.length) l ++ prT o t
end
mutual
def erT : T → T
 | .mk n l => if n.K = 28 then .mk tick [] else .mk n (erTs l)
def erTs : List T → List T
 | [] => []
 | t :: l => erT t :: erTs l
end
mutual
def prfT : T → List (List Nd)
 | .mk n l => if n.K = 28 then [T.flats l ++ [n]] else prfTs l
def prfTs : List T → List (List Nd)
 | [] => []
 | t :: l => prfT t ++ prfTs l
end
mutual
def stT : T → T
 | .mk n l => if n.K = 28 then stH l else .mk n (stTs l)
def stH : List T → T
 | [] => .mk tick []
 | t :: _ => stT t
def stTs : List T → List T
 | [] => []
 | t :: l => stT t :: stTs l
end
theorem many_28 {n : Nd} (h : n.K = 28) : many n = 1 := by simp [many, binds, h, shp]
theorem wf_cons {t : T} {l : List T} (h : T.wfs (t :: l) = true) : t.wf = true ∧ T.wfs l = true := by simpa [T.wfs] using h
theorem wf_parts {n : Nd} {l : List T} (h : (T.mk n l).wf = true) : right n = true ∧ many n = l.length ∧ T.wfs l = true := by
 rw [T.wf_mk] at h
 simp only [Bool.and_eq_true, beq_iff_eq] at h
 exact ⟨h.1.1, h.1.2, h.2⟩
theorem nth_met {t u v : List Nd} {n : Nd} (h : t = u ++ [n] ++ v) : nth t (t.length - (v.length + 1)) = n ∧ t.length - (v.length + 1) = u.length := by
 subst h
 have : (u ++ [n] ++ v).length - (v.length + 1) = u.length := by simp
 rw [this]
 exact ⟨by simp [nth], rfl⟩
theorem prS_snoc (t : List Nd) (k : Nat) : prS t (k + 1) = prStep t k (prS t k) := rfl
mutual
theorem prS_inT (t : List Nd) (L : List (Int × Int)) (r : Int) (hr : 0 ≤ r) : ∀ (x : T) (u v : List Nd) (n : Int), x.wf = true → t = u ++ x.flat ++ v → prS t v.length = (L, r, n) → 1 ≤ n →
  prS t (v.length + x.flat.length) = if 1 < n then (L, r, n - 1) else (L ++ [((u.length : Int), r)], -1, 0)
 | .mk m l, u, v, n, hw, ht, hs, hn => by
  obtain ⟨h1, h2, h3⟩ := wf_parts hw
  have ht' : t = (u ++ T.flats l) ++ [m] ++ v := by rw [ht, T.flat_mk]; simp
  obtain ⟨hm, hp⟩ := nth_met ht'
  have hst : prS t (v.length + 1) = prStep t v.length (L, r, n) := by rw [prS_snoc, hs]
  have hb : ((bindsR m).length : Int) = l.length := by rw [bindsR_eq h1, ← h2]; rfl
  unfold prStep at hst
  simp only [show ¬ r < 0 by omega, false_and, if_false, hm, hb] at hst
  rw [T.flat_mk, List.length_append, List.length_singleton, show v.length + ((T.flats l).length + 1) = ([m] ++ v).length + (T.flats l).length by simp; omega]
  cases l with
  | nil =>
   rw [hp] at hst
   simp only [T.flats_nil, List.length_nil, Nat.add_zero, List.length_append, List.length_singleton] at hst ⊢
   rw [show 1 + v.length = v.length + 1 by omega, hst]
   by_cases h : 1 < n
   ·
    rw [if_pos (by omega), if_pos h]
    simp
   ·
    rw [if_neg (by omega), if_neg h]
    simp
    omega
  | cons y l =>
   simp only [List.length_cons] at hst
   rw [if_pos (by omega)] at hst
   have hv : ([m] ++ v).length = v.length + 1 := by simp
   have := prS_inTs t L r hr (y :: l) u ([m] ++ v) (n + ((y :: l).length : Int) - 1) h3 (by rw [ht']; simp) (by rw [hv, hst]; simp) (by simp; omega) (by simp)
   rw [this]
   by_cases h : 1 < n
   ·
    rw [if_pos (by simp; omega), if_pos h]
    congr 2
    simp
    omega
   · rw [if_neg (by simp; omega), if_neg h]
theorem prS_inTs (t : List Nd) (L : List (Int × Int)) (r : Int) (hr : 0 ≤ r) : ∀ (l : List T) (u v : List Nd) (n : Int), T.wfs l = true → t = u ++ T.flats l ++ v → prS t v.length = (L, r, n) → (l.length : Int) ≤ n → l ≠ [] →
  prS t (v.length + (T.flats l).length) = if (l.length : Int) < n then (L, r, n - l.length) else (L ++ [((u.length : Int), r)], -1, 0)
 | [], _, _, _, _, _, _, _, h => absurd rfl h
 | [y], u, v, n, hw, ht, hs, hn, _ => by
  have := prS_inT t L r hr y u v n (wf_cons hw).1 (by rw [ht, T.flats_one]) hs (by simpa using hn)
  rw [T.flats_one]
  simpa using this
 | y :: z :: l, u, v, n, hw, ht, hs, hn, _ => by
  obtain ⟨h1, h2⟩ := wf_cons hw
  have ih := prS_inTs t L r hr (z :: l) (u ++ y.flat) v n h2 (by rw [ht, T.flats_cons]; simp) hs (by simp at hn ⊢; omega) (by simp)
  rw [if_pos (by simp at hn ⊢; omega)] at ih
  have := prS_inT t L r hr y u (T.flats (z :: l) ++ v) (n - ((z :: l).length : Int)) h1 (by rw [ht, T.flats_cons]; simp) (by rw [List.length_append, Nat.add_comm, ih]) (by simp at hn ⊢; omega)
  rw [T.flats_cons, List.length_append, show v.length + (y.flat.length + (T.flats (z :: l)).length) = (T.flats (z :: l) ++ v).length + y.flat.length by simp; omega, this]
  simp only [List.length_cons] at hn ⊢
  by_cases h : ((l.length + 1 + 1 : Nat) : Int) < n
  ·
   rw [if_pos h, if_pos (by omega)]
   congr 2
   omega
  · rw [if_neg h, if_neg (by omega)]
end
mutual
theorem prS_T (t : List Nd) : ∀ (x : T) (u v : List Nd), x.wf = true → t = u ++ x.flat ++ v → (prS t v.length).2.1 < 0 →
  (prS t (v.length + x.flat.length)).1 = (prS t v.length).1 ++ prT u.length x ∧ (prS t (v.length + x.flat.length)).2.1 < 0
 | .mk m l, u, v, hw, ht, hs => by
  obtain ⟨h1, h2, h3⟩ := wf_parts hw
  have ht' : t = (u ++ T.flats l) ++ [m] ++ v := by rw [ht, T.flat_mk]; simp
  obtain ⟨hm, hp⟩ := nth_met ht'
  have hb : ((bindsR m).length : Int) = l.length := by rw [bindsR_eq h1, ← h2]; rfl
  have hv : ([m] ++ v).length = v.length + 1 := by simp
  rw [T.flat_mk, List.length_append, List.length_singleton, show v.length + ((T.flats l).length + 1) = ([m] ++ v).length + (T.flats l).length by rw [hv]; omega]
  by_cases hk : m.K = 28
  ·
   have hl := h2
   rw [many_28 hk] at hl
   match l, hl with
   | [y], _ =>
    have hst : prS t (v.length + 1) = ((prS t v.length).1, ((u.length + (T.flats [y]).length : Nat) : Int), 1) := by
     rw [prS_snoc]
     unfold prStep
     rw [hm]
     simp only [hs, true_and, if_true, hk, hb, hp]
     simp
    have := prS_inTs t (prS t v.length).1 ((u.length + (T.flats [y]).length : Nat) : Int) (by omega) [y] u ([m] ++ v) 1 h3 (by rw [ht']; simp) (by rw [hv]; exact hst) (by simp) (by simp)
    rw [this]
    simp [prT, hk]
  ·
   have hst : prS t (v.length + 1) = prS t v.length := by
    rw [prS_snoc]
    unfold prStep
    rw [hm, if_pos ⟨hs, hk⟩]
   have := prS_Ts t l u ([m] ++ v) h3 (by rw [ht']; simp) (by rw [hv, hst]; exact hs)
   rw [hv, hst] at this
   rw [hv]
   simpa [prT, hk] using this
theorem prS_Ts (t : List Nd) : ∀ (l : List T) (u v : List Nd), T.wfs l = true → t = u ++ T.flats l ++ v → (prS t v.length).2.1 < 0 →
  (prS t (v.length + (T.flats l).length)).1 = (prS t v.length).1 ++ prTs u.length l ∧ (prS t (v.length + (T.flats l).length)).2.1 < 0
 | [], u, v, _, _, hs => by simp [T.flats_nil, prTs, hs]
 | y :: l, u, v, hw, ht, hs => by
  obtain ⟨h1, h2⟩ := wf_cons hw
  have ih := prS_Ts t l (u ++ y.flat) v h2 (by rw [ht, T.flats_cons]; simp) hs
  have := prS_T t y u (T.flats l ++ v) h1 (by rw [ht, T.flats_cons]; simp) (by rw [List.length_append, Nat.add_comm]; exact ih.2)
  rw [T.flats_cons, List.length_append, show v.length + (y.flat.length + (T.flats l).length) = (T.flats l ++ v).length + y.flat.length by simp; omega]
  refine ⟨?_, this.2⟩
  rw [this.1, List.length_append, Nat.add_comm (T.flats l).length, ih.1]
  simp [prTs]
end
theorem prfL_tree {x : T} (h : x.wf = true) : prfL x.flat = prT 0 x := by
 have := (prS_T x.flat x [] [] h (by simp) (by simp [prS])).1
 simpa [prfL, prS] using this
mutual
theorem repP_T : ∀ (x : T) (u v : List Nd), (prT u.length x).foldl repF (u ++ x.flat ++ v) = u ++ (erT x).flat ++ v
 | .mk m l, u, v => by
  by_cases hk : m.K = 28
  ·
   simp only [prT, erT, hk, if_true, List.foldl_cons, List.foldl_nil, repF, T.flat_mk, Int.toNat_natCast, T.flats_nil, List.nil_append]
   have e1 : u.length + (T.flats l).length + 1 = (u ++ (T.flats l ++ [m])).length := by simp; omega
   rw [e1, List.drop_left' rfl, List.append_assoc u, List.take_left' rfl]
  ·
   simp only [prT, erT, hk, if_false, T.flat_mk]
   have := repP_Ts l u ([m] ++ v)
   simpa using this
theorem repP_Ts : ∀ (l : List T) (u v : List Nd), (prTs u.length l).foldl repF (u ++ T.flats l ++ v) = u ++ T.flats (erTs l) ++ v
 | [], u, v => by simp [prTs, erTs, T.flats_nil]
 | y :: l, u, v => by
  simp only [prTs, erTs, T.flats_cons, List.foldl_append]
  have h1 := repP_Ts l (u ++ y.flat) v
  have h2 := repP_T y u (T.flats (erTs l) ++ v)
  rw [List.length_append] at h1
  rw [show u ++ (y.flat ++ T.flats l) ++ v = u ++ y.flat ++ T.flats l ++ v by simp, h1, show u ++ y.flat ++ T.flats (erTs l) ++ v = u ++ y.flat ++ (T.flats (erTs l) ++ v) by simp, h2]
  simp
end
theorem erase_tree {x : T} (h : x.wf = true) : repP x.flat (prfL x.flat) = (erT x).flat := by
 rw [prfL_tree h]
 have := repP_T x [] []
 simpa [repP] using this
mutual
theorem erT_ok : ∀ x : T, x.wf = true → (erT x).wf = true ∧ (erT x).deep ≤ x.deep ∧ (erT x).flat.length ≤ x.flat.length
 | .mk m l, hw => by
  obtain ⟨h1, h2, h3⟩ := wf_parts hw
  by_cases hk : m.K = 28
  ·
   simp only [erT, hk, if_true, T.wf_mk, T.wfs, T.deep, T.deeps, T.flat_mk, T.flats_nil, List.length_append, List.length_nil, List.length_singleton, Bool.and_true]
   refine ⟨by decide, by omega, by omega⟩
  ·
   obtain ⟨i1, i2, i3, i4⟩ := erTs_ok l h3
   simp only [erT, hk, if_false, T.wf_mk, T.deep, T.flat_mk, List.length_append, List.length_singleton, Bool.and_eq_true, beq_iff_eq]
   exact ⟨⟨⟨h1, by omega⟩, i1⟩, by omega, by omega⟩
theorem erTs_ok : ∀ l : List T, T.wfs l = true → T.wfs (erTs l) = true ∧ T.deeps (erTs l) ≤ T.deeps l ∧ (T.flats (erTs l)).length ≤ (T.flats l).length ∧ (erTs l).length = l.length
 | [], _ => by simp [erTs, T.wfs]
 | y :: l, hw => by
  obtain ⟨h1, h2⟩ := wf_cons hw
  obtain ⟨a1, a2, a3⟩ := erT_ok y h1
  obtain ⟨b1, b2, b3, b4⟩ := erTs_ok l h2
  simp only [erTs, T.wfs, T.deeps, T.flats_cons, List.length_append, List.length_cons, a1, b1, Bool.and_self, true_and]
  refine ⟨by omega, by omega, by omega⟩
end
mutual
theorem stT_ok : ∀ x : T, x.wf = true → (stT x).wf = true ∧ (stT x).deep ≤ x.deep ∧ (stT x).flat = x.flat.filter nPrf
 | .mk m l, hw => by
  obtain ⟨h1, h2, h3⟩ := wf_parts hw
  by_cases hk : m.K = 28
  ·
   have hl := h2
   rw [many_28 hk] at hl
   match l, hl with
   | [y], _ =>
    obtain ⟨a1, a2, a3⟩ := stT_ok y (wf_cons h3).1
    simp only [stT, stH, hk, if_true, T.deep, T.deeps, T.flat_mk, T.flats_one, List.filter_append]
    refine ⟨a1, by omega, ?_⟩
    rw [a3]
    simp [nPrf, isPrf, hk]
  ·
   obtain ⟨i1, i2, i3, i4⟩ := stTs_ok l h3
   simp only [stT, hk, if_false, T.wf_mk, T.deep, T.flat_mk, Bool.and_eq_true, beq_iff_eq, List.filter_append]
   refine ⟨⟨⟨h1, by omega⟩, i1⟩, by omega, ?_⟩
   rw [i3]
   simp [nPrf, isPrf, hk]
theorem stTs_ok : ∀ l : List T, T.wfs l = true → T.wfs (stTs l) = true ∧ T.deeps (stTs l) ≤ T.deeps l ∧ T.flats (stTs l) = (T.flats l).filter nPrf ∧ (stTs l).length = l.length
 | [], _ => by simp [stTs, T.wfs, T.flats_nil]
 | y :: l, hw => by
  obtain ⟨h1, h2⟩ := wf_cons hw
  obtain ⟨a1, a2, a3⟩ := stT_ok y h1
  obtain ⟨b1, b2, b3, b4⟩ := stTs_ok l h2
  simp only [stTs, T.wfs, T.deeps, T.flats_cons, List.length_cons, a1, b1, Bool.and_self, true_and, List.filter_append, a3, b3, b4, and_true]
  omega
end
mutual
theorem erT_no : ∀ x : T, ∀ n ∈ (erT x).flat, n.K ≠ 28
 | .mk m l => by
  by_cases hk : m.K = 28
  · simp [erT, hk, T.flat_mk, T.flats_nil]
  ·
   simp only [erT, hk, if_false, T.flat_mk, List.mem_append, List.mem_singleton]
   rintro n (h | rfl)
   · exact erTs_no l n h
   · exact hk
theorem erTs_no : ∀ l : List T, ∀ n ∈ T.flats (erTs l), n.K ≠ 28
 | [] => by simp [erTs, T.flats_nil]
 | y :: l => by
  simp only [erTs, T.flats_cons, List.mem_append]
  rintro n (h | h)
  · exact erT_no y n h
  · exact erTs_no l n h
end
mutual
theorem erT_in : ∀ x : T, ∀ n ∈ (erT x).flat, n = tick ∨ n ∈ x.flat
 | .mk m l => by
  by_cases hk : m.K = 28
  · simp [erT, hk, T.flat_mk, T.flats_nil]
  ·
   simp only [erT, hk, if_false, T.flat_mk, List.mem_append, List.mem_singleton]
   rintro n (h | rfl)
   ·
    rcases erTs_in l n h with h | h
    · exact .inl h
    · exact .inr (.inl h)
   · exact .inr (.inr rfl)
theorem erTs_in : ∀ l : List T, ∀ n ∈ T.flats (erTs l), n = tick ∨ n ∈ T.flats l
 | [] => by simp [erTs, T.flats_nil]
 | y :: l => by
  simp only [erTs, T.flats_cons, List.mem_append]
  rintro n (h | h)
  ·
   rcases erT_in y n h with h | h
   · exact .inl h
   · exact .inr (.inl h)
  ·
   rcases erTs_in l n h with h | h
   · exact .inl h
   · exact .inr (.inr h)
end
def lenM (l : List (List Nd)) : Nat := (l.map fun p => p.length - 1).sum
def ticks (t : List Nd) : Nat := t.countP fun n => decide (n.K = 29)
theorem ticks_append (a b : List Nd) : ticks (a ++ b) = ticks a + ticks b := by simp [ticks]
theorem lenM_append (a b : List (List Nd)) : lenM (a ++ b) = lenM a + lenM b := by simp [lenM]
mutual
theorem erT_len : ∀ x : T, (erT x).flat.length + lenM (prfT x) = x.flat.length ∧ (prfT x).length ≤ ticks (erT x).flat ∧ ∀ p ∈ prfT x, p ≠ [] ∧ (nth p (p.length - 1)).K = 28
 | .mk m l => by
  by_cases hk : m.K = 28
  ·
   simp [erT, prfT, hk, T.flat_mk, T.flats_nil, lenM, ticks, nth]
   omega
  ·
   obtain ⟨i1, i2, i3⟩ := erTs_len l
   simp only [erT, prfT, hk, if_false, T.flat_mk, List.length_append, List.length_singleton, ticks_append]
   exact ⟨by omega, by omega, i3⟩
theorem erTs_len : ∀ l : List T, (T.flats (erTs l)).length + lenM (prfTs l) = (T.flats l).length ∧ (prfTs l).length ≤ ticks (T.flats (erTs l)) ∧ ∀ p ∈ prfTs l, p ≠ [] ∧ (nth p (p.length - 1)).K = 28
 | [] => by simp [erTs, prfTs, T.flats_nil, lenM]
 | y :: l => by
  obtain ⟨a1, a2, a3⟩ := erT_len y
  obtain ⟨b1, b2, b3⟩ := erTs_len l
  simp only [erTs, prfTs, T.flats_cons, List.length_append, ticks_append, lenM_append]
  refine ⟨by omega, by omega, fun p hp => ?_⟩
  rcases List.mem_append.1 hp with h | h
  · exact a3 p h
  · exact b3 p h
end
end
section
/- Where terms begin, and the parts of one: plain lists. -/
def frL (t : List Nd) (e : Nat) : Nat := match scanT [] (t.take (e + 1)) with
 | some st => (T.flats st.dropLast).length
 | none => 0
def posL (t : List Nd) (e j : Nat) : Nat := match scanT [] (t.take e) with
 | some st => (T.flats (st.take (st.length - j))).length
 | none => 0
theorem scan_take {t : List Nd} {st : List T} (h : scanT [] t = some st) (k : Nat) : ∃ s, scanT [] (t.take k) = some s := by
 have h1 := h
 rw [← List.take_append_drop k t, scanT_append] at h1
 cases hs : scanT [] (t.take k) with
 | none => rw [hs] at h1; cases h1
 | some s => exact ⟨s, rfl⟩
theorem meas_scan {t : List Nd} (h : measB t = true) (k : Nat) : ∃ s, scanT [] (t.take k) = some s := by
 obtain ⟨x, hs, _⟩ := measB_tree h
 exact scan_take hs k
theorem treeOf_meas {t : List Nd} (h : measB t = true) : (treeOf t).wf = true ∧ (treeOf t).flat = t := by
 obtain ⟨x, _, _, hw, hf⟩ := measB_tree h
 rw [← hf, treeOf_flat hw]
 exact ⟨hw, rfl⟩
theorem meas_flat {x : T} (h : x.wf = true) : measB x.flat = true := by
 unfold measB
 rw [scanT_tree [] x h]
 rfl
theorem meas_chk {t : List Nd} (h : chk t = 0) : measB t = true := by
 obtain ⟨x, hw, rfl, _⟩ := chk_ok.1 h
 exact meas_flat hw
theorem meas_pos {t : List Nd} (h : measB t = true) : 0 < t.length := by
 obtain ⟨x, _, _, _, rfl⟩ := measB_tree h
 exact T.flat_pos x
theorem scan_prefix {st : List T} (hw : T.wfs st = true) (m : Nat) : scanT [] (T.flats (st.take m)) = some (st.take m) := by
 have h2 : T.wfs (st.take m) = true := (T.wfs_iff _).2 fun x hx => (T.wfs_iff _).1 hw x (List.mem_of_mem_take hx)
 simpa using scanT_trees [] _ h2
theorem flats_take_pre (st : List T) (m : Nat) : T.flats st = T.flats (st.take m) ++ T.flats (st.drop m) := by rw [← T.flats_append, List.take_append_drop]
theorem posL_zero {t : List Nd} {e : Nat} (h : measB t = true) (he : e ≤ t.length) : posL t e 0 = e := by
 obtain ⟨st, hs⟩ := meas_scan h e
 unfold posL
 rw [hs]
 simp only [Nat.sub_zero, List.take_length]
 rw [(scanT_flat hs (by simp [T.wfs])).1]
 simp [T.flats_nil, he]
theorem meas_at {t : List Nd} {e : Nat} {st : List T} (h : measB t = true) (he : e < t.length) (hs : scanT [] (t.take e) = some st) : right (nth t e) = true ∧ many (nth t e) ≤ st.length :=
 measB_at h hs he
theorem right_at {t : List Nd} {e : Nat} (h : measB t = true) (he : e < t.length) : right (nth t e) = true := by
 obtain ⟨st, hs⟩ := meas_scan h e
 exact (meas_at h he hs).1
theorem posL_step {t : List Nd} {e j : Nat} (h : measB t = true) (he : e < t.length) (hj : j < many (nth t e)) : 0 < posL t e j ∧ posL t e j ≤ e ∧ frL t (posL t e j - 1) = posL t e (j + 1) ∧ posL t e (j + 1) < posL t e j := by
 obtain ⟨st, hs⟩ := meas_scan h e
 obtain ⟨_, hm⟩ := meas_at h he hs
 obtain ⟨hf, hw⟩ := scanT_flat hs (by simp [T.wfs])
 simp only [T.flats_nil, List.nil_append] at hf
 have hp : ∀ i, posL t e i = (T.flats (st.take (st.length - i))).length := fun i => by unfold posL; rw [hs]
 have hle : ∀ i, (T.flats (st.take i)).length ≤ e := fun i => by
  have h1 := congrArg List.length (flats_take_pre st i)
  rw [hf, List.length_take, List.length_append] at h1
  omega
 have hsnoc : st.take (st.length - j) = st.take (st.length - (j + 1)) ++ [st[st.length - (j + 1)]'(by omega)] := by
  rw [show st.length - j = st.length - (j + 1) + 1 by omega, List.take_add_one, List.getElem?_eq_getElem (by omega)]
  rfl
 have hlen : posL t e j = posL t e (j + 1) + (st[st.length - (j + 1)]'(by omega)).flat.length := by
  rw [hp, hp, hsnoc, T.flats_append, T.flats_one, List.length_append]
 have hpos := T.flat_pos (st[st.length - (j + 1)]'(by omega))
 refine ⟨by omega, by rw [hp]; exact hle _, ?_, by omega⟩
 unfold frL
 have htk : t.take (posL t e j - 1 + 1) = T.flats (st.take (st.length - j)) := by
  rw [show posL t e j - 1 + 1 = posL t e j by omega, hp]
  have h2 := flats_take_pre st (st.length - j)
  rw [hf] at h2
  have h3 := congrArg (List.take (T.flats (st.take (st.length - j))).length) h2
  rw [List.take_take, List.take_left' rfl, Nat.min_eq_left (hle _)] at h3
  exact h3
 rw [htk, scan_prefix hw, hsnoc]
 simp only [List.dropLast_concat]
 rw [hp]
theorem posL_end {t : List Nd} {e : Nat} (h : measB t = true) (he : e < t.length) : posL t e (many (nth t e)) = frL t e := by
 obtain ⟨st, hs⟩ := meas_scan h e
 obtain ⟨hr, hm⟩ := meas_at h he hs
 have h1 := scan_step hs he
 unfold posL frL
 rw [hs, h1]
 unfold pushT
 rw [if_pos (by simp [hr, hm])]
 simp
def ptL (t : List Nd) : List (List Nd) := (treeOf t).args.map T.flat
theorem tree_parts {t : List Nd} (h : measB t = true) : ∃ n l, treeOf t = .mk n l ∧ right n = true ∧ many n = l.length ∧ T.wfs l = true ∧ t = T.flats l ++ [n] ∧ nth t (t.length - 1) = n ∧ (T.flats l).length = t.length - 1 ∧ scanT [] (t.take (t.length - 1)) = some l := by
 obtain ⟨hw, hf⟩ := treeOf_meas h
 rcases hx : treeOf t with ⟨n, l⟩
 rw [hx] at hw hf
 obtain ⟨h1, h2, h3⟩ := wf_parts hw
 rw [T.flat_mk] at hf
 have hl : (T.flats l).length = t.length - 1 := by rw [← hf]; simp
 refine ⟨n, l, rfl, h1, h2, h3, hf.symm, ?_, hl, ?_⟩
 ·
  rw [← hl, ← hf]
  simp [nth]
 ·
  rw [← hl, ← hf, List.take_left' rfl]
  simpa using scanT_trees [] l h3
theorem posL_root {t : List Nd} (h : measB t = true) (j : Nat) : posL t (t.length - 1) j = (T.flats ((treeOf t).args.take ((treeOf t).args.length - j))).length := by
 obtain ⟨n, l, hx, _, _, _, _, _, _, hs⟩ := tree_parts h
 unfold posL
 rw [hs, hx]
 rfl
theorem root_many {t : List Nd} (h : measB t = true) : many (nth t (t.length - 1)) = (treeOf t).args.length := by
 obtain ⟨n, l, hx, _, h2, _, _, h4, _, _⟩ := tree_parts h
 rw [h4, h2, hx]
 rfl
def ptD (t : List Nd) (j : Nat) : List (List Nd) := ((treeOf t).args.drop ((treeOf t).args.length - j)).map T.flat
theorem ptD_zero (t : List Nd) : ptD t 0 = [] := by simp [ptD]
theorem ptD_length {t : List Nd} {j : Nat} (h : measB t = true) (hj : j ≤ many (nth t (t.length - 1))) : (ptD t j).length = j := by
 rw [root_many h] at hj
 simp [ptD]
 omega
theorem ptD_all {t : List Nd} (h : measB t = true) : ptD t (many (nth t (t.length - 1))) = ptL t := by
 rw [root_many h]
 simp [ptD, ptL]
theorem ptD_step {t : List Nd} {j a b : Nat} (h : measB t = true) (hj : j < many (nth t (t.length - 1))) (ha : a = posL t (t.length - 1) (j + 1)) (hb : b = posL t (t.length - 1) j) : (t.drop a).take (b - a) :: ptD t j = ptD t (j + 1) := by
 have hm := root_many h
 obtain ⟨n, l, hx, _, h2, _, h4, _, _, _⟩ := tree_parts h
 rw [posL_root h] at ha hb
 rw [hm, hx] at hj
 unfold ptD
 rw [hx] at ha hb ⊢
 simp only [T.args] at ha hb hj ⊢
 have h1 : l.length - (j + 1) < l.length := by omega
 have hd : l.drop (l.length - (j + 1)) = l[l.length - (j + 1)] :: l.drop (l.length - j) := by
  rw [List.drop_eq_getElem_cons h1, show l.length - (j + 1) + 1 = l.length - j by omega]
 have hsnoc : l.take (l.length - j) = l.take (l.length - (j + 1)) ++ [l[l.length - (j + 1)]] := by
  rw [show l.length - j = l.length - (j + 1) + 1 by omega, List.take_add_one, List.getElem?_eq_getElem h1]
  rfl
 have hall : T.flats l = T.flats (l.take (l.length - (j + 1))) ++ (l[l.length - (j + 1)].flat ++ T.flats (l.drop (l.length - j))) := by
  rw [flats_take_pre l (l.length - (j + 1)), hd, T.flats_cons]
 rw [hd, List.map_cons]
 congr 1
 have hb' : b - a = l[l.length - (j + 1)].flat.length := by
  rw [ha, hb, hsnoc, T.flats_append, T.flats_one, List.length_append]
  omega
 rw [hb', ha, h4, hall, List.append_assoc, List.drop_left' rfl, List.append_assoc, List.take_left' rfl]
theorem ptL_mem {t p : List Nd} (h : measB t = true) (hp : p ∈ ptL t) : measB p = true ∧ p.length < t.length ∧ (∀ n ∈ p, n ∈ t) := by
 obtain ⟨n, l, hx, _, h2, h3, h4, _, h6, _⟩ := tree_parts h
 unfold ptL at hp
 rw [hx] at hp
 obtain ⟨y, hy, rfl⟩ := List.mem_map.1 hp
 simp only [T.args] at hy
 have hw := (T.wfs_iff l).1 h3 y hy
 obtain ⟨a, b, rfl⟩ := List.append_of_mem hy
 refine ⟨meas_flat hw, ?_, fun m hm => ?_⟩
 ·
  have := meas_pos h
  rw [T.flats_append, T.flats_cons] at h6
  simp only [List.length_append] at h6
  omega
 ·
  rw [h4, T.flats_append, T.flats_cons]
  simp [hm]
theorem ptL_length {t : List Nd} (h : measB t = true) : (ptL t).length = many (nth t (t.length - 1)) := by rw [root_many h]; simp [ptL]
theorem sml_sub {t p : List Nd} (h : sml t) (hp : ∀ n ∈ p, n ∈ t) : sml p := fun k hk => by
 have h1 := hp _ (nth_mem hk)
 obtain ⟨i, hi, he⟩ := List.getElem_of_mem h1
 have h2 := h i hi
 have : nth t i = t[i] := by simp [nth, hi]
 rw [this, he] at h2
 exact h2
end
section
/- The document's own words of terms: parts, what is made of them; plain lists. -/
section
variable {w0 w : World} {Z M : Nat → Prop} {m : List Res} {ds ds' : List Dat}
theorem St.sub (h : St w0 Z M w m ds) (hd : ∀ d ∈ ds', d ∈ ds) : St w0 Z M w m ds' := ⟨h.os, h.tape, h.output, h.size, h.old, h.hold, h.own, h.apart, fun d hx => h.dat d (hd d hx)⟩
end
def nthL (l : List (List Nd)) (k : Nat) : List Nd := l.getD k []
theorem lsts_app (a b : List Sl) : lsts (a ++ b) = lsts a ++ lsts b := by simp [lsts]
theorem lsts_one {A : Option Addr} {c : Nat} {L : List Nd} : lsts [((A, c, L) : Sl)] = [L] := rfl
theorem lsts_len (a : List Sl) : (lsts a).length = a.length := by simp [lsts]
theorem lsts_nth (a : List Sl) (k : Nat) : (nthS a k).2.2 = nthL (lsts a) k := by
 unfold nthS nthL lsts
 rw [List.getD_eq_getElem?_getD, List.getD_eq_getElem?_getD, List.getElem?_map]
 cases a[k]? <;> rfl
theorem nthL_mem {l : List (List Nd)} {k : Nat} (h : k < l.length) : nthL l k ∈ l := by
 have : nthL l k = l[k] := by simp [nthL, h]
 rw [this]
 exact List.getElem_mem h
theorem part_at {t : List Nd} {Ls : List Sl} {k : Nat} (h : measB t = true) (hs : sml t) (hL : lsts Ls = ptL t) (hk : k < Ls.length) :
  (nthS Ls k).2.2 = nthL (ptL t) k ∧ k < (ptL t).length ∧ measB (nthS Ls k).2.2 = true ∧ (nthS Ls k).2.2.length < t.length ∧ sml (nthS Ls k).2.2 ∧ 0 < (nthS Ls k).2.2.length := by
 have e := lsts_nth Ls k
 rw [hL] at e
 have hk' : k < (ptL t).length := by rw [← hL, lsts_len]; exact hk
 obtain ⟨h1, h2, h3⟩ := ptL_mem h (nthL_mem hk')
 rw [e]
 exact ⟨rfl, hk', h1, h2, sml_sub hs h3, meas_pos h1⟩
theorem parts_step {t : List Nd} {Ls : List Sl} {A : Option Addr} {c k a b : Nat} (hb : measB t = true) (hL : lsts Ls = ptD t k) (hk : k < many (nth t (t.length - 1))) (ha : a = posL t (t.length - 1) (k + 1)) (hbb : b = posL t (t.length - 1) k) :
  lsts ([((A, c, (t.drop a).take (b - a)) : Sl)] ++ Ls) = ptD t (k + 1) := by
 rw [lsts_app, lsts_one, hL, ← ptD_step hb hk ha hbb]
 rfl
theorem flats_flatten (l : List T) : (l.map T.flat).flatten = T.flats l := by
 induction l with
 | nil => simp [T.flats_nil]
 | cons t l ih => simp [T.flats_cons, ih]
def erL (t : List Nd) : List Nd := (erT (treeOf t)).flat
def prL (t : List Nd) : List (List Nd) := prfT (treeOf t)
theorem erL_len {t : List Nd} (h : measB t = true) : (erL t).length ≤ t.length := by
 obtain ⟨hw, hf⟩ := treeOf_meas h
 have := (erT_ok _ hw).2.2
 rw [hf] at this
 exact this
theorem era_eq {t : List Nd} (h : measB t = true) : repP t (prfL t) = erL t := by
 obtain ⟨hw, hf⟩ := treeOf_meas h
 have := erase_tree hw
 rw [hf] at this
 exact this
theorem ptL_le {t : List Nd} (h : measB t = true) : (ptL t).length ≤ 8 := by
 rw [ptL_length h]
 exact many_le (right_at h (by have := meas_pos h; omega))
end
section
/- What is erased, stripped, and the proofs, of terms: lists. -/
def erA (t : List Nd) : List Nd := if chk t = 0 then erL t else []
def stA (t : List Nd) : List Nd := if chk t = 0 then t.filter nPrf else []
def prA (t : List Nd) : List (List Nd) := if chk t = 0 then prL t else []
theorem erA_ok {t : List Nd} (h : chk t = 0) : erA t = erL t := if_pos h
theorem erA_no {t : List Nd} (h : ¬ chk t = 0) : erA t = [] := if_neg h
theorem stA_ok {t : List Nd} (h : chk t = 0) : stA t = t.filter nPrf := if_pos h
theorem prA_ok {t : List Nd} (h : chk t = 0) : prA t = prL t := if_pos h
theorem sml_mem {t : List Nd} : sml t ↔ ∀ n ∈ t, n.S.size < 1000000 := by
 constructor
 ·
  intro h n hn
  obtain ⟨i, hi, rfl⟩ := List.getElem_of_mem hn
  have := h i hi
  simpa [nth, hi] using this
 ·
  intro h k hk
  exact h _ (nth_mem hk)
theorem chk_flat {x : T} (hw : x.wf = true) (hd : x.deep ≤ 60) (hl : x.flat.length ≤ 4000) : chk x.flat = 0 := chk_ok.2 ⟨x, hw, rfl, hl, hd⟩
theorem lenM_mem {l : List (List Nd)} {p : List Nd} (h : p ∈ l) : p.length - 1 ≤ lenM l := by
 induction l with
 | nil => cases h
 | cons q l ih =>
  simp only [lenM, List.map_cons, List.sum_cons]
  rcases List.mem_cons.1 h with rfl | h
  · omega
  ·
   have := ih h
   simp only [lenM] at this
   omega
theorem erL_facts {t : List Nd} (hc : chk t = 0) (hs : sml t) : sml (erL t) ∧ chk (erL t) = 0 ∧ (erL t).length ≤ t.length ∧ erL (erL t) = erL t ∧ (∀ k, k < (erL t).length → (nth (erL t) k).K ≠ 28) := by
 obtain ⟨hw, hf, hd, hl⟩ := treeOf_ok hc
 obtain ⟨h1, h2, h3⟩ := erT_ok _ hw
 rw [hf] at h3
 have hno := erT_no (treeOf t)
 have hfix : ∀ x : T, (∀ n ∈ x.flat, n.K ≠ 28) → erT x = x := by
  have both : (∀ x : T, (∀ n ∈ x.flat, n.K ≠ 28) → erT x = x) := by
   intro x
   refine T.rec (motive_1 := fun x => (∀ n ∈ x.flat, n.K ≠ 28) → erT x = x) (motive_2 := fun l => (∀ n ∈ T.flats l, n.K ≠ 28) → erTs l = l) ?_ ?_ ?_ x
   ·
    intro n l ih h
    have hk : n.K ≠ 28 := h n (by simp [T.flat_mk])
    simp only [erT, hk, if_false]
    rw [ih (fun m hm => h m (by simp [T.flat_mk, hm]))]
   · intro _; rfl
   ·
    intro y l ih1 ih2 h
    simp only [erTs]
    rw [ih1 (fun m hm => h m (by simp [T.flats_cons, hm])), ih2 (fun m hm => h m (by simp [T.flats_cons, hm]))]
  exact both
 refine ⟨sml_mem.2 fun n hn => ?_, chk_flat h1 (by omega) (by show (erT (treeOf t)).flat.length ≤ 4000; omega), h3, ?_, fun k hk => hno _ (nth_mem hk)⟩
 ·
  rcases erT_in _ n hn with rfl | h
  · decide
  ·
   rw [hf] at h
   exact sml_mem.1 hs n h
 ·
  show (erT (treeOf (erT (treeOf t)).flat)).flat = (erT (treeOf t)).flat
  rw [treeOf_flat h1, hfix _ hno]
theorem twice_facts {t : List Nd} (hc : chk t = 0) (hs : sml t) :
  (sml (erA t) ∧ chk (erA t) = 0 ∧ (erA t).length ≤ t.length ∧ erA (erA t) = erA t ∧ (∀ k, k < (erA t).length → (nth (erA t) k).K ≠ 28)) ∧
  (sml (stA t) ∧ chk (stA t) = 0 ∧ (stA t).length ≤ t.length) ∧
  ((prA t).length ≤ ticks (erA t) ∧ (erA t).length + lenM (prA t) = t.length ∧ ∀ p ∈ prA t, 0 < p.length ∧ p.length ≤ t.length ∧ (nth p (p.length - 1)).K = 28) := by
 obtain ⟨hw, hf, hd, hl⟩ := treeOf_ok hc
 obtain ⟨h1, h2, h3, h4, h5⟩ := erL_facts hc hs
 obtain ⟨s1, s2, s3⟩ := stT_ok _ hw
 rw [hf] at s3
 obtain ⟨p1, p2, p3⟩ := erT_len (treeOf t)
 rw [hf] at p1
 rw [erA_ok hc, stA_ok hc, prA_ok hc, erA_ok h2]
 refine ⟨⟨h1, h2, h3, h4, h5⟩, ⟨?_, ?_, List.length_filter_le _ _⟩, p2, p1, fun p hp => ?_⟩
 · exact sml_mem.2 fun n hn => sml_mem.1 hs n ((List.mem_filter.1 hn).1)
 ·
  rw [← s3]
  refine chk_flat s1 (by omega) ?_
  rw [s3]
  have := List.length_filter_le nPrf t
  omega
 ·
  obtain ⟨q1, q2⟩ := p3 p hp
  have q3 : p.length - 1 ≤ lenM (prfT (treeOf t)) := lenM_mem hp
  have q4 : 0 < p.length := List.length_pos_iff.2 q1
  have q5 : 0 < (erT (treeOf t)).flat.length := T.flat_pos _
  have : p.length ≤ t.length := by omega
  exact ⟨q4, this, q2⟩
theorem erA_le (t : List Nd) : (erA t).length ≤ t.length := by
 by_cases h : chk t = 0
 · rw [erA_ok h]; exact erL_len (meas_chk h)
 · rw [erA_no h]; simp
end
section
/- Parts of terms that are checked, and their places in what is made of all parts; terms that differ in their proofs. -/
theorem ptL_chk {t p : List Nd} (h : chk t = 0) (hp : p ∈ ptL t) : chk p = 0 := by
 obtain ⟨hw, hf, hd, hl⟩ := treeOf_ok h
 obtain ⟨n, l, hx, _, _, h3, _, _, _, _⟩ := tree_parts (meas_chk h)
 have h4 := (ptL_mem (meas_chk h) hp).2.1
 unfold ptL at hp
 rw [hx] at hp hd
 obtain ⟨y, hy, rfl⟩ := List.mem_map.1 hp
 simp only [T.args] at hy
 have h5 := deeps_le hy
 rw [deep_mk] at hd
 exact chk_flat ((T.wfs_iff l).1 h3 y hy) (by omega) (by omega)
def marks (t : List Nd) : Nat := t.countP fun n => decide (n.K = 28)
mutual
def usT (k u : Int) : T → Nat
 | .mk n l => if n.K = 0 then (if 0 ≤ n.N - u ∧ (k < 0 ∨ n.N - u = k) then 1 else 0) else usTs k l ((binds n).map (u + ·))
def usTs (k : Int) : List T → List Int → Nat
 | [], _ => 0
 | _ :: _, [] => 0
 | t :: l, u :: us => usT k u t + usTs k l us
end
mutual
def moT (k u : Int) : T → Int
 | .mk n l => if n.K = 0 then (if 0 ≤ n.N - u ∧ (k < 0 ∨ n.N - u = k) then n.N - u else -1) else moTs k l ((binds n).map (u + ·))
def moTs (k : Int) : List T → List Int → Int
 | [], _ => -1
 | _ :: _, [] => -1
 | t :: l, u :: us => max (moT k u t) (moTs k l us)
end
def usL (t : List Nd) (k u : Int) : Nat := usT k u (treeOf t)
def moL (t : List Nd) (k u : Int) : Int := moT k u (treeOf t)
def usP (t : List Nd) (k u : Int) (j : Nat) : Nat := usTs k ((treeOf t).args.take j) ((binds (nth t (t.length - 1))).map (u + ·))
def moP (t : List Nd) (k u : Int) (j : Nat) : Int := moTs k ((treeOf t).args.take j) ((binds (nth t (t.length - 1))).map (u + ·))
theorem usTs_snoc (k : Int) : ∀ (l : List T) (t : T) (us : List Int) (u : Int), l.length = us.length → ∀ vs, usTs k (l ++ [t]) (us ++ u :: vs) = usTs k l (us ++ u :: vs) + usT k u t
 | [], t, [], u, _, vs => by simp [usTs]
 | y :: l, t, v :: us, u, h, vs => by
  simp only [List.cons_append, usTs]
  rw [usTs_snoc k l t us u (by simpa using h) vs]
  omega
 | [], _, _ :: _, _, h, _ => by simp at h
 | _ :: _, _, [], _, h, _ => by simp at h
theorem moTs_snoc (k : Int) : ∀ (l : List T) (t : T) (us : List Int) (u : Int), l.length = us.length → ∀ vs, moTs k (l ++ [t]) (us ++ u :: vs) = max (moTs k l (us ++ u :: vs)) (max (moT k u t) (-1))
 | [], t, [], u, _, vs => by simp [moTs]; omega
 | y :: l, t, v :: us, u, h, vs => by
  simp only [List.cons_append, moTs]
  rw [moTs_snoc k l t us u (by simpa using h) vs]
  omega
 | [], _, _ :: _, _, h, _ => by simp at h
 | _ :: _, _, [], _, h, _ => by simp at h
mutual
theorem moT_ge (k : Int) : ∀ (x : T) (u : Int), -1 ≤ moT k u x
 | .mk n l, u => by
  simp only [moT]
  split
  · split <;> omega
  · exact moTs_ge k l _
theorem moTs_ge (k : Int) : ∀ (l : List T) (us : List Int), -1 ≤ moTs k l us
 | [], us => by simp [moTs]
 | y :: l, [] => by simp [moTs]
 | y :: l, u :: us => by
  simp only [moTs]
  have := moTs_ge k l us
  omega
end
theorem split_at {α : Type} {l : List α} {j : Nat} (h : j < l.length) : l = l.take j ++ l[j] :: l.drop (j + 1) := by
 rw [← List.drop_eq_getElem_cons h, List.take_append_drop]
theorem ptL_nth {t : List Nd} {j : Nat} (h : measB t = true) (hj : j < (ptL t).length) : ∃ hj' : j < (treeOf t).args.length, nthL (ptL t) j = ((treeOf t).args[j]).flat ∧ treeOf (nthL (ptL t) j) = (treeOf t).args[j] := by
 obtain ⟨n, l, hx, _, _, h3, _, _, _, _⟩ := tree_parts h
 have hj' : j < (treeOf t).args.length := by simpa [ptL] using hj
 have e : nthL (ptL t) j = ((treeOf t).args[j]).flat := by simp [nthL, ptL, hj']
 refine ⟨hj', e, ?_⟩
 rw [e, treeOf_flat]
 have : (treeOf t).args = l := by rw [hx]; rfl
 exact (T.wfs_iff l).1 h3 _ (by rw [← this]; exact List.getElem_mem hj')
theorem binds_at {t : List Nd} {j : Nat} (h : measB t = true) (hj : j < (ptL t).length) (u : Int) : ((binds (nth t (t.length - 1))).map (u + ·)) = ((binds (nth t (t.length - 1))).map (u + ·)).take j ++ (u + nthI (binds (nth t (t.length - 1))) j) :: ((binds (nth t (t.length - 1))).map (u + ·)).drop (j + 1) := by
 have hl : j < (binds (nth t (t.length - 1))).length := by rw [ptL_length h] at hj; exact hj
 have := split_at (l := (binds (nth t (t.length - 1))).map (u + ·)) (j := j) (by simpa using hl)
 rw [List.getElem_map] at this
 have e : nthI (binds (nth t (t.length - 1))) j = (binds (nth t (t.length - 1)))[j] := by simp [nthI, hl]
 rw [e]
 exact this
theorem us_step {t : List Nd} {k u : Int} {j : Nat} (h : measB t = true) (hj : j < (ptL t).length) :
  usP t k u (j + 1) = usP t k u j + usL (nthL (ptL t) j) k (u + nthI (binds (nth t (t.length - 1))) j) ∧
  moP t k u (j + 1) = max (moP t k u j) (moL (nthL (ptL t) j) k (u + nthI (binds (nth t (t.length - 1))) j)) := by
 obtain ⟨hj', e1, e2⟩ := ptL_nth h hj
 have hb := binds_at h hj u
 have hl : j < (binds (nth t (t.length - 1))).length := by rw [ptL_length h] at hj; exact hj
 have ht : (treeOf t).args.take (j + 1) = (treeOf t).args.take j ++ [(treeOf t).args[j]] := by
  rw [List.take_add_one, List.getElem?_eq_getElem hj']; rfl
 have hlen : ((treeOf t).args.take j).length = (((binds (nth t (t.length - 1))).map (u + ·)).take j).length := by
  rw [List.length_take, List.length_take, List.length_map]
  have := root_many h
  have : (binds (nth t (t.length - 1))).length = (treeOf t).args.length := this
  omega
 unfold usP moP usL moL
 rw [ht, e2]
 constructor
 · rw [hb, usTs_snoc k _ _ _ _ hlen]
 ·
  rw [hb, moTs_snoc k _ _ _ _ hlen]
  have := moT_ge k ((treeOf t).args[j]) (u + nthI (binds (nth t (t.length - 1))) j)
  omega
theorem us_root {t : List Nd} {k u : Int} (h : measB t = true) (hk : ¬ (nth t (t.length - 1)).K = 0) : usL t k u = usP t k u (ptL t).length ∧ moL t k u = moP t k u (ptL t).length := by
 obtain ⟨n, l, hx, _, _, _, _, h5, _, _⟩ := tree_parts h
 rw [h5] at hk
 unfold usL moL usP moP ptL
 rw [hx, h5]
 simp only [T.args, List.length_map, List.take_length, usT, moT, hk, if_false, and_self]
theorem us_var {t : List Nd} {k u : Int} (h : measB t = true) (hk : (nth t (t.length - 1)).K = 0) :
  usL t k u = (if 0 ≤ (nth t (t.length - 1)).N - u ∧ (k < 0 ∨ (nth t (t.length - 1)).N - u = k) then 1 else 0) ∧
  moL t k u = (if 0 ≤ (nth t (t.length - 1)).N - u ∧ (k < 0 ∨ (nth t (t.length - 1)).N - u = k) then (nth t (t.length - 1)).N - u else -1) := by
 obtain ⟨n, l, hx, _, _, _, _, h5, _, _⟩ := tree_parts h
 rw [h5] at hk ⊢
 unfold usL moL
 rw [hx]
 simp only [usT, moT, hk, if_true, and_self]
mutual
theorem us_le (k : Int) : ∀ (x : T) (u : Int), usT k u x ≤ x.flat.length
 | .mk n l, u => by
  simp only [usT, T.flat_mk, List.length_append, List.length_singleton]
  split
  · split <;> omega
  · have := uss_le k l ((binds n).map (u + ·)); omega
theorem uss_le (k : Int) : ∀ (l : List T) (us : List Int), usTs k l us ≤ (T.flats l).length
 | [], us => by simp [usTs]
 | y :: l, [] => by simp [usTs]
 | y :: l, u :: us => by
  simp only [usTs, T.flats_cons, List.length_append]
  have := us_le k y u
  have := uss_le k l us
  omega
end
theorem usL_le {t : List Nd} (h : measB t = true) (k u : Int) : usL t k u ≤ t.length := by
 have := us_le k (treeOf t) u
 rw [(treeOf_meas h).2] at this
 exact this
mutual
theorem usTs_take (k : Int) : ∀ (l : List T) (us : List Int) (j : Nat), usTs k (l.take j) us ≤ (T.flats l).length
 | [], us, j => by simp [usTs]
 | y :: l, us, 0 => by simp [usTs]
 | y :: l, [], j + 1 => by simp [usTs]
 | y :: l, u :: us, j + 1 => by
  simp only [List.take_succ_cons, usTs, T.flats_cons, List.length_append]
  have := us_le k y u
  have := usTs_take k l us j
  omega
end
theorem usP_le {t : List Nd} (h : measB t = true) (k u : Int) (j : Nat) : usP t k u j ≤ t.length := by
 obtain ⟨n, l, hx, _, _, _, _, _, h6, _⟩ := tree_parts h
 unfold usP
 have := usTs_take k (treeOf t).args ((binds (nth t (t.length - 1))).map (u + ·)) j
 rw [hx] at this ⊢
 simp only [T.args] at this ⊢
 omega
theorem var_at {t : List Nd} (h : measB t = true) (hk : (nth t (t.length - 1)).K = 0) : 0 ≤ (nth t (t.length - 1)).N ∧ (nth t (t.length - 1)).N ≤ 99 := by
 have h1 := right_at h (show t.length - 1 < t.length by have := meas_pos h; omega)
 rw [right_var hk, decide_eq_true_eq] at h1
 exact ⟨h1.1, h1.2.1⟩
end
section
/- Terms in which variables give way to something, under binders: shifts and substitutions; trees and lists. -/
abbrev VR := Nd → Int → Int × T
mutual
def trE (V : VR) (u : Int) : T → Int
 | .mk n l => if n.K = 0 then (V n u).1 else trEs V l ((binds n).map (u + ·))
def trEs (V : VR) : List T → List Int → Int
 | [], _ => 0
 | _ :: _, [] => 0
 | t :: l, u :: us => if trE V u t = 0 then trEs V l us else trE V u t
end
mutual
def trT (V : VR) (u : Int) : T → T
 | .mk n l => if n.K = 0 then (V n u).2 else .mk n (trTs V l ((binds n).map (u + ·)))
def trTs (V : VR) : List T → List Int → List T
 | [], _ => []
 | _ :: _, [] => []
 | t :: l, u :: us => trT V u t :: trTs V l us
end
def trEL (V : VR) (t : List Nd) (u : Int) : Int := trE V u (treeOf t)
def trL (V : VR) (t : List Nd) (u : Int) : List Nd := if trEL V t u = 0 then (trT V u (treeOf t)).flat else []
mutual
theorem tr_len {V : VR} {b : Nat} (hb : 1 ≤ b) (hV : ∀ n u, (V n u).1 = 0 → (V n u).2.flat.length ≤ b) : ∀ (x : T) (u : Int), trE V u x = 0 → (trT V u x).flat.length ≤ x.flat.length * b
 | .mk n l, u, h => by
  by_cases hk : n.K = 0
  ·
   simp only [trE, trT, hk, if_true] at h ⊢
   have := hV n u h
   have h2 := Nat.mul_le_mul_right b (T.flat_pos (.mk n l))
   omega
  ·
   simp only [trE, trT, hk, if_false, T.flat_mk, List.length_append, List.length_singleton, Nat.add_mul] at h ⊢
   have := tr_lens hb hV l _ h
   omega
theorem tr_lens {V : VR} {b : Nat} (hb : 1 ≤ b) (hV : ∀ n u, (V n u).1 = 0 → (V n u).2.flat.length ≤ b) : ∀ (l : List T) (us : List Int), trEs V l us = 0 → (T.flats (trTs V l us)).length ≤ (T.flats l).length * b
 | [], us, _ => by simp [trTs, T.flats_nil]
 | y :: l, [], _ => by simp [trTs, T.flats_nil]
 | y :: l, u :: us, h => by
  simp only [trEs] at h
  by_cases h1 : trE V u y = 0
  ·
   rw [if_pos h1] at h
   simp only [trTs, T.flats_cons, List.length_append, Nat.add_mul]
   have := tr_len hb hV y u h1
   have := tr_lens hb hV l us h
   omega
  ·
   rw [if_neg h1] at h
   exact absurd h h1
end
def VW (V : VR) : Prop := ∀ n u, right n = true → n.K = 0 → 0 ≤ u → (V n u).1 = 0 → (V n u).2.wf = true
theorem ubinds {u : Int} {n : Nd} (hu : 0 ≤ u) : ∀ v ∈ (binds n).map (u + ·), 0 ≤ v := by
 intro v hv
 obtain ⟨b, hb, rfl⟩ := List.mem_map.1 hv
 have := binds_b n b hb
 omega
mutual
theorem tr_wf {V : VR} (hV : VW V) : ∀ (x : T) (u : Int), x.wf = true → 0 ≤ u → trE V u x = 0 → (trT V u x).wf = true
 | .mk n l, u, hw, hu, h => by
  obtain ⟨h1, h2, h3⟩ := wf_parts hw
  by_cases hk : n.K = 0
  ·
   simp only [trE, trT, hk, if_true] at h ⊢
   exact hV n u h1 hk hu h
  ·
   simp only [trE, trT, hk, if_false, T.wf_mk, Bool.and_eq_true, beq_iff_eq] at h ⊢
   obtain ⟨h4, h5⟩ := tr_wfs hV l ((binds n).map (u + ·)) h3 (ubinds hu) (by simp [← h2, many]) h
   exact ⟨⟨h1, by omega⟩, h4⟩
theorem tr_wfs {V : VR} (hV : VW V) : ∀ (l : List T) (us : List Int), T.wfs l = true → (∀ v ∈ us, 0 ≤ v) → l.length = us.length → trEs V l us = 0 → T.wfs (trTs V l us) = true ∧ (trTs V l us).length = l.length
 | [], us, _, _, _, _ => by simp [trTs, T.wfs]
 | y :: l, [], _, _, h, _ => by simp at h
 | y :: l, u :: us, hw, hu, hl, h => by
  obtain ⟨h1, h2⟩ := wf_cons hw
  simp only [trEs] at h
  by_cases h3 : trE V u y = 0
  ·
   rw [if_pos h3] at h
   obtain ⟨h4, h5⟩ := tr_wfs hV l us h2 (fun v hv => hu v (by simp [hv])) (by simpa using hl) h
   have h6 := tr_wf hV y u h1 (hu u (by simp)) h3
   simp [trTs, T.wfs, h4, h5, h6]
  ·
   rw [if_neg h3] at h
   exact absurd h h3
end
mutual
theorem tr_only {V : VR} {e : Int} (hV : ∀ n u, (V n u).1 = 0 ∨ (V n u).1 = e) : ∀ (x : T) (u : Int), trE V u x = 0 ∨ trE V u x = e
 | .mk n l, u => by
  simp only [trE]
  split
  · exact hV n u
  · exact tr_onlys hV l _
theorem tr_onlys {V : VR} {e : Int} (hV : ∀ n u, (V n u).1 = 0 ∨ (V n u).1 = e) : ∀ (l : List T) (us : List Int), trEs V l us = 0 ∨ trEs V l us = e
 | [], us => by simp [trEs]
 | y :: l, [] => by simp [trEs]
 | y :: l, u :: us => by
  simp only [trEs]
  split
  · exact tr_onlys hV l us
  · exact tr_only hV y u
end
abbrev vN (m : Int) : Nd := ⟨0, m, 0, ⟨#[]⟩⟩
theorem var_node {n : Nd} (h : right n = true) (hk : n.K = 0) : n = vN n.N ∧ 0 ≤ n.N ∧ n.N ≤ 99 := by
 rw [right_var hk, decide_eq_true_eq] at h
 obtain ⟨K, N, M, S⟩ := n
 obtain ⟨h1, h2, h3, h4⟩ := h
 simp only at hk h1 h2 h3 h4
 subst hk h3 h4
 exact ⟨rfl, h1, h2⟩
theorem vN_right {m : Int} (h1 : 0 ≤ m) (h2 : m ≤ 99) : right (vN m) = true := by
 rw [right_var rfl]
 simp [h1, h2]
theorem vN_wf {m : Int} (h1 : 0 ≤ m) (h2 : m ≤ 99) : (T.mk (vN m) []).wf = true := by
 rw [T.wf_mk]
 simp [vN_right h1 h2, many, binds, shp, T.wfs]
def shV (by_ fr : Int) : VR := fun n u => if fr ≤ n.N - u then (if n.N + by_ - u < fr then (30, .mk n []) else if 99 < n.N + by_ then (2, .mk n []) else (0, .mk (vN (n.N + by_)) [])) else (0, .mk n [])
theorem shV_len (by_ fr : Int) (n : Nd) (u : Int) : (shV by_ fr n u).2.flat.length ≤ 1 := by
 unfold shV
 (repeat' split) <;> simp [T.flat_mk, T.flats_nil]
theorem shV_wf {by_ fr : Int} (hf : 0 ≤ fr) : VW (shV by_ fr) := by
 intro n u hr hk hu h
 obtain ⟨e, h1, h2⟩ := var_node hr hk
 unfold shV at h ⊢
 split
 ·
  rename_i h3
  rw [if_pos h3] at h
  split
  · rename_i h4; rw [if_pos h4] at h; cases h
  ·
   rename_i h4
   rw [if_neg h4] at h
   split
   · rename_i h5; rw [if_pos h5] at h; cases h
   · exact vN_wf (by omega) (by omega)
 · rw [e]; exact vN_wf h1 h2
theorem shV_max {by_ fr : Int} (hb : 0 ≤ by_) (n : Nd) (u : Int) : (shV by_ fr n u).1 = 0 ∨ (shV by_ fr n u).1 = 2 := by
 unfold shV
 split
 ·
  split
  · omega
  · split <;> simp
 · simp
def clamp (n : Int) : Int := max (-1000) (min n 1000)
def sfE (t : List Nd) (by_ fr : Int) : Int := if chk t = 0 then trEL (shV (clamp by_) (max 0 (clamp fr))) t 0 else chk t
def sfA (t : List Nd) (by_ fr : Int) : List Nd := if chk t = 0 then trL (shV (clamp by_) (max 0 (clamp fr))) t 0 else []
theorem sfE_ok {t : List Nd} {b f : Int} (h : chk t = 0) : sfE t b f = trEL (shV (clamp b) (max 0 (clamp f))) t 0 ∧ sfA t b f = trL (shV (clamp b) (max 0 (clamp f))) t 0 := ⟨if_pos h, if_pos h⟩
theorem sfE_no {t : List Nd} {b f : Int} (h : ¬ chk t = 0) : sfE t b f = chk t ∧ sfA t b f = [] := ⟨if_neg h, if_neg h⟩
theorem sf_bad {t : List Nd} {b f : Int} (h : ¬ sfE t b f = 0) : sfA t b f = [] := by
 by_cases hc : chk t = 0
 ·
  rw [(sfE_ok hc).1] at h
  rw [(sfE_ok hc).2]
  unfold trL
  rw [if_neg h]
 · exact (sfE_no hc).2
theorem trL_len {V : VR} {b : Nat} (hb : 1 ≤ b) (hV : ∀ n u, (V n u).1 = 0 → (V n u).2.flat.length ≤ b) {t : List Nd} (h : measB t = true) (u : Int) : (trL V t u).length ≤ t.length * b := by
 unfold trL
 split
 ·
  rename_i he
  have := tr_len hb hV (treeOf t) u he
  rw [(treeOf_meas h).2] at this
  exact this
 · simp
theorem sfA_len (t : List Nd) (b f : Int) : (sfA t b f).length ≤ t.length := by
 by_cases hc : chk t = 0
 ·
  rw [(sfE_ok hc).2]
  have := trL_len (b := 1) (Nat.le_refl _) (fun n u _ => shV_len (clamp b) (max 0 (clamp f)) n u) (meas_chk hc) 0
  omega
 · rw [(sfE_no hc).2]; simp
theorem sf_tree {t : List Nd} {b f : Int} (h : sfE t b f = 0) : chk t = 0 ∧ (trT (shV (clamp b) (max 0 (clamp f))) 0 (treeOf t)).wf = true ∧ sfA t b f = (trT (shV (clamp b) (max 0 (clamp f))) 0 (treeOf t)).flat ∧ treeOf (sfA t b f) = trT (shV (clamp b) (max 0 (clamp f))) 0 (treeOf t) ∧ trE (shV (clamp b) (max 0 (clamp f))) 0 (treeOf t) = 0 := by
 have hc : chk t = 0 := by
  by_cases hc : chk t = 0
  · exact hc
  · rw [(sfE_no hc).1] at h; exact h
 obtain ⟨h1, h2⟩ := sfE_ok (b := b) (f := f) hc
 rw [h1] at h
 have hw := tr_wf (shV_wf (by_ := clamp b) (fr := max 0 (clamp f)) (by omega)) (treeOf t) 0 (treeOf_meas (meas_chk hc)).1 (Int.le_refl _) h
 have h3 : sfA t b f = (trT (shV (clamp b) (max 0 (clamp f))) 0 (treeOf t)).flat := by
  rw [h2]; unfold trL; rw [if_pos h]
 refine ⟨hc, hw, h3, ?_, h⟩
 rw [h3, treeOf_flat hw]
def nthLs (l : List (List Nd)) (i : Int) : List Nd := nthL l i.toNat
def puV (k : Int) (l : List (List Nd)) : VR := fun n u =>
 if n.N - u < k then (0, .mk n []) else if n.N - u < k + l.length then (sfE (nthLs l (n.N - u - k)) (u + k) 0, treeOf (sfA (nthLs l (n.N - u - k)) (u + k) 0)) else (0, .mk (vN (n.N - l.length)) [])
mutual
theorem tr_in {V : VR} {Q : Nd → Prop} (hV : ∀ n u, Q n → ∀ m ∈ (V n u).2.flat, Q m) : ∀ (x : T) (u : Int), (∀ n ∈ x.flat, Q n) → ∀ m ∈ (trT V u x).flat, Q m
 | .mk n l, u, h => by
  by_cases hk : n.K = 0
  ·
   simp only [trT, hk, if_true]
   exact hV n u (h n (by simp [T.flat_mk]))
  ·
   simp only [trT, hk, if_false, T.flat_mk, List.mem_append, List.mem_singleton]
   rintro m (hm | rfl)
   · exact tr_ins hV l _ (fun n hn => h n (by simp [T.flat_mk, hn])) m hm
   · exact h m (by simp [T.flat_mk])
theorem tr_ins {V : VR} {Q : Nd → Prop} (hV : ∀ n u, Q n → ∀ m ∈ (V n u).2.flat, Q m) : ∀ (l : List T) (us : List Int), (∀ n ∈ T.flats l, Q n) → ∀ m ∈ T.flats (trTs V l us), Q m
 | [], us, _ => by simp [trTs, T.flats_nil]
 | y :: l, [], _ => by simp [trTs, T.flats_nil]
 | y :: l, u :: us, h => by
  simp only [trTs, T.flats_cons, List.mem_append]
  rintro m (hm | hm)
  · exact tr_in hV y u (fun n hn => h n (by simp [T.flats_cons, hn])) m hm
  · exact tr_ins hV l us (fun n hn => h n (by simp [T.flats_cons, hn])) m hm
end
theorem trL_sml {V : VR} (hV : ∀ n u, n.S.size < 1000000 → ∀ m ∈ (V n u).2.flat, m.S.size < 1000000) {t : List Nd} (h : measB t = true) (hs : sml t) (u : Int) : sml (trL V t u) := by
 rw [sml_mem] at hs ⊢
 unfold trL
 split
 ·
  refine tr_in (Q := fun n => n.S.size < 1000000) hV (treeOf t) u ?_
  rw [(treeOf_meas h).2]
  exact hs
 · simp
theorem shV_sml {b f : Int} : ∀ n u, n.S.size < 1000000 → ∀ m ∈ (shV b f n u).2.flat, m.S.size < 1000000 := by
 intro n u h
 unfold shV
 (repeat' split) <;> simp [T.flat_mk, T.flats_nil, h] <;> decide
theorem sfA_sml {t : List Nd} {b f : Int} (hs : sml t) : sml (sfA t b f) := by
 by_cases hc : chk t = 0
 · rw [(sfE_ok hc).2]; exact trL_sml shV_sml (meas_chk hc) hs 0
 · rw [(sfE_no hc).2]; intro k hk; simp at hk
theorem nthLs_in {l : List (List Nd)} {i : Int} {Q : List Nd → Prop} (h : ∀ p ∈ l, Q p) (h0 : Q []) : Q (nthLs l i) := by
 unfold nthLs nthL
 rw [List.getD_eq_getElem?_getD]
 cases hx : l[i.toNat]? with
 | none => exact h0
 | some p => exact h p (List.mem_of_getElem? hx)
theorem sf_flat {t : List Nd} {b f : Int} (h : sfE t b f = 0) : (treeOf (sfA t b f)).flat = sfA t b f := by
 obtain ⟨_, _, h3, h4, _⟩ := sf_tree h
 rw [h4, h3]
theorem puV_sml {k : Int} {l : List (List Nd)} (hl : ∀ p ∈ l, sml p) : ∀ n u, n.S.size < 1000000 → ∀ m ∈ (puV k l n u).2.flat, m.S.size < 1000000 := by
 intro n u h
 unfold puV
 by_cases h1 : n.N - u < k
 · rw [if_pos h1]; simpa [T.flat_mk, T.flats_nil] using h
 ·
  rw [if_neg h1]
  by_cases h2 : n.N - u < k + l.length
  ·
   rw [if_pos h2]
   simp only
   by_cases he : sfE (nthLs l (n.N - u - k)) (u + k) 0 = 0
   ·
    rw [sf_flat he]
    exact sml_mem.1 (sfA_sml (nthLs_in (Q := sml) hl (fun k hk => by simp at hk)))
   ·
    rw [sf_bad he]
    intro m hm
    have : treeOf [] = .mk ndz [] := rfl
    rw [this] at hm
    simp [T.flat_mk, T.flats_nil] at hm
    subst hm
    decide
  ·
   rw [if_neg h2]
   simp [T.flat_mk, T.flats_nil]
   decide
theorem puV_wf {k : Int} {l : List (List Nd)} (hk0 : 0 ≤ k) : VW (puV k l) := by
 intro n u hr hk hu h
 obtain ⟨e, h1, h2⟩ := var_node hr hk
 unfold puV at h ⊢
 split
 · rw [e]; exact vN_wf h1 h2
 ·
  rename_i h3
  rw [if_neg h3] at h
  split
  ·
   rename_i h4
   rw [if_pos h4] at h
   obtain ⟨_, h5, _, h6, _⟩ := sf_tree h
   simp only
   rw [h6]; exact h5
  · exact vN_wf (by omega) (by omega)
section
variable {t : List Nd} {u : Int} (h : measB t = true) (hk : (nth t (t.length - 1)).K = 0)
include h hk
end
def poE (t : List Nd) (k : Int) (l : List (List Nd)) : Int := if trEL (puV k l) t 0 = 0 then chk (trL (puV k l) t 0) else trEL (puV k l) t 0
def poA (t : List Nd) (k : Int) (l : List (List Nd)) : List Nd := if poE t k l = 0 then trL (puV k l) t 0 else []
theorem po_err {t : List Nd} {k : Int} {l : List (List Nd)} (h : ¬ trEL (puV k l) t 0 = 0) : poE t k l = trEL (puV k l) t 0 ∧ poA t k l = [] := by
 have : poE t k l = trEL (puV k l) t 0 := by unfold poE; rw [if_neg h]
 refine ⟨this, ?_⟩
 unfold poA
 rw [this, if_neg h]
theorem po_chk {t : List Nd} {k : Int} {l : List (List Nd)} (h : trEL (puV k l) t 0 = 0) : poE t k l = chk (trL (puV k l) t 0) ∧ poA t k l = if chk (trL (puV k l) t 0) = 0 then trL (puV k l) t 0 else [] := by
 have : poE t k l = chk (trL (puV k l) t 0) := by unfold poE; rw [if_pos h]
 refine ⟨this, ?_⟩
 unfold poA
 rw [this]
end
section
/- A term shifted in place, node by node from the root on: plain lists. -/
def stepS (b f : Int) (o : List Nd × Int) (x : Int × Int) : List Nd × Int :=
 if (nth o.1 x.1.toNat).K = 0 ∧ ¬ (nth o.1 x.1.toNat).N - x.2 < f then
  (o.1.set x.1.toNat ⟨(nth o.1 x.1.toNat).K, (nth o.1 x.1.toNat).N + b, (nth o.1 x.1.toNat).M, (nth o.1 x.1.toNat).S⟩,
   if (nth o.1 x.1.toNat).N + b - x.2 < f then 30 else if 99 < (nth o.1 x.1.toNat).N + b then 2 else o.2)
 else o
def foldS (b f : Int) (o : List Nd × Int) (pre : List (Int × Int)) : List Nd × Int := pre.foldl (stepS b f) o
theorem foldS_snoc (b f : Int) (o : List Nd × Int) (pre : List (Int × Int)) (x : Int × Int) : foldS b f o (pre ++ [x]) = stepS b f (foldS b f o pre) x := by simp [foldS]
theorem stepS_len (b f : Int) (o : List Nd × Int) (x : Int × Int) : (stepS b f o x).1.length = o.1.length := by
 unfold stepS
 split <;> simp
theorem foldS_len (b f : Int) (o : List Nd × Int) (pre : List (Int × Int)) : (foldS b f o pre).1.length = o.1.length := by
 induction pre generalizing o with
 | nil => rfl
 | cons x pre ih =>
  show (foldS b f (stepS b f o x) pre).1.length = _
  rw [ih, stepS_len]
theorem foldS_append (b f : Int) (o : List Nd × Int) (p q : List (Int × Int)) : foldS b f o (p ++ q) = foldS b f (foldS b f o p) q := by simp [foldS]
def shV0 (b f : Int) : VR := fun n u => ((shV b f n u).1, if f ≤ n.N - u then .mk ⟨n.K, n.N + b, n.M, n.S⟩ [] else .mk n [])
theorem nth_mid {u v : List Nd} {n : Nd} : nth (u ++ [n] ++ v) u.length = n := by simp [nth]
theorem set_mid {u v : List Nd} {n m : Nd} : (u ++ [n] ++ v).set u.length m = u ++ [m] ++ v := by simp
mutual
theorem fold_T (b f : Int) : ∀ (x : T) (k : Int) (u v : List Nd) (e : Int), x.wf = true →
  foldS b f (u ++ x.flat ++ v, e) (visT u.length k x) = (u ++ (trT (shV0 b f) k x).flat ++ v, if trE (shV0 b f) k x = 0 then e else trE (shV0 b f) k x)
 | .mk n l, k, u, v, e, hw => by
  obtain ⟨h1, h2, h3⟩ := wf_parts hw
  have hp : ((u.length : Int) + ((T.flats l).length : Int)).toNat = (u ++ T.flats l).length := by rw [List.length_append]; omega
  have hr : u ++ (T.mk n l).flat ++ v = (u ++ T.flats l) ++ [n] ++ v := by rw [T.flat_mk]; simp
  have hn : nth (u ++ (T.mk n l).flat ++ v) ((u.length : Int) + ((T.flats l).length : Int)).toNat = n := by rw [hp, hr, nth_mid]
  have hstep : stepS b f (u ++ (T.mk n l).flat ++ v, e) ((u.length : Int) + (T.flats l).length, k) =
    if n.K = 0 ∧ ¬ n.N - k < f then ((u ++ T.flats l) ++ [⟨n.K, n.N + b, n.M, n.S⟩] ++ v, if n.N + b - k < f then 30 else if 99 < n.N + b then 2 else e) else (u ++ (T.mk n l).flat ++ v, e) := by
   unfold stepS
   simp only [hn]
   split
   · rw [hp, hr, set_mid]
   · rfl
  have hv : foldS b f (u ++ (T.mk n l).flat ++ v, e) (visT u.length k (.mk n l)) = foldS b f (stepS b f (u ++ (T.mk n l).flat ++ v, e) ((u.length : Int) + (T.flats l).length, k)) (visTs u.length l ((binds n).map (k + ·))) := rfl
  rw [hv, hstep]
  by_cases hk : n.K = 0
  ·
   have hl : l = [] := List.eq_nil_of_length_eq_zero (by rw [← h2]; simp [many, binds, hk, shp])
   subst hl
   simp only [visTs, trE, trT, hk, if_true, T.flats_nil, List.append_nil, true_and, T.flat_mk, List.nil_append]
   show (if ¬ n.N - k < f then _ else _) = _
   unfold shV0 shV
   by_cases hf : f ≤ n.N - k
   ·
    rw [if_pos (by omega), if_pos hf]
    simp only [hf, if_true, T.flat_mk, T.flats_nil, List.nil_append, hk]
    congr 1
    (repeat' split) <;> simp_all
   ·
    rw [if_neg (by omega), if_neg hf]
    simp [hf, T.flat_mk, T.flats_nil]
  ·
   have hk2 : ¬ (n.K = 0 ∧ ¬ n.N - k < f) := fun h => hk h.1
   rw [if_neg hk2, show u ++ (T.mk n l).flat ++ v = u ++ T.flats l ++ ([n] ++ v) by rw [T.flat_mk]; simp]
   rw [fold_Ts b f l ((binds n).map (k + ·)) u ([n] ++ v) e h3 (by simp [← h2, many])]
   simp only [trE, trT, hk, if_false, T.flat_mk]
   simp
theorem fold_Ts (b f : Int) : ∀ (l : List T) (ks : List Int) (u v : List Nd) (e : Int), T.wfs l = true → l.length = ks.length →
  foldS b f (u ++ T.flats l ++ v, e) (visTs u.length l ks) = (u ++ T.flats (trTs (shV0 b f) l ks) ++ v, if trEs (shV0 b f) l ks = 0 then e else trEs (shV0 b f) l ks)
 | [], ks, u, v, e, _, _ => by simp [visTs, trTs, trEs, T.flats_nil, foldS]
 | y :: l, [], _, _, _, _, h => by simp at h
 | y :: l, k :: ks, u, v, e, hw, hl => by
  obtain ⟨h1, h2⟩ := wf_cons hw
  have a1 := fold_Ts b f l ks (u ++ y.flat) v e h2 (by simpa using hl)
  have a2 := fold_T b f y k u (T.flats (trTs (shV0 b f) l ks) ++ v) (if trEs (shV0 b f) l ks = 0 then e else trEs (shV0 b f) l ks) h1
  simp only [visTs, T.flats_cons, trTs, trEs, foldS_append]
  rw [List.length_append] at a1
  rw [show u ++ (y.flat ++ T.flats l) ++ v = u ++ y.flat ++ T.flats l ++ v by simp, show (u.length : Int) + (y.flat.length : Int) = ((u.length + y.flat.length : Nat) : Int) by simp, a1,
   show u ++ y.flat ++ T.flats (trTs (shV0 b f) l ks) ++ v = u ++ y.flat ++ (T.flats (trTs (shV0 b f) l ks) ++ v) by simp, a2]
  congr 1
  · simp
  ·
   by_cases h : trE (shV0 b f) k y = 0
   · simp [h]
   · simp [h]
end
mutual
theorem sh0_E (b f : Int) : ∀ (x : T) (k : Int), trE (shV0 b f) k x = trE (shV b f) k x
 | .mk n l, k => by
  simp only [trE]
  split
  · rfl
  · exact sh0_Es b f l _
theorem sh0_Es (b f : Int) : ∀ (l : List T) (ks : List Int), trEs (shV0 b f) l ks = trEs (shV b f) l ks
 | [], _ => by simp [trEs]
 | _ :: _, [] => by simp [trEs]
 | y :: l, k :: ks => by simp only [trEs, sh0_E b f y k, sh0_Es b f l ks]
end
mutual
theorem sh0_T (b f : Int) : ∀ (x : T) (k : Int), x.wf = true → trE (shV b f) k x = 0 → trT (shV0 b f) k x = trT (shV b f) k x
 | .mk n l, k, hw, h => by
  obtain ⟨h1, h2, h3⟩ := wf_parts hw
  by_cases hk : n.K = 0
  ·
   obtain ⟨e, _, _⟩ := var_node h1 hk
   simp only [trE, trT, hk, if_true] at h ⊢
   unfold shV0
   unfold shV at h ⊢
   by_cases hf : f ≤ n.N - k
   ·
    simp only [hf, if_true] at h ⊢
    split
    · rename_i h4; simp [h4] at h
    ·
     split
     · rename_i h4 h5; simp [h4, h5] at h
     · rw [e]
   · simp only [hf, if_false]
  ·
   simp only [trE, trT, hk, if_false] at h ⊢
   rw [sh0_Ts b f l _ h3 h]
theorem sh0_Ts (b f : Int) : ∀ (l : List T) (ks : List Int), T.wfs l = true → trEs (shV b f) l ks = 0 → trTs (shV0 b f) l ks = trTs (shV b f) l ks
 | [], _, _, _ => by simp [trTs]
 | _ :: _, [], _, _ => by simp [trTs]
 | y :: l, k :: ks, hw, h => by
  obtain ⟨h1, h2⟩ := wf_cons hw
  simp only [trEs] at h
  by_cases h3 : trE (shV b f) k y = 0
  ·
   rw [if_pos h3] at h
   simp only [trTs, sh0_T b f y k h1 h3, sh0_Ts b f l ks h2 h]
  ·
   rw [if_neg h3] at h
   exact absurd h h3
end
theorem fold_all {t : List Nd} {b f : Int} (hc : chk t = 0) : (foldS b f (t, 0) (nodesL t)).2 = trEL (shV b f) t 0 ∧ (trEL (shV b f) t 0 = 0 → (foldS b f (t, 0) (nodesL t)).1 = trL (shV b f) t 0) := by
 obtain ⟨hw, hf, _, _⟩ := treeOf_ok hc
 have h := fold_T b f (treeOf t) 0 [] [] 0 hw
 simp only [List.nil_append, List.append_nil, List.length_nil, hf] at h
 have h' : foldS b f (t, 0) (nodesL t) = ((trT (shV0 b f) 0 (treeOf t)).flat, if trE (shV0 b f) 0 (treeOf t) = 0 then 0 else trE (shV0 b f) 0 (treeOf t)) := h
 have hE : trEL (shV b f) t 0 = trE (shV b f) 0 (treeOf t) := rfl
 have hL : trL (shV b f) t 0 = if trE (shV b f) 0 (treeOf t) = 0 then (trT (shV b f) 0 (treeOf t)).flat else [] := rfl
 rw [h', hE, hL, sh0_E]
 constructor
 ·
  split
  · rename_i h1; exact h1.symm
  · rfl
 ·
  intro h1
  rw [if_pos h1, sh0_T b f _ _ hw h1, if_pos h1]
mutual
theorem vis_bd : ∀ (x : T) (o k : Int), ∀ y ∈ visT o k x, o ≤ y.1 ∧ y.1 < o + x.flat.length ∧ k ≤ y.2 ∧ y.2 ≤ k + 2 * x.flat.length
 | .mk n l, o, k => by
  intro y hy
  simp only [visT, List.mem_cons] at hy
  rw [T.flat_mk, List.length_append, List.length_singleton]
  rcases hy with rfl | hy
  ·
   simp only
   omega
  ·
   have h1 := vis_bds l o ((binds n).map (k + ·)) k (fun v hv => by
    obtain ⟨c, hc, rfl⟩ := List.mem_map.1 hv
    have := binds_b n c hc
    omega) y hy
   omega
theorem vis_bds : ∀ (l : List T) (o : Int) (ks : List Int) (k : Int), (∀ v ∈ ks, k ≤ v ∧ v ≤ k + 2) → ∀ y ∈ visTs o l ks, o ≤ y.1 ∧ y.1 < o + (T.flats l).length ∧ k ≤ y.2 ∧ y.2 ≤ k + 2 + 2 * (T.flats l).length
 | [], _, _, _, _ => by simp [visTs]
 | _ :: _, _, [], _, _ => by simp [visTs]
 | x :: l, o, v :: ks, k, h => by
  intro y hy
  simp only [visTs, List.mem_append] at hy
  rw [T.flats_cons, List.length_append]
  have hv := h v (by simp)
  rcases hy with hy | hy
  ·
   have := vis_bds l (o + x.flat.length) ks k (fun w hw => h w (by simp [hw])) y hy
   omega
  ·
   have := vis_bd x o v y hy
   omega
end
theorem nodesL_nat {t : List Nd} {pre : List (Int × Int)} {x : Int × Int} (hc : chk t = 0) (h : pre ++ [x] <+: nodesL t) : ∃ (i : Nat) (j : Nat), x = ((i : Int), (j : Int)) ∧ i < t.length ∧ j ≤ 2 * t.length := by
 obtain ⟨rest, hr⟩ := h
 have hm : x ∈ nodesL t := by rw [← hr]; simp
 have h1 := vis_bd (treeOf t) 0 0 x hm
 rw [(treeOf_ok hc).2.1] at h1
 exact ⟨x.1.toNat, x.2.toNat, by ext <;> simp only [] <;> omega, by omega, by omega⟩
theorem step_yes {b f : Int} {o : List Nd × Int} {i j : Nat} (h1 : (nth o.1 i).K = 0) (h2 : ¬ (nth o.1 i).N - (j : Int) < f) :
  stepS b f o ((i : Int), (j : Int)) = (o.1.set i ⟨(nth o.1 i).K, (nth o.1 i).N + b, (nth o.1 i).M, (nth o.1 i).S⟩, if (nth o.1 i).N + b - (j : Int) < f then 30 else if 99 < (nth o.1 i).N + b then 2 else o.2) := by
 unfold stepS
 simp only [Int.toNat_natCast]
 rw [if_pos ⟨h1, h2⟩]
theorem step_no {b f : Int} {o : List Nd × Int} {i j : Nat} (h : ¬ (nth o.1 i).K = 0 ∨ (nth o.1 i).N - (j : Int) < f) : stepS b f o ((i : Int), (j : Int)) = o := by
 unfold stepS
 simp only [Int.toNat_natCast]
 rw [if_neg (by rintro ⟨h1, h2⟩; rcases h with h | h; exact h h1; exact h2 h)]
theorem nth_set (L : List Nd) (i k : Nat) (z : Nd) : nth (L.set i z) k = if i = k ∧ i < L.length then z else nth L k := by
 unfold nth
 rw [List.getD_eq_getElem?_getD, List.getElem?_set, List.getD_eq_getElem?_getD]
 by_cases h : i = k
 ·
  subst h
  by_cases h2 : i < L.length
  · simp [h2]
  · simp [h2]
 · simp [h]
theorem foldS_N {b f : Int} (hb : -1000 ≤ b ∧ b ≤ 1000) (B : Int) : ∀ (pre : List (Int × Int)) (o : List Nd × Int), (∀ k, -B ≤ (nth o.1 k).N ∧ (nth o.1 k).N ≤ B) → ∀ k, -(B + 1000 * pre.length) ≤ (nth (foldS b f o pre).1 k).N ∧ (nth (foldS b f o pre).1 k).N ≤ B + 1000 * pre.length
 | [], o, h => fun k => by have := h k; simpa [foldS] using this
 | x :: pre, o, h => by
  intro k
  have h2 : ∀ k, -(B + 1000) ≤ (nth (stepS b f o x).1 k).N ∧ (nth (stepS b f o x).1 k).N ≤ B + 1000 := by
   intro k
   have h3 := h k
   have h4 := h x.1.toNat
   unfold stepS
   split
   ·
    simp only
    rw [nth_set]
    split
    · simp only; omega
    · omega
   · omega
  have := foldS_N (f := f) hb (B + 1000) pre (stepS b f o x) h2 k
  have e : foldS b f o (x :: pre) = foldS b f (stepS b f o x) pre := rfl
  rw [e, List.length_cons]
  omega
theorem right_N {n : Nd} (h : right n = true) : 0 ≤ n.N ∧ n.N ≤ 99 := by
 obtain ⟨h1, h2, h3, h4⟩ := (right_split n).1 h
 unfold fieldsBad at h2
 by_cases hn : (shp n.K.toNat).n = true
 ·
  have := h3 hn
  unfold most at this
  refine ⟨this.1, ?_⟩
  have := this.2
  (repeat' split at this) <;> omega
 ·
  have hn' : (shp n.K.toNat).n = false := by simpa using hn
  simp only [hn', Bool.not_false, Bool.true_and, Bool.or_eq_false_iff, Bool.not_eq_false', decide_eq_true_eq] at h2
  omega
theorem term_N {t : List Nd} (hc : chk t = 0) (k : Nat) : -99 ≤ (nth t k).N ∧ (nth t k).N ≤ 99 := by
 by_cases hk : k < t.length
 ·
  have := right_N (right_at (meas_chk hc) hk)
  omega
 ·
  have : nth t k = ndz := by simp [nth, List.getD_eq_getElem?_getD, List.getElem?_eq_none (by omega : t.length ≤ k)]
  rw [this]
  decide
mutual
theorem vis_len : ∀ (x : T) (o k : Int), x.wf = true → (visT o k x).length = x.flat.length
 | .mk n l, o, k, hw => by
  obtain ⟨_, h2, h3⟩ := wf_parts hw
  simp only [visT, List.length_cons, T.flat_mk, List.length_append, List.length_nil]
  rw [vis_lens l o _ h3 (by simp [← h2, many])]
theorem vis_lens : ∀ (l : List T) (o : Int) (ks : List Int), T.wfs l = true → l.length = ks.length → (visTs o l ks).length = (T.flats l).length
 | [], _, _, _, _ => by simp [visTs, T.flats_nil]
 | _ :: _, _, [], _, h => by simp at h
 | x :: l, o, v :: ks, hw, h => by
  obtain ⟨h1, h2⟩ := wf_cons hw
  simp only [visTs, List.length_append, T.flats_cons]
  rw [vis_lens l _ ks h2 (by simpa using h), vis_len x o v h1]
  omega
end
theorem nodesL_len {t : List Nd} (hc : chk t = 0) : (nodesL t).length = t.length := by
 obtain ⟨hw, hf, _⟩ := treeOf_ok hc
 have := vis_len (treeOf t) 0 0 hw
 rw [hf] at this
 exact this
theorem fold_N {t : List Nd} {b f e : Int} {pre : List (Int × Int)} (hc : chk t = 0) (hb : -1000 ≤ b ∧ b ≤ 1000) (hp : pre <+: nodesL t) (k : Nat) : -10000000 ≤ (nth (foldS b f (t, e) pre).1 k).N ∧ (nth (foldS b f (t, e) pre).1 k).N ≤ 10000000 := by
 have h1 := foldS_N (f := f) hb 99 pre (t, e) (term_N hc) k
 have h2 := hp.length_le
 rw [nodesL_len hc] at h2
 have h3 := (treeOf_ok hc).2.2.2
 omega
theorem sfE_prog {t : List Nd} {b f : Int} (hc : chk t = 0) : sfE t b f = (foldS (clamp b) (max 0 (clamp f)) (t, chk t) (nodesL t)).2 ∧ (sfE t b f = 0 → sfA t b f = (foldS (clamp b) (max 0 (clamp f)) (t, chk t) (nodesL t)).1) := by
 obtain ⟨h1, h2⟩ := fold_all (b := clamp b) (f := max 0 (clamp f)) hc
 obtain ⟨h3, h4⟩ := sfE_ok (b := b) (f := f) hc
 rw [h3, h4, hc, h1]
 exact ⟨rfl, fun h => (h2 h).symm⟩
end
section
/- The nodes of a term from its root on, each with how many binders it is under: as subst.nodes hands them over. -/
def nodesN (t : List Nd) : List (Nd × Int) := (nodesL t).map fun x => (nth t x.1.toNat, x.2)
theorem nodesN_step {t : List Nd} {k : Nat} {i u : Int} {n : Nat} (h : (nodesL t).take k ++ [(i, u)] = (nodesL t).take (k + 1)) (hi : i = (n : Int)) : (nodesN t).take k ++ [(nth t n, u)] = (nodesN t).take (k + 1) := by
 unfold nodesN
 rw [← List.map_take, ← List.map_take, ← h, List.map_append, hi]
 simp
theorem nodesN_pre {t : List Nd} {k : Nat} {x : Nd × Int} (h : (nodesN t).take k ++ [x] = (nodesN t).take (k + 1)) : (nodesN t).take k ++ [x] <+: nodesN t := by
 rw [h]; exact List.take_prefix _ _
theorem nodesN_all {t : List Nd} {k : Nat} (h : (nodesL t).take k = nodesL t) : (nodesN t).take k = nodesN t := by
 unfold nodesN
 rw [← List.map_take, h]
theorem bwL_full {t : List Nd} {k : Nat} (hk : k ≤ t.length) (h : bwL t = (bwL t).take k) : k = t.length := by
 have := congrArg List.length h
 rw [List.length_take, bwL_length] at this
 omega
end
section
/- Results that lie in cells. -/
open Go Go.RowKit
section
variable {P : Program} {fn : Func} {N : Nat} {l : List (Nat × Value)} {a : Act} {w w0 : World} {Z M : Nat → Prop} {m : List Res} {ds : List Dat} {R : Ending → World → Prop}
theorem res2c {t u g h : Nat} {tt uu : TypeId} {v v' : Value} {d1 d2 : TypeDesc} (hR : Reg a N l) (hr : fn.results = #[.cell t tt, .cell u uu]) (hv : ev l (.tmp t) = some (.pointer (some ⟨g, 0, none⟩))) (hv' : ev l (.tmp u) = some (.pointer (some ⟨h, 0, none⟩)))
  (hc : w.cell? ⟨g, 0, none⟩ = some v) (hc' : w.cell? ⟨h, 0, none⟩ = some v') (ht : P.underlying tt = some d1) (ha : isAggD d1 = false) (ht' : P.underlying uu = some d2) (ha' : isAggD d2 = false) :
  (results fn a.tmps).run P w = .ok (.tuple #[v, v']) w := by
 have h1 : a.tmps[t]?.getD undef = .pointer (some ⟨g, 0, none⟩) := by rw [← Array.getD_eq_getD_getElem?]; exact hR.ev hv
 have h2 : a.tmps[u]?.getD undef = .pointer (some ⟨h, 0, none⟩) := by rw [← Array.getD_eq_getD_getElem?]; exact hR.ev hv'
 simp only [results, hr]
 simp [Sem.run_bind, h1, h2, asAddr, run_load1 ht ha hc, run_load1 ht' ha' hc']
theorem res1c {t g : Nat} {tt : TypeId} {v : Value} {d1 : TypeDesc} (hR : Reg a N l) (hr : fn.results = #[.cell t tt]) (hv : ev l (.tmp t) = some (.pointer (some ⟨g, 0, none⟩))) (hc : w.cell? ⟨g, 0, none⟩ = some v) (ht : P.underlying tt = some d1) (ha : isAggD d1 = false) :
  (results fn a.tmps).run P w = .ok v w := by
 have h1 : a.tmps[t]?.getD undef = .pointer (some ⟨g, 0, none⟩) := by rw [← Array.getD_eq_getD_getElem?]; exact hR.ev hv
 simp only [results, hr]
 simp [Sem.run_bind, h1, asAddr, run_load1 ht ha hc]
theorem St.cast {m' : List Res} (h : St w0 Z M w m ds) (e : m = m') : St w0 Z M w m' ds := e ▸ h
end
end
section
/- Erasing is done ahead of a shift, or of a substitution, as behind it. -/
mutual
theorem tr_deep {V : VR} (hV : ∀ n u, (V n u).2.deep ≤ 1) : ∀ (x : T) (u : Int), (trT V u x).deep ≤ x.deep
 | .mk n l, u => by
  by_cases hk : n.K = 0
  ·
   simp only [trT, hk, if_true]
   have := hV n u
   rw [deep_mk]
   omega
  ·
   simp only [trT, hk, if_false, deep_mk]
   have := tr_deeps hV l ((binds n).map (u + ·))
   omega
theorem tr_deeps {V : VR} (hV : ∀ n u, (V n u).2.deep ≤ 1) : ∀ (l : List T) (us : List Int), T.deeps (trTs V l us) ≤ T.deeps l
 | [], us => by simp [trTs, T.deeps]
 | y :: l, [] => by simp [trTs, T.deeps]
 | y :: l, u :: us => by
  simp only [trTs, T.deeps]
  have := tr_deep hV y u
  have := tr_deeps hV l us
  omega
end
theorem shV_deep (b f : Int) (n : Nd) (u : Int) : (shV b f n u).2.deep ≤ 1 := by
 unfold shV
 (repeat' split) <;> simp [T.deep, T.deeps]
theorem sf_chk {t : List Nd} {b f : Int} (h : sfE t b f = 0) : chk (sfA t b f) = 0 := by
 obtain ⟨hc, hw, h3, _, he⟩ := sf_tree h
 obtain ⟨_, hf, hd, hl⟩ := treeOf_ok hc
 have h4 := tr_deep (shV_deep (clamp b) (max 0 (clamp f))) (treeOf t) 0
 have h5 := sfA_len t b f
 rw [h3] at h5 ⊢
 exact chk_flat hw (by omega) (by omega)
theorem erL_tree {t : List Nd} (h : chk t = 0) : treeOf (erL t) = erT (treeOf t) := treeOf_flat (erT_ok _ (treeOf_ok h).1).1
theorem po_same (t : List Nd) (k : Int) (l : List (List Nd)) : (if poE t k l = 0 then poA t k l else []) = poA t k l := by
 unfold poA
 split <;> rfl
end
section
/- Terms put into one, node by node from the root on: plain lists. -/
structure RevN (t R : List Nd) (k : Nat) : Prop where
 len : R.length = t.length
 at_ : ∀ i, i < t.length → nth R i = if i < k ∨ t.length - k ≤ i then nth t (t.length - 1 - i) else nth t i
theorem RevN.zero (t : List Nd) : RevN t t 0 := ⟨rfl, fun i hi => by rw [if_neg (by omega)]⟩
theorem RevN.step {t R : List Nd} {k j : Nat} {u v : Nd} (h : RevN t R k) (hk : 2 * k + 1 < t.length) (hj : j = t.length - 1 - k) (hu : u = nth R j) (hv : v = nth R k) : RevN t ((R.set k u).set j v) (k + 1) := by
 subst hj
 obtain ⟨h1, h2⟩ := h
 refine ⟨by simp [h1], fun i hi => ?_⟩
 rw [nth_set, nth_set, hu, hv, h2 _ (by omega), h2 _ (by omega), h2 i hi]
 simp only [List.length_set]
 by_cases e1 : t.length - 1 - k = i
 ·
  subst e1
  rw [if_pos ⟨rfl, by omega⟩, if_neg (by omega), if_pos (by omega)]
  congr 1
  omega
 ·
  rw [if_neg (by omega)]
  by_cases e2 : k = i
  ·
   subst e2
   rw [if_pos ⟨rfl, by omega⟩, if_neg (by omega), if_pos (by omega)]
  ·
   rw [if_neg (by omega)]
   by_cases e3 : i < k ∨ t.length - k ≤ i
   · rw [if_pos e3, if_pos (by omega)]
   · rw [if_neg e3, if_neg (by omega)]
theorem RevN.done {t R : List Nd} {k : Nat} (h : RevN t R k) (hk : t.length ≤ 2 * k + 1) : R = t.reverse := by
 obtain ⟨h1, h2⟩ := h
 apply List.ext_getElem
 · simp [h1]
 ·
  intro i hi hi'
  have h3 := h2 i (by omega)
  have h4 : nth R i = R[i] := by simp [nth, hi]
  have h5 : nth t (t.length - 1 - i) = t[t.length - 1 - i] := by
   have : t.length - 1 - i < t.length := by omega
   simp [nth, this]
  rw [List.getElem_reverse, ← h4, h3, ← h5]
  split
  · rfl
  ·
   congr 1
   omega
def reE (l : List (List Nd)) (x : Nd × Int) : Int := if x.1.K = 0 then (puV 0 l x.1 x.2).1 else 0
def reL (l : List (List Nd)) (x : Nd × Int) : List Nd := if x.1.K = 0 then (puV 0 l x.1 x.2).2.flat else [x.1]
def reR (l : List (List Nd)) (pre : List (Nd × Int)) : List Nd := pre.flatMap fun x => (reL l x).reverse
theorem reR_snoc (l : List (List Nd)) (pre : List (Nd × Int)) (x : Nd × Int) : reR l (pre ++ [x]) = reR l pre ++ (reL l x).reverse := by simp [reR]
theorem reR_append (l : List (List Nd)) (p q : List (Nd × Int)) : reR l (p ++ q) = reR l p ++ reR l q := by simp [reR]
mutual
def visN (u : Int) : T → List (Nd × Int)
 | .mk n l => (n, u) :: visNs l ((binds n).map (u + ·))
def visNs : List T → List Int → List (Nd × Int)
 | [], _ => []
 | _ :: _, [] => []
 | t :: l, u :: us => visNs l us ++ visN u t
end
mutual
theorem vis_N (B : List Nd) : ∀ (x : T) (A : List Nd) (u : Int) (C : List Nd), B = A ++ x.flat ++ C → (visT A.length u x).map (fun y => (nth B y.1.toNat, y.2)) = visN u x
 | .mk n l, A, u, C, h => by
  have e : ((A.length : Int) + ((T.flats l).length : Int)).toNat = (A ++ T.flats l).length := by rw [List.length_append]; omega
  have hB : B = (A ++ T.flats l) ++ [n] ++ C := by rw [h, T.flat_mk]; simp
  simp only [visT, List.map_cons, visN]
  rw [e]
  have hn : nth B (A ++ T.flats l).length = n := by rw [hB, nth_mid]
  rw [hn, vis_Ns B l A ((binds n).map (u + ·)) ([n] ++ C) (by rw [hB]; simp)]
theorem vis_Ns (B : List Nd) : ∀ (l : List T) (A : List Nd) (us : List Int) (C : List Nd), B = A ++ T.flats l ++ C → (visTs A.length l us).map (fun y => (nth B y.1.toNat, y.2)) = visNs l us
 | [], _, _, _, _ => by simp [visTs, visNs]
 | _ :: _, _, [], _, _ => by simp [visTs, visNs]
 | x :: l, A, u :: us, C, h => by
  have h1 := vis_Ns B l (A ++ x.flat) us C (by rw [h, T.flats_cons]; simp)
  have h2 := vis_N B x A u (T.flats l ++ C) (by rw [h, T.flats_cons]; simp)
  simp only [visTs, List.map_append, visNs]
  rw [List.length_append] at h1
  rw [← h1, ← h2]
  simp
end
theorem nodesN_vis {t : List Nd} (hc : chk t = 0) : nodesN t = visN 0 (treeOf t) := by
 obtain ⟨_, hf, _⟩ := treeOf_ok hc
 have := vis_N t (treeOf t) [] 0 [] (by simp [hf])
 exact this
mutual
theorem re_T (l : List (List Nd)) : ∀ (x : T) (u : Int), x.wf = true → ((trE (puV 0 l) u x = 0 ↔ ∀ y ∈ visN u x, reE l y = 0) ∧ reR l (visN u x) = (trT (puV 0 l) u x).flat.reverse)
 | .mk n ps, u, hw => by
  obtain ⟨h1, h2, h3⟩ := wf_parts hw
  by_cases hk : n.K = 0
  ·
   have hl : ps = [] := List.eq_nil_of_length_eq_zero (by rw [← h2]; simp [many, binds, hk, shp])
   subst hl
   simp [visN, visNs, trE, trT, hk, reE, reR, reL]
  ·
   obtain ⟨a1, a2⟩ := re_Ts l ps ((binds n).map (u + ·)) h3
   simp only [visN, trE, trT, hk, if_false, List.mem_cons, forall_eq_or_imp, T.flat_mk, List.reverse_append]
   constructor
   ·
    rw [a1]
    have : reE l (n, u) = 0 := by simp [reE, hk]
    simp [this]
   ·
    have : reR l ((n, u) :: visNs ps ((binds n).map (u + ·))) = (reL l (n, u)).reverse ++ reR l (visNs ps ((binds n).map (u + ·))) := by simp [reR]
    rw [this, a2]
    simp [reL, hk]
theorem re_Ts (l : List (List Nd)) : ∀ (ps : List T) (us : List Int), T.wfs ps = true → ((trEs (puV 0 l) ps us = 0 ↔ ∀ y ∈ visNs ps us, reE l y = 0) ∧ reR l (visNs ps us) = (T.flats (trTs (puV 0 l) ps us)).reverse)
 | [], _, _ => by simp [visNs, trEs, trTs, T.flats_nil, reR]
 | _ :: _, [], _ => by simp [visNs, trEs, trTs, T.flats_nil, reR]
 | x :: ps, u :: us, hw => by
  obtain ⟨h1, h2⟩ := wf_cons hw
  obtain ⟨a1, a2⟩ := re_T l x u h1
  obtain ⟨b1, b2⟩ := re_Ts l ps us h2
  simp only [visNs, trEs, trTs, List.mem_append, T.flats_cons, List.reverse_append, reR_append]
  constructor
  ·
   by_cases he : trE (puV 0 l) u x = 0
   ·
    rw [if_pos he, b1]
    constructor
    ·
     intro h y hy
     rcases hy with hy | hy
     · exact h y hy
     · exact a1.1 he y hy
    ·
     intro h y hy
     exact h y (.inl hy)
   ·
    rw [if_neg he]
    constructor
    · intro h; exact absurd h he
    · intro h; exact absurd (a1.2 fun y hy => h y (.inr hy)) he
  · rw [a2, b2]
end
theorem sf_max {t : List Nd} {b f : Int} (hc : chk t = 0) (hb : 0 ≤ b) : sfE t b f = 0 ∨ sfE t b f = 2 := by
 rw [(sfE_ok hc).1]
 exact tr_only (shV_max (by unfold clamp; omega)) _ _
def oks (l : List (List Nd)) : Prop := ∀ p ∈ l, chk p = 0
theorem nthL_ok {l : List (List Nd)} (h : oks l) {i : Nat} (hi : i < l.length) : chk (nthL l i) = 0 := h _ (nthL_mem hi)
theorem pu_max {l : List (List Nd)} (h : oks l) (n : Nd) (u : Int) (hu : 0 ≤ u) : (puV 0 l n u).1 = 0 ∨ (puV 0 l n u).1 = 2 := by
 unfold puV
 by_cases h1 : n.N - u < 0
 · simp [h1]
 ·
  by_cases h2 : n.N - u < 0 + l.length
  ·
   simp only [h1, h2, if_true, if_false]
   have : (n.N - u - 0).toNat < l.length := by omega
   exact sf_max (nthL_ok h this) (by omega)
  ·
   left
   simp only [h1, h2, if_false]
mutual
theorem pu_only {l : List (List Nd)} (h : oks l) : ∀ (x : T) (u : Int), 0 ≤ u → trE (puV 0 l) u x = 0 ∨ trE (puV 0 l) u x = 2
 | .mk n ps, u, hu => by
  simp only [trE]
  split
  · exact pu_max h n u hu
  · exact pu_onlys h ps _ (ubinds hu)
theorem pu_onlys {l : List (List Nd)} (h : oks l) : ∀ (ps : List T) (us : List Int), (∀ v ∈ us, 0 ≤ v) → trEs (puV 0 l) ps us = 0 ∨ trEs (puV 0 l) ps us = 2
 | [], _, _ => by simp [trEs]
 | _ :: _, [], _ => by simp [trEs]
 | x :: ps, u :: us, hu => by
  simp only [trEs]
  split
  · exact pu_onlys h ps us (fun v hv => hu v (by simp [hv]))
  · exact pu_only h x u (hu u (by simp))
end
structure OutI (l : List (List Nd)) (pre : List (Nd × Int)) (O : List Nd) : Prop where
 er : ∀ y ∈ pre, reE l y = 0
 out : O = reR l pre ∨ (8000 ≤ O.length ∧ 8000 < (reR l pre).length)
 bd : O.length ≤ 16000 + pre.length
theorem OutI.nil (l : List (List Nd)) : OutI l [] [] := ⟨(fun _ h => by cases h), .inl rfl, by simp⟩
theorem er_snoc {l : List (List Nd)} {pre : List (Nd × Int)} {x : Nd × Int} (h : ∀ y ∈ pre, reE l y = 0) (hx : reE l x = 0) : ∀ y ∈ pre ++ [x], reE l y = 0 := by
 intro y hy
 rcases List.mem_append.1 hy with hy | hy
 · exact h y hy
 · rw [List.mem_singleton] at hy; subst hy; exact hx
theorem OutI.step {l : List (List Nd)} {pre : List (Nd × Int)} {O S : List Nd} {x : Nd × Int} (h : OutI l pre O) (hx : reE l x = 0) (hS : S = (reL l x).reverse) (hn : (O ++ S).length ≤ 16000 ∨ S.length = 1) : OutI l (pre ++ [x]) (O ++ S) := by
 have hb := h.bd
 refine ⟨er_snoc h.er hx, ?_, ?_⟩
 ·
  rw [reR_snoc, ← hS]
  rcases h.out with q1 | ⟨q1, q3⟩
  · exact .inl (by rw [q1])
  ·
   right
   rw [List.length_append, List.length_append]
   omega
 ·
  rw [List.length_append] at hn
  rw [List.length_append, List.length_append, List.length_singleton]
  omega
theorem OutI.cut {l : List (List Nd)} {pre : List (Nd × Int)} {O S : List Nd} {x : Nd × Int} (h : OutI l pre O) (hx : reE l x = 0) (hS : S = (reL l x).reverse) (hn : 16000 < (O ++ S).length) : OutI l (pre ++ [x]) ((O ++ S).take 8000) := by
 have ht : ((O ++ S).take 8000).length = 8000 := by rw [List.length_take]; omega
 refine ⟨er_snoc h.er hx, ?_, by rw [ht]; omega⟩
 rw [reR_snoc, ← hS]
 right
 rw [ht]
 rw [List.length_append] at hn ⊢
 rcases h.out with q1 | ⟨q1, q3⟩
 · rw [q1] at hn; omega
 · omega
theorem OutI.len {l : List (List Nd)} {t O : List Nd} {pre : List (Nd × Int)} (h : OutI l pre O) (hc : chk t = 0) (hp : pre <+: nodesN t) : O.length ≤ 20000 := by
 have h1 := h.bd
 have h2 := hp.length_le
 have h3 : (nodesN t).length = t.length := by unfold nodesN; rw [List.length_map, nodesL_len hc]
 have h4 := (treeOf_ok hc).2.2.2
 omega
theorem OutI.all {l : List (List Nd)} {t O : List Nd} (hc : chk t = 0) (h : OutI l (nodesN t) O) :
  trEL (puV 0 l) t 0 = 0 ∧ (4000 < O.length → 4000 < (trL (puV 0 l) t 0).length) ∧ (O.length ≤ 4000 → O.reverse = trL (puV 0 l) t 0) := by
 obtain ⟨hw, _, _, _⟩ := treeOf_ok hc
 obtain ⟨h1, h2⟩ := re_T l (treeOf t) 0 hw
 rw [← nodesN_vis hc] at h1 h2
 have h3 : trEL (puV 0 l) t 0 = 0 := h1.2 h.er
 have h4 : trL (puV 0 l) t 0 = (trT (puV 0 l) 0 (treeOf t)).flat := by unfold trL; rw [if_pos h3]
 have h5 : (reR l (nodesN t)).length = (trL (puV 0 l) t 0).length := by rw [h2, h4, List.length_reverse]
 refine ⟨h3, fun hl => ?_, fun hl => ?_⟩
 ·
  rw [← h5]
  rcases h.out with q1 | ⟨_, q3⟩
  · rw [← q1]; exact hl
  · omega
 ·
  rcases h.out with q1 | ⟨q1, _⟩
  · rw [q1, h2, List.reverse_reverse, h4]
  · omega
theorem re_err {l : List (List Nd)} {t : List Nd} {x : Nd × Int} (hc : chk t = 0) (hl : oks l) (hx : x ∈ nodesN t) (he : reE l x ≠ 0) : trEL (puV 0 l) t 0 = 2 := by
 obtain ⟨hw, _, _, _⟩ := treeOf_ok hc
 obtain ⟨h1, _⟩ := re_T l (treeOf t) 0 hw
 rw [← nodesN_vis hc] at h1
 rcases pu_only hl (treeOf t) 0 (Int.le_refl _) with h | h
 · exact absurd (h1.1 h x hx) he
 · exact h
theorem re_other {l : List (List Nd)} {n : Nd} {u : Int} (h : ¬ n.K = 0) : reE l (n, u) = 0 ∧ reL l (n, u) = [n] := by simp [reE, reL, h]
theorem re_low {l : List (List Nd)} {n : Nd} {u : Int} (h : n.K = 0) (h1 : n.N < u) : reE l (n, u) = 0 ∧ reL l (n, u) = [n] := by
 have : n.N - u < 0 := by omega
 simp [reE, reL, h, puV, this, T.flat_mk, T.flats_nil]
theorem re_keep {l : List (List Nd)} {x : Nd × Int} (h : ¬ x.1.K = 0 ∨ x.1.N < x.2) : reE l x = 0 ∧ [x.1] = (reL l x).reverse := by
 by_cases hk : x.1.K = 0
 ·
  have h1 : x.1.N < x.2 := by
   rcases h with h | h
   · exact absurd hk h
   · exact h
  have h2 := re_low (l := l) (n := x.1) (u := x.2) hk h1
  exact ⟨h2.1, by rw [show reL l x = [x.1] from h2.2]; rfl⟩
 ·
  have h2 := re_other (l := l) (n := x.1) (u := x.2) hk
  exact ⟨h2.1, by rw [show reL l x = [x.1] from h2.2]; rfl⟩
theorem re_in {l : List (List Nd)} {n : Nd} {u : Int} (h : n.K = 0) (h1 : ¬ n.N < u) (h2 : n.N - u < l.length) : reE l (n, u) = sfE (nthL l (n.N - u).toNat) u 0 ∧ (sfE (nthL l (n.N - u).toNat) u 0 = 0 → reL l (n, u) = sfA (nthL l (n.N - u).toNat) u 0) := by
 have e1 : ¬ n.N - u < 0 := by omega
 have e2 : n.N - u < 0 + (l.length : Int) := by omega
 have e3 : nthLs l (n.N - u - 0) = nthL l (n.N - u).toNat := by unfold nthLs; congr 1; omega
 have e4 : u + 0 = u := by omega
 simp only [reE, reL, h, if_true, puV, e1, e2, if_false, e3, e4]
 exact ⟨trivial, fun hs => sf_flat hs⟩
theorem re_out {l : List (List Nd)} {n : Nd} {u : Int} (hr : right n = true) (h : n.K = 0) (h1 : ¬ n.N < u) (h2 : ¬ n.N - u < l.length) : reE l (n, u) = 0 ∧ reL l (n, u) = [⟨n.K, n.N - l.length, n.M, n.S⟩] := by
 have e1 : ¬ n.N - u < 0 := by omega
 have e2 : ¬ n.N - u < 0 + (l.length : Int) := by omega
 obtain ⟨e3, _, _⟩ := var_node hr h
 simp only [reE, reL, h, if_true, puV, e1, e2, if_false, T.flat_mk, T.flats_nil, List.nil_append, true_and]
 rw [e3]
theorem nodesN_at {t : List Nd} {pre : List (Nd × Int)} {x : Nd × Int} (hc : chk t = 0) (h : pre ++ [x] <+: nodesN t) : x ∈ nodesN t ∧ right x.1 = true ∧ 0 ≤ x.2 ∧ x.2 ≤ 2 * t.length ∧ 0 ≤ x.1.N ∧ x.1.N ≤ 99 ∧ x.1 ∈ t := by
 obtain ⟨rest, hr⟩ := h
 have hm : x ∈ nodesN t := by rw [← hr]; simp
 obtain ⟨y, hy, rfl⟩ := List.mem_map.1 hm
 have h1 := vis_bd (treeOf t) 0 0 y hy
 rw [(treeOf_ok hc).2.1] at h1
 have hlt : y.1.toNat < t.length := by omega
 have h2 := right_at (meas_chk hc) hlt
 have h3 := right_N h2
 exact ⟨hm, h2, by omega, by omega, h3.1, h3.2, nth_mem hlt⟩
theorem poE_err {t : List Nd} {l : List (List Nd)} {x : Nd × Int} (hc : chk t = 0) (hl : oks l) (hx : x ∈ nodesN t) (he : reE l x ≠ 0) : poE t 0 l = 2 ∧ poA t 0 l = [] := by
 have h := re_err hc hl hx he
 have h2 := po_err (t := t) (k := 0) (l := l) (by rw [h]; decide)
 rw [h] at h2
 exact h2
theorem put_big {l : List (List Nd)} {t O : List Nd} (hc : chk t = 0) (h : OutI l (nodesN t) O) (hn : 4000 < O.length) : poE t 0 l = 21 ∧ poA t 0 l = [] := by
 obtain ⟨h1, h2, _⟩ := h.all hc
 obtain ⟨h3, h4⟩ := po_chk h1
 rw [h3, h4, chk_size (h2 hn)]
 exact ⟨rfl, if_neg (by decide)⟩
theorem put_all {l : List (List Nd)} {t O : List Nd} (hc : chk t = 0) (h : OutI l (nodesN t) O) (hn : O.length ≤ 4000) : poE t 0 l = chk O.reverse ∧ poA t 0 l = if chk O.reverse = 0 then O.reverse else [] := by
 obtain ⟨h1, _, h2⟩ := h.all hc
 obtain ⟨h3, h4⟩ := po_chk h1
 rw [h2 hn]
 exact ⟨h3, h4⟩
theorem put_sml {l : List (List Nd)} {t O : List Nd} (hc : chk t = 0) (hs : sml t) (hl : ∀ x ∈ l, sml x) (h : OutI l (nodesN t) O) (hn : O.length ≤ 4000) : sml O.reverse := by
 rw [(h.all hc).2.2 hn]
 exact trL_sml (puV_sml hl) (meas_chk hc) hs 0
end
section
/- Several terms checked, and put into one. -/
def ckE : List (List Nd) → Int
 | [] => 0
 | p :: l => if chk p = 0 then ckE l else chk p
theorem ckE_at {L : List (List Nd)} {k : Nat} (h : ∀ i, i < k → chk (nthL L i) = 0) (hk : k < L.length) (he : ¬ chk (nthL L k) = 0) : ckE L = chk (nthL L k) := by
 induction L generalizing k with
 | nil => simp at hk
 | cons p l ih =>
  cases k with
  | zero =>
   have : nthL (p :: l) 0 = p := rfl
   rw [this] at he ⊢
   simp [ckE, he]
  | succ k =>
   have h0 : chk p = 0 := h 0 (by omega)
   have : nthL (p :: l) (k + 1) = nthL l k := by simp [nthL]
   rw [this] at he ⊢
   simp only [ckE, h0, if_true]
   exact ih (fun i hi => by have := h (i + 1) (by omega); simpa [nthL] using this) (by simpa using hk) he
theorem ckE_all {L : List (List Nd)} {k : Nat} (h : ∀ i, i < k → chk (nthL L i) = 0) (hk : L.length ≤ k) : ckE L = 0 ∧ oks L := by
 have hall : oks L := fun p hp => by
  obtain ⟨i, hi, rfl⟩ := List.getElem_of_mem hp
  have := h i (by omega)
  simpa [nthL, hi] using this
 refine ⟨?_, hall⟩
 clear h hk
 induction L with
 | nil => rfl
 | cons p l ih =>
  simp only [ckE, hall p (by simp), if_true]
  exact ih (fun q hq => hall q (by simp [hq]))
def inE (t : List Nd) (l : List (List Nd)) : Int := if ckE (t :: l) = 0 then poE t 0 l else ckE (t :: l)
def inA (t : List Nd) (l : List (List Nd)) : List Nd := if inE t l = 0 then poA t 0 l else []
theorem in_err {t : List Nd} {l : List (List Nd)} (h : ¬ ckE (t :: l) = 0) : inE t l = ckE (t :: l) ∧ inA t l = [] := by
 have : inE t l = ckE (t :: l) := if_neg h
 refine ⟨this, ?_⟩
 unfold inA
 rw [this, if_neg h]
theorem in_ok {t : List Nd} {l : List (List Nd)} (h : ckE (t :: l) = 0) : inE t l = poE t 0 l ∧ inA t l = poA t 0 l := by
 have e : inE t l = poE t 0 l := if_pos h
 refine ⟨e, ?_⟩
 unfold inA
 rw [e]
 exact po_same _ _ _
theorem in_bad {t : List Nd} {l : List (List Nd)} (h : ¬ inE t l = 0) : inA t l = [] := by unfold inA; rw [if_neg h]
theorem nthS_cons (a : Sl) (l : List Sl) (k : Nat) : (nthS ([a] ++ l) k).2.2 = nthL (a.2.2 :: lsts l) k := by
 rw [lsts_nth, lsts_app]
 rfl
theorem hyp_step {L : List (List Nd)} {k : Nat} (h : ∀ i, i < k → chk (nthL L i) = 0) (hk : chk (nthL L k) = 0) : ∀ i, i < k + 1 → chk (nthL L i) = 0 := fun i hi => by
 by_cases e : i = k
 · subst e; exact hk
 · exact h i (by omega)
theorem poA_len (t : List Nd) (k : Int) (l : List (List Nd)) : (poA t k l).length ≤ 4000 := by
 unfold poA
 split
 ·
  rename_i h
  unfold poE at h
  split at h
  · exact (treeOf_ok h).2.2.2
  · rename_i h2; exact absurd h h2
 · simp
theorem inA_len (t : List Nd) (l : List (List Nd)) : (inA t l).length ≤ 4000 := by
 unfold inA
 split
 · exact poA_len t 0 l
 · simp
theorem poA_sml {t : List Nd} {l : List (List Nd)} (hc : chk t = 0) (hs : sml t) (hl : ∀ x ∈ l, sml x) : sml (poA t 0 l) := by
 unfold poA
 split
 · exact trL_sml (puV_sml hl) (meas_chk hc) hs 0
 · intro k hk; simp at hk
theorem inA_sml {t : List Nd} {l : List (List Nd)} (hs : sml t) (hl : ∀ x ∈ l, sml x) : sml (inA t l) := by
 by_cases h : ckE (t :: l) = 0
 ·
  rw [(in_ok h).2]
  have hc : chk t = 0 := by
   by_cases hc : chk t = 0
   · exact hc
   · simp only [ckE, hc, if_false] at h
  exact poA_sml hc hs hl
 · rw [(in_err h).2]; intro k hk; simp at hk
end
section
/- The parts of a term by its measures, as term.backward hands them over; slices of slices made. -/
open Go Go.RowKit
theorem allTs_pre {st st' : List T} {t : List Nd} : ∀ (_ : scanT st t = some st'), ∃ r, allTs 0 st' = allTs 0 st ++ r := by
 induction t generalizing st with
 | nil =>
  intro h
  simp only [scanT] at h
  obtain rfl := Option.some.inj h
  exact ⟨[], by simp⟩
 | cons n t ih =>
  intro h
  simp only [scanT] at h
  cases hp : pushT st n with
  | none => simp [hp] at h
  | some s =>
   simp only [hp] at h
   obtain ⟨r, hr⟩ := ih h
   have := (push_meas hp rfl).2
   exact ⟨_, by rw [hr, this, List.append_assoc]⟩
theorem measL_from {t : List Nd} {e : Nat} (h : measB t = true) (he : e < t.length) : (nthM (measL t) e).1 = (frL t e : Int) := by
 obtain ⟨x, hs, h2, _, hf⟩ := measB_tree h
 obtain ⟨st, hst⟩ := meas_scan h e
 obtain ⟨hr, hm⟩ := meas_at h he hst
 have h3 := scan_step hst he
 obtain ⟨st', hp, _⟩ := push_some hr hm
 rw [hp] at h3
 have hfl := scan_flats hst (by omega)
 have h4 := (push_meas hp hfl).2
 have h5 : scanT st' (t.drop (e + 1)) = some [x] := by
  have := hs
  rw [show t = t.take (e + 1) ++ t.drop (e + 1) from (List.take_append_drop _ _).symm, scanT_append, h3] at this
  simpa using this
 obtain ⟨r, hr2⟩ := allTs_pre h5
 have hal : (allTs 0 st).length = e := by rw [allTs_length, hfl]
 have h6 : measL t = allTs 0 st ++ ((fromQ e (meas 0 st) (st.length - many (nth t e)) (many (nth t e)), deepQ (meas 0 st) (st.length - many (nth t e)) (many (nth t e))) :: r) := by
  rw [h2]
  have : allTs 0 [x] = allT 0 x := by simp [allTs]
  rw [← this, hr2, h4, List.append_assoc]
  rfl
 have h7 : nthM (measL t) e = (fromQ e (meas 0 st) (st.length - many (nth t e)) (many (nth t e)), deepQ (meas 0 st) (st.length - many (nth t e)) (many (nth t e))) := by
  rw [h6, nthM, List.getD_eq_getElem?_getD, List.getElem?_append_right (by omega), hal]
  simp
 rw [h7, ← posL_end h he]
 unfold posL
 rw [hst]
 simp only
 unfold fromQ
 split
 ·
  rename_i h0
  rw [h0, Nat.sub_zero, List.take_length, hfl]
 ·
  obtain ⟨o, h8, h9⟩ := nthM_meas (st := st) (i := st.length - many (nth t e)) (by omega)
  rw [h8, h9]
theorem ps_step {t : List Nd} {j : Nat} (h : measB t = true) (hj : j < many (nth t (t.length - 1))) : 0 < posL t (t.length - 1) j ∧ posL t (t.length - 1) j ≤ t.length - 1 ∧ (nthM (measL t) (posL t (t.length - 1) j - 1)).1 = (posL t (t.length - 1) (j + 1) : Int) ∧ posL t (t.length - 1) (j + 1) < posL t (t.length - 1) j := by
 have hp := meas_pos h
 obtain ⟨h1, h2, h3, h4⟩ := posL_step h (show t.length - 1 < t.length by omega) hj
 refine ⟨h1, h2, ?_, h4⟩
 rw [measL_from h (by omega), h3]
def bkAt (A : Option Addr) (c : Nat) (t : List Nd) (k : Nat) : Int × Sl :=
 (((many (nth t (t.length - 1)) - 1 - k : Nat) : Int), ((if c = posL t (t.length - 1) (k + 1) then A else A.map (·.add (posL t (t.length - 1) (k + 1) * 4))), c - posL t (t.length - 1) (k + 1), (t.drop (posL t (t.length - 1) (k + 1))).take (posL t (t.length - 1) k - posL t (t.length - 1) (k + 1))))
def bkS (A : Option Addr) (c : Nat) (t : List Nd) : List (Int × Sl) := (List.range (many (nth t (t.length - 1)))).map (bkAt A c t)
theorem bkS_step {A : Option Addr} {c : Nat} {t : List Nd} {k : Nat} (h : k < many (nth t (t.length - 1))) : (bkS A c t).take k ++ [bkAt A c t k] = (bkS A c t).take (k + 1) := by
 rw [List.take_add_one]
 have : (bkS A c t)[k]? = some (bkAt A c t k) := by simp [bkS, h]
 rw [this]
 rfl
theorem bkS_len (A : Option Addr) (c : Nat) (t : List Nd) : (bkS A c t).length = many (nth t (t.length - 1)) := by simp [bkS]
theorem bkS_all {A : Option Addr} {c : Nat} {t : List Nd} {k : Nat} (h : many (nth t (t.length - 1)) ≤ k) : (bkS A c t).take k = bkS A c t := List.take_of_length_le (by rw [bkS_len]; exact h)
theorem bkS_pre {A : Option Addr} {c : Nat} {t : List Nd} {k : Nat} {x : Int × Sl} (h : k < many (nth t (t.length - 1))) (hx : x = bkAt A c t k) : (bkS A c t).take k ++ [x] <+: bkS A c t := by
 rw [hx, bkS_step h]
 exact List.take_prefix _ _
theorem bk_eq {A : Option Addr} {c : Nat} {t : List Nd} {k f : Nat} {i : Int} (hi : i = ((many (nth t (t.length - 1)) - 1 - k : Nat) : Int)) (hf : f = posL t (t.length - 1) (k + 1)) :
  ((i, ((if c = f then A else A.map (·.add (f * 4))), c - f, (t.drop f).take (posL t (t.length - 1) k - f))) : Int × Sl) = bkAt A c t k := by
 subst hi hf
 rfl
theorem bkS_next {A : Option Addr} {c : Nat} {t : List Nd} {pre : List (Int × Sl)} {k : Nat} {x : Int × Sl} (hk : pre.length = k) (h : pre ++ [x] <+: bkS A c t) : k < many (nth t (t.length - 1)) ∧ x = bkAt A c t k := by
 obtain ⟨r, hr⟩ := h
 have hl := congrArg List.length hr
 rw [List.length_append, List.length_append, List.length_singleton, bkS_len, hk] at hl
 have hlt : k < many (nth t (t.length - 1)) := by omega
 have h1 : (bkS A c t)[k]? = some x := by
  rw [← hr, List.append_assoc, List.getElem?_append_right (by omega), hk]
  simp
 refine ⟨hlt, ?_⟩
 simp [bkS, hlt] at h1
 exact h1.symm
theorem bk_row {A : Option Addr} {c : Nat} {t : List Nd} {w : World} {I : Nat → Prop} {k : Nat} (hb : measB t = true) (h : (dRow 4 A t.length c (encNs t)).φ w I) (hk : k < many (nth t (t.length - 1))) :
  (dRow 4 (bkAt A c t k).2.1 (bkAt A c t k).2.2.2.length (bkAt A c t k).2.2.1 (encNs (bkAt A c t k).2.2.2)).φ w I := by
 obtain ⟨h1, h2, _, h4⟩ := ps_step hb hk
 exact cut_row (f := encN) (L := t) h encN_len (by omega)
theorem arg_step {t : List Nd} {Ls : List Sl} {k : Nat} {A : Option Addr} {c : Nat} {A' : Option Addr} {c' : Nat} (hb : measB t = true) (hL : lsts Ls.reverse = ptD t k) (hk : k < many (nth t (t.length - 1))) : lsts (Ls ++ [((A', c', (bkAt A c t k).2.2.2) : Sl)]).reverse = ptD t (k + 1) := by
 rw [List.reverse_append]
 exact parts_step hb hL hk rfl rfl
theorem rep_set {n k i : Nat} {Ls : List Sl} {x : Sl} (h : k < n) (hi : i = n - 1 - k) : (List.replicate (n - k) slz ++ Ls.reverse).set i x = List.replicate (n - (k + 1)) slz ++ (Ls ++ [x]).reverse := by
 subst hi
 rw [List.set_append_left _ _ (by rw [List.length_replicate]; omega), show n - k = (n - 1 - k) + 1 by omega, List.replicate_succ', List.set_append_right _ _ (by rw [List.length_replicate]; omega)]
 simp
 omega
theorem all_rep {w : World} {I : Nat → Prop} (n : Nat) : (dAll (List.replicate n slz)).φ w I := fun s hs => by
 rw [List.eq_of_mem_replicate hs]
 exact ⟨Nat.le_refl _, RowI.nil _ _ _ _⟩
def agA (t : List Nd) : List (List Nd) := if chk t = 0 then ptL t else []
theorem agA_ok {t : List Nd} (h : chk t = 0) : agA t = ptL t := if_pos h
theorem agA_no {t : List Nd} (h : ¬ chk t = 0) : agA t = [] := if_neg h
theorem zeros_encS (n : Nat) : (List.replicate n slz).flatMap encS = List.replicate n (.slice none 0 0) := by
 induction n with
 | zero => rfl
 | succ n ih => rw [List.replicate_succ, List.flatMap_cons, ih]; rfl
section
variable {P : Program} {X : Prop} {Next : Act → World → Prop} {o : Oper} {a : Act} {w w0 : World} {N : Nat} {l : List (Nat × Value)} {d : Nat} {Z M : Nat → Prop} {m : List Res} {ds : List Dat}
theorem m_makeSs {t e : TypeId} {n by_ : Nat} {x y : Operand} {p q : Int} {kx ky : IntKind} (hs : SteV P X Next o a w) (hR : Reg a N l) (hS : St w0 Z M w m ds) (hd : o.dst = some d) (ho : o.op = .makeSlice t x y) (hx : ev l x = some (.int kx p)) (hy : ev l y = some (.int ky q))
  (hp : p = (n : Int)) (hq' : q = (n : Int)) (ht : P.underlying t = some (.slice e)) (hi : (P.info? e).map (fun i => (i.zero, i.size, i.bytes)) = some (some (.slice none 0 0), 1, by_)) (hby : by_ ≤ 100) (hn : n ≤ 1000) (hdN : d < N)
  (k : ∀ a' w' g, Reg a' N ((d, .slice (some ⟨g, 0, none⟩) (List.replicate n slz).length (List.replicate n slz).length) :: l) → St w0 Z M w' (m ++ [.row (some ⟨g, 0, none⟩) (List.replicate n slz).length (List.replicate n slz).length e 1 (encSs (List.replicate n slz))]) ds → Next a' w') : X :=
 m_makeSlice hs hR hS hd ho hx hy hp hq' ht hi rfl rfl (decide_eq_true (by omega)) (by omega) hdN (fun a' w' g hR' hS' => k a' w' g (by rw [List.length_replicate]; exact hR') (by rw [List.length_replicate, encSs, zeros_encS]; exact hS'))
end
end
section
/- Slices of slices of slices of nodes; calls walked in place; loops over functions that hand over nothing. -/
open Go Go.RowKit
abbrev Tl := Option Addr × Nat × List Sl
def tlz : Tl := (none, 0, [])
def encT (s : Tl) : List Value := [.slice s.1 s.2.2.length s.2.1]
def encTs (l : List Tl) : List Value := l.flatMap encT
def nthT (t : List Tl) (k : Nat) : Tl := t.getD k tlz
theorem encT_len (s : Tl) : (encT s).length = 1 := rfl
theorem ts_elem {w : World} {I : Nat → Prop} {A : Option Addr} {k : Nat} {t : List Tl} (h : RowI w I 1 A t.length (encTs t)) (hk : k < t.length) : ElemAt w A (k * 1) (encT (nthT t k)) := by
 have := h.elem hk
 rwa [show (encTs t) = t.flatMap encT from rfl, enc_at encT_len t k hk tlz] at this
def dAllT (t : List Tl) : Dat := ⟨fun w I => ∀ s ∈ t, (dRow 1 s.1 s.2.2.length s.2.1 (encSs s.2.2)).φ w I ∧ (dAll s.2.2).φ w I, fun _ _ _ _ hs h hk s hm => ⟨(dRow _ _ _ _ _).mono _ _ _ _ hs (h s hm).1 hk, (dAll _).mono _ _ _ _ hs (h s hm).2 hk⟩⟩
theorem nthT_mem {t : List Tl} {k : Nat} (h : k < t.length) : nthT t k ∈ t := by
 have : nthT t k = t[k] := by simp [nthT, h]
 rw [this]
 exact List.getElem_mem h
theorem allT_at {w : World} {I : Nat → Prop} {t : List Tl} {k : Nat} (h : (dAllT t).φ w I) (hk : k < t.length) : (dRow 1 (nthT t k).1 (nthT t k).2.2.length (nthT t k).2.1 (encSs (nthT t k).2.2)).φ w I ∧ (dAll (nthT t k).2.2).φ w I := h _ (nthT_mem hk)
theorem allT_nil {w : World} {I : Nat → Prop} : (dAllT []).φ w I := fun _ h => by cases h
theorem allT_cons {w : World} {I : Nat → Prop} {A : Option Addr} {c : Nat} {L : List Sl} {t : List Tl} (h : (dRow 1 A L.length c (encSs L)).φ w I) (h2 : (dAll L).φ w I) (ht : (dAllT t).φ w I) : (dAllT ((A, c, L) :: t)).φ w I := fun s hs => by
 rcases List.mem_cons.1 hs with rfl | hs
 · exact ⟨h, h2⟩
 · exact ht s hs
def lstsT (t : List Tl) : List (List (List Nd)) := t.map fun s => lsts s.2.2
def nthLL (c : List (List (List Nd))) (k : Nat) : List (List Nd) := c.getD k []
theorem lstsT_len (t : List Tl) : (lstsT t).length = t.length := by simp [lstsT]
theorem lstsT_nth (t : List Tl) (k : Nat) : lsts (nthT t k).2.2 = nthLL (lstsT t) k := by
 unfold nthT nthLL lstsT
 by_cases h : k < t.length
 · simp [h]
 · simp [List.getD_eq_getElem?_getD, List.getElem?_eq_none (by omega : t.length ≤ k), tlz, lsts]
section
variable {P : Program} {X : Prop} {Next : Act → World → Prop} {o : Oper} {a : Act} {w : World} {N : Nat} {l : List (Nat × Value)} {d : Nat}
theorem k_inl {f : FuncId} {xs : List Operand} {ts : Array TypeId} {vs : List Value} (hs : Ste P X Next o a w) (hR : Reg a N l) (hd : o.dst = some d)
  (ho : o.op = .call { callee := .value (.func f), args := xs.toArray, argTypes := ts }) (hx : evs l xs = some vs) (hdN : d < N) (hf : FOK P f)
  (hc : Calls P f vs.toArray w (fun e w' => ∃ v, e = .returned v ∧ ∀ a', Reg a' N ((d, v) :: l) → Next a' w')) : X := k_call hs hR hd ho hx hdN hf hc (fun _ _ h => h)
end
section
variable {w0 w W : World} {Z M : Nat → Prop} {m : List Res} {ds : List Dat}
end
end
section
/- Shorter spellings of single steps. -/
open Go Go.RowKit
def putA : List Value → List Value → Option (List Value)
 | [], cs => some cs
 | _ :: _, [] => none
 | v :: vs, _ :: cs => match putA vs cs with | some r => some (v :: r) | none => none
def putJ (vs : List Value) : Nat → List Value → Option (List Value)
 | 0, cs => putA vs cs
 | _ + 1, [] => none
 | j + 1, c :: cs => match putJ vs j cs with | some r => some (c :: r) | none => none
def putO (cs : List Value) (j : Nat) (vs : List Value) : Option (List Value) := putJ vs j cs
theorem putA_eq : ∀ {vs cs r : List Value}, putA vs cs = some r → vs ++ cs.drop vs.length = r
 | [], cs, r, h => by cases h; simp
 | _ :: _, [], _, h => by cases h
 | v :: vs, c :: cs, r, h => by
  unfold putA at h
  split at h
  ·
   rename_i r' hr
   cases h
   rw [List.length_cons, List.drop_succ_cons, List.cons_append, putA_eq hr]
  · cases h
theorem putO_eq {cs : List Value} {j : Nat} {vs r : List Value} (h : putO cs j vs = some r) : cs.take j ++ vs ++ cs.drop (j + vs.length) = r := by
 unfold putO at h
 induction j generalizing cs r with
 | zero => simpa using putA_eq h
 | succ j ih =>
  cases cs with
  | nil => cases h
  | cons c cs =>
   unfold putJ at h
   split at h
   ·
    rename_i r' hr
    cases h
    rw [List.take_succ_cons, show j + 1 + vs.length = (j + vs.length) + 1 by omega, List.drop_succ_cons, List.cons_append, List.cons_append, ih hr]
   · cases h
def lstO {α : Type} : List α → Option (List α)
 | [] => some []
 | x :: l => match lstO l with | some r => some (x :: r) | none => none
theorem lstO_eq {α : Type} : ∀ {l r : List α}, lstO l = some r → l = r
 | [], _, h => by cases h; rfl
 | x :: l, r, h => by
  unfold lstO at h
  split at h
  ·
   rename_i r' hr
   cases h
   rw [lstO_eq hr]
  · cases h
def fillO (size : Nat) (z : List Value) : Nat → List (Nat × Value) → Option (List Value)
 | n, [] => lstO (List.replicate n z).flatten
 | n, (i, v) :: vs => match fillO size z n vs with | some r => putO r (i * size) v.cells.toList | none => none
def bldO (zs : List Value) (offs : List Nat) : List (Nat × Value) → Option (List Value)
 | [] => some zs
 | (i, v) :: vs => match bldO zs offs vs, offs[i]? with | some r, some j => putO r j v.cells.toList | _, _ => none
section
variable {P : Program} {ops : Array Oper} {Q : Exit → Act → World → Prop} {X : Prop} {Next : Act → World → Prop} {o : Oper} {a : Act} {w w0 w1 : World} {N : Nat} {l : List (Nat × Value)} {d : Nat} {Z M J : Nat → Prop} {m : List Res} {ds : List Dat} {ps : List (World → Prop)} {rest : List Oper}
theorem sto {t : TypeId} {x y : Operand} {g j n : Nat} {e : TypeId} {cs cs' : List Value} {v : Value} (i : Nat) (hR : Reg a N l) (hS : St w0 Z M w m ds) (k : ∀ a' w', Reg a' N l → St w0 Z M w' (m.set i (.box g e cs')) ds → Next a' w')
  (hs : Ste P X Next o a w := by first | exact se | exact st_op rfl (want_n rfl) | exact st_list_w (wt ‹_›) | exact st_op rfl (wt ‹_›)) (hd : o.dst = none := by exact rfl) (ho : o.op = .store t x y := by exact rfl) (hx : ev l x = some (.pointer (some ⟨g, j, none⟩)) := by exact rfl) (hy : ev l y = some v := by exact rfl)
  (hi : m[i]? = some (.box g e cs) := by exact rfl) (hq : Siz P t n := by infer_instance) (hn : n = v.cells.toList.length := by exact rfl) (hone : v.cells.toList.all Value.oneCell' = true := by exact rfl) (hfit : decide (j + v.cells.toList.length ≤ cs.length) = true := by exact rfl) (hcs : putO cs j v.cells.toList = some cs' := by exact rfl) : X :=
 m_store hs hR hS hd ho hx hy hi (by rw [← hn]; exact hq.h) hone hfit (putO_eq hcs) k
theorem alc {e : TypeId} {z : Value} {cs : List Value} (hR : Reg a N l) (hS : St w0 Z M w m ds) (k : ∀ a' w' g, Reg a' N ((d, .pointer (some ⟨g, 0, none⟩)) :: l) → St w0 Z M w' (m ++ [.box g e cs]) ds → Next a' w')
  (hs : SteV P X Next o a w := by first | exact sv | exact st_opV rfl (want_n rfl) | exact st_listV_w (wt ‹_›) | exact st_opV rfl (wt ‹_›)) (hd : o.dst = some d := by exact rfl) (ho : o.op = .alloc e := by exact rfl) (hz : Zer P e z := by infer_instance) (hc : lstO z.cells.toList = some cs := by exact rfl) (hdN : d < N := by decide) : X :=
 m_alloc hs hR hS hd ho hz.h (lstO_eq hc) hdN k
theorem bxx {e : TypeId} {x : Operand} {v : Value} {cs : List Value} (hR : Reg a N l) (hS : St w0 Z M w m ds) (k : ∀ a' w' g, Reg a' N ((d, .pointer (some ⟨g, 0, none⟩)) :: l) → St w0 Z M w' (m ++ [.box g e cs]) ds → Next a' w')
  (hs : SteV P X Next o a w := by first | exact sv | exact st_opV rfl (want_n rfl) | exact st_listV_w (wt ‹_›) | exact st_opV rfl (wt ‹_›)) (hd : o.dst = some d := by exact rfl) (ho : o.op = .box e x := by exact rfl) (hx : ev l x = some v := by exact rfl) (hc : lstO v.cells.toList = some cs := by exact rfl) (hdN : d < N := by decide) : X :=
 m_box hs hR hS hd ho hx (lstO_eq hc) hdN k
theorem bsl {t e : TypeId} {n size : Nat} {vs : List (Nat × Value)} {z : Value} {bytes : Nat} {ps' : List (Nat × Operand)} {cs : List Value} (hR : Reg a N l) (hS : St w0 Z M w m ds)
  (k : ∀ a' w' g, Reg a' N ((d, .slice (some ⟨g, 0, none⟩) n n) :: l) → St w0 Z M w' (m ++ [.row (some ⟨g, 0, none⟩) n n e size cs]) ds → Next a' w')
  (hs : SteV P X Next o a w := by first | exact sv | exact st_opV rfl (want_n rfl) | exact st_listV_w (wt ‹_›) | exact st_opV rfl (wt ‹_›)) (hd : o.dst = some d := by exact rfl) (ho : o.op = .buildSlice t n ps'.toArray := by exact rfl) (hx : evp l ps' = some vs := by exact rfl) (ht : Slc P t e := by infer_instance) (hz : Zis P e z size bytes := by infer_instance)
  (hcs : fillO size z.cells.toList n vs = some cs := by exact rfl) (hn : decide (n * size ≤ 1000000) = true := by exact rfl) (hn1 : decide (n ≤ 1000000) = true := by exact rfl)
  (hf : Instr.fill (fun i => some (i * size, size)) ((Array.range (n * size)).map fun i => (if n * size = 0 then #[] else z.cells)[i % (if n * size = 0 then (#[] : Array Value) else z.cells).size]!) vs = some cs.toArray := by kernel_rfl) (hl : (cs.length == n * size) = true := by exact rfl) (hdN : d < N := by decide) : X :=
 m_buildSlice (ps := ps') (cs := cs) hs hR hS hd ho hx ht.h hz.h hn hn1 hf hl hdN k
theorem bld {t : TypeId} {vs : List (Nat × Value)} {zs cs : List Value} {offs : List Nat} {ps' : List (Nat × Operand)} (hR : Reg a N l) (k : ∀ a', Reg a' N ((d, .agg cs.toArray) :: l) → Next a' w)
  (hs : SteV P X Next o a w := by first | exact sv | exact st_opV rfl (want_n rfl) | exact st_listV_w (wt ‹_›) | exact st_opV rfl (wt ‹_›)) (hd : o.dst = some d := by exact rfl) (ho : o.op = .build t ps'.toArray := by exact rfl) (hx : evp l ps' = some vs := by exact rfl) (ht : Bld P t zs offs := by infer_instance) (hcs : bldO zs offs vs = some cs := by exact rfl)
  (hrun : ∀ w, (Instr.build t vs.toArray).run P w = .ok (.agg cs.toArray) w := by (intro _; kernel_rfl)) (hdN : d < N := by decide) : X :=
 m_build hs hR hd ho hx hrun hdN k
theorem bldY {t : TypeId} {vs : List (Nat × Value)} {zs cs : List Value} {offs : List Nat} {ps' : List (Nat × Operand)} (hR : Reg a N l) (ho : o.op = .build t ps'.toArray := by exact rfl) (hx : evp l ps' = some vs := by exact rfl) (ht : Bld P t zs offs := by infer_instance) (hcs : bldO zs offs vs = some cs := by exact rfl)
  (hrun : ∀ w, (Instr.build t vs.toArray).run P w = .ok (.agg cs.toArray) w := by (intro _; kernel_rfl)) : (execOp a.eval o).run P w = .ok (.value (.agg cs.toArray)) w := by
 have hm : ps'.toArray.map (fun (i, x) => (i, a.eval x)) = vs.toArray := by
  rw [← hR.evp hx]; simp
 unfold execOp; rw [ho]
 simp only [hm, Sem.run_bind, hrun, Result.andThen_ok, Sem.run_pure]
theorem ix {t : TypeId} {x y : Operand} {A : Option Addr} {n c size : Nat} {p : Int} {ki : IntKind} {e : TypeId} (i j : Nat) (hR : Reg a N l) (hA : A.isSome = true) (k : ∀ a', Reg a' N ((d, .pointer (eP A j)) :: l) → Next a' w)
  (hs : SteV P X Next o a w := by first | exact sv | exact st_opV rfl (want_n rfl) | exact st_listV_w (wt ‹_›) | exact st_opV rfl (wt ‹_›)) (hd : o.dst = some d := by exact rfl) (ho : o.op = .indexAddr t x y := by exact rfl) (hx : ev l x = some (.slice A n c) := by exact rfl) (hy : ev l y = some (.int ki p) := by exact rfl)
  (ht : Slc P t e := by infer_instance) (hsz : Siz P e size := by infer_instance) (hp : p = (i : Int) := by omega) (hi : i < n := by omega) (hj : i * size = j := by exact rfl) (hdN : d < N := by decide) : X :=
 m_index hs hR hd ho hx hy ht.h hsz.h hp hi hA hj hdN k
theorem lde {t : TypeId} {x : Operand} {A : Option Addr} {j : Nat} {vs : List Value} {v : Value} (i j0 : Nat) (hR : Reg a N l) (he : ElemAt w A j0 vs) (k : ∀ a', Reg a' N ((d, v) :: l) → Next a' w)
  (hs : SteV P X Next o a w := by first | exact sv | exact st_opV rfl (want_n rfl) | exact st_listV_w (wt ‹_›) | exact st_opV rfl (wt ‹_›)) (hd : o.dst = some d := by exact rfl) (ho : o.op = .load t x := by exact rfl) (hx : ev l x = some (.pointer (eP A j)) := by exact rfl)
  (hj : j = j0 + i := by exact rfl) (hv : vs[i]? = some v := by exact rfl) (ht : NAg P t := by infer_instance) (hdN : d < N := by decide) : X :=
 have ⟨_, h1, h2⟩ := ht.h
 m_loadE hs hR hd ho hx i j0 he hj hv h1 h2 hdN k
theorem adi {t u : TypeId} {x y : Operand} {p q : Int} (z : Int) (hR : Reg a N l) (k : ∀ a', Reg a' N ((d, .int .i64 z) :: l) → Next a' w)
  (hs : SteV P X Next o a w := by first | exact sv | exact st_opV rfl (want_n rfl) | exact st_listV_w (wt ‹_›) | exact st_opV rfl (wt ‹_›)) (hd : o.dst = some d := by exact rfl) (ho : o.op = .binOp .add t x y u := by exact rfl) (hx : ev l x = some (.int .i64 p) := by exact rfl) (hy : ev l y = some (.int .i64 q) := by exact rfl)
  (hdN : d < N := by decide) (hz : p + q = z := by omega) (h1 : -1000000000000000 ≤ z := by omega) (h2 : z ≤ 1000000000000000 := by omega) : X := r_add hs hR hd ho hx hy hdN hz h1 h2 k
theorem sbi {t u : TypeId} {x y : Operand} {p q : Int} (z : Int) (hR : Reg a N l) (k : ∀ a', Reg a' N ((d, .int .i64 z) :: l) → Next a' w)
  (hs : SteV P X Next o a w := by first | exact sv | exact st_opV rfl (want_n rfl) | exact st_listV_w (wt ‹_›) | exact st_opV rfl (wt ‹_›)) (hd : o.dst = some d := by exact rfl) (ho : o.op = .binOp .sub t x y u := by exact rfl) (hx : ev l x = some (.int .i64 p) := by exact rfl) (hy : ev l y = some (.int .i64 q) := by exact rfl)
  (hdN : d < N := by decide) (hz : p - q = z := by omega) (h1 : -1000000000000000 ≤ z := by omega) (h2 : z ≤ 1000000000000000 := by omega) : X := r_sub hs hR hd ho hx hy hdN hz h1 h2 k
theorem er1 {fn : Func} {R : Ending → World → Prop} {t : Nat} {v : Value} (hR : Reg a N l) (h : R (.returned v) w) (h0 : l.lookup 1000000 = some (.bool false) := by exact rfl) (hr : fn.results = #[.tmp t] := by exact rfl) (hv : ev l (.tmp t) = some v := by exact rfl) : bodyPost P fn R .ret a w := e_ret1 hR h0 hr hv h
theorem er2 {fn : Func} {R : Ending → World → Prop} {t u : Nat} {v v' : Value} (hR : Reg a N l) (h : R (.returned (.tuple #[v, v'])) w) (h0 : l.lookup 1000000 = some (.bool false) := by exact rfl) (hr : fn.results = #[.tmp t, .tmp u] := by exact rfl) (hv : ev l (.tmp t) = some v := by exact rfl) (hv' : ev l (.tmp u) = some v' := by exact rfl) : bodyPost P fn R .ret a w := e_ret2 hR h0 hr hv hv' h
theorem kcl {f : FuncId} {xs : List Operand} {ts : Array TypeId} {vs : List Value} {R : Ending → World → Prop} (hR : Reg a N l) (hf : FOK P f) (hc : Calls P f vs.toArray w R) (k : ∀ e w', R e w' → ∃ v, e = .returned v ∧ ∀ a', Reg a' N ((d, v) :: l) → Next a' w')
  (hs : Ste P X Next o a w := by first | exact se | exact st_op rfl (want_n rfl) | exact st_list_w (wt ‹_›) | exact st_op rfl (wt ‹_›)) (hd : o.dst = some d := by exact rfl) (ho : o.op = .call { callee := .value (.func f), args := xs.toArray, argTypes := ts } := by exact rfl) (hx : evs l xs = some vs := by exact rfl) (hdN : d < N := by decide) : X := k_call hs hR hd ho hx hdN hf hc k
section
variable {S : World → Prop} {oi : Oper} {fuel : Nat} {listed : Array Bool}
theorem dix {t : TypeId} {x y : Operand} {A : Option Addr} {n c size : Nat} {p : Int} {ki : IntKind} {e : TypeId} (q i j : Nat) (hR : Reg a N l) (hA : ∀ x, sW w1 J ps x → A.isSome = true) (k : ∀ a', Reg a' N ((d, .pointer (eP A j)) :: l) → wpAnyH P .any ops Q (sW w1 J ps) fuel (listed.setIfInBounds q true) a' w) (hP : PanOK Q := by assumption) (hS : sW w1 J ps w := by assumption)
  (hi : ops[q]? = some oi := by exact rfl) (hd : oi.dst = some d := by exact rfl) (ho : oi.op = .indexAddr t x y := by exact rfl) (hx : ev l x = some (.slice A n c) := by exact rfl) (hy : ev l y = some (.int ki p) := by exact rfl)
  (hw : Region.wanted oi (yielded ops a.tmps) = true := by first | exact want_n rfl | exact wt ‹_›) (ht : Slc P t e := by infer_instance) (hsz : Siz P e size := by infer_instance) (hp : p = (i : Int) := by omega) (hin : i < n := by omega) (hj : i * size = j := by exact rfl) (hdN : d < N := by decide) (hne : d ≠ 1000000 := by decide)
  (hs : Region.noSelect ops = true := by kernel_rfl) (hf : Region.free .any ops listed q = true := by kernel_rfl) (hr : (Region.ready .any ops listed).contains q = true := by kernel_rfl) : wpAnyH P .any ops Q (sW w1 J ps) (fuel + 1) listed a w :=
 dt q hi hP hR hw (fun y hy' => m_index (sy hR hd hdN) hR hd ho hx hy ht.h hsz.h hp hin (hA y hy') hj hdN (gt hne)) hS k hd hdN hs hf hr
theorem dle {t : TypeId} {x : Operand} {A : Option Addr} {j : Nat} {vs : List Value} {v : Value} (q i j0 : Nat) (hR : Reg a N l) (he : ∀ x, sW w1 J ps x → ElemAt x A j0 vs) (k : ∀ a', Reg a' N ((d, v) :: l) → wpAnyH P .any ops Q (sW w1 J ps) fuel (listed.setIfInBounds q true) a' w) (hP : PanOK Q := by assumption) (hS : sW w1 J ps w := by assumption)
  (hi : ops[q]? = some oi := by exact rfl) (hd : oi.dst = some d := by exact rfl) (ho : oi.op = .load t x := by exact rfl) (hx : ev l x = some (.pointer (eP A j)) := by exact rfl)
  (hw : Region.wanted oi (yielded ops a.tmps) = true := by first | exact want_n rfl | exact wt ‹_›) (hj : j = j0 + i := by exact rfl) (hv : vs[i]? = some v := by exact rfl) (ht : NAg P t := by infer_instance) (hdN : d < N := by decide) (hne : d ≠ 1000000 := by decide)
  (hs : Region.noSelect ops = true := by kernel_rfl) (hf : Region.free .any ops listed q = true := by kernel_rfl) (hr : (Region.ready .any ops listed).contains q = true := by kernel_rfl) : wpAnyH P .any ops Q (sW w1 J ps) (fuel + 1) listed a w :=
 have ⟨_, h1, h2⟩ := ht.h
 dt q hi hP hR hw (fun y hy' => m_loadE (sy hR hd hdN) hR hd ho hx i j0 (he y hy') hj hv h1 h2 hdN (gt hne)) hS k hd hdN hs hf hr
theorem dta {late : List Nat} {v : Value} (i : Nat) (hi : ops[i]? = some oi) (hP : PanOK Q) (hR : Reg a N l) (hw : Region.wanted oi (yielded ops a.tmps) = true) (hy : ∀ x, (execOp a.eval oi).run P x = .ok (.value v) x) (h : ∀ a', Reg a' N ((d, v) :: l) → wpAnyL P ops Q S late fuel (listed.setIfInBounds i true) a' w)
  (hd : oi.dst = some d := by exact rfl) (hdN : d < N := by decide) (hs : Region.noSelect ops = true := by kernel_rfl) (hf : Region.free .any ops listed i = true := by kernel_rfl) (hr : (Region.ready .any ops listed).contains i = true := by kernel_rfl) : wpAnyL P ops Q S late (fuel + 1) listed a w :=
 dl_takeA hi hs hf hr (fun c a w h => hP c _ _ _ _ h) hd hdN hR hw hy h
theorem dtv {late : List Nat} {v : Value} (i : Nat) (hP : PanOK Q) (hR : Reg a N l) (h : ∀ a', Reg a' N ((d, v) :: l) → wpAnyL P ops Q S late fuel (listed.setIfInBounds i true) a' w)
  (hi : ops[i]? = some oi := by exact rfl) (hv : pv l oi.op = some v := by exact rfl) (hw : Region.wanted oi (yielded ops a.tmps) = true := by first | exact want_n rfl | exact wt ‹_›) (hd : oi.dst = some d := by exact rfl) (hdN : d < N := by decide) (hs : Region.noSelect ops = true := by kernel_rfl) (hf : Region.free .any ops listed i = true := by kernel_rfl) (hr : (Region.ready .any ops listed).contains i = true := by kernel_rfl) : wpAnyL P ops Q S late (fuel + 1) listed a w :=
 dta i hi hP hR hw (pv_run hR hv) h hd hdN hs hf hr
theorem dlt {late : List Nat} {v : Value} (i : Nat) (hi : ops[i]? = some oi) (hP : PanOK Q) (hR : Reg a N l) (hw : Region.wanted oi (yielded ops a.tmps) = true) (hy : ∀ x, S x → (execOp a.eval oi).run P x = .ok (.value v) x) (hS : S w) (h : ∀ a', Reg a' N ((d, v) :: l) → wpAnyL P ops Q S late fuel (listed.setIfInBounds i true) a' w)
  (hd : oi.dst = some d := by exact rfl) (hdN : d < N := by decide) (hs : Region.noSelect ops = true := by kernel_rfl) (hf : Region.free .any ops listed i = true := by kernel_rfl) (hr : (Region.ready .any ops listed).contains i = true := by kernel_rfl) (hl : waits ops late i = true := by kernel_rfl) : wpAnyL P ops Q S late (fuel + 1) listed a w :=
 dl_take hi hs hf hr hl (fun c a w h => hP c _ _ _ _ h) hd hdN hR hw hy hS h
end
theorem St.el {t : List Sl} (h : St w0 Z M w m ds) (i k : Nat) (hi : ds[i]? = some (dAll t) := by exact rfl) (hk : k < t.length := by omega) : St w0 Z M w m (ds ++ [dRow 4 (nthS t k).1 (nthS t k).2.2.length (nthS t k).2.1 (encNs (nthS t k).2.2)]) := h.data _ (all_at (h.get hi) hk)
theorem St.elT {t : List Tl} (h : St w0 Z M w m ds) (i k : Nat) (hi : ds[i]? = some (dAllT t) := by exact rfl) (hk : k < t.length := by omega) : St w0 Z M w m (ds ++ [dRow 1 (nthT t k).1 (nthT t k).2.2.length (nthT t k).2.1 (encSs (nthT t k).2.2)]) := h.data _ (allT_at (h.get hi) hk).1
theorem St.elA {t : List Tl} (h : St w0 Z M w m ds) (i k : Nat) (hi : ds[i]? = some (dAllT t) := by exact rfl) (hk : k < t.length := by omega) : St w0 Z M w m (ds ++ [dAll (nthT t k).2.2]) := h.data _ (allT_at (h.get hi) hk).2
theorem St.pub {A : Option Addr} {n cap e size : Nat} {xs : List Value} (h : St w0 Z none_ w m ds) (i : Nat) (D : Dat) (hi : m[i]? = some (.row A n cap e size xs) := by exact rfl) (hD : D = dRow size A n cap xs := by exact rfl) : St w0 Z none_ w (m.eraseIdx i) (ds ++ [D]) := by
 obtain ⟨h1, h2⟩ := h.row_data hi (fun _ h => h)
 subst hD
 exact h1.data _ ⟨own_cap (h.res hi), h2⟩
end
end
section
/- Rows of truths. -/
open Go Go.RowKit
def encB (b : Bool) : List Value := [.bool b]
def encBs (l : List Bool) : List Value := l.flatMap encB
def nthB (t : List Bool) (k : Nat) : Bool := t.getD k false
theorem encB_len (b : Bool) : (encB b).length = 1 := rfl
section
variable {w : World} {I : Nat → Prop} {A : Option Addr} {k cap e : Nat}
theorem bs_elem {t : List Bool} (h : RowI w I 1 A t.length (encBs t)) (hk : k < t.length) : ElemAt w A (k * 1) (encB (nthB t k)) := by
 have := h.elem hk
 rwa [show (encBs t) = t.flatMap encB from rfl, enc_at encB_len t k hk false] at this
end
end
section
/- What makers make, behind an error nothing. -/
open Go Go.RowKit
def noL (e : Int) (n : Nd) (p : List (List Nd)) : List Nd := if e = 0 then p.flatten ++ [n] else []
def upL (e : Int) (t : List Nd) (n k : Int) : List Nd := if e = 0 then sfA t n k else []
def upE (e : Int) (t : List Nd) (n k : Int) : Int := if e = 0 then sfE t n k else e
def inL (e : Int) (t : List Nd) (l : List (List Nd)) : List Nd := if e = 0 then inA t l else []
def inQ (e : Int) (t : List Nd) (l : List (List Nd)) : Int := if e = 0 then inE t l else e
def caL (e : Int) (a b t : List Nd) : List Nd := noL e ⟨20, 0, 0, ⟨#[]⟩⟩ [a, b, noL e ⟨29, 0, 0, ⟨#[]⟩⟩ [], t]
def bandI (n : Int) (k : Nat) : Int := ((n.toNat &&& k : Nat) : Int)
def plL (e m : Int) (t : List Nd) : List Nd := if 0 < bandI m 2 then noL e ⟨29, 0, 0, ⟨#[]⟩⟩ [] else t
theorem run_andI {P : Program} {w : World} {t : TypeId} {n : Int} {b : Nat} (h0 : 0 ≤ n) (hn : n < 1000) (hb : b < 1000) : (Go.binOp .and t (.int .i64 n) (.int .i64 (b : Int))).run P w = .ok (.int .i64 (bandI n b)) w := by
 have h := run_and64 (P := P) (w := w) (t := t) (a := n.toNat) (b := b) (by omega) (by omega)
 rw [Int.toNat_of_nonneg h0] at h
 exact h
theorem noL_len {e : Int} {n : Nd} {p : List (List Nd)} : (noL e n p).length ≤ p.flatten.length + 1 := by
 unfold noL
 split <;> simp
theorem noL_sml {e : Int} {n : Nd} {p : List (List Nd)} (hn : n.S.size < 1000000) (hp : ∀ x ∈ p, sml x) : sml (noL e n p) := by
 rw [sml_mem]
 unfold noL
 split
 ·
  intro m hm
  rcases List.mem_append.1 hm with h | h
  ·
   obtain ⟨x, hx, h⟩ := List.mem_flatten.1 h
   exact sml_mem.1 (hp x hx) m h
  ·
   simp only [List.mem_singleton] at h
   rw [h]; exact hn
 · intro m hm; simp at hm
theorem upL_sml {e : Int} {t : List Nd} {n k : Int} (h : sml t) : sml (upL e t n k) := by
 unfold upL
 split
 · exact sfA_sml h
 · intro k hk; simp at hk
theorem upL_len {e : Int} {t : List Nd} {n k : Int} : (upL e t n k).length ≤ t.length := by
 unfold upL
 split
 · exact sfA_len _ _ _
 · simp
theorem inL_sml {e : Int} {t : List Nd} {l : List (List Nd)} (h : sml t) (hl : ∀ x ∈ l, sml x) : sml (inL e t l) := by
 unfold inL
 split
 · exact inA_sml h hl
 · intro k hk; simp at hk
theorem inL_len {e : Int} {t : List Nd} {l : List (List Nd)} : (inL e t l).length ≤ 4000 := by
 unfold inL
 split
 · exact inA_len _ _
 · simp
theorem plL_len {e m : Int} {t : List Nd} : (plL e m t).length ≤ t.length + 1 := by
 unfold plL
 split
 ·
  have h1 : (noL e ⟨29, 0, 0, ⟨#[]⟩⟩ []).length ≤ 1 := noL_len
  omega
 · omega
theorem plL_sml {e m : Int} {t : List Nd} (h : sml t) : sml (plL e m t) := by
 unfold plL
 split
 · exact noL_sml (by decide) (by intro x hx; cases hx)
 · exact h
section
variable {r : List Nd} {e : Int}
theorem upZ {t : List Nd} {n k : Int} (h : r = upL e t n k) (hs : sml t) : r.length ≤ t.length ∧ sml r := by rw [h]; exact ⟨upL_len, upL_sml hs⟩
theorem inZ {t : List Nd} {l : List (List Nd)} (h : r = inL e t l) (hs : sml t) (hl : ∀ x ∈ l, sml x) : r.length ≤ 4000 ∧ sml r := by rw [h]; exact ⟨inL_len, inL_sml hs hl⟩
theorem plZ {m : Int} {t : List Nd} (h : r = plL e m t) (hs : sml t) : r.length ≤ t.length + 1 ∧ sml r := by rw [h]; exact ⟨plL_len, plL_sml hs⟩
theorem noZ2 {n : Nd} {A B : Option Addr} {c d : Nat} {a b : List Nd} (h : r = noL e n (lsts [((A, c, a) : Sl), ((B, d, b) : Sl)])) (hn : n.S.size < 1000000) (ha : sml a) (hb : sml b) : r.length ≤ a.length + b.length + 1 ∧ sml r := by
 rw [h, show lsts [((A, c, a) : Sl), ((B, d, b) : Sl)] = [a, b] from rfl]
 refine ⟨?_, noL_sml hn (by intro x hx; simp only [List.mem_cons, List.not_mem_nil, or_false] at hx; rcases hx with rfl | rfl; exact ha; exact hb)⟩
 have h1 : (noL e n [a, b]).length ≤ _ := noL_len
 simpa using h1
end
theorem many_3 {n : Nd} (h : n.K = 3) : many n = 2 := by simp [many, binds, h, shp]
def piE1 (e : Int) (q : List (List Nd)) : Int := upE e (nthL q 0) 1 0
def piE2 (e : Int) (p q : List (List Nd)) : Int := upE (piE1 e q) (nthL p 0) 1 0
def piY (e : Int) (p q : List (List Nd)) (m : Int) : List Nd := plL (piE2 e p q) m (caL (piE2 e p q) (upL e (nthL q 0) 1 0) (upL (piE1 e q) (nthL p 0) 1 0) (noL (piE2 e p q) ⟨0, 0, 0, ⟨#[]⟩⟩ []))
def piE3 (e : Int) (p q : List (List Nd)) (t : List Nd) : Int := upE (piE2 e p q) t 1 0
def piG (e : Int) (p q : List (List Nd)) (t : List Nd) (m : Int) : List Nd := noL (piE3 e p q t) ⟨5, 0, 0, ⟨#[]⟩⟩ [upL (piE2 e p q) t 1 0, piY e p q m]
def piE4 (e : Int) (p q : List (List Nd)) (t : List Nd) : Int := upE (piE3 e p q t) (nthL p 1) 1 1
def piU (e : Int) (p q : List (List Nd)) (t : List Nd) : List Nd := upL (piE3 e p q t) (nthL p 1) 1 1
def piE5 (e : Int) (p q : List (List Nd)) (t : List Nd) (m : Int) : Int := inQ (piE4 e p q t) (piU e p q t) [piY e p q m]
def piL (e : Int) (p q : List (List Nd)) (t : List Nd) (m : Int) : List Nd := noL (piE5 e p q t m) ⟨4, 0, 0, ⟨#[]⟩⟩ [nthL q 0, caL (piE5 e p q t m) (inL (piE4 e p q t) (piU e p q t) [piY e p q m]) (nthL q 1) (piG e p q t m)]
def sgF (e : Int) (t : List Nd) (m : Int) : List Nd := plL e m (noL e ⟨8, 0, 0, ⟨#[]⟩⟩ [t])
def sgC (e : Int) (p q : List (List Nd)) (t : List Nd) (m : Int) : List Nd := plL e m (caL e (nthL p 0) (nthL q 0) (sgF e t m))
def sgE1 (e : Int) (p : List (List Nd)) (t : List Nd) (m : Int) : Int := inQ e (nthL p 1) [sgF e t m]
def sgE2 (e : Int) (p q : List (List Nd)) (t : List Nd) (m : Int) : Int := inQ (sgE1 e p t m) (nthL q 1) [sgC e p q t m]
def sgS (e : Int) (p q : List (List Nd)) (t : List Nd) (m : Int) : List Nd := caL (sgE2 e p q t m) (inL e (nthL p 1) [sgF e t m]) (inL (sgE1 e p t m) (nthL q 1) [sgC e p q t m]) (noL (sgE2 e p q t m) ⟨9, 0, 0, ⟨#[]⟩⟩ [t])
def sgE (e : Int) (p q : List (List Nd)) (t : List Nd) (m : Int) : Int := if bandI m 1 = 0 then sgE2 e p q t m else e
def sgL (e : Int) (p q : List (List Nd)) (b t : List Nd) (m : Int) : List Nd := noL (sgE e p q t m) ⟨7, 0, 0, ⟨#[]⟩⟩ [b, sgC e p q t m, if bandI m 1 = 0 then sgS e p q t m else noL e ⟨29, 0, 0, ⟨#[]⟩⟩ []]
def quL (e : Int) (a b t : List Nd) : List Nd := noL e (nth t (t.length - 1)) [b, caL e (nthL (agA a) 0) (nthL (agA b) 0) (nthL (agA t) 1)]
def crQ (a b t : List Nd) : Option (List Nd × Int) :=
 if (nth t (t.length - 1)).K = 29 then some (noL 0 ⟨29, 0, 0, ⟨#[]⟩⟩ [], 0)
 else if nth b (b.length - 1) = nth a (a.length - 1) then
  (if (nth a (a.length - 1)).K = 10 ∨ (nth a (a.length - 1)).K = 2 ∨ (nth a (a.length - 1)).K = 25 then some (t, 0)
  else if (nth a (a.length - 1)).K = 3 ∧ bandI (nth a (a.length - 1)).N 1 = 0 then some (piL 0 (agA a) (agA b) t (nth a (a.length - 1)).N, piE5 0 (agA a) (agA b) t (nth a (a.length - 1)).N)
  else if (nth a (a.length - 1)).K = 6 ∧ (nth a (a.length - 1)).N < 3 then some (sgL 0 (agA a) (agA b) b t (nth a (a.length - 1)).N, sgE 0 (agA a) (agA b) t (nth a (a.length - 1)).N)
  else if (nth a (a.length - 1)).K = 22 ∧ (nth t (t.length - 1)).K = 23 then some (quL 0 a b t, 0) else none)
 else none
def crC (a b t : List Nd) : Int := if ¬ chk a = 0 then chk a else if ¬ chk b = 0 then chk b else chk t
def crA (a b t : List Nd) : List Nd := if ¬ crC a b t = 0 then [] else match crQ a b t with
 | none => []
 | some (x, e) => if (if e = 0 then chk x else e) = 0 then x else []
end
section
/- Terms that are built of parts: whether they are terms, what their parts are, and which errors there may be. -/
theorem chk_meas {t : List Nd} (h : measB t = true) : chk t = 0 ∨ chk t = 21 ∨ chk t = 22 := by
 by_cases hl : t.length ≤ 4000
 ·
  by_cases hd : 60 < (nthM (measL t) ((measL t).length - 1)).2
  · exact .inr (.inr (chk_deep hl h hd))
  · exact .inl (chk_good hl h hd)
 · exact .inr (.inl (chk_size (by omega)))
def dpL (t : List Nd) : Nat := (treeOf t).deep
theorem chk_le {t : List Nd} (h : chk t = 0) : t.length ≤ 4000 := (treeOf_ok h).2.2.2
theorem built {n : Nd} {p : List (List Nd)} (hr : right n = true) (hm : many n = p.length) (hp : ∀ x ∈ p, measB x = true) :
  measB (p.flatten ++ [n]) = true ∧ treeOf (p.flatten ++ [n]) = .mk n (p.map treeOf) ∧ ptL (p.flatten ++ [n]) = p ∧ nth (p.flatten ++ [n]) ((p.flatten ++ [n]).length - 1) = n := by
 have e1 : (p.map treeOf).map T.flat = p := by
  rw [List.map_map]
  have : p.map (T.flat ∘ treeOf) = p.map id := List.map_congr_left fun x hx => (treeOf_meas (hp x hx)).2
  rw [this, List.map_id]
 have e2 : T.flats (p.map treeOf) = p.flatten := by rw [← flats_flatten, e1]
 have hw : (T.mk n (p.map treeOf)).wf = true := by
  rw [T.wf_mk]
  simp only [Bool.and_eq_true, beq_iff_eq, List.length_map]
  refine ⟨⟨hr, hm⟩, (T.wfs_iff _).2 ?_⟩
  intro t ht
  obtain ⟨x, hx, rfl⟩ := List.mem_map.1 ht
  exact (treeOf_meas (hp x hx)).1
 have e3 : (T.mk n (p.map treeOf)).flat = p.flatten ++ [n] := by rw [T.flat_mk, e2]
 have e4 : treeOf (p.flatten ++ [n]) = .mk n (p.map treeOf) := by rw [← e3, treeOf_flat hw]
 refine ⟨by rw [← e3]; exact meas_flat hw, e4, ?_, ?_⟩
 ·
  unfold ptL
  rw [e4]
  exact e1
 · simp [nth]
def GE (e : Int) : Prop := e = 0 ∨ e = 2 ∨ e = 21 ∨ e = 22
theorem GE.zero : GE 0 := .inl rfl
theorem GE.meas {t : List Nd} (h : measB t = true) : GE (chk t) := by
 rcases chk_meas h with q | q | q
 · exact .inl q
 · exact .inr (.inr (.inl q))
 · exact .inr (.inr (.inr q))
theorem up_zero {e : Int} {t : List Nd} {n k : Int} (h : upE e t n k = 0) : e = 0 ∧ sfE t n k = 0 := by
 unfold upE at h
 by_cases he : e = 0
 · rw [if_pos he] at h; exact ⟨he, h⟩
 · rw [if_neg he] at h; exact absurd h he
theorem up_G {e : Int} {t : List Nd} {n k : Int} (he : GE e) (hc : e = 0 → chk t = 0) (hn : 0 ≤ n) : GE (upE e t n k) := by
 unfold upE
 split
 ·
  rename_i h0
  rcases sf_max (f := k) (hc h0) hn with q | q
  · exact .inl q
  · exact .inr (.inl q)
 · exact he
theorem upL_zero {t : List Nd} {n k : Int} : upL 0 t n k = sfA t n k := if_pos rfl
theorem up_meas {e : Int} {t : List Nd} {n k : Int} (h : upE e t n k = 0) : chk (upL e t n k) = 0 := by
 obtain ⟨h0, h1⟩ := up_zero h
 rw [h0, upL_zero]
 exact sf_chk h1
theorem in_zero {e : Int} {t : List Nd} {l : List (List Nd)} (h : inQ e t l = 0) : e = 0 ∧ inE t l = 0 := by
 unfold inQ at h
 by_cases he : e = 0
 · rw [if_pos he] at h; exact ⟨he, h⟩
 · rw [if_neg he] at h; exact absurd h he
theorem ck_G {L : List (List Nd)} (h : ∀ x ∈ L, measB x = true) : GE (ckE L) := by
 induction L with
 | nil => exact .inl rfl
 | cons x L ih =>
  simp only [ckE]
  split
  · exact ih (fun y hy => h y (by simp [hy]))
  · exact GE.meas (h x (by simp))
theorem ck_oks {L : List (List Nd)} (h : ckE L = 0) : oks L := by
 induction L with
 | nil => intro p hp; cases hp
 | cons x L ih =>
  simp only [ckE] at h
  by_cases hc : chk x = 0
  ·
   rw [if_pos hc] at h
   intro p hp
   rcases List.mem_cons.1 hp with rfl | hp
   · exact hc
   · exact ih h p hp
  · rw [if_neg hc] at h; exact absurd h hc
theorem po_meas {t : List Nd} {l : List (List Nd)} (hc : chk t = 0) (h : trEL (puV 0 l) t 0 = 0) : measB (trL (puV 0 l) t 0) = true := by
 unfold trL
 rw [if_pos h]
 exact meas_flat (tr_wf (puV_wf (Int.le_refl _)) (treeOf t) 0 (treeOf_meas (meas_chk hc)).1 (Int.le_refl _) h)
theorem po_G {t : List Nd} {l : List (List Nd)} (hc : chk t = 0) (hl : oks l) : GE (poE t 0 l) := by
 by_cases h : trEL (puV 0 l) t 0 = 0
 ·
  rw [(po_chk h).1]
  exact GE.meas (po_meas hc h)
 ·
  rw [(po_err h).1]
  rcases pu_only hl (treeOf t) 0 (Int.le_refl _) with q | q
  · exact .inl q
  · exact .inr (.inl q)
theorem in_E {t : List Nd} {l : List (List Nd)} (h : ∀ x ∈ t :: l, measB x = true) : GE (inE t l) := by
 by_cases hc : ckE (t :: l) = 0
 ·
  rw [(in_ok hc).1]
  have ho := ck_oks hc
  exact po_G (ho t (by simp)) (fun p hp => ho p (by simp [hp]))
 ·
  rw [(in_err hc).1]
  exact ck_G h
theorem in_G {e : Int} {t : List Nd} {l : List (List Nd)} (he : GE e) (h : e = 0 → ∀ x ∈ t :: l, measB x = true) : GE (inQ e t l) := by
 unfold inQ
 split
 · rename_i h0; exact in_E (h h0)
 · exact he
theorem inL_zero {t : List Nd} {l : List (List Nd)} : inL 0 t l = inA t l := if_pos rfl
theorem ag_part {t : List Nd} (hc : chk t = 0) {k : Nat} (hk : k < many (nth t (t.length - 1))) : chk (nthL (agA t) k) = 0 ∧ nthL (agA t) k ∈ agA t := by
 have hb := meas_chk hc
 rw [agA_ok hc]
 have hm := nthL_mem (l := ptL t) (k := k) (by rw [ptL_length hb]; exact hk)
 exact ⟨ptL_chk hc hm, hm⟩
theorem ag_sml {t : List Nd} (hs : sml t) : ∀ x ∈ agA t, sml x ∧ x.length ≤ t.length := by
 intro x hx
 by_cases hc : chk t = 0
 ·
  rw [agA_ok hc] at hx
  obtain ⟨_, h2, h3⟩ := ptL_mem (meas_chk hc) hx
  exact ⟨sml_sub hs h3, by omega⟩
 · rw [agA_no hc] at hx; cases hx
end
section
/- What the rule for a cast comes to, by its cases. -/
section
variable {a b t : List Nd}
theorem cr_mark {a : List Nd} (hc : chk a = 0) (hk : (nth a (a.length - 1)).K = 3 ∨ (nth a (a.length - 1)).K = 6) : 0 ≤ (nth a (a.length - 1)).N ∧ (nth a (a.length - 1)).N < 4 := by
 have hr := right_at (meas_chk hc) (show a.length - 1 < a.length by have := chk_pos hc; omega)
 rw [right_pi hk, decide_eq_true_eq] at hr
 omega
end
section
variable {a b t : List Nd} (hsa : sml a) (hsb : sml b) (hst : sml t) (hla : a.length ≤ 5000) (hlb : b.length ≤ 5000) (hlt : t.length ≤ 5000)
include hsa hsb hst hla hlb hlt
end
end
section
/- What a cast comes to: its errors, and its parts. -/
section
variable {a b t : List Nd} (ha : chk a = 0) (hb : chk b = 0) (ht : chk t = 0)
include ha hb ht
end
def grB (e : Int) : Bool := (decide (e = 2) || decide (e = 21)) || decide (e = 22)
end
section
/- What a pair is cast to. -/
mutual
theorem moT_le (k : Int) : ∀ (x : T) (u : Int), x.wf = true → 0 ≤ u → moT k u x ≤ 99
 | .mk n l, u, hw, hu => by
  obtain ⟨h1, _, h3⟩ := wf_parts hw
  simp only [moT]
  split
  ·
   rename_i hk
   obtain ⟨_, _, h5⟩ := var_node h1 hk
   split <;> omega
  · exact moTs_le k l _ h3 (ubinds hu)
theorem moTs_le (k : Int) : ∀ (l : List T) (us : List Int), T.wfs l = true → (∀ v ∈ us, 0 ≤ v) → moTs k l us ≤ 99
 | [], us, _, _ => by simp [moTs]
 | y :: l, [], _, _ => by simp [moTs]
 | y :: l, u :: us, hw, hu => by
  obtain ⟨h1, h2⟩ := wf_cons hw
  simp only [moTs]
  have := moT_le k y u h1 (hu u (by simp))
  have := moTs_le k l us h2 (fun v hv => hu v (by simp [hv]))
  omega
end
theorem moL_bd {t : List Nd} (h : measB t = true) (k : Int) : -1 ≤ moL t k 0 ∧ moL t k 0 ≤ 99 := ⟨moT_ge _ _ _, moT_le _ _ _ (treeOf_meas h).1 (Int.le_refl _)⟩
def frF (t : List Nd) : Int := if chk t = 0 then moL t (-1) 0 + 1 else 0
def PQ (x : List Nd) : Prop := heavyB 100 x = false ∧ chk x = 0 ∧ dpL x ≤ 25
section
variable {m : Nat} {a b c d t : List Nd} (hm : m < 3) (ha : PQ a) (hb : PQ b) (hc : PQ c) (hd : PQ d) (ht : PQ t) (h29 : ¬ (nth t (t.length - 1)).K = 29)
include hm ha hb hc hd ht h29
end
end
section
/- What a redex comes to (eliminators of inductive types aside); which kind an argument's type is of. -/
def ownL (s : ByteArray) : List Nd := [⟨25, 0, 0, s⟩]
def kdA (s : ByteArray) (t : List Nd) : Int := if ¬ chk t = 0 then 0 else if t = ownL s then 1 else if (nth t (t.length - 1)).K = 3 ∧ nthL (agA t) 1 = ownL s then 2 else 0
section
variable {k m : Nat} {t : List Nd} {a b : ByteArray} (hm : m < 4) (ht : chk t = 0) (hd : dpL t ≤ 50) (hl : t.length ≤ 200) (ha : nameOk a = true)
include hm ht hd hl ha
end
end
section
/- What the walks of redexes ask: parts of roots, sizes, strings. -/
theorem ag_nth {t : List Nd} {Ls : List Sl} {k : Nat} (hc : chk t = 0) (hL : lsts Ls = agA t) (hs : sml t) (hk : k < many (nth t (t.length - 1))) : (nthS Ls k).2.2.length ≤ 4000 ∧ sml (nthS Ls k).2.2 ∧ chk (nthS Ls k).2.2 = 0 := by
 obtain ⟨h1, h2⟩ := ag_part hc hk
 obtain ⟨h3, h4⟩ := ag_sml hs _ h2
 rw [lsts_nth, hL]
 exact ⟨chk_le h1, h3, h1⟩
end
section
/- Redexes of pairs, of functions, of numbers. -/
def PU (x : List Nd) : Prop := chk x = 0 ∧ dpL x ≤ 50
section
variable {s a b : List Nd} (hs : PU s) (ha : PU a) (hb : PU b) (hls : s.length ≤ 120) (hla : a.length ≤ 120) (hlb : b.length ≤ 120)
include hs ha hb hls hla hlb
end
end
section
/- Eliminators of constructors: what their rule says where no argument has a hypothesis. -/
open Go Go.RowKit
def ofN (n : Nd) (p : List (List Nd)) : List Nd := p.flatten ++ [n]
def PE (x : List Nd) : Prop := chk x = 0 ∧ dpL x ≤ 30
section
variable {m c : List Nd} {q : List (List Nd)} {s : ByteArray} (hm : PE m) (hlm : m.length ≤ 120) (hc : PE c) (hlc : c.length ≤ 120) (hq : ∀ x ∈ q, PE x ∧ x.length ≤ 120) (h6 : q.length ≤ 6) (hs : nameOk s = true)
def elT (m c : List Nd) (q : List (List Nd)) (s : ByteArray) : List Nd := ofN ⟨27, 0, 1, s⟩ [m, c, ofN ⟨26, 0, (q.length : Int), s⟩ q]
include hm hlm hc hlc hq h6 hs
end
end
section
/- Iterators that change a box of their caller's between the rounds, and hand over rows that they have made. -/
open Go Go.RowKit
structure Hnd (β : Type) where
 el : Nat
 sz : Nat
 enc : List β → List Value
section
variable {I0 : Nat → Prop} {W W' w w0 wl : World} {m m' m0 : List Res} {ds ds' : List Dat} {Z M : Nat → Prop} {g : Nat}
end
section
variable {P : Program}
end
section
variable {β : Type} {P : Program} {ops : Array Oper} {Q : Exit → Act → World → Prop} {rest : List Oper} {o : Oper} {a : Act} {w w0 : World} {N : Nat} {ls : List (Nat × Value)} {d : Nat} {m : List Res} {ds ds0 : List Dat} {jf jx : JF (List β)} {H : Hnd β} {xl : List (List β)} {C0 M0 Zd : Nat → Prop} {g : Nat} {t : TypeId} {c0 cE : List Value} {cell : List (List β) → List Value}
end
theorem St.box_dataX {w0 w : World} {Z : Nat → Prop} {m : List Res} {ds : List Dat} {g0 : Nat} (h : St w0 Z (· = g0) w m ds) {i : Nat} {g : Nat} {t : TypeId} {cs : List Value} (hi : m[i]? = some (.box g t cs)) {j : Nat} {t' : TypeId} {cs' : List Value} (hj : m[j]? = some (.box g0 t' cs')) (hij : i ≠ j) :
  St w0 Z (· = g0) w (m.eraseIdx i) ds ∧ (dBox g cs).φ w (imm Z w0 (m.eraseIdx i) w) := by
 refine ⟨h.drop _ (List.eraseIdx_sublist m i), ⟨(h.own _ (List.mem_of_getElem? hi) g rfl).1, fun hlt => ?_, fun r hmem e => ?_⟩, box_cells (h.res hi)⟩
 ·
  rcases (h.own _ (List.mem_of_getElem? hi) g rfl).2 with h1 | h1
  ·
   have hlt' : g < w0.heap.size := hlt
   omega
  ·
   have hb : g = g0 := h1
   subst hb
   exact absurd rfl (apart_get h.apart hij hi hj rfl)
 obtain ⟨j', hj'⟩ := List.mem_iff_getElem?.1 hmem
 rw [List.getElem?_eraseIdx] at hj'
 by_cases hji : j' < i
 ·
  rw [if_pos hji] at hj'
  exact apart_get h.apart (by omega : j' ≠ i) hj' hi e rfl
 ·
  rw [if_neg hji] at hj'
  exact apart_get h.apart (by omega : j' + 1 ≠ i) hj' hi e rfl
end
section
/- Hypotheses of an eliminator: what they are. -/
open Go Go.RowKit
section
variable {n : Nd} {p T Q : List (List Nd)} {e : Int}
theorem kd_two {s : ByteArray} {t : List Nd} (h0 : ¬ kdA s t = 0) (h1 : ¬ kdA s t = 1) : kdA s t = 2 ∧ chk t = 0 ∧ (nth t (t.length - 1)).K = 3 := by
 unfold kdA at h0 h1 ⊢
 split at h0
 · exact absurd rfl h0
 ·
  rename_i hc
  rw [if_neg hc] at h1 ⊢
  split at h1
  · exact absurd rfl h1
  ·
   rename_i ho
   rw [if_neg ho] at h0 ⊢
   split at h0
   ·
    rename_i h3
    rw [if_pos h3]
    exact ⟨rfl, Classical.not_not.1 hc, h3.1⟩
   · exact absurd rfl h0
end
section
variable {n : Nd} {p T Q : List (List Nd)} {e : Int} {o : List Nd} {pre : List (List Nd)} {x : List Nd}
end
end
section
/- What is asked of an inductive type's declaration. -/
open Go Go.RowKit
def meN (s : ByteArray) (n : Nd) : Bool := decide (n.S = s) && (decide (n.K = 25) || (decide (n.K = 26) || decide (n.K = 27)))
def ixF {α : Type} (p : α → Bool) (t : List α) : Int := match t.findIdx? p with
 | some i => (i : Int)
 | none => -1
theorem getD_at {α : Type} {t : List α} {i : Nat} {z : α} (h : i < t.length) : t.getD i z = t[i] := by simp [List.getD, h]
theorem ixF_at {α : Type} {p : α → Bool} {t : List α} {k : Nat} {z : α} (hk : k < t.length) (hn : ∀ i, i < k → p (t.getD i z) = false) (hp : p (t.getD k z) = true) : ixF p t = (k : Int) := by
 rw [getD_at hk] at hp
 have h : t.findIdx? p = some k := by
  rw [List.findIdx?_eq_some_iff_getElem]
  refine ⟨hk, hp, fun j hj => ?_⟩
  have := hn j hj
  rw [getD_at (by omega)] at this
  simpa using this
 unfold ixF
 rw [h]
theorem ixF_no {α : Type} {p : α → Bool} {t : List α} {z : α} (hn : ∀ i, i < t.length → p (t.getD i z) = false) : ixF p t = -1 := by
 have h : t.findIdx? p = none := by
  rw [List.findIdx?_eq_none_iff]
  intro x hx
  obtain ⟨i, hi, rfl⟩ := List.mem_iff_getElem.1 hx
  have := hn i hi
  rw [getD_at hi] at this
  simpa using this
 unfold ixF
 rw [h]
theorem ixF_any {α : Type} (p : α → Bool) (t : List α) : decide (0 ≤ ixF p t) = t.any p := by
 unfold ixF
 cases h : t.findIdx? p with
 | none =>
  rw [List.findIdx?_eq_none_iff] at h
  simp only
  symm
  rw [show decide ((0 : Int) ≤ -1) = false by decide, List.any_eq_false]
  intro x hx
  simp [h x hx]
 | some i =>
  rw [List.findIdx?_eq_some_iff_getElem] at h
  obtain ⟨h1, h2, _⟩ := h
  simp only
  rw [show decide ((0 : Int) ≤ (i : Int)) = true by simp]
  symm
  rw [List.any_eq_true]
  exact ⟨_, List.getElem_mem h1, h2⟩
theorem ix_more {α : Type} {p : α → Bool} {t : List α} {k : Nat} {z : α} (hn : ∀ i, i < k → p (t.getD i z) = false) (h : p (t.getD k z) = false) : ∀ i, i < k + 1 → p (t.getD i z) = false := fun i hi => by
 by_cases e : i = k
 · rw [e]; exact h
 · exact hn i (by omega)
def mkI (b : Bool) (n : Int) : Int := if b then n else 0
def poP (s : ByteArray) (t : List Nd) : Int :=
 if ¬ chk t = 0 then chk t else if kdA s t = 1 then 0 else if kdA s t = 2 ∧ (nthL (agA t) 0).any (meN s) = false then 0 else if t.any (meN s) = false then 0 else 170
theorem poP_err {s : ByteArray} {t : List Nd} (h : ¬ chk t = 0) : poP s t = chk t := if_pos h
theorem poP_one {s : ByteArray} {t : List Nd} (hc : chk t = 0) (h : kdA s t = 1) : poP s t = 0 := by unfold poP; rw [if_neg (not_not_intro hc), if_pos h]
theorem poP_two {s : ByteArray} {t : List Nd} (hc : chk t = 0) (h1 : ¬ kdA s t = 1) (h : kdA s t = 2) (hm : (nthL (agA t) 0).any (meN s) = false) : poP s t = 0 := by unfold poP; rw [if_neg (not_not_intro hc), if_neg h1, if_pos ⟨h, hm⟩]
theorem poP_not {s : ByteArray} {t : List Nd} (hc : chk t = 0) (h1 : ¬ kdA s t = 1) (hm : t.any (meN s) = false) : poP s t = 0 := by
 unfold poP
 rw [if_neg (not_not_intro hc), if_neg h1]
 split
 · rfl
 · first | rfl | rw [if_pos hm]
theorem poP_bad {s : ByteArray} {t : List Nd} (hc : chk t = 0) (h1 : ¬ kdA s t = 1) (h2 : (decide (kdA s t = 2) && !((nthL (agA t) 0).any (meN s))) = false) (hm : t.any (meN s) = true) : poP s t = 170 := by
 unfold poP
 rw [if_neg (not_not_intro hc), if_neg h1, if_neg (fun h => by simp [h.1, h.2] at h2), if_neg (by rw [hm]; decide)]
def frE : List Int → Int
 | [] => 0
 | e :: l => if e = 0 then frE l else e
theorem frE_at {l : List Int} {k : Nat} (h : ∀ i, i < k → nthI l i = 0) (hk : k < l.length) (he : ¬ nthI l k = 0) : frE l = nthI l k := by
 induction l generalizing k with
 | nil => simp at hk
 | cons x l ih =>
  cases k with
  | zero => exact if_neg he
  | succ k =>
   have h0 : x = 0 := h 0 (by omega)
   rw [frE, if_pos h0]
   exact ih (fun i hi => h (i + 1) (by omega)) (by simpa using hk) he
theorem frE_all {l : List Int} (h : ∀ i, i < l.length → nthI l i = 0) : frE l = 0 := by
 induction l with
 | nil => rfl
 | cons x l ih =>
  have h0 : x = 0 := h 0 (by simp)
  rw [frE, if_pos h0]
  exact ih (fun i hi => h (i + 1) (by simpa using hi))
def clT (t : List Nd) : Int := if ¬ chk t = 0 then chk t else if 0 < frF t then 30 else 0
end
end Go.Proofs.YtpfmnpaifchleaaGreatDoor
namespace Go.Proofs.YtpfmnpaifchleaaGreatDoor
open Go Go.RowKit
set_option linter.unusedSimpArgs false
set_option linter.unusedVariables false
set_option maxRecDepth 100000
set_option maxHeartbeats 1000000
theorem lv_calls (w0 : World) (Z : Nat → Prop) (hZ : ∀ k, Z k → k < w0.heap.size) (n : Int)  :
    Calls Tryz.prog 165 [.int .i64 n].toArray w0 (fun e w' => e = .returned (.bool (!decide (0 ≤ n ∧ n ≤ 9))) ∧ Fr none_ w0 w') := by
 have b0 := s0 (M := none_) hZ zn
 refine c_enter Tryz.func165 rfl Tryz.ntmps165 rfl fun c0 d0 => ?_
 refine wsc fun c0 f0 => aw d0 f0 fun c0 h0 => ?_
 refine wsc fun f0 c0 => lR h0 fun f0 d0 => ?_
 refine lOr 2 (decide (9 < (n))) d0 fun f0 h0 => ?_
 refine aw h0 c0 fun f0 d0 => ?_
 refine wp_ret <| er1 d0 ?_
 refine ⟨?_, b0.fr⟩
 exact cre (ret_b (by (rw [Bool.eq_iff_iff]; simp [] <;> omega)))
theorem lvIndex_calls (w0 : World) (Z : Nat → Prop) (hZ : ∀ k, Z k → k < w0.heap.size) (tA : Option Addr) (tc : Nat) (t : List Int) (ht : (dRow 1 tA t.length tc (encIs t)).φ w0 Z) (hl : t.length ≤ 1000000 := by first | assumption | omega | (simp <;> omega)) :
    Calls Tryz.prog 167 [.slice tA t.length tc, .func (.func 165) #[] #[]].toArray w0 (fun e w' => e = .returned (.int .i64 (lvIndex t)) ∧ Fr none_ w0 w') := by
 have b0 := s0 (M := none_) hZ (zc ht zn)
 refine c_enter Tryz.func167 rfl Tryz.ntmps167 rfl fun c0 d0 => ?_
 refine wsc fun c0 f0 => aw d0 f0 fun c0 i0 => ?_
 refine wp_seq_k fun f0 c0 => wsc fun f0 d0 => lR i0 fun f0 j0 => ?_
 refine wn d0 <| wp_block ?_
 refine wp_loop_ghost (fun gn ga gw => ∃ k : Nat, (Reg ga 19 [(1000000, .bool false), (0, .slice tA t.length tc), (1, .func (.func 165) #[] #[]), (7, .int .i64 ((t.length : Nat) : Int)), (8, .int .i64 ((k : Nat) : Int))]) ∧ (St w0 Z none_ gw [] [dRow 1 tA t.length tc (encIs t)]) ∧ (k ≤ t.length) ∧ (lvIndex t = (let r := lvIndex (t.drop k); if r < 0 then r else r + (k : Int))) ∧ (t.length - k) = gn) _ ⟨0, (j0.sub (rc4 (rc rfl rnl))), b0, by omega, by simp, rfl⟩ ?_
 rintro j0 b0 d0 ⟨k, f0, i0, hk, hi, k0⟩
 refine wsc fun k0 d0 => lR f0 fun k0 b0 => ?_
 refine wn d0 <| wp_seq_k fun d0 k0 => ?_
 rcases Decidable.em (((k : Nat) : Int) < ((t.length : Nat) : Int)) with d0 | d0
 ·
  refine wct b0 (decide_eq_true d0) fun f0 => ?_
  refine wp_skip <| xn k0 <| wp_seq_k fun k0 j0 => wp_block ?_
  refine wsc fun k0 m0 => lR f0 fun k0 n0 => ?_
  refine wn m0 <| wsc fun m0 k0 => lR n0 fun m0 f0 => ?_
  refine ix k (k * 1) f0 (ints_elem (t := t) (k := k) (i0.row (i := 0) rfl).2 (by omega)).some_ fun m0 n0 => ?_
  refine lde 0 (k * 1) n0 (ints_elem (t := t) (k := k) (i0.row (i := 0) rfl).2 (by omega)) fun m0 f0 => ?_
  have m0 := i0.nf
  refine k_callV (xs := [.tmp 15]) se f0 rfl rfl rfl rfl (by decide) ok165 (lv_calls _ _ m0.il ((nthI t k))) ?_
  rintro f0 n0 ⟨rfl, o0⟩
  have n0 := m0.below o0.below
  refine ⟨_, rfl, fun o0 m0 => ?_⟩
  refine wn k0 ?_
  rcases Bool.eq_false_or_eq_true (!decide (0 ≤ ((nthI t k)) ∧ ((nthI t k)) ≤ 9)) with k0 | k0
  ·
   have o0 := not_t k0
   have f0 := of_decide_eq_false o0
   refine wct m0 k0 fun o0 => ?_
   refine wsc fun p0 q0 => lR o0 fun p0 t0 => ?_
   refine wn q0 <| wp_ret <| x_block_r <| x_then_r <| x_then_r <| x_block_r <| x_then_r <| er1 t0 ?_
   refine ⟨?_, n0.fr⟩
   exact cre (ret_i (by exact (lvIndex_here (k := k) hi (by omega) (by intro t0; have q := f0; simp at q; omega)).symm))
  have t0 := not_f k0
  have f0 := of_decide_eq_true t0
  refine wcf m0 k0 fun t0 => ?_
  refine wp_skip <| x_block_n <| xn j0 <| c_region ?_
  refine adi ((k + 1 : Nat) : Int) t0 fun j0 k0 => ?_
  refine mv k0 fun j0 t0 => ?_
  refine wpList_nil ?_
  exact ⟨_, by omega, k + 1, (t0.sub (rc4 (rc rfl rnl))), n0, by omega, lvIndex_step hi (by omega) (by have q := f0; simpa using q), rfl⟩
 refine wcf b0 (decide_eq_false d0) fun t0 => ?_
 refine wp_exit ?_
 refine x_then_e ?_
 refine x_then_e ?_
 refine x_block_eq ?_
 refine xn c0 <| wsc fun c0 d0 => aw t0 d0 fun c0 b0 => ?_
 refine wp_ret <| er1 b0 ?_
 refine ⟨?_, i0.fr⟩
 exact cre (ret_i (by exact (lvIndex_none hi (by omega)).symm))
theorem lvContains_calls (w0 : World) (Z : Nat → Prop) (hZ : ∀ k, Z k → k < w0.heap.size) (tA : Option Addr) (tc : Nat) (t : List Int) (ht : (dRow 1 tA t.length tc (encIs t)).φ w0 Z) (hl : t.length ≤ 1000000 := by first | assumption | omega | (simp <;> omega)) :
    Calls Tryz.prog 164 [.slice tA t.length tc, .func (.func 165) #[] #[]].toArray w0 (fun e w' => e = .returned (.bool (decide (0 ≤ lvIndex t))) ∧ Fr none_ w0 w') := by
 have b0 := s0 (M := none_) hZ (zc ht zn)
 refine c_enter Tryz.func164 rfl Tryz.ntmps164 rfl fun c0 d0 => ?_
 refine wsc fun c0 f0 => aw d0 f0 fun c0 h0 => ?_
 refine wsc fun f0 c0 => lR h0 fun f0 d0 => ?_
 have f0 := b0.nf
 refine kcl d0 ok167 (lvIndex_calls _ _ f0.il _ _ _ (f0.g 0)) ?_
 rintro d0 b0 ⟨rfl, h0⟩
 have b0 := f0.below h0.below
 refine ⟨_, rfl, fun h0 f0 => ?_⟩
 refine lR f0 fun h0 d0 => ?_
 refine wn c0 <| wp_ret <| er1 d0 ?_
 refine ⟨?_, b0.fr⟩
 exact cre (ret_b (by rfl))
theorem lvAll_calls (w0 : World) (Z : Nat → Prop) (hZ : ∀ k, Z k → k < w0.heap.size) (tA : Option Addr) (tc : Nat) (t : List Int) (ht : (dRow 1 tA t.length tc (encIs t)).φ w0 Z) (hl : t.length ≤ 1000000 := by first | assumption | omega | (simp <;> omega)) :
    Calls Tryz.prog 159 [.slice tA t.length tc].toArray w0 (fun e w' => e = .returned (.bool (!decide (0 ≤ lvIndex t))) ∧ Fr none_ w0 w') := by
 have b0 := s0 (M := none_) hZ (zc ht zn)
 refine c_enter Tryz.func159 rfl Tryz.ntmps159 rfl fun c0 d0 => ?_
 refine wsc fun c0 f0 => aw d0 f0 fun c0 h0 => ?_
 refine wsc fun f0 c0 => mv h0 fun f0 d0 => ?_
 have f0 := b0.nf
 refine kcl d0 ok164 (lvContains_calls _ _ f0.il _ _ _ (f0.g 0)) ?_
 rintro d0 b0 ⟨rfl, h0⟩
 have b0 := f0.below h0.below
 refine ⟨_, rfl, fun h0 f0 => ?_⟩
 refine lR f0 fun h0 d0 => ?_
 refine wn c0 <| wp_ret <| er1 d0 ?_
 refine ⟨?_, b0.fr⟩
 exact cre (ret_b (by rfl))
theorem lvCheck_calls (w0 : World) (Z : Nat → Prop) (hZ : ∀ k, Z k → k < w0.heap.size) (n : Int)  :
    Calls Tryz.prog 147 [.int .i64 n].toArray w0 (fun e w' => e = .returned (.int .i64 (lvChk n)) ∧ Fr none_ w0 w') := by
 have b0 := s0 (M := none_) hZ zn
 refine c_enter Tryz.func147 rfl Tryz.ntmps147 rfl fun c0 d0 => ?_
 refine wsc fun c0 f0 => aw d0 f0 fun c0 h0 => ?_
 refine wp_seq_k fun f0 c0 => wsc fun f0 d0 => mv h0 fun f0 i0 => ?_
 refine bsl i0 b0 fun f0 h0 j0 k0 m0 => ?_
 have h0 := m0.nf
 have m0 := h0.pub 0 (dRow 1 (some ⟨j0, 0, none⟩) 1 1 (encIs ([(n)])))
 refine kcl k0 ok159 (lvAll_calls _ _ m0.il _ _ ([(n)]) (m0.g 0)) ?_
 rintro k0 h0 ⟨rfl, j0⟩
 have h0 := m0.below j0.below
 refine ⟨_, rfl, fun j0 m0 => ?_⟩
 refine lR m0 fun j0 k0 => ?_
 refine wn d0 ?_
 rcases Bool.eq_false_or_eq_true (!decide (0 ≤ lvIndex ([(n)]))) with d0 | d0
 ·
  have j0 := not_t d0
  have m0 := of_decide_eq_false j0
  refine wcfb k0 rfl (by rw [d0]; rfl) fun j0 => ?_
  refine wp_skip <| xn c0 <| wsc fun c0 f0 => aw j0 f0 fun c0 i0 => ?_
  refine wp_ret <| er1 i0 ?_
  refine ⟨?_, h0.fr⟩
  exact cre (ret_i (by exact (lvChk_good (by have q := m0; simpa using q)).symm))
 have m0 := not_f d0
 have i0 := of_decide_eq_true m0
 refine wctb k0 rfl (by rw [d0]; rfl) fun m0 => ?_
 refine wsc fun d0 k0 => aw m0 k0 fun d0 f0 => ?_
 refine wp_ret <| x_then_r <| er1 f0 ?_
 refine ⟨?_, h0.fr⟩
 exact cre (ret_i (by exact (lvChk_bad (by have q := i0; simpa using q)).symm))
theorem most_calls (w0 : World) (Z : Nat → Prop) (hZ : ∀ k, Z k → k < w0.heap.size) (k : Int)  :
    Calls Tryz.prog 148 [.int .i64 k].toArray w0 (fun e w' => e = .returned (.int .i64 (most k)) ∧ Fr none_ w0 w') := by
 have b0 := s0 (M := none_) hZ zn
 refine c_enter Tryz.func148 rfl Tryz.ntmps148 rfl fun c0 d0 => ?_
 refine wsc fun c0 f0 => aw d0 f0 fun c0 h0 => ?_
 refine wp_seq_k fun f0 c0 => wsc fun f0 d0 => mv h0 fun f0 i0 => ?_
 refine wn d0 <| wp_block ?_
 refine wsc fun d0 f0 => lR i0 fun d0 h0 => ?_
 refine wn f0 ?_
 rcases Decidable.em ((k) = 0) with f0 | f0
 ·
  refine wct h0 (decide_eq_true f0) fun d0 => ?_
  refine wsc fun i0 j0 => aw d0 j0 fun i0 k0 => ?_
  refine wp_ret <| x_block_r <| x_then_r <| er1 k0 ?_
  refine ⟨?_, b0.fr⟩
  exact cre (ret_i (by have k0 := f0; (try simp at k0);  unfold most; (repeat' split) <;> omega))
 refine wcf h0 (decide_eq_false f0) fun j0 => ?_
 refine c_join (fun ga gw => Reg ga 9 [(2, .int .i64 0), (6, .bool ((decide ((k) = 3)) || (decide ((k) = 6)))), (1000000, .bool false)] ∧ St w0 Z none_ gw [] []) ?_ ?_
 ·
  refine wsc fun h0 i0 => lR j0 fun h0 d0 => ?_
  refine wn i0 ?_
  rcases Decidable.em ((k) = 3) with i0 | i0
  ·
   refine wct d0 (decide_eq_true i0) fun h0 => ?_
   refine wp_skip ?_
   exact x_then_n ⟨(h0.sub (rc rfl (rc (rb rfl (by (simp only [decide_eq_true i0, if_pos i0, bl]; done))) (rc rfl rnl)))), b0⟩
  refine wcf d0 (decide_eq_false i0) fun h0 => ?_
  refine c_region ?_
  refine lR h0 fun d0 j0 => ?_
  refine wpList_nil ?_
  exact x_then_n ⟨(j0.sub (rc rfl (rc (rb rfl (by (simp only [decide_eq_false i0, if_neg i0, bl]; done))) (rc rfl rnl)))), b0⟩
 rintro j0 i0 ⟨b0, d0⟩
 rcases Bool.eq_false_or_eq_true (((decide ((k) = 3)) || (decide ((k) = 6)))) with i0 | i0
 ·
  have j0 := i0
  try simp only [bz] at j0
  refine wct b0 i0 fun j0 => ?_
  refine wsc fun h0 m0 => aw j0 m0 fun h0 n0 => ?_
  refine wp_ret <| x_block_r <| x_then_r <| er1 n0 ?_
  refine ⟨?_, d0.fr⟩
  exact cre (ret_i (by have k0 := f0; (try simp at k0); have n0 := i0; (try simp at n0);  unfold most; (repeat' split) <;> omega))
 have m0 := or_fl i0
 have h0 := of_decide_eq_false m0
 have m0 := or_fr i0
 have j0 := of_decide_eq_false m0
 refine wcf b0 i0 fun m0 => ?_
 refine wp_skip <| x_block_n <| xn c0 <| wsc fun c0 b0 => aw m0 b0 fun c0 o0 => ?_
 refine wp_ret <| er1 o0 ?_
 refine ⟨?_, d0.fr⟩
 exact cre (ret_i (by have k0 := f0; (try simp at k0); have n0 := i0; (try simp at n0); have d0 := h0; (try simp at d0); have o0 := j0; (try simp at o0);  unfold most; (repeat' split) <;> omega))
theorem many_calls (w0 : World) (Z : Nat → Prop) (hZ : ∀ k, Z k → k < w0.heap.size) (n : Nd) (hShp : Shapes w0 Z) (hr : right n = true := by first | assumption | omega | (simp <;> omega)) :
    Calls Tryz.prog 120 [.agg #[.int .i64 (n.K), .int .i64 (n.N), .int .i64 (n.M), .string n.S]].toArray w0 (fun e w' => e = .returned (.int .i64 ((many n : Nat) : Int)) ∧ Fr none_ w0 w') := by
 have b0 := s0 (M := none_) hZ (zc (d := dShapes) hShp zn)
 obtain ⟨c0, d0⟩ := right_K hr
 refine c_enter Tryz.func120 rfl Tryz.ntmps120 rfl fun d0 c0 => ?_
 refine wsc fun d0 f0 => bxx c0 b0 fun d0 h0 i0 j0 k0 => ?_
 refine aw j0 f0 fun i0 h0 => ?_
 refine wp_seq_k fun f0 i0 => wsc fun f0 j0 => lR h0 fun f0 d0 => ?_
 refine wn j0 <| wp_block ?_
 refine wsc fun j0 f0 => lR d0 fun j0 h0 => ?_
 refine wn f0 ?_
 rcases Decidable.em ((n.K) = 26) with f0 | f0
 ·
  refine wct h0 (decide_eq_true f0) fun j0 => ?_
  refine wsc fun d0 c0 => lR j0 fun d0 b0 => ?_
  refine wn c0 <| wp_ret <| x_block_r <| x_then_r <| er1 b0 ?_
  refine ⟨?_, k0.fr⟩
  exact cre (ret_i (by exact many_con hr (by omega)))
 refine wcf h0 (decide_eq_false f0) fun b0 => ?_
 refine wsc fun f0 h0 => lR b0 fun f0 c0 => ?_
 refine wn h0 ?_
 rcases Decidable.em ((n.K) = 27) with h0 | h0
 ·
  obtain ⟨f0, b0⟩ := right_elim hr h0
  refine wct c0 (decide_eq_true h0) fun b0 => ?_
  refine wsc fun f0 d0 => lR b0 fun f0 j0 => ?_
  refine adi (n.M + 2) j0 fun f0 b0 => ?_
  refine aw b0 d0 fun f0 j0 => ?_
  refine wp_ret <| x_block_r <| x_then_r <| er1 j0 ?_
  refine ⟨?_, k0.fr⟩
  exact cre (ret_i (by first | exact many_elim hr (by omega) | exact many_oth (by omega) (by omega)))
 refine wcf c0 (decide_eq_false h0) fun j0 => ?_
 refine wp_skip <| x_block_n <| xn i0 <| wsc fun i0 h0 => lR j0 fun i0 c0 => ?_
 refine m_indexA (i := ((n.K)).toNat) (j := (((n.K)).toNat) * 4) sv c0 rfl rfl rfl rfl Tryz.underlying155 sz154 (by omega) (by omega) rfl (by decide) fun i0 j0 => ?_
 refine m_fieldE (j' := (((n.K)).toNat) * 4) sv j0 rfl rfl rfl rfl Tryz.underlying154 rfl sz57 rfl rfl (by decide) fun i0 c0 => ?_
 obtain ⟨i0, j0, d0, f0⟩ := shapes_at (k0.get (i := 0) rfl) (((n.K)).toNat) (by omega)
 have b0 := k0.data (dRow 1 i0 (shp (((n.K)).toNat)).b.length j0 (encIs (shp (((n.K)).toNat)).b)) d0
 refine m_loadE sv c0 rfl rfl rfl 0 ((((n.K)).toNat) * 4) f0 rfl rfl Tryz.underlying57 rfl (by decide) fun d0 j0 => ?_
 refine lR j0 fun d0 f0 => ?_
 refine wn h0 <| wp_ret <| er1 f0 ?_
 refine ⟨?_, b0.fr⟩
 exact cre (ret_i (by first | exact many_elim hr (by omega) | exact many_oth (by omega) (by omega)))
theorem name_calls (w0 : World) (Z : Nat → Prop) (hZ : ∀ k, Z k → k < w0.heap.size) (s : ByteArray) (hs : s.size < 1000000 := by first | assumption | omega | (simp <;> omega)) :
    Calls Tryz.prog 115 [.string s].toArray w0 (fun e w' => e = .returned (.bool (nameOk s)) ∧ Fr none_ w0 w') := by
 have b0 := s0 (M := none_) hZ zn
 refine c_enter Tryz.func115 rfl Tryz.ntmps115 rfl fun c0 d0 => ?_
 refine wsc fun c0 f0 => aw d0 f0 fun c0 h0 => ?_
 refine wp_seq_k fun f0 c0 => wsc fun f0 d0 => lR h0 fun f0 i0 => ?_
 refine wn d0 <| wp_block ?_
 refine wp_loop_ghost (fun gn ga gw => ∃ k : Nat, (Reg ga 48 [(1000000, .bool false), (0, .string s), (7, .int .i64 ((s.size : Nat) : Int)), (8, .int .i64 ((k : Nat) : Int))]) ∧ (St w0 Z none_ gw [] []) ∧ (k ≤ s.size) ∧ (nameTo s k) ∧ (s.size - k) = gn) _ ⟨0, (i0.sub (rc2 (rc rfl (rc rfl rnl)))), b0, by omega, nameTo_zero s, rfl⟩ ?_
 rintro i0 b0 d0 ⟨k, f0, h0, hk, hi, j0⟩
 refine wsc fun j0 d0 => lR f0 fun j0 b0 => ?_
 refine wn d0 <| wp_seq_k fun d0 j0 => ?_
 rcases Decidable.em (((k : Nat) : Int) < ((s.size : Nat) : Int)) with d0 | d0
 ·
  refine wct b0 (decide_eq_true d0) fun f0 => ?_
  refine wp_skip <| xn j0 <| wp_seq_k fun j0 i0 => wp_block ?_
  refine wsc fun j0 k0 => lR f0 fun j0 m0 => ?_
  refine wn k0 <| wsc fun k0 j0 => lR m0 fun k0 f0 => ?_
  refine r_byte (i := k) sv f0 rfl rfl rfl rfl Tryz.underlying9 (by omega) (by omega) (by decide) fun k0 m0 => ?_
  refine aw m0 j0 fun k0 f0 => ?_
  refine wsc fun j0 k0 => mv f0 fun j0 m0 => ?_
  refine r_int (v := .int .u8 ((orB (byteAt s k) 32 : Nat) : Int)) sv m0 rfl rfl rfl rfl (by decide) (run_or8 (a := byteAt s k) (b := 32) (by exact byteAt_lt _ _) (by omega)) fun j0 f0 => ?_
  refine lR f0 fun j0 m0 => ?_
  refine l_and 3 (decide (((orB (byteAt s k) 32 : Nat) : Int) ≤ 122)) m0 (fun j0 f0 n0 => ?_) fun o0 p0 => ?_
  ·
   have o0 := of_decide_eq_true j0
   refine r_move (st_listV_w (wt f0)) f0 rfl rfl rfl (by decide) fun o0 j0 => ?_
   refine r_int (v := .int .u8 ((orB (byteAt s k) 32 : Nat) : Int)) (st_listV_w (wt j0)) j0 rfl rfl rfl rfl (by decide) (run_or8 (a := byteAt s k) (b := 32) (by exact byteAt_lt _ _) (by omega)) fun o0 f0 => ?_
   refine r_leq (st_listV_w (wt f0)) f0 rfl rfl rfl rfl (by decide) fun o0 j0 => ?_
   refine r_pick_t sv j0 rfl rfl rfl rfl (by decide) fun o0 f0 => ?_
   exact n0.fin f0
  refine mv p0 fun f0 n0 => ?_
  refine lOr 2 (decide (((byteAt s k : Nat) : Int) = 95)) n0 fun f0 p0 => ?_
  refine aw p0 k0 fun f0 n0 => ?_
  refine wsc fun k0 f0 => lR n0 fun k0 p0 => ?_
  refine l_join (fun ga gw => Reg ga 48 [(0, .string s), (7, .int .i64 ((s.size : Nat) : Int)), (8, .int .i64 ((k : Nat) : Int)), (39, .bool ((!(((decide (97 ≤ ((orB (byteAt s k) 32 : Nat) : Int))) && (decide (((orB (byteAt s k) 32 : Nat) : Int) ≤ 122))) || (decide (((byteAt s k : Nat) : Int) = 95)))) && ((decide (((k : Nat) : Int) = 0)) || ((decide (((byteAt s k : Nat) : Int) < 48)) || (decide (57 < ((byteAt s k : Nat) : Int))))))), (1000000, .bool false)] ∧ St w0 Z none_ gw [] []) 11 ?_ ?_
  ·
   rcases Bool.eq_false_or_eq_true ((((decide (97 ≤ ((orB (byteAt s k) 32 : Nat) : Int))) && (decide (((orB (byteAt s k) 32 : Nat) : Int) ≤ 122))) || (decide (((byteAt s k : Nat) : Int) = 95)))) with k0 | k0
   ·
    have n0 := k0
    try simp only [bz] at n0
    have n0 := p0.setb (d := 28) (b := false) rfl (by rw [k0]; rfl)
    refine lR n0 fun o0 j0 => ?_
    refine wpList_nil ?_
    exact x_then_n ⟨(j0.sub (rc2 (rc rfl (rc (rb rfl (by (simp only [k0, bl]; done))) (rc rfl rnl))))), h0⟩
   have j0 := or_fl k0
   have o0 := j0
   try simp only [bz] at o0
   have o0 := or_fr k0
   have j0 := of_decide_eq_false o0
   have j0 := p0.setb (d := 28) (b := true) rfl (by rw [k0]; rfl)
   refine lR j0 fun p0 o0 => ?_
   rcases Decidable.em (((k : Nat) : Int) = 0) with p0 | p0
   ·
    have j0 := o0.setb (d := 31) (b := true) rfl (decide_eq_true p0)
    refine lR j0 fun n0 m0 => ?_
    refine wpList_nil ?_
    exact x_then_n ⟨(m0.sub (rc2 (rc rfl (rc (rb rfl (by (simp only [k0, decide_eq_true p0, if_pos p0, bl]; done))) (rc rfl rnl))))), h0⟩
   have m0 := o0.setb (d := 31) (b := false) rfl (decide_eq_false p0)
   refine lR m0 fun o0 n0 => ?_
   rcases Decidable.em (((byteAt s k : Nat) : Int) < 48) with o0 | o0
   ·
    have m0 := n0.setb (d := 35) (b := true) rfl (decide_eq_true o0)
    refine lR m0 fun j0 t0 => ?_
    refine wpList_nil ?_
    exact x_then_n ⟨(t0.sub (rc2 (rc rfl (rc (rb rfl (by (simp only [k0, decide_eq_false p0, if_neg p0, decide_eq_true o0, if_pos o0, bl]; done))) (rc rfl rnl))))), h0⟩
   have t0 := n0.setb (d := 35) (b := false) rfl (decide_eq_false o0)
   refine lR t0 fun n0 j0 => ?_
   refine wpList_nil ?_
   exact x_then_n ⟨(j0.sub (rc2 (rc rfl (rc (rb rfl (by (simp only [k0, decide_eq_false p0, if_neg p0, decide_eq_false o0, if_neg o0, bl]; done))) (rc rfl rnl))))), h0⟩
  rintro j0 o0 ⟨p0, k0⟩
  refine wn f0 ?_
  rcases Bool.eq_false_or_eq_true (((!(((decide (97 ≤ ((orB (byteAt s k) 32 : Nat) : Int))) && (decide (((orB (byteAt s k) 32 : Nat) : Int) ≤ 122))) || (decide (((byteAt s k : Nat) : Int) = 95)))) && ((decide (((k : Nat) : Int) = 0)) || ((decide (((byteAt s k : Nat) : Int) < 48)) || (decide (57 < ((byteAt s k : Nat) : Int))))))) with f0 | f0
  ·
   have o0 := and_tl f0
   have j0 := not_t o0
   have o0 := or_fl j0
   have n0 := o0
   try simp only [bz] at n0
   have n0 := or_fr j0
   have j0 := of_decide_eq_false n0
   have n0 := and_tr f0
   have o0 := n0
   try simp only [bz] at o0
   refine wct p0 f0 fun o0 => ?_
   refine wsc fun n0 t0 => aw o0 t0 fun n0 m0 => ?_
   refine wp_ret <| x_block_r <| x_then_r <| x_then_r <| x_block_r <| x_then_r <| er1 m0 ?_
   refine ⟨?_, k0.fr⟩
   exact cre (ret_b (by exact (name_bad (k := k) (by omega) (by have m0 := d0; (try simp at m0); have t0 := f0; (try simp at t0); have n0 := j0; (try simp at n0);  unfold okC; omega)).symm))
  have n0 := f0
  try simp only [bz] at n0
  refine wcf p0 f0 fun n0 => ?_
  refine wp_skip <| x_block_n <| xn i0 <| c_region ?_
  refine adi ((k + 1 : Nat) : Int) n0 fun i0 p0 => ?_
  refine mv p0 fun i0 n0 => ?_
  refine wpList_nil ?_
  exact ⟨_, by omega, k + 1, (n0.sub (rc2 (rc rfl (rc rfl rnl)))), k0, by omega, nameTo_step hi (by have m0 := d0; (try simp at m0); have t0 := f0; (try simp at t0);  unfold okC; omega), rfl⟩
 refine wcf b0 (decide_eq_false d0) fun n0 => ?_
 refine wp_exit ?_
 refine x_then_e ?_
 refine x_then_e ?_
 refine x_block_eq ?_
 refine xn c0 <| wsc fun c0 d0 => lR n0 fun c0 b0 => ?_
 refine lAn 3 (decide (((s.size : Nat) : Int) ≤ 16)) b0 fun c0 n0 => ?_
 refine aw n0 d0 fun c0 b0 => ?_
 refine wp_ret <| er1 b0 ?_
 refine ⟨?_, h0.fr⟩
 exact cre (ret_b (by (rw [name_end hi (by omega)]; done)))
end Go.Proofs.YtpfmnpaifchleaaGreatDoor
