import Derived.Test.YtpfmnpaifchleaaGreatDoorYqb
namespace Go.Proofs.YtpfmnpaifchleaaGreatDoor
open Go Go.RowKit
set_option linter.defProp false
def Aj := @List.length_nil
def Ak := @of_decide_eq_false
def AG := @List.not_mem_nil
def AR := @not_not_intro
def CS := @List.length_reverse
def El := @List.getElem?_map
def E9 := @List.filter_append
end Go.Proofs.YtpfmnpaifchleaaGreatDoor
namespace Go.Proofs.YtpfmnpaifchleaaGreatDoor
set_option linter.unusedSimpArgs false
set_option linter.unusedVariables false
section
/- What is left when the marks of proofs are taken out. -/
def Wy (n : Nd) : Bool := decide (n.K = 28)
def Wl (n : Nd) : Bool := !Wy n
section
variable {α : Type} {t v z : List α} {i j q : Nat}
theorem QU {B : List α} (hi : i ≤ t.length) (hj : j = t.length) (hB : B = t.take i ++ v ++ t.drop (i + v.length)) : B.take (i + v.length) = t.take i ++ v ++ t.drop j := by
 subst hB
 rw [List.take_left' (by rw [Ab, Ah]; omega), List.drop_eq_nil_of_le (by omega), CL]
theorem Tz {B C : List α} (hi : i ≤ t.length) (hj : j = t.length) (hB : B = t.take i ++ v ++ t.drop (i + v.length)) (hC : C = B.take (i + v.length) ++ z) : C.take (i + v.length) = t.take i ++ v ++ t.drop j := by
 rw [hC, List.take_left', ← QU hi hj hB]
 rw [hB]; simp; omega
theorem Ty {B K C E z2 : List α} {D : Nat} (h1 : i + v.length ≤ j) (h2 : j ≤ t.length) (hD : D = i + v.length + t.length - j) (hB : B = t.take i ++ v ++ t.drop (i + v.length)) (hK : K = (B.drop j).take (t.length - j))
  (hC : C = B.take (i + v.length) ++ K ++ B.drop (i + v.length + K.length)) (hE : E = C.take D ++ z ++ z2) : E.take D = t.take i ++ v ++ t.drop j := by
 have hX : (t.take i ++ v).length = i + v.length := by rw [Ab, Ah]; omega
 have hK' : K = t.drop j := by
  rw [hK, hB, ← hX, List.drop_append, List.drop_eq_nil_of_le (by omega), List.nil_append, List.drop_drop, hX, show i + v.length + (j - (i + v.length)) = j by omega]
  exact AM (by rw [BK]; omega)
 have hBt : B.take (i + v.length) = t.take i ++ v := by rw [hB]; exact List.take_left' hX
 have hCt : C.take D = t.take i ++ v ++ t.drop j := by
  rw [hC, hK', hBt]
  exact List.take_left' (by rw [Ab, hX, BK]; omega)
 rw [hE, hCt, BG]
 exact List.take_left' (by rw [Ab, hX, BK]; omega)
end
end
section
/- The proofs of a slice, and what is erased: plain lists. -/
structure PInv (t : List Nd) (k : Nat) (x : List (Int × Int) × Int × Int) : Prop where
 bd : ∀ y ∈ x.1, (t.length : Int) - k ≤ y.1 ∧ y.1 ≤ y.2 ∧ y.2 < t.length
 srt : x.1.Pairwise fun a b => b.2 < a.1
 cur : 0 ≤ x.2.1 → (t.length : Int) - k ≤ x.2.1 ∧ x.2.1 < t.length ∧ ∀ y ∈ x.1, x.2.1 < y.1
theorem Rk (t : List Nd) : ∀ k, k ≤ t.length → PInv t k (prS t k)
 | 0, _ => ⟨(fun _ h => by cases h), List.Pairwise.nil, (fun h => by simp [prS] at h)⟩
 | k + 1, hk => by
  have ih := Rk t k (by omega)
  rcases hx : prS t k with ⟨L, r, n⟩
  rw [hx] at ih
  obtain ⟨h1, h2, h3⟩ := ih
  simp only at h1 h2 h3
  have hst : prS t (k + 1) = DA t k (L, r, n) := by rw [← hx]; rfl
  rw [hst]
  unfold DA
  simp only
  by_cases hr : r < 0
  ·
   simp only [hr, true_and, if_true]
   split
   · exact ⟨fun y hy => by have := h1 y hy; (try simp only at this ⊢); omega, h2, fun h => by (try simp only at h); omega⟩
   ·
    split
    · exact ⟨fun y hy => by have := h1 y hy; omega, h2, fun _ => ⟨by (try simp only); omega, by (try simp only); omega, fun y hy => by have := h1 y hy; (try simp only); omega⟩⟩
    ·
     refine ⟨fun y hy => ?_, ?_, fun h => by (try simp only at h); omega⟩
     ·
      rcases B5.1 hy with hy | hy
      · have := h1 y hy; omega
      · rw [AB] at hy; subst hy; (try simp only); omega
     ·
      refine List.pairwise_append.2 ⟨h2, by simp, fun a ha b hb => ?_⟩
      rw [AB] at hb; subst hb
      have := h1 a ha
      (try simp only)
      omega
  ·
   obtain ⟨h4, h5, h6⟩ := h3 (by omega)
   simp only [hr, false_and, if_false]
   split
   · exact ⟨fun y hy => by have := h1 y hy; omega, h2, fun _ => ⟨by (try simp only); omega, h5, h6⟩⟩
   ·
    refine ⟨fun y hy => ?_, ?_, fun h => by (try simp only at h); omega⟩
    ·
     rcases B5.1 hy with hy | hy
     · have := h1 y hy; omega
     · rw [AB] at hy; subst hy; (try simp only); omega
    ·
     refine List.pairwise_append.2 ⟨h2, by simp, fun a ha b hb => ?_⟩
     rw [AB] at hb; subst hb
     exact h6 a ha
theorem O3 {t : List Nd} {pre : List (Int × Int)} {x : Int × Int} (h : pre ++ [x] <+: O4 t) : ∃ i j : Nat, x = ((i : Int), (j : Int)) ∧ i ≤ j ∧ j < t.length ∧ ∀ y ∈ pre, (j : Int) < y.1 := by
 have hi := Rk t t.length (Af _)
 obtain ⟨rest, hr⟩ := h
 have hb := hi.bd x (by show x ∈ O4 t; rw [← hr]; simp)
 have hs : (O4 t).Pairwise fun a b => b.2 < a.1 := hi.srt
 rw [← hr, BG, List.pairwise_append] at hs
 refine ⟨x.1.toNat, x.2.toNat, ?_, by omega, by omega, fun y hy => ?_⟩
 · ext <;> simp only [] <;> omega
 ·
  have := hs.2.2 y hy x (by simp)
  omega
abbrev UC : Nd := ⟨29, 0, 0, ⟨#[]⟩⟩
def VL (o : List Nd) (x : Int × Int) : List Nd := o.take x.1.toNat ++ [UC] ++ o.drop (x.2.toNat + 1)
def I9 (t : List Nd) (pre : List (Int × Int)) : List Nd := pre.foldl VL t
theorem I8 (t : List Nd) (pre : List (Int × Int)) (x : Int × Int) : I9 t (pre ++ [x]) = VL (I9 t pre) x := by simp [I9]
theorem QV (t : List Nd) (pre : List (Int × Int)) : ∀ m : Nat, (∀ y ∈ pre, (m : Int) ≤ y.1) → m ≤ t.length → (I9 t pre).take m = t.take m := by
 induction h : pre.length generalizing pre with
 | zero =>
  have : pre = [] := BB h
  subst this
  intro m _ _
  rfl
 | succ n ih =>
  obtain ⟨p, x, rfl⟩ : ∃ p x, pre = p ++ [x] := ⟨pre.dropLast, pre.getLast (by intro e; subst e; simp at h), (List.dropLast_concat_getLast _).symm⟩
  intro m hm hmt
  have h1 := ih p (by simpa using h) m (fun y hy => hm y (List.mem_append_left _ hy)) hmt
  have hx := hm x (by simp)
  have hl : m ≤ (I9 t p).length := by
   have := congrArg List.length h1
   rw [Ah, Ah] at this
   omega
  rw [I8, VL, BG, E0 (by rw [Ah]; omega), List.take_take, Nat.min_eq_left (by omega), h1]
theorem Ow {t : List Nd} {pre : List (Int × Int)} {j : Nat} (hj : j < t.length) (h : ∀ y ∈ pre, (j : Int) < y.1) : j + 1 ≤ (I9 t pre).length := by
 have h1 := QV t pre (j + 1) (fun y hy => by have := h y hy; omega) hj
 have := congrArg List.length h1
 rw [Ah, Ah] at this
 omega
theorem VK {t : List Nd} {pre : List (Int × Int)} (h : pre <+: O4 t) : (I9 t pre).length ≤ t.length := by
 induction hn : pre.length generalizing pre with
 | zero =>
  have : pre = [] := BB hn
  subst this
  exact Af _
 | succ n ih =>
  obtain ⟨p, x, rfl⟩ : ∃ p x, pre = p ++ [x] := ⟨pre.dropLast, pre.getLast (by intro e; subst e; simp at hn), (List.dropLast_concat_getLast _).symm⟩
  obtain ⟨i, j, rfl, hij, hj, hy⟩ := O3 h
  have h1 := ih (List.IsPrefix.trans (List.prefix_append _ _) h) (by simpa using hn)
  have h2 := Ow hj hy
  rw [I8, VL]
  simp only [Ab, Ah, BK, Bv, Int.toNat_natCast]
  omega
theorem QW {t : List Nd} {pre : List (Int × Int)} {i j : Nat} : (I9 t pre).take i ++ [UC] ++ (I9 t pre).drop (j + 1) = I9 t (pre ++ [((i : Int), (j : Int))]) := by
 rw [I8]
 rfl
end
section
/- Rows of nodes that are kept from round to round: a tail of the resources. -/
open Go Go.RowKit
section
variable {w w' w0 : World} {Z M : Nat → Prop} {m m' : List Res} {ds : List Dat}
theorem St.perm (h : St w0 Z M w m ds) (hp : m.Perm m') : St w0 Z M w m' ds := by
 have hmem : ∀ r, r ∈ m' ↔ r ∈ m := fun r => hp.symm.mem_iff
 have himm : imm Z w0 m' w = imm Z w0 m w := by
  funext k
  unfold imm
  refine propext ⟨fun q => ⟨q.1, q.2.1, fun r hr => q.2.2 r ((hmem r).2 hr)⟩, fun q => ⟨q.1, q.2.1, fun r hr => q.2.2 r ((hmem r).1 hr)⟩⟩
 refine ⟨h.os, h.tape, h.output, h.size, h.old, fun r hr => h.hold r ((hmem r).1 hr), fun r hr => h.own r ((hmem r).1 hr), ?_, fun d hd => by rw [himm]; exact h.dat d hd⟩
 refine (hp.pairwise_iff ?_).1 h.apart
 intro r s hrs k e e'
 exact hrs k e' e
theorem St.rot {A T : List Res} {r : Res} (h : St w0 Z M w ((A ++ T) ++ [r]) ds) : St w0 Z M w ((A ++ [r]) ++ T) ds :=
 h.perm (by
  rw [BG, BG]
  exact List.Perm.append_left A List.perm_append_comm)
def GU (e : Nat) (s : Sl) : Res := .row s.1 s.2.2.length s.2.1 e 4 (Cd s.2.2)
theorem SZ {e : Nat} {A : List Res} {Ls : List Sl} {B : Option Addr} {c : Nat} {L : List Nd} (h : St w0 Z M w ((A ++ [.row B L.length c e 4 (Cd L)]) ++ Ls.map (GU e)) ds) : St w0 Z M w (A ++ (Ls ++ [((B, c, L) : Sl)]).map (GU e)) ds :=
 h.perm (by
  rw [C3, BG]
  exact List.Perm.append_left A List.perm_append_comm)
theorem MM {e : Nat} {A : List Res} {Ls : List Sl} (h : St w0 Z M w (A ++ Ls.map (GU e)) ds) (hM : ∀ k, ¬ M k) : St w0 Z M w A (ds ++ [Cl Ls]) := by
 have h1 : St w0 Z M w A ds := h.drop A (List.sublist_append_left _ _)
 refine h1.data _ fun s hs => ?_
 have hmem : GU e s ∈ A ++ Ls.map (GU e) := List.mem_append_right _ (List.mem_map_of_mem hs)
 have hr : w.ownsRow 0 e 4 (.slice s.1 s.2.2.length s.2.1) s.2.2.length (Cd s.2.2) := h.hold _ hmem
 refine ⟨Db hr, hr.1, fun hn => ?_⟩
 obtain ⟨g, hg⟩ := EY hr hn
 have hblk : (GU e s).blk = some g := by show s.1.map (·.block) = some g; rw [hg]; rfl
 have hown := h.own _ hmem g hblk
 refine ⟨_, hg, ⟨hown.1, fun hlt => ?_, fun r hr' e' => ?_⟩, fun j u hu => hr.cells (g := g) (by rw [hg]; rfl) j u hu⟩
 ·
  have hlt' : g < w0.heap.size := hlt
  rcases hown.2 with q | q
  · omega
  · exact absurd q (hM g)
 ·
  have hap := h.apart
  rw [List.pairwise_append] at hap
  exact hap.2.2 r hr' _ (List.mem_map_of_mem hs) g e' hblk
theorem S1 {α : Type} {f : α → List Value} {size k q cap : Nat} {A : Option Addr} {L : List α} {I : Nat → Prop} (h : (Bw size A L.length cap (L.flatMap f)).φ w I) (hf : ∀ x, (f x).length = size) (hkq : k + q ≤ L.length) :
  (Bw size (if cap = k then A else A.map (·.add (k * size))) ((L.drop k).take q).length (cap - k) (((L.drop k).take q).flatMap f)).φ w I := by
 have hq : ((L.drop k).take q).length = q := by rw [Ah, BK]; omega
 rw [hq, ← FJ hf, ← Hm hf]
 have hc : L.length ≤ cap := h.1
 exact ⟨by omega, (h.2.from_ (k := k) (by omega) hc).take (k := q) (by omega)⟩
end
end
section
/- A row turned round in place. -/
structure RevTo (t R : List Sl) (k : Nat) : Prop where
 len : R.length = t.length
 at_ : ∀ i, i < t.length → BF R i = if i < k ∨ t.length - k ≤ i then BF t (t.length - 1 - i) else BF t i
theorem O8 {R : List Sl} {i j : Nat} {u : Sl} (hi : i < R.length) : BF (R.set i u) j = if i = j then u else BF R j := by
 unfold BF
 rw [AP, List.getElem?_set, AP]
 split
 · simp [*]
 · rfl
theorem RevTo.zero (t : List Sl) : RevTo t t 0 := ⟨rfl, fun i hi => by rw [Aq (by omega)]⟩
theorem RevTo.step {t R : List Sl} {k j : Nat} {u v : Sl} (h : RevTo t R k) (hk : 2 * k + 1 < t.length) (hj : j = t.length - 1 - k) (hu : u = BF R j) (hv : v = BF R k) : RevTo t ((R.set k u).set j v) (k + 1) := by
 subst hj
 obtain ⟨h1, h2⟩ := h
 refine ⟨by simp [h1], fun i hi => ?_⟩
 rw [O8 (by rw [List.length_set]; omega), O8 (by omega), hu, hv, h2 _ (by omega), h2 _ (by omega), h2 i hi]
 by_cases e1 : t.length - 1 - k = i
 ·
  subst e1
  rw [At rfl, Aq (by omega), At (by omega)]
  congr 1
  omega
 ·
  rw [Aq e1]
  by_cases e2 : k = i
  ·
   subst e2
   rw [At rfl, Aq (by omega), At (by omega)]
  ·
   rw [Aq e2]
   by_cases e3 : i < k ∨ t.length - k ≤ i
   · rw [At e3, At (by omega)]
   · rw [Aq e3, Aq (by omega)]
theorem RevTo.done {t R : List Sl} {k : Nat} (h : RevTo t R k) (hk : t.length ≤ 2 * k + 1) : R = t.reverse := by
 obtain ⟨h1, h2⟩ := h
 apply List.ext_getElem
 · simp [h1]
 ·
  intro i hi hi'
  have h3 := h2 i (by omega)
  have h4 : BF R i = R[i] := by simp [BF, hi]
  have h5 : BF t (t.length - 1 - i) = t[t.length - 1 - i] := by
   have : t.length - 1 - i < t.length := by omega
   simp [BF, this]
  rw [List.getElem_reverse, ← h4, h3, ← h5]
  split
  · rfl
  ·
   congr 1
   omega
theorem Xf {w : World} {I : Nat → Prop} {t : List Sl} (h : (Cl t).φ w I) : (Cl t.reverse).φ w I := fun s hs => h s (List.mem_reverse.1 hs)
end
section
/- What is erased, stripped, and the proofs: trees. -/
mutual
def prT (o : Nat) : T → List (Int × Int)
 | .mk n l => if n.K = 28 then [((o : Int), ((o + (AA l).length : Nat) : Int))] else US o l
def US (o : Nat) : List T → List (Int × Int)
 | [] => []
 | t :: l => US (o + t.flat.length) l ++ prT o t
end
mutual
def erT : T → T
 | .mk n l => if n.K = 28 then .mk UC [] else .mk n (Gy l)
def Gy : List T → List T
 | [] => []
 | t :: l => erT t :: Gy l
end
mutual
def UR : T → List (List Nd)
 | .mk n l => if n.K = 28 then [AA l ++ [n]] else Ns l
def Ns : List T → List (List Nd)
 | [] => []
 | t :: l => UR t ++ Ns l
end
mutual
def stT : T → T
 | .mk n l => if n.K = 28 then stH l else .mk n (UF l)
def stH : List T → T
 | [] => .mk UC []
 | t :: _ => stT t
def UF : List T → List T
 | [] => []
 | t :: l => stT t :: UF l
end
theorem RJ {n : Nd} (h : n.K = 28) : many n = 1 := by simp [many, binds, h, shp]
theorem Eo {t : T} {l : List T} (h : T.wfs (t :: l) = true) : t.wf = true ∧ T.wfs l = true := by simpa [T.wfs] using h
theorem DS {n : Nd} {l : List T} (h : (T.mk n l).wf = true) : right n = true ∧ many n = l.length ∧ T.wfs l = true := by
 rw [E8] at h
 simp only [AK, beq_iff_eq] at h
 exact ⟨h.1.1, h.1.2, h.2⟩
theorem R7 {t u v : List Nd} {n : Nd} (h : t = u ++ [n] ++ v) : nth t (t.length - (v.length + 1)) = n ∧ t.length - (v.length + 1) = u.length := by
 subst h
 have : (u ++ [n] ++ v).length - (v.length + 1) = u.length := by simp
 rw [this]
 exact ⟨by simp [nth], rfl⟩
theorem KN (t : List Nd) (k : Nat) : prS t (k + 1) = DA t k (prS t k) := rfl
mutual
theorem Rl (t : List Nd) (L : List (Int × Int)) (r : Int) (hr : 0 ≤ r) : ∀ (x : T) (u v : List Nd) (n : Int), x.wf = true → t = u ++ x.flat ++ v → prS t v.length = (L, r, n) → 1 ≤ n →
  prS t (v.length + x.flat.length) = if 1 < n then (L, r, n - 1) else (L ++ [((u.length : Int), r)], -1, 0)
 | .mk m l, u, v, n, hw, ht, hs, hn => by
  obtain ⟨h1, h2, h3⟩ := DS hw
  have ht' : t = (u ++ AA l) ++ [m] ++ v := by rw [ht, Bi]; simp
  obtain ⟨hm, hp⟩ := R7 ht'
  have hst : prS t (v.length + 1) = DA t v.length (L, r, n) := by rw [KN, hs]
  have hb : ((BI m).length : Int) = l.length := by rw [Jp h1, ← h2]; rfl
  unfold DA at hst
  simp only [show ¬ r < 0 by omega, false_and, if_false, hm, hb] at hst
  rw [Bi, Ab, Bv, show v.length + ((AA l).length + 1) = ([m] ++ v).length + (AA l).length by simp; omega]
  cases l with
  | nil =>
   rw [hp] at hst
   simp only [AZ, Aj, Nat.add_zero, Ab, Bv] at hst ⊢
   rw [show 1 + v.length = v.length + 1 by omega, hst]
   by_cases h : 1 < n
   ·
    rw [At (by omega), At h]
    simp
   ·
    rw [Aq (by omega), Aq h]
    simp
    omega
  | cons y l =>
   simp only [Ad] at hst
   rw [At (by omega)] at hst
   have hv : ([m] ++ v).length = v.length + 1 := by simp
   have := KP t L r hr (y :: l) u ([m] ++ v) (n + ((y :: l).length : Int) - 1) h3 (by rw [ht']; simp) (by rw [hv, hst]; simp) (by simp; omega) (by simp)
   rw [this]
   by_cases h : 1 < n
   ·
    rw [At (by simp; omega), At h]
    congr 2
    simp
    omega
   · rw [Aq (by simp; omega), Aq h]
theorem KP (t : List Nd) (L : List (Int × Int)) (r : Int) (hr : 0 ≤ r) : ∀ (l : List T) (u v : List Nd) (n : Int), T.wfs l = true → t = u ++ AA l ++ v → prS t v.length = (L, r, n) → (l.length : Int) ≤ n → l ≠ [] →
  prS t (v.length + (AA l).length) = if (l.length : Int) < n then (L, r, n - l.length) else (L ++ [((u.length : Int), r)], -1, 0)
 | [], _, _, _, _, _, _, _, h => absurd rfl h
 | [y], u, v, n, hw, ht, hs, hn, _ => by
  have := Rl t L r hr y u v n (Eo hw).1 (by rw [ht, DQ]) hs (by simpa using hn)
  rw [DQ]
  simpa using this
 | y :: z :: l, u, v, n, hw, ht, hs, hn, _ => by
  obtain ⟨h1, h2⟩ := Eo hw
  have ih := KP t L r hr (z :: l) (u ++ y.flat) v n h2 (by rw [ht, Bh]; simp) hs (by simp at hn ⊢; omega) (by simp)
  rw [At (by simp at hn ⊢; omega)] at ih
  have := Rl t L r hr y u (AA (z :: l) ++ v) (n - ((z :: l).length : Int)) h1 (by rw [ht, Bh]; simp) (by rw [Ab, Nat.add_comm, ih]) (by simp at hn ⊢; omega)
  rw [Bh, Ab, show v.length + (y.flat.length + (AA (z :: l)).length) = (AA (z :: l) ++ v).length + y.flat.length by simp; omega, this]
  simp only [Ad] at hn ⊢
  by_cases h : ((l.length + 1 + 1 : Nat) : Int) < n
  ·
   rw [At h, At (by omega)]
   congr 2
   omega
  · rw [Aq h, Aq (by omega)]
end
mutual
theorem prS_T (t : List Nd) : ∀ (x : T) (u v : List Nd), x.wf = true → t = u ++ x.flat ++ v → (prS t v.length).2.1 < 0 →
  (prS t (v.length + x.flat.length)).1 = (prS t v.length).1 ++ prT u.length x ∧ (prS t (v.length + x.flat.length)).2.1 < 0
 | .mk m l, u, v, hw, ht, hs => by
  obtain ⟨h1, h2, h3⟩ := DS hw
  have ht' : t = (u ++ AA l) ++ [m] ++ v := by rw [ht, Bi]; simp
  obtain ⟨hm, hp⟩ := R7 ht'
  have hb : ((BI m).length : Int) = l.length := by rw [Jp h1, ← h2]; rfl
  have hv : ([m] ++ v).length = v.length + 1 := by simp
  rw [Bi, Ab, Bv, show v.length + ((AA l).length + 1) = ([m] ++ v).length + (AA l).length by rw [hv]; omega]
  by_cases hk : m.K = 28
  ·
   have hl := h2
   rw [RJ hk] at hl
   match l, hl with
   | [y], _ =>
    have hst : prS t (v.length + 1) = ((prS t v.length).1, ((u.length + (AA [y]).length : Nat) : Int), 1) := by
     rw [KN]
     unfold DA
     rw [hm]
     simp only [hs, true_and, if_true, hk, hb, hp]
     simp
    have := KP t (prS t v.length).1 ((u.length + (AA [y]).length : Nat) : Int) (by omega) [y] u ([m] ++ v) 1 h3 (by rw [ht']; simp) (by rw [hv]; exact hst) (by simp) (by simp)
    rw [this]
    simp [prT, hk]
  ·
   have hst : prS t (v.length + 1) = prS t v.length := by
    rw [KN]
    unfold DA
    rw [hm, At ⟨hs, hk⟩]
   have := UT t l u ([m] ++ v) h3 (by rw [ht']; simp) (by rw [hv, hst]; exact hs)
   rw [hv, hst] at this
   rw [hv]
   simpa [prT, hk] using this
theorem UT (t : List Nd) : ∀ (l : List T) (u v : List Nd), T.wfs l = true → t = u ++ AA l ++ v → (prS t v.length).2.1 < 0 →
  (prS t (v.length + (AA l).length)).1 = (prS t v.length).1 ++ US u.length l ∧ (prS t (v.length + (AA l).length)).2.1 < 0
 | [], u, v, _, _, hs => by simp [AZ, US, hs]
 | y :: l, u, v, hw, ht, hs => by
  obtain ⟨h1, h2⟩ := Eo hw
  have ih := UT t l (u ++ y.flat) v h2 (by rw [ht, Bh]; simp) hs
  have := prS_T t y u (AA l ++ v) h1 (by rw [ht, Bh]; simp) (by rw [Ab, Nat.add_comm]; exact ih.2)
  rw [Bh, Ab, show v.length + (y.flat.length + (AA l).length) = (AA l ++ v).length + y.flat.length by simp; omega]
  refine ⟨?_, this.2⟩
  rw [this.1, Ab, Nat.add_comm (AA l).length, ih.1]
  simp [US]
end
theorem Rj {x : T} (h : x.wf = true) : O4 x.flat = prT 0 x := by
 have := (prS_T x.flat x [] [] h (by simp) (by simp [prS])).1
 simpa [O4, prS] using this
mutual
theorem UM : ∀ (x : T) (u v : List Nd), (prT u.length x).foldl VL (u ++ x.flat ++ v) = u ++ (erT x).flat ++ v
 | .mk m l, u, v => by
  by_cases hk : m.K = 28
  ·
   simp only [prT, erT, hk, if_true, List.foldl_cons, List.foldl_nil, VL, Bi, Int.toNat_natCast, AZ, List.nil_append]
   have e1 : u.length + (AA l).length + 1 = (u ++ (AA l ++ [m])).length := by simp; omega
   rw [e1, List.drop_left' rfl, BG u, List.take_left' rfl]
  ·
   simp only [prT, erT, hk, if_false, Bi]
   have := QX l u ([m] ++ v)
   simpa using this
theorem QX : ∀ (l : List T) (u v : List Nd), (US u.length l).foldl VL (u ++ AA l ++ v) = u ++ AA (Gy l) ++ v
 | [], u, v => by simp [US, Gy, AZ]
 | y :: l, u, v => by
  simp only [US, Gy, Bh, List.foldl_append]
  have h1 := QX l (u ++ y.flat) v
  have h2 := UM y u (AA (Gy l) ++ v)
  rw [Ab] at h1
  rw [show u ++ (y.flat ++ AA l) ++ v = u ++ y.flat ++ AA l ++ v by simp, h1, show u ++ y.flat ++ AA (Gy l) ++ v = u ++ y.flat ++ (AA (Gy l) ++ v) by simp, h2]
  simp
end
theorem PW {x : T} (h : x.wf = true) : I9 x.flat (O4 x.flat) = (erT x).flat := by
 rw [Rj h]
 have := UM x [] []
 simpa [I9] using this
mutual
theorem OT : ∀ x : T, x.wf = true → (erT x).wf = true ∧ (erT x).deep ≤ x.deep ∧ (erT x).flat.length ≤ x.flat.length
 | .mk m l, hw => by
  obtain ⟨h1, h2, h3⟩ := DS hw
  by_cases hk : m.K = 28
  ·
   simp only [erT, hk, if_true, E8, T.wfs, T.deep, BZ, Bi, AZ, Ab, Aj, Bv, Bool.and_true]
   refine ⟨by decide, by omega, by omega⟩
  ·
   obtain ⟨i1, i2, i3, i4⟩ := Si l h3
   simp only [erT, hk, if_false, E8, T.deep, Bi, Ab, Bv, AK, beq_iff_eq]
   exact ⟨⟨⟨h1, by omega⟩, i1⟩, by omega, by omega⟩
theorem Si : ∀ l : List T, T.wfs l = true → T.wfs (Gy l) = true ∧ BZ (Gy l) ≤ BZ l ∧ (AA (Gy l)).length ≤ (AA l).length ∧ (Gy l).length = l.length
 | [], _ => by simp [Gy, T.wfs]
 | y :: l, hw => by
  obtain ⟨h1, h2⟩ := Eo hw
  obtain ⟨a1, a2, a3⟩ := OT y h1
  obtain ⟨b1, b2, b3, b4⟩ := Si l h2
  simp only [Gy, T.wfs, BZ, Bh, Ab, Ad, a1, b1, Bool.and_self, true_and]
  refine ⟨by omega, by omega, by omega⟩
end
mutual
theorem QA : ∀ x : T, x.wf = true → (stT x).wf = true ∧ (stT x).deep ≤ x.deep ∧ (stT x).flat = x.flat.filter Wl
 | .mk m l, hw => by
  obtain ⟨h1, h2, h3⟩ := DS hw
  by_cases hk : m.K = 28
  ·
   have hl := h2
   rw [RJ hk] at hl
   match l, hl with
   | [y], _ =>
    obtain ⟨a1, a2, a3⟩ := QA y (Eo h3).1
    simp only [stT, stH, hk, if_true, T.deep, BZ, Bi, DQ, E9]
    refine ⟨a1, by omega, ?_⟩
    rw [a3]
    simp [Wl, Wy, hk]
  ·
   obtain ⟨i1, i2, i3, i4⟩ := Q9 l h3
   simp only [stT, hk, if_false, E8, T.deep, Bi, AK, beq_iff_eq, E9]
   refine ⟨⟨⟨h1, by omega⟩, i1⟩, by omega, ?_⟩
   rw [i3]
   simp [Wl, Wy, hk]
theorem Q9 : ∀ l : List T, T.wfs l = true → T.wfs (UF l) = true ∧ BZ (UF l) ≤ BZ l ∧ AA (UF l) = (AA l).filter Wl ∧ (UF l).length = l.length
 | [], _ => by simp [UF, T.wfs, AZ]
 | y :: l, hw => by
  obtain ⟨h1, h2⟩ := Eo hw
  obtain ⟨a1, a2, a3⟩ := QA y h1
  obtain ⟨b1, b2, b3, b4⟩ := Q9 l h2
  simp only [UF, T.wfs, BZ, Bh, Ad, a1, b1, Bool.and_self, true_and, E9, a3, b3, b4, and_true]
  omega
end
mutual
theorem Vo : ∀ x : T, ∀ n ∈ (erT x).flat, n.K ≠ 28
 | .mk m l => by
  by_cases hk : m.K = 28
  · simp [erT, hk, Bi, AZ]
  ·
   simp only [erT, hk, if_false, Bi, B5, AB]
   rintro n (h | rfl)
   · exact Sj l n h
   · exact hk
theorem Sj : ∀ l : List T, ∀ n ∈ AA (Gy l), n.K ≠ 28
 | [] => by simp [Gy, AZ]
 | y :: l => by
  simp only [Gy, Bh, B5]
  rintro n (h | h)
  · exact Vo y n h
  · exact Sj l n h
end
mutual
theorem Vp : ∀ x : T, ∀ n ∈ (erT x).flat, n = UC ∨ n ∈ x.flat
 | .mk m l => by
  by_cases hk : m.K = 28
  · simp [erT, hk, Bi, AZ]
  ·
   simp only [erT, hk, if_false, Bi, B5, AB]
   rintro n (h | rfl)
   ·
    rcases Sk l n h with h | h
    · exact .inl h
    · exact .inr (.inl h)
   · exact .inr (.inr rfl)
theorem Sk : ∀ l : List T, ∀ n ∈ AA (Gy l), n = UC ∨ n ∈ AA l
 | [] => by simp [Gy, AZ]
 | y :: l => by
  simp only [Gy, Bh, B5]
  rintro n (h | h)
  ·
   rcases Vp y n h with h | h
   · exact .inl h
   · exact .inr (.inl h)
  ·
   rcases Sk l n h with h | h
   · exact .inl h
   · exact .inr (.inr h)
end
def PM (l : List (List Nd)) : Nat := (l.map fun p => p.length - 1).sum
def LD (t : List Nd) : Nat := t.countP fun n => decide (n.K = 29)
theorem HE (a b : List Nd) : LD (a ++ b) = LD a + LD b := by simp [LD]
theorem ND (a b : List (List Nd)) : PM (a ++ b) = PM a + PM b := by simp [PM]
mutual
theorem Sm : ∀ x : T, (erT x).flat.length + PM (UR x) = x.flat.length ∧ (UR x).length ≤ LD (erT x).flat ∧ ∀ p ∈ UR x, p ≠ [] ∧ (nth p (p.length - 1)).K = 28
 | .mk m l => by
  by_cases hk : m.K = 28
  ·
   simp [erT, UR, hk, Bi, AZ, PM, LD, nth]
   omega
  ·
   obtain ⟨i1, i2, i3⟩ := OS l
   simp only [erT, UR, hk, if_false, Bi, Ab, Bv, HE]
   exact ⟨by omega, by omega, i3⟩
theorem OS : ∀ l : List T, (AA (Gy l)).length + PM (Ns l) = (AA l).length ∧ (Ns l).length ≤ LD (AA (Gy l)) ∧ ∀ p ∈ Ns l, p ≠ [] ∧ (nth p (p.length - 1)).K = 28
 | [] => by simp [Gy, Ns, AZ, PM]
 | y :: l => by
  obtain ⟨a1, a2, a3⟩ := Sm y
  obtain ⟨b1, b2, b3⟩ := OS l
  simp only [Gy, Ns, Bh, Ab, HE, ND]
  refine ⟨by omega, by omega, fun p hp => ?_⟩
  rcases B5.1 hp with h | h
  · exact a3 p h
  · exact b3 p h
end
end
section
/- Where terms begin, and the parts of one: plain lists. -/
def frL (t : List Nd) (e : Nat) : Nat := match CM [] (t.take (e + 1)) with
 | some st => (AA st.dropLast).length
 | none => 0
def C5 (t : List Nd) (e j : Nat) : Nat := match CM [] (t.take e) with
 | some st => (AA (st.take (st.length - j))).length
 | none => 0
theorem QH {t : List Nd} {st : List T} (h : CM [] t = some st) (k : Nat) : ∃ s, CM [] (t.take k) = some s := by
 have h1 := h
 rw [← List.take_append_drop k t, DN] at h1
 cases hs : CM [] (t.take k) with
 | none => rw [hs] at h1; cases h1
 | some s => exact ⟨s, rfl⟩
theorem FX {t : List Nd} (h : BW t = true) (k : Nat) : ∃ s, CM [] (t.take k) = some s := by
 obtain ⟨x, hs, _⟩ := D0 h
 exact QH hs k
theorem C7 {t : List Nd} (h : BW t = true) : (Bk t).wf = true ∧ (Bk t).flat = t := by
 obtain ⟨x, _, _, hw, hf⟩ := D0 h
 rw [← hf, Du hw]
 exact ⟨hw, rfl⟩
theorem Hh {x : T} (h : x.wf = true) : BW x.flat = true := by
 unfold BW
 rw [Gl [] x h]
 rfl
theorem BO {t : List Nd} (h : chk t = 0) : BW t = true := by
 obtain ⟨x, hw, rfl, _⟩ := Pc.1 h
 exact Hh hw
theorem Dy {t : List Nd} (h : BW t = true) : 0 < t.length := by
 obtain ⟨x, _, _, _, rfl⟩ := D0 h
 exact EJ x
theorem MX {st : List T} (hw : T.wfs st = true) (m : Nat) : CM [] (AA (st.take m)) = some (st.take m) := by
 have h2 : T.wfs (st.take m) = true := (EQ _).2 fun x hx => (EQ _).1 hw x (List.mem_of_mem_take hx)
 simpa using FA [] _ h2
theorem Fn (st : List T) (m : Nat) : AA st = AA (st.take m) ++ AA (st.drop m) := by rw [← C4, List.take_append_drop]
theorem IE {t : List Nd} {e : Nat} (h : BW t = true) (he : e ≤ t.length) : C5 t e 0 = e := by
 obtain ⟨st, hs⟩ := FX h e
 unfold C5
 rw [hs]
 simp only [Nat.sub_zero, CQ]
 rw [(Fs hs (by simp [T.wfs])).1]
 simp [AZ, he]
theorem KX {t : List Nd} {e : Nat} {st : List T} (h : BW t = true) (he : e < t.length) (hs : CM [] (t.take e) = some st) : right (nth t e) = true ∧ many (nth t e) ≤ st.length :=
 OG h hs he
theorem Dn {t : List Nd} {e : Nat} (h : BW t = true) (he : e < t.length) : right (nth t e) = true := by
 obtain ⟨st, hs⟩ := FX h e
 exact (KX h he hs).1
theorem IF {t : List Nd} {e j : Nat} (h : BW t = true) (he : e < t.length) (hj : j < many (nth t e)) : 0 < C5 t e j ∧ C5 t e j ≤ e ∧ frL t (C5 t e j - 1) = C5 t e (j + 1) ∧ C5 t e (j + 1) < C5 t e j := by
 obtain ⟨st, hs⟩ := FX h e
 obtain ⟨_, hm⟩ := KX h he hs
 obtain ⟨hf, hw⟩ := Fs hs (by simp [T.wfs])
 simp only [AZ, List.nil_append] at hf
 have hp : ∀ i, C5 t e i = (AA (st.take (st.length - i))).length := fun i => by unfold C5; rw [hs]
 have hle : ∀ i, (AA (st.take i)).length ≤ e := fun i => by
  have h1 := congrArg List.length (Fn st i)
  rw [hf, Ah, Ab] at h1
  omega
 have hsnoc : st.take (st.length - j) = st.take (st.length - (j + 1)) ++ [st[st.length - (j + 1)]'(by omega)] := by
  rw [show st.length - j = st.length - (j + 1) + 1 by omega, List.take_add_one, Bx (by omega)]
  rfl
 have hlen : C5 t e j = C5 t e (j + 1) + (st[st.length - (j + 1)]'(by omega)).flat.length := by
  rw [hp, hp, hsnoc, C4, DQ, Ab]
 have hpos := EJ (st[st.length - (j + 1)]'(by omega))
 refine ⟨by omega, by rw [hp]; exact hle _, ?_, by omega⟩
 unfold frL
 have htk : t.take (C5 t e j - 1 + 1) = AA (st.take (st.length - j)) := by
  rw [show C5 t e j - 1 + 1 = C5 t e j by omega, hp]
  have h2 := Fn st (st.length - j)
  rw [hf] at h2
  have h3 := congrArg (List.take (AA (st.take (st.length - j))).length) h2
  rw [List.take_take, List.take_left' rfl, Nat.min_eq_left (hle _)] at h3
  exact h3
 rw [htk, MX hw, hsnoc]
 simp only [List.dropLast_concat]
 rw [hp]
theorem O5 {t : List Nd} {e : Nat} (h : BW t = true) (he : e < t.length) : C5 t e (many (nth t e)) = frL t e := by
 obtain ⟨st, hs⟩ := FX h e
 obtain ⟨hr, hm⟩ := KX h he hs
 have h1 := EK hs he
 unfold C5 frL
 rw [hs, h1]
 unfold E5
 rw [At (by simp [hr, hm])]
 simp
def ptL (t : List Nd) : List (List Nd) := (Bk t).args.map T.flat
theorem Dg {t : List Nd} (h : BW t = true) : ∃ n l, Bk t = .mk n l ∧ right n = true ∧ many n = l.length ∧ T.wfs l = true ∧ t = AA l ++ [n] ∧ nth t (t.length - 1) = n ∧ (AA l).length = t.length - 1 ∧ CM [] (t.take (t.length - 1)) = some l := by
 obtain ⟨hw, hf⟩ := C7 h
 rcases hx : Bk t with ⟨n, l⟩
 rw [hx] at hw hf
 obtain ⟨h1, h2, h3⟩ := DS hw
 rw [Bi] at hf
 have hl : (AA l).length = t.length - 1 := by rw [← hf]; simp
 refine ⟨n, l, rfl, h1, h2, h3, hf.symm, ?_, hl, ?_⟩
 ·
  rw [← hl, ← hf]
  simp [nth]
 ·
  rw [← hl, ← hf, List.take_left' rfl]
  simpa using FA [] l h3
theorem Rn {t : List Nd} (h : BW t = true) (j : Nat) : C5 t (t.length - 1) j = (AA ((Bk t).args.take ((Bk t).args.length - j))).length := by
 obtain ⟨n, l, hx, _, _, _, _, _, _, hs⟩ := Dg h
 unfold C5
 rw [hs, hx]
 rfl
theorem EM {t : List Nd} (h : BW t = true) : many (nth t (t.length - 1)) = (Bk t).args.length := by
 obtain ⟨n, l, hx, _, h2, _, _, h4, _, _⟩ := Dg h
 rw [h4, h2, hx]
 rfl
def ptD (t : List Nd) (j : Nat) : List (List Nd) := ((Bk t).args.drop ((Bk t).args.length - j)).map T.flat
theorem O2 (t : List Nd) : ptD t 0 = [] := by simp [ptD]
theorem P7 {t : List Nd} {j : Nat} (h : BW t = true) (hj : j ≤ many (nth t (t.length - 1))) : (ptD t j).length = j := by
 rw [EM h] at hj
 simp [ptD]
 omega
theorem Rh {t : List Nd} (h : BW t = true) : ptD t (many (nth t (t.length - 1))) = ptL t := by
 rw [EM h]
 simp [ptD, ptL]
theorem T8 {t : List Nd} {j a b : Nat} (h : BW t = true) (hj : j < many (nth t (t.length - 1))) (ha : a = C5 t (t.length - 1) (j + 1)) (hb : b = C5 t (t.length - 1) j) : (t.drop a).take (b - a) :: ptD t j = ptD t (j + 1) := by
 have hm := EM h
 obtain ⟨n, l, hx, _, h2, _, h4, _, _, _⟩ := Dg h
 rw [Rn h] at ha hb
 rw [hm, hx] at hj
 unfold ptD
 rw [hx] at ha hb ⊢
 simp only [T.args] at ha hb hj ⊢
 have h1 : l.length - (j + 1) < l.length := by omega
 have hd : l.drop (l.length - (j + 1)) = l[l.length - (j + 1)] :: l.drop (l.length - j) := by
  rw [List.drop_eq_getElem_cons h1, show l.length - (j + 1) + 1 = l.length - j by omega]
 have hsnoc : l.take (l.length - j) = l.take (l.length - (j + 1)) ++ [l[l.length - (j + 1)]] := by
  rw [show l.length - j = l.length - (j + 1) + 1 by omega, List.take_add_one, Bx h1]
  rfl
 have hall : AA l = AA (l.take (l.length - (j + 1))) ++ (l[l.length - (j + 1)].flat ++ AA (l.drop (l.length - j))) := by
  rw [Fn l (l.length - (j + 1)), hd, Bh]
 rw [hd, BJ]
 congr 1
 have hb' : b - a = l[l.length - (j + 1)].flat.length := by
  rw [ha, hb, hsnoc, C4, DQ, Ab]
  omega
 rw [hb', ha, h4, hall, BG, List.drop_left' rfl, BG, List.take_left' rfl]
theorem G4 {t p : List Nd} (h : BW t = true) (hp : p ∈ ptL t) : BW p = true ∧ p.length < t.length ∧ (∀ n ∈ p, n ∈ t) := by
 obtain ⟨n, l, hx, _, h2, h3, h4, _, h6, _⟩ := Dg h
 unfold ptL at hp
 rw [hx] at hp
 obtain ⟨y, hy, rfl⟩ := Ch.1 hp
 simp only [T.args] at hy
 have hw := (EQ l).1 h3 y hy
 obtain ⟨a, b, rfl⟩ := List.append_of_mem hy
 refine ⟨Hh hw, ?_, fun m hm => ?_⟩
 ·
  have := Dy h
  rw [C4, Bh] at h6
  simp only [Ab] at h6
  omega
 ·
  rw [h4, C4, Bh]
  simp [hm]
theorem Cz {t : List Nd} (h : BW t = true) : (ptL t).length = many (nth t (t.length - 1)) := by rw [EM h]; simp [ptL]
theorem QB {t p : List Nd} (h : sml t) (hp : ∀ n ∈ p, n ∈ t) : sml p := fun k hk => by
 have h1 := hp _ (G6 hk)
 obtain ⟨i, hi, he⟩ := List.getElem_of_mem h1
 have h2 := h i hi
 have : nth t i = t[i] := by simp [nth, hi]
 rw [this, he] at h2
 exact h2
end
section
/- The document's own words of terms: parts, what is made of them; plain lists. -/
section
variable {w0 w : World} {Z M : Nat → Prop} {m : List Res} {ds ds' : List Dat}
theorem St.sub (h : St w0 Z M w m ds) (hd : ∀ d ∈ ds', d ∈ ds) : St w0 Z M w m ds' := ⟨h.os, h.tape, h.output, h.size, h.old, h.hold, h.own, h.apart, fun d hx => h.dat d (hd d hx)⟩
theorem F6 : ∀ d ∈ ([] : List Dat), d ∈ ds := fun _ h => by cases h
theorem Av {d : Dat} {l : List Dat} {i : Nat} (h : ds[i]? = some d) (hl : ∀ x ∈ l, x ∈ ds) : ∀ x ∈ d :: l, x ∈ ds := fun x hx => by
 rcases AD.1 hx with rfl | hx
 · exact Ax h
 · exact hl x hx
end
def Ce (l : List (List Nd)) (k : Nat) : List Nd := l.getD k []
theorem Er (a b : List Sl) : Bt (a ++ b) = Bt a ++ Bt b := by simp [Bt]
theorem Gr {A : Option Addr} {c : Nat} {L : List Nd} : Bt [((A, c, L) : Sl)] = [L] := rfl
theorem Bs (a : List Sl) : (Bt a).length = a.length := by simp [Bt]
theorem AQ (a : List Sl) (k : Nat) : (BF a k).2.2 = Ce (Bt a) k := by
 unfold BF Ce Bt
 rw [AP, AP, El]
 cases a[k]? <;> rfl
theorem CR {l : List (List Nd)} {k : Nat} (h : k < l.length) : Ce l k ∈ l := by
 have : Ce l k = l[k] := by simp [Ce, h]
 rw [this]
 exact List.getElem_mem h
theorem Q3 {l : List (List Nd)} {k : Nat} (h : k < l.length) : l.take (k + 1) = l.take k ++ [Ce l k] := by
 rw [List.take_add_one, Bx h]
 simp [Ce, h]
theorem KQ {t : List Nd} {Ls : List Sl} {k : Nat} (h : BW t = true) (hs : sml t) (hL : Bt Ls = ptL t) (hk : k < Ls.length) :
  (BF Ls k).2.2 = Ce (ptL t) k ∧ k < (ptL t).length ∧ BW (BF Ls k).2.2 = true ∧ (BF Ls k).2.2.length < t.length ∧ sml (BF Ls k).2.2 ∧ 0 < (BF Ls k).2.2.length := by
 have e := AQ Ls k
 rw [hL] at e
 have hk' : k < (ptL t).length := by rw [← hL, Bs]; exact hk
 obtain ⟨h1, h2, h3⟩ := G4 h (CR hk')
 rw [e]
 exact ⟨rfl, hk', h1, h2, QB hs h3, Dy h1⟩
theorem JQ {t : List Nd} {Ls : List Sl} {A : Option Addr} {c k a b : Nat} (hb : BW t = true) (hL : Bt Ls = ptD t k) (hk : k < many (nth t (t.length - 1))) (ha : a = C5 t (t.length - 1) (k + 1)) (hbb : b = C5 t (t.length - 1) k) :
  Bt ([((A, c, (t.drop a).take (b - a)) : Sl)] ++ Ls) = ptD t (k + 1) := by
 rw [Er, Gr, hL, ← T8 hb hk ha hbb]
 rfl
theorem FI (l : List T) : (l.map T.flat).flatten = AA l := by
 induction l with
 | nil => simp [AZ]
 | cons t l ih => simp [Bh, ih]
def erL (t : List Nd) : List Nd := (erT (Bk t)).flat
def prL (t : List Nd) : List (List Nd) := UR (Bk t)
theorem Ud (l : List T) : Gy l = l.map erT := by
 induction l with
 | nil => rfl
 | cons t l ih => simp [Gy, ih]
theorem TN {β : Type} {l : List T} (h : T.wfs l = true) (f : T → β) : (l.map T.flat).map (fun p => f (Bk p)) = l.map f := by
 rw [List.map_map]
 refine List.map_congr_left fun y hy => ?_
 simp only [Function.comp]
 rw [Du ((EQ l).1 h y hy)]
theorem WE {t : List Nd} (h : BW t = true) (hk : (nth t (t.length - 1)).K = 28) : erL t = [UC] := by
 obtain ⟨n, l, hx, _, _, _, _, h5, _, _⟩ := Dg h
 rw [h5] at hk
 simp [erL, hx, erT, hk, Bi, AZ]
theorem Sn {t : List Nd} (h : BW t = true) (hk : ¬ (nth t (t.length - 1)).K = 28) : erL t = ((ptL t).map erL).flatten ++ [nth t (t.length - 1)] := by
 obtain ⟨n, l, hx, _, _, h3, _, h5, _, _⟩ := Dg h
 rw [h5] at hk ⊢
 have h6 : (ptL t).map erL = l.map (fun y => (erT y).flat) := by
  unfold ptL
  rw [hx]
  exact TN h3 (fun y => (erT y).flat)
 rw [h6]
 unfold erL
 rw [hx]
 simp only [erT, hk, if_false, Bi, Ud]
 rw [← FI, List.map_map]
 rfl
theorem So {t : List Nd} (h : BW t = true) : (erL t).length ≤ t.length := by
 obtain ⟨hw, hf⟩ := C7 h
 have := (OT _ hw).2.2
 rw [hf] at this
 exact this
theorem era_eq {t : List Nd} (h : BW t = true) : I9 t (O4 t) = erL t := by
 obtain ⟨hw, hf⟩ := C7 h
 have := PW hw
 rw [hf] at this
 exact this
theorem KY {f : List Nd → List Nd} {t : List Nd} {Ls : List Sl} {A : Option Addr} {c k : Nat} {L : List Nd} (hL : Bt Ls = ((ptL t).take k).map f) (hk : k < (ptL t).length) (he : L = f (Ce (ptL t) k)) :
  Bt (Ls ++ [((A, c, L) : Sl)]) = ((ptL t).take (k + 1)).map f := by
 rw [Er, Gr, hL, Q3 hk, C3, he]
 rfl
theorem Md {t : List Nd} (h : BW t = true) : (ptL t).length ≤ 8 := by
 rw [Cz h]
 exact FY (Dn h (by have := Dy h; omega))
end
section
/- What is erased, stripped, and the proofs, of terms: lists. -/
def erA (t : List Nd) : List Nd := if chk t = 0 then erL t else []
def stA (t : List Nd) : List Nd := if chk t = 0 then t.filter Wl else []
def prA (t : List Nd) : List (List Nd) := if chk t = 0 then prL t else []
theorem Kq {t : List Nd} (h : chk t = 0) : erA t = erL t := At h
theorem Sq {t : List Nd} (h : ¬ chk t = 0) : erA t = [] := Aq h
theorem stA_ok {t : List Nd} (h : chk t = 0) : stA t = t.filter Wl := At h
theorem prA_ok {t : List Nd} (h : chk t = 0) : prA t = prL t := At h
theorem D5 {t : List Nd} : sml t ↔ ∀ n ∈ t, n.S.size < 1000000 := by
 constructor
 ·
  intro h n hn
  obtain ⟨i, hi, rfl⟩ := List.getElem_of_mem hn
  have := h i hi
  simpa [nth, hi] using this
 ·
  intro h k hk
  exact h _ (G6 hk)
theorem Iq {x : T} (hw : x.wf = true) (hd : x.deep ≤ 60) (hl : x.flat.length ≤ 4000) : chk x.flat = 0 := Pc.2 ⟨x, hw, rfl, hl, hd⟩
theorem TT {l : List (List Nd)} {p : List Nd} (h : p ∈ l) : p.length - 1 ≤ PM l := by
 induction l with
 | nil => cases h
 | cons q l ih =>
  simp only [PM, BJ, List.sum_cons]
  rcases AD.1 h with rfl | h
  · omega
  ·
   have := ih h
   simp only [PM] at this
   omega
theorem Sp {t : List Nd} (hc : chk t = 0) (hs : sml t) : sml (erL t) ∧ chk (erL t) = 0 ∧ (erL t).length ≤ t.length ∧ erL (erL t) = erL t ∧ (∀ k, k < (erL t).length → (nth (erL t) k).K ≠ 28) := by
 obtain ⟨hw, hf, hd, hl⟩ := Co hc
 obtain ⟨h1, h2, h3⟩ := OT _ hw
 rw [hf] at h3
 have hno := Vo (Bk t)
 have hfix : ∀ x : T, (∀ n ∈ x.flat, n.K ≠ 28) → erT x = x := by
  have both : (∀ x : T, (∀ n ∈ x.flat, n.K ≠ 28) → erT x = x) := by
   intro x
   refine T.rec (motive_1 := fun x => (∀ n ∈ x.flat, n.K ≠ 28) → erT x = x) (motive_2 := fun l => (∀ n ∈ AA l, n.K ≠ 28) → Gy l = l) ?_ ?_ ?_ x
   ·
    intro n l ih h
    have hk : n.K ≠ 28 := h n (by simp [Bi])
    simp only [erT, hk, if_false]
    rw [ih (fun m hm => h m (by simp [Bi, hm]))]
   · intro _; rfl
   ·
    intro y l ih1 ih2 h
    simp only [Gy]
    rw [ih1 (fun m hm => h m (by simp [Bh, hm])), ih2 (fun m hm => h m (by simp [Bh, hm]))]
  exact both
 refine ⟨D5.2 fun n hn => ?_, Iq h1 (by omega) (by show (erT (Bk t)).flat.length ≤ 4000; omega), h3, ?_, fun k hk => hno _ (G6 hk)⟩
 ·
  rcases Vp _ n hn with rfl | h
  · decide
  ·
   rw [hf] at h
   exact D5.1 hs n h
 ·
  show (erT (Bk (erT (Bk t)).flat)).flat = (erT (Bk t)).flat
  rw [Du h1, hfix _ hno]
theorem G1 {t : List Nd} (hc : chk t = 0) (hs : sml t) :
  (sml (erA t) ∧ chk (erA t) = 0 ∧ (erA t).length ≤ t.length ∧ erA (erA t) = erA t ∧ (∀ k, k < (erA t).length → (nth (erA t) k).K ≠ 28)) ∧
  (sml (stA t) ∧ chk (stA t) = 0 ∧ (stA t).length ≤ t.length) ∧
  ((prA t).length ≤ LD (erA t) ∧ (erA t).length + PM (prA t) = t.length ∧ ∀ p ∈ prA t, 0 < p.length ∧ p.length ≤ t.length ∧ (nth p (p.length - 1)).K = 28) := by
 obtain ⟨hw, hf, hd, hl⟩ := Co hc
 obtain ⟨h1, h2, h3, h4, h5⟩ := Sp hc hs
 obtain ⟨s1, s2, s3⟩ := QA _ hw
 rw [hf] at s3
 obtain ⟨p1, p2, p3⟩ := Sm (Bk t)
 rw [hf] at p1
 rw [Kq hc, stA_ok hc, prA_ok hc, Kq h2]
 refine ⟨⟨h1, h2, h3, h4, h5⟩, ⟨?_, ?_, List.length_filter_le _ _⟩, p2, p1, fun p hp => ?_⟩
 · exact D5.2 fun n hn => D5.1 hs n ((List.mem_filter.1 hn).1)
 ·
  rw [← s3]
  refine Iq s1 (by omega) ?_
  rw [s3]
  have := List.length_filter_le Wl t
  omega
 ·
  obtain ⟨q1, q2⟩ := p3 p hp
  have q3 : p.length - 1 ≤ PM (UR (Bk t)) := TT hp
  have q4 : 0 < p.length := List.length_pos_iff.2 q1
  have q5 : 0 < (erT (Bk t)).flat.length := EJ _
  have : p.length ≤ t.length := by omega
  exact ⟨q4, this, q2⟩
theorem Vq (t : List Nd) : (erA t).length ≤ t.length := by
 by_cases h : chk t = 0
 · rw [Kq h]; exact So (BO h)
 · rw [Sq h]; simp
theorem Mw {α : Type} {t : List Nd} {f : List Nd → List α} (h : BW t = true) (hf : ∀ p ∈ ptL t, (f p).length ≤ p.length) (k : Nat) : (((ptL t).take k).map f).flatten.length ≤ 8 * t.length := by
 have h8 := Md h
 have h2 : ∀ l : List (List Nd), (∀ p ∈ l, (f p).length ≤ t.length) → (l.map f).flatten.length ≤ l.length * t.length := by
  intro l
  induction l with
  | nil => simp
  | cons p l ih =>
   intro hl
   have h1 := hl p (by simp)
   have h2 := ih (fun q hq => hl q (by simp [hq]))
   simp only [BJ, Em, Ab, Ad, Nat.add_mul]
   omega
 have h3 := h2 ((ptL t).take k) (fun p hp => by
  have hm := List.mem_of_mem_take hp
  have := hf p hm
  have := (G4 h hm).2.1
  omega)
 have h4 : ((ptL t).take k).length ≤ 8 := by rw [Ah]; omega
 exact Bo h3 (Nat.mul_le_mul_right _ h4)
theorem Ko (p : List Sl) (k : Nat) : (Bt (p.take k)).flatten.length ≤ (Bt p).flatten.length := by
 have h : Bt p = Bt (p.take k) ++ Bt (p.drop k) := by rw [← Er, List.take_append_drop]
 rw [h, List.flatten_append, Ab]
 omega
end
section
/- Parts of terms that are checked, and their places in what is made of all parts; terms that differ in their proofs. -/
theorem VV {t p : List Nd} (h : chk t = 0) (hp : p ∈ ptL t) : chk p = 0 := by
 obtain ⟨hw, hf, hd, hl⟩ := Co h
 obtain ⟨n, l, hx, _, _, h3, _, _, _, _⟩ := Dg (BO h)
 have h4 := (G4 (BO h) hp).2.1
 unfold ptL at hp
 rw [hx] at hp hd
 obtain ⟨y, hy, rfl⟩ := Ch.1 hp
 simp only [T.args] at hy
 have h5 := OZ hy
 rw [GD] at hd
 exact Iq ((EQ l).1 h3 y hy) (by omega) (by omega)
def marks (t : List Nd) : Nat := t.countP fun n => decide (n.K = 28)
mutual
def usT (k u : Int) : T → Nat
 | .mk n l => if n.K = 0 then (if 0 ≤ n.N - u ∧ (k < 0 ∨ n.N - u = k) then 1 else 0) else L9 k l ((binds n).map (u + ·))
def L9 (k : Int) : List T → List Int → Nat
 | [], _ => 0
 | _ :: _, [] => 0
 | t :: l, u :: us => usT k u t + L9 k l us
end
mutual
def moT (k u : Int) : T → Int
 | .mk n l => if n.K = 0 then (if 0 ≤ n.N - u ∧ (k < 0 ∨ n.N - u = k) then n.N - u else -1) else Ic k l ((binds n).map (u + ·))
def Ic (k : Int) : List T → List Int → Int
 | [], _ => -1
 | _ :: _, [] => -1
 | t :: l, u :: us => max (moT k u t) (Ic k l us)
end
def usL (t : List Nd) (k u : Int) : Nat := usT k u (Bk t)
def moL (t : List Nd) (k u : Int) : Int := moT k u (Bk t)
def usP (t : List Nd) (k u : Int) (j : Nat) : Nat := L9 k ((Bk t).args.take j) ((binds (nth t (t.length - 1))).map (u + ·))
def moP (t : List Nd) (k u : Int) (j : Nat) : Int := Ic k ((Bk t).args.take j) ((binds (nth t (t.length - 1))).map (u + ·))
theorem L8 (k : Int) : ∀ (l : List T) (t : T) (us : List Int) (u : Int), l.length = us.length → ∀ vs, L9 k (l ++ [t]) (us ++ u :: vs) = L9 k l (us ++ u :: vs) + usT k u t
 | [], t, [], u, _, vs => by simp [L9]
 | y :: l, t, v :: us, u, h, vs => by
  simp only [List.cons_append, L9]
  rw [L8 k l t us u (by simpa using h) vs]
  omega
 | [], _, _ :: _, _, h, _ => by simp at h
 | _ :: _, _, [], _, h, _ => by simp at h
theorem Mj (k : Int) : ∀ (l : List T) (t : T) (us : List Int) (u : Int), l.length = us.length → ∀ vs, Ic k (l ++ [t]) (us ++ u :: vs) = max (Ic k l (us ++ u :: vs)) (max (moT k u t) (-1))
 | [], t, [], u, _, vs => by simp [Ic]; omega
 | y :: l, t, v :: us, u, h, vs => by
  simp only [List.cons_append, Ic]
  rw [Mj k l t us u (by simpa using h) vs]
  omega
 | [], _, _ :: _, _, h, _ => by simp at h
 | _ :: _, _, [], _, h, _ => by simp at h
mutual
theorem OE (k : Int) : ∀ (x : T) (u : Int), -1 ≤ moT k u x
 | .mk n l, u => by
  simp only [moT]
  split
  · split <;> omega
  · exact RD k l _
theorem RD (k : Int) : ∀ (l : List T) (us : List Int), -1 ≤ Ic k l us
 | [], us => by simp [Ic]
 | y :: l, [] => by simp [Ic]
 | y :: l, u :: us => by
  simp only [Ic]
  have := RD k l us
  omega
end
theorem Tr {α : Type} {l : List α} {j : Nat} (h : j < l.length) : l = l.take j ++ l[j] :: l.drop (j + 1) := by
 rw [← List.drop_eq_getElem_cons h, List.take_append_drop]
theorem Rg {t : List Nd} {j : Nat} (h : BW t = true) (hj : j < (ptL t).length) : ∃ hj' : j < (Bk t).args.length, Ce (ptL t) j = ((Bk t).args[j]).flat ∧ Bk (Ce (ptL t) j) = (Bk t).args[j] := by
 obtain ⟨n, l, hx, _, _, h3, _, _, _, _⟩ := Dg h
 have hj' : j < (Bk t).args.length := by simpa [ptL] using hj
 have e : Ce (ptL t) j = ((Bk t).args[j]).flat := by simp [Ce, ptL, hj']
 refine ⟨hj', e, ?_⟩
 rw [e, Du]
 have : (Bk t).args = l := by rw [hx]; rfl
 exact (EQ l).1 h3 _ (by rw [← this]; exact List.getElem_mem hj')
theorem Pm {t : List Nd} {j : Nat} (h : BW t = true) (hj : j < (ptL t).length) (u : Int) : ((binds (nth t (t.length - 1))).map (u + ·)) = ((binds (nth t (t.length - 1))).map (u + ·)).take j ++ (u + Ci (binds (nth t (t.length - 1))) j) :: ((binds (nth t (t.length - 1))).map (u + ·)).drop (j + 1) := by
 have hl : j < (binds (nth t (t.length - 1))).length := by rw [Cz h] at hj; exact hj
 have := Tr (l := (binds (nth t (t.length - 1))).map (u + ·)) (j := j) (by simpa using hl)
 rw [List.getElem_map] at this
 have e : Ci (binds (nth t (t.length - 1))) j = (binds (nth t (t.length - 1)))[j] := by simp [Ci, hl]
 rw [e]
 exact this
theorem V1 {t : List Nd} {k u : Int} {j : Nat} (h : BW t = true) (hj : j < (ptL t).length) :
  usP t k u (j + 1) = usP t k u j + usL (Ce (ptL t) j) k (u + Ci (binds (nth t (t.length - 1))) j) ∧
  moP t k u (j + 1) = max (moP t k u j) (moL (Ce (ptL t) j) k (u + Ci (binds (nth t (t.length - 1))) j)) := by
 obtain ⟨hj', e1, e2⟩ := Rg h hj
 have hb := Pm h hj u
 have hl : j < (binds (nth t (t.length - 1))).length := by rw [Cz h] at hj; exact hj
 have ht : (Bk t).args.take (j + 1) = (Bk t).args.take j ++ [(Bk t).args[j]] := by
  rw [List.take_add_one, Bx hj']; rfl
 have hlen : ((Bk t).args.take j).length = (((binds (nth t (t.length - 1))).map (u + ·)).take j).length := by
  rw [Ah, Ah, BT]
  have := EM h
  have : (binds (nth t (t.length - 1))).length = (Bk t).args.length := this
  omega
 unfold usP moP usL moL
 rw [ht, e2]
 constructor
 · rw [hb, L8 k _ _ _ _ hlen]
 ·
  rw [hb, Mj k _ _ _ _ hlen]
  have := OE k ((Bk t).args[j]) (u + Ci (binds (nth t (t.length - 1))) j)
  omega
theorem Qt {t : List Nd} {k u : Int} (h : BW t = true) (hk : ¬ (nth t (t.length - 1)).K = 0) : usL t k u = usP t k u (ptL t).length ∧ moL t k u = moP t k u (ptL t).length := by
 obtain ⟨n, l, hx, _, _, _, _, h5, _, _⟩ := Dg h
 rw [h5] at hk
 unfold usL moL usP moP ptL
 rw [hx, h5]
 simp only [T.args, BT, CQ, usT, moT, hk, if_false, and_self]
theorem Oi {t : List Nd} {k u : Int} (h : BW t = true) (hk : (nth t (t.length - 1)).K = 0) :
  usL t k u = (if 0 ≤ (nth t (t.length - 1)).N - u ∧ (k < 0 ∨ (nth t (t.length - 1)).N - u = k) then 1 else 0) ∧
  moL t k u = (if 0 ≤ (nth t (t.length - 1)).N - u ∧ (k < 0 ∨ (nth t (t.length - 1)).N - u = k) then (nth t (t.length - 1)).N - u else -1) := by
 obtain ⟨n, l, hx, _, _, _, _, h5, _, _⟩ := Dg h
 rw [h5] at hk ⊢
 unfold usL moL
 rw [hx]
 simp only [usT, moT, hk, if_true, and_self]
mutual
theorem V2 (k : Int) : ∀ (x : T) (u : Int), usT k u x ≤ x.flat.length
 | .mk n l, u => by
  simp only [usT, Bi, Ab, Bv]
  split
  · split <;> omega
  · have := U4 k l ((binds n).map (u + ·)); omega
theorem U4 (k : Int) : ∀ (l : List T) (us : List Int), L9 k l us ≤ (AA l).length
 | [], us => by simp [L9]
 | y :: l, [] => by simp [L9]
 | y :: l, u :: us => by
  simp only [L9, Bh, Ab]
  have := V2 k y u
  have := U4 k l us
  omega
end
theorem usL_le {t : List Nd} (h : BW t = true) (k u : Int) : usL t k u ≤ t.length := by
 have := V2 k (Bk t) u
 rw [(C7 h).2] at this
 exact this
mutual
theorem L7 (k : Int) : ∀ (l : List T) (us : List Int) (j : Nat), L9 k (l.take j) us ≤ (AA l).length
 | [], us, j => by simp [L9]
 | y :: l, us, 0 => by simp [L9]
 | y :: l, [], j + 1 => by simp [L9]
 | y :: l, u :: us, j + 1 => by
  simp only [List.take_succ_cons, L9, Bh, Ab]
  have := V2 k y u
  have := L7 k l us j
  omega
end
theorem usP_le {t : List Nd} (h : BW t = true) (k u : Int) (j : Nat) : usP t k u j ≤ t.length := by
 obtain ⟨n, l, hx, _, _, _, _, _, h6, _⟩ := Dg h
 unfold usP
 have := L7 k (Bk t).args ((binds (nth t (t.length - 1))).map (u + ·)) j
 rw [hx] at this ⊢
 simp only [T.args] at this ⊢
 omega
theorem Oh {t : List Nd} (h : BW t = true) (hk : (nth t (t.length - 1)).K = 0) : 0 ≤ (nth t (t.length - 1)).N ∧ (nth t (t.length - 1)).N ≤ 99 := by
 have h1 := Dn h (show t.length - 1 < t.length by have := Dy h; omega)
 rw [Fu hk, B8] at h1
 exact ⟨h1.1, h1.2.1⟩
end
section
/- Terms in which variables give way to something, under binders: shifts and substitutions; trees and lists. -/
abbrev VR := Nd → Int → Int × T
mutual
def trE (V : VR) (u : Int) : T → Int
 | .mk n l => if n.K = 0 then (V n u).1 else EC V l ((binds n).map (u + ·))
def EC (V : VR) : List T → List Int → Int
 | [], _ => 0
 | _ :: _, [] => 0
 | t :: l, u :: us => if trE V u t = 0 then EC V l us else trE V u t
end
mutual
def trT (V : VR) (u : Int) : T → T
 | .mk n l => if n.K = 0 then (V n u).2 else .mk n (Fp V l ((binds n).map (u + ·)))
def Fp (V : VR) : List T → List Int → List T
 | [], _ => []
 | _ :: _, [] => []
 | t :: l, u :: us => trT V u t :: Fp V l us
end
def E4 (V : VR) (t : List Nd) (u : Int) : Int := trE V u (Bk t)
def trL (V : VR) (t : List Nd) (u : Int) : List Nd := if E4 V t u = 0 then (trT V u (Bk t)).flat else []
def K5 (V : VR) (t : List Nd) (u : Int) (j : Nat) : Int := EC V ((Bk t).args.take j) ((binds (nth t (t.length - 1))).map (u + ·))
def MP (V : VR) (t : List Nd) (u : Int) (j : Nat) : List (List Nd) := (Fp V ((Bk t).args.take j) ((binds (nth t (t.length - 1))).map (u + ·))).map T.flat
theorem LC (V : VR) : ∀ (l : List T) (t : T) (us : List Int) (u : Int), l.length = us.length → ∀ vs, EC V (l ++ [t]) (us ++ u :: vs) = if EC V l (us ++ u :: vs) = 0 then trE V u t else EC V l (us ++ u :: vs)
 | [], t, [], u, _, vs => by
  simp only [List.nil_append, EC, if_true]
  split
  · rename_i h; exact h.symm
  · rfl
 | y :: l, t, v :: us, u, h, vs => by
  simp only [List.cons_append, EC]
  rw [LC V l t us u (by simpa using h) vs]
  by_cases h1 : trE V v y = 0
  · simp [h1]
  · simp [h1]
 | [], _, _ :: _, _, h, _ => by simp at h
 | _ :: _, _, [], _, h, _ => by simp at h
theorem LA (V : VR) : ∀ (l : List T) (t : T) (us : List Int) (u : Int), l.length = us.length → ∀ vs, Fp V (l ++ [t]) (us ++ u :: vs) = Fp V l (us ++ u :: vs) ++ [trT V u t]
 | [], t, [], u, _, vs => by simp [Fp]
 | y :: l, t, v :: us, u, h, vs => by
  simp only [List.cons_append, Fp]
  rw [LA V l t us u (by simpa using h) vs]
 | [], _, _ :: _, _, h, _ => by simp at h
 | _ :: _, _, [], _, h, _ => by simp at h
theorem Iv (V : VR) (t : List Nd) (u : Int) : K5 V t u 0 = 0 ∧ MP V t u 0 = [] := by simp [K5, MP, EC, Fp]
theorem Qx {V : VR} {t : List Nd} {u : Int} {j : Nat} (h : BW t = true) (hj : j < (ptL t).length) :
  K5 V t u (j + 1) = (if K5 V t u j = 0 then E4 V (Ce (ptL t) j) (u + Ci (binds (nth t (t.length - 1))) j) else K5 V t u j) ∧
  MP V t u (j + 1) = MP V t u j ++ [(trT V (u + Ci (binds (nth t (t.length - 1))) j) (Bk (Ce (ptL t) j))).flat] := by
 obtain ⟨hj', e1, e2⟩ := Rg h hj
 have hb := Pm h hj u
 have hl : j < (binds (nth t (t.length - 1))).length := by rw [Cz h] at hj; exact hj
 have ht : (Bk t).args.take (j + 1) = (Bk t).args.take j ++ [(Bk t).args[j]] := by
  rw [List.take_add_one, Bx hj']; rfl
 have hlen : ((Bk t).args.take j).length = (((binds (nth t (t.length - 1))).map (u + ·)).take j).length := by
  rw [Ah, Ah, BT]
  have := EM h
  have : (binds (nth t (t.length - 1))).length = (Bk t).args.length := this
  omega
 unfold K5 MP E4
 rw [ht, e2]
 constructor
 · rw [hb, LC V _ _ _ _ hlen]
 ·
  rw [hb, LA V _ _ _ _ hlen, C3]
  rfl
theorem Qw {V : VR} {t : List Nd} {u : Int} {j : Nat} (h : BW t = true) (hj : j < (ptL t).length) (h0 : K5 V t u j = 0) (he : E4 V (Ce (ptL t) j) (u + Ci (binds (nth t (t.length - 1))) j) = 0) :
  K5 V t u (j + 1) = 0 ∧ MP V t u (j + 1) = MP V t u j ++ [trL V (Ce (ptL t) j) (u + Ci (binds (nth t (t.length - 1))) j)] := by
 obtain ⟨h1, h2⟩ := Qx (V := V) (u := u) h hj
 rw [At h0] at h1
 refine ⟨h1.trans he, ?_⟩
 rw [h2]
 unfold trL
 rw [At he]
theorem LB (V : VR) : ∀ (l : List T) (us : List Int) (j : Nat), EC V (l.take j) us ≠ 0 → EC V l us = EC V (l.take j) us
 | [], us, j, h => by simp
 | y :: l, us, 0, h => by simp [EC] at h
 | y :: l, [], j + 1, h => by simp [EC] at h
 | y :: l, u :: us, j + 1, h => by
  simp only [List.take_succ_cons, EC] at h ⊢
  by_cases h1 : trE V u y = 0
  ·
   rw [At h1] at h ⊢
   rw [At h1]
   exact LB V l us j h
  · rw [Aq h1, Aq h1]
theorem Qy {V : VR} {t : List Nd} {u : Int} (h : BW t = true) (hk : ¬ (nth t (t.length - 1)).K = 0) : E4 V t u = K5 V t u (ptL t).length ∧ (trT V u (Bk t)).flat = (MP V t u (ptL t).length).flatten ++ [nth t (t.length - 1)] := by
 obtain ⟨n, l, hx, _, _, _, _, h5, _, _⟩ := Dg h
 rw [h5] at hk
 unfold E4 K5 MP ptL
 rw [hx, h5]
 simp only [T.args, BT, CQ, trE, trT, hk, if_false, Bi, true_and]
 rw [← FI]
theorem tr_err {V : VR} {t : List Nd} {u : Int} {j : Nat} (h : BW t = true) (hk : ¬ (nth t (t.length - 1)).K = 0) (hj : j < (ptL t).length) (h0 : K5 V t u j = 0) (he : ¬ E4 V (Ce (ptL t) j) (u + Ci (binds (nth t (t.length - 1))) j) = 0) :
  E4 V t u = E4 V (Ce (ptL t) j) (u + Ci (binds (nth t (t.length - 1))) j) ∧ trL V t u = [] := by
 obtain ⟨h1, _⟩ := Qx (V := V) (u := u) h hj
 rw [At h0] at h1
 have h2 : E4 V t u = K5 V t u (j + 1) := by
  rw [(Qy h hk).1]
  unfold K5 ptL
  rw [BT, CQ]
  exact LB V _ _ _ (by have := h1 ▸ he; exact this)
 rw [h1] at h2
 refine ⟨h2, ?_⟩
 unfold trL
 rw [Aq (by rw [h2]; exact he)]
theorem V4 {V : VR} {t : List Nd} {u : Int} (h : BW t = true) (hk : ¬ (nth t (t.length - 1)).K = 0) (h0 : K5 V t u (ptL t).length = 0) :
  E4 V t u = 0 ∧ trL V t u = (MP V t u (ptL t).length).flatten ++ [nth t (t.length - 1)] := by
 obtain ⟨h1, h2⟩ := Qy (V := V) (u := u) h hk
 have h3 : E4 V t u = 0 := h1.trans h0
 refine ⟨h3, ?_⟩
 unfold trL
 rw [At h3, h2]
theorem Iw {V : VR} {t : List Nd} {u : Int} (h : BW t = true) (hk : (nth t (t.length - 1)).K = 0) : E4 V t u = (V (nth t (t.length - 1)) u).1 ∧ trL V t u = (if (V (nth t (t.length - 1)) u).1 = 0 then (V (nth t (t.length - 1)) u).2.flat else []) ∧ t = [nth t (t.length - 1)] := by
 obtain ⟨n, l, hx, h1, h2, _, h4, h5, _, _⟩ := Dg h
 rw [h5] at hk ⊢
 have hE : E4 V t u = (V n u).1 := by unfold E4; rw [hx]; simp [trE, hk]
 refine ⟨hE, ?_, ?_⟩
 ·
  unfold trL
  rw [hE, hx]
  simp [trT, hk]
 ·
  have hl : l = [] := BB (by rw [← h2]; simp [many, binds, hk, shp])
  rw [h4, hl]
  simp [AZ]
mutual
theorem U8 {V : VR} {b : Nat} (hb : 1 ≤ b) (hV : ∀ n u, (V n u).1 = 0 → (V n u).2.flat.length ≤ b) : ∀ (x : T) (u : Int), trE V u x = 0 → (trT V u x).flat.length ≤ x.flat.length * b
 | .mk n l, u, h => by
  by_cases hk : n.K = 0
  ·
   simp only [trE, trT, hk, if_true] at h ⊢
   have := hV n u h
   have h2 := Nat.mul_le_mul_right b (EJ (.mk n l))
   omega
  ·
   simp only [trE, trT, hk, if_false, Bi, Ab, Bv, Nat.add_mul] at h ⊢
   have := Q0 hb hV l _ h
   omega
theorem Q0 {V : VR} {b : Nat} (hb : 1 ≤ b) (hV : ∀ n u, (V n u).1 = 0 → (V n u).2.flat.length ≤ b) : ∀ (l : List T) (us : List Int), EC V l us = 0 → (AA (Fp V l us)).length ≤ (AA l).length * b
 | [], us, _ => by simp [Fp, AZ]
 | y :: l, [], _ => by simp [Fp, AZ]
 | y :: l, u :: us, h => by
  simp only [EC] at h
  by_cases h1 : trE V u y = 0
  ·
   rw [At h1] at h
   simp only [Fp, Bh, Ab, Nat.add_mul]
   have := U8 hb hV y u h1
   have := Q0 hb hV l us h
   omega
  ·
   rw [Aq h1] at h
   exact absurd h h1
end
def VW (V : VR) : Prop := ∀ n u, right n = true → n.K = 0 → 0 ≤ u → (V n u).1 = 0 → (V n u).2.wf = true
theorem Qv {u : Int} {n : Nd} (hu : 0 ≤ u) : ∀ v ∈ (binds n).map (u + ·), 0 ≤ v := by
 intro v hv
 obtain ⟨b, hb, rfl⟩ := Ch.1 hv
 have := Lz n b hb
 omega
mutual
theorem tr_wf {V : VR} (hV : VW V) : ∀ (x : T) (u : Int), x.wf = true → 0 ≤ u → trE V u x = 0 → (trT V u x).wf = true
 | .mk n l, u, hw, hu, h => by
  obtain ⟨h1, h2, h3⟩ := DS hw
  by_cases hk : n.K = 0
  ·
   simp only [trE, trT, hk, if_true] at h ⊢
   exact hV n u h1 hk hu h
  ·
   simp only [trE, trT, hk, if_false, E8, AK, beq_iff_eq] at h ⊢
   obtain ⟨h4, h5⟩ := U7 hV l ((binds n).map (u + ·)) h3 (Qv hu) (by simp [← h2, many]) h
   exact ⟨⟨h1, by omega⟩, h4⟩
theorem U7 {V : VR} (hV : VW V) : ∀ (l : List T) (us : List Int), T.wfs l = true → (∀ v ∈ us, 0 ≤ v) → l.length = us.length → EC V l us = 0 → T.wfs (Fp V l us) = true ∧ (Fp V l us).length = l.length
 | [], us, _, _, _, _ => by simp [Fp, T.wfs]
 | y :: l, [], _, _, h, _ => by simp at h
 | y :: l, u :: us, hw, hu, hl, h => by
  obtain ⟨h1, h2⟩ := Eo hw
  simp only [EC] at h
  by_cases h3 : trE V u y = 0
  ·
   rw [At h3] at h
   obtain ⟨h4, h5⟩ := U7 hV l us h2 (fun v hv => hu v (by simp [hv])) (by simpa using hl) h
   have h6 := tr_wf hV y u h1 (hu u (by simp)) h3
   simp [Fp, T.wfs, h4, h5, h6]
  ·
   rw [Aq h3] at h
   exact absurd h h3
end
mutual
theorem Qz {V : VR} {e : Int} (hV : ∀ n u, (V n u).1 = 0 ∨ (V n u).1 = e) : ∀ (x : T) (u : Int), trE V u x = 0 ∨ trE V u x = e
 | .mk n l, u => by
  simp only [trE]
  split
  · exact hV n u
  · exact Oj hV l _
theorem Oj {V : VR} {e : Int} (hV : ∀ n u, (V n u).1 = 0 ∨ (V n u).1 = e) : ∀ (l : List T) (us : List Int), EC V l us = 0 ∨ EC V l us = e
 | [], us => by simp [EC]
 | y :: l, [] => by simp [EC]
 | y :: l, u :: us => by
  simp only [EC]
  split
  · exact Oj hV l us
  · exact Qz hV y u
end
abbrev vN (m : Int) : Nd := ⟨0, m, 0, ⟨#[]⟩⟩
theorem Gg {n : Nd} (h : right n = true) (hk : n.K = 0) : n = vN n.N ∧ 0 ≤ n.N ∧ n.N ≤ 99 := by
 rw [Fu hk, B8] at h
 obtain ⟨K, N, M, S⟩ := n
 obtain ⟨h1, h2, h3, h4⟩ := h
 simp only at hk h1 h2 h3 h4
 subst hk h3 h4
 exact ⟨rfl, h1, h2⟩
theorem Tm {m : Int} (h1 : 0 ≤ m) (h2 : m ≤ 99) : right (vN m) = true := by
 rw [Fu rfl]
 simp [h1, h2]
theorem vN_wf {m : Int} (h1 : 0 ≤ m) (h2 : m ≤ 99) : (T.mk (vN m) []).wf = true := by
 rw [E8]
 simp [Tm h1 h2, many, binds, shp, T.wfs]
def shV (by_ fr : Int) : VR := fun n u => if fr ≤ n.N - u then (if n.N + by_ - u < fr then (30, .mk n []) else if 99 < n.N + by_ then (2, .mk n []) else (0, .mk (vN (n.N + by_)) [])) else (0, .mk n [])
theorem QF (by_ fr : Int) (n : Nd) (u : Int) : (shV by_ fr n u).2.flat.length ≤ 1 := by
 unfold shV
 (repeat' split) <;> simp [Bi, AZ]
theorem shV_wf {by_ fr : Int} (hf : 0 ≤ fr) : VW (shV by_ fr) := by
 intro n u hr hk hu h
 obtain ⟨e, h1, h2⟩ := Gg hr hk
 unfold shV at h ⊢
 split
 ·
  rename_i h3
  rw [At h3] at h
  split
  · rename_i h4; rw [At h4] at h; cases h
  ·
   rename_i h4
   rw [Aq h4] at h
   split
   · rename_i h5; rw [At h5] at h; cases h
   · exact vN_wf (by omega) (by omega)
 · rw [e]; exact vN_wf h1 h2
theorem VC {by_ fr : Int} (hb : 0 ≤ by_) (n : Nd) (u : Int) : (shV by_ fr n u).1 = 0 ∨ (shV by_ fr n u).1 = 2 := by
 unfold shV
 split
 ·
  split
  · omega
  · split <;> simp
 · simp
def As (n : Int) : Int := max (-1000) (min n 1000)
def sfE (t : List Nd) (by_ fr : Int) : Int := if chk t = 0 then E4 (shV (As by_) (max 0 (As fr))) t 0 else chk t
def sfA (t : List Nd) (by_ fr : Int) : List Nd := if chk t = 0 then trL (shV (As by_) (max 0 (As fr))) t 0 else []
theorem Fq {t : List Nd} {b f : Int} (h : chk t = 0) : sfE t b f = E4 (shV (As b) (max 0 (As f))) t 0 ∧ sfA t b f = trL (shV (As b) (max 0 (As f))) t 0 := ⟨At h, At h⟩
theorem GP {t : List Nd} {b f : Int} (h : ¬ chk t = 0) : sfE t b f = chk t ∧ sfA t b f = [] := ⟨Aq h, Aq h⟩
theorem LL {t : List Nd} {b f : Int} (h : ¬ sfE t b f = 0) : sfA t b f = [] := by
 by_cases hc : chk t = 0
 ·
  rw [(Fq hc).1] at h
  rw [(Fq hc).2]
  unfold trL
  rw [Aq h]
 · exact (GP hc).2
theorem MS {V : VR} {b : Nat} (hb : 1 ≤ b) (hV : ∀ n u, (V n u).1 = 0 → (V n u).2.flat.length ≤ b) {t : List Nd} (h : BW t = true) (u : Int) : (trL V t u).length ≤ t.length * b := by
 unfold trL
 split
 ·
  rename_i he
  have := U8 hb hV (Bk t) u he
  rw [(C7 h).2] at this
  exact this
 · simp
theorem KG (t : List Nd) (b f : Int) : (sfA t b f).length ≤ t.length := by
 by_cases hc : chk t = 0
 ·
  rw [(Fq hc).2]
  have := MS (b := 1) (Af _) (fun n u _ => QF (As b) (max 0 (As f)) n u) (BO hc) 0
  omega
 · rw [(GP hc).2]; simp
theorem VE {t : List Nd} {b f : Int} (h : sfE t b f = 0) : chk t = 0 ∧ (trT (shV (As b) (max 0 (As f))) 0 (Bk t)).wf = true ∧ sfA t b f = (trT (shV (As b) (max 0 (As f))) 0 (Bk t)).flat ∧ Bk (sfA t b f) = trT (shV (As b) (max 0 (As f))) 0 (Bk t) ∧ trE (shV (As b) (max 0 (As f))) 0 (Bk t) = 0 := by
 have hc : chk t = 0 := by
  by_cases hc : chk t = 0
  · exact hc
  · rw [(GP hc).1] at h; exact h
 obtain ⟨h1, h2⟩ := Fq (b := b) (f := f) hc
 rw [h1] at h
 have hw := tr_wf (shV_wf (by_ := As b) (fr := max 0 (As f)) (by omega)) (Bk t) 0 (C7 (BO hc)).1 (Int.le_refl _) h
 have h3 : sfA t b f = (trT (shV (As b) (max 0 (As f))) 0 (Bk t)).flat := by
  rw [h2]; unfold trL; rw [At h]
 refine ⟨hc, hw, h3, ?_, h⟩
 rw [h3, Du hw]
def J8 (l : List (List Nd)) (i : Int) : List Nd := Ce l i.toNat
def puV (k : Int) (l : List (List Nd)) : VR := fun n u =>
 if n.N - u < k then (0, .mk n []) else if n.N - u < k + l.length then (sfE (J8 l (n.N - u - k)) (u + k) 0, Bk (sfA (J8 l (n.N - u - k)) (u + k) 0)) else (0, .mk (vN (n.N - l.length)) [])
theorem Ok (V : VR) : ∀ (l : List T) (us : List Int), l.length ≤ us.length → (Fp V l us).length = l.length
 | [], us, _ => by simp [Fp]
 | y :: l, [], h => by simp at h
 | y :: l, u :: us, h => by simp [Fp, Ok V l us (by simpa using h)]
theorem Ol {V : VR} {t : List Nd} {u : Int} {j : Nat} (h : BW t = true) (hj : j ≤ (ptL t).length) : (MP V t u j).length = j := by
 have h1 := EM h
 have h2 := Cz h
 have h3 : (binds (nth t (t.length - 1))).length = (Bk t).args.length := h1
 unfold MP
 rw [BT, Ok V _ _ (by rw [Ah, BT]; omega), Ah]
 omega
theorem Rf {t : List Nd} {j : Nat} (h : BW t = true) (hj : j < (ptL t).length) : ¬ (nth t (t.length - 1)).K = 0 := fun hk => by
 have h1 := Cz h
 have h2 : many (nth t (t.length - 1)) = 0 := by simp [many, binds, hk, shp]
 omega
theorem UA {V : VR} {t : List Nd} {u : Int} {j : Nat} (h : BW t = true) (hj : j < (ptL t).length) (h0 : K5 V t u j = 0) (he : ¬ E4 V (Ce (ptL t) j) (u + Ci (binds (nth t (t.length - 1))) j) = 0) :
  E4 V t u = E4 V (Ce (ptL t) j) (u + Ci (binds (nth t (t.length - 1))) j) ∧ trL V t u = [] := tr_err h (Rf h hj) hj h0 he
theorem Q1 {V : VR} {t : List Nd} {u : Int} (h : BW t = true) (hv : (nth t (t.length - 1)).K = 0 → V (nth t (t.length - 1)) u = (0, .mk (nth t (t.length - 1)) [])) (h0 : K5 V t u (ptL t).length = 0) :
  E4 V t u = 0 ∧ trL V t u = (MP V t u (ptL t).length).flatten ++ [nth t (t.length - 1)] := by
 by_cases hk : (nth t (t.length - 1)).K = 0
 ·
  obtain ⟨h1, h2, h3⟩ := Iw (V := V) (u := u) h hk
  rw [hv hk] at h1 h2
  have h4 : (ptL t).length = 0 := by rw [Cz h]; simp [many, binds, hk, shp]
  rw [h4]
  refine ⟨h1, ?_⟩
  rw [h2, (Iv V t u).2]
  simp [Bi, AZ]
 · exact V4 h hk h0
theorem tr_nm {V : VR} {b : Nat} (hb : 1 ≤ b) (hV : ∀ n u, (V n u).1 = 0 → (V n u).2.flat.length ≤ b) {t : List Nd} {u : Int} (h : BW t = true) (hv : (nth t (t.length - 1)).K = 0 → V (nth t (t.length - 1)) u = (0, .mk (nth t (t.length - 1)) [])) (h0 : K5 V t u (ptL t).length = 0) :
  (MP V t u (ptL t).length).flatten.length ≤ t.length * b := by
 have h1 := MS hb hV h u
 rw [(Q1 h hv h0).2, Ab] at h1
 omega
mutual
theorem tr_in {V : VR} {Q : Nd → Prop} (hV : ∀ n u, Q n → ∀ m ∈ (V n u).2.flat, Q m) : ∀ (x : T) (u : Int), (∀ n ∈ x.flat, Q n) → ∀ m ∈ (trT V u x).flat, Q m
 | .mk n l, u, h => by
  by_cases hk : n.K = 0
  ·
   simp only [trT, hk, if_true]
   exact hV n u (h n (by simp [Bi]))
  ·
   simp only [trT, hk, if_false, Bi, B5, AB]
   rintro m (hm | rfl)
   · exact U9 hV l _ (fun n hn => h n (by simp [Bi, hn])) m hm
   · exact h m (by simp [Bi])
theorem U9 {V : VR} {Q : Nd → Prop} (hV : ∀ n u, Q n → ∀ m ∈ (V n u).2.flat, Q m) : ∀ (l : List T) (us : List Int), (∀ n ∈ AA l, Q n) → ∀ m ∈ AA (Fp V l us), Q m
 | [], us, _ => by simp [Fp, AZ]
 | y :: l, [], _ => by simp [Fp, AZ]
 | y :: l, u :: us, h => by
  simp only [Fp, Bh, B5]
  rintro m (hm | hm)
  · exact tr_in hV y u (fun n hn => h n (by simp [Bh, hn])) m hm
  · exact U9 hV l us (fun n hn => h n (by simp [Bh, hn])) m hm
end
theorem K3 {V : VR} (hV : ∀ n u, n.S.size < 1000000 → ∀ m ∈ (V n u).2.flat, m.S.size < 1000000) {t : List Nd} (h : BW t = true) (hs : sml t) (u : Int) : sml (trL V t u) := by
 rw [D5] at hs ⊢
 unfold trL
 split
 ·
  refine tr_in (Q := fun n => n.S.size < 1000000) hV (Bk t) u ?_
  rw [(C7 h).2]
  exact hs
 · simp
theorem VB {b f : Int} : ∀ n u, n.S.size < 1000000 → ∀ m ∈ (shV b f n u).2.flat, m.S.size < 1000000 := by
 intro n u h
 unfold shV
 (repeat' split) <;> simp [Bi, AZ, h] <;> decide
theorem QG {t : List Nd} {b f : Int} (hs : sml t) : sml (sfA t b f) := by
 by_cases hc : chk t = 0
 · rw [(Fq hc).2]; exact K3 VB (BO hc) hs 0
 · rw [(GP hc).2]; intro k hk; simp at hk
theorem O9 {l : List (List Nd)} {i : Int} {Q : List Nd → Prop} (h : ∀ p ∈ l, Q p) (h0 : Q []) : Q (J8 l i) := by
 unfold J8 Ce
 rw [AP]
 cases hx : l[i.toNat]? with
 | none => exact h0
 | some p => exact h p (Ax hx)
theorem KF {t : List Nd} {b f : Int} (h : sfE t b f = 0) : (Bk (sfA t b f)).flat = sfA t b f := by
 obtain ⟨_, _, h3, h4, _⟩ := VE h
 rw [h4, h3]
theorem Re {k : Int} {l : List (List Nd)} {b : Nat} (hb : 1 ≤ b) (hl : ∀ p ∈ l, p.length ≤ b) : ∀ n u, (puV k l n u).1 = 0 → (puV k l n u).2.flat.length ≤ b := by
 intro n u h
 unfold puV at h ⊢
 by_cases h1 : n.N - u < k
 · rw [At h1]; simpa [Bi, AZ] using hb
 ·
  rw [Aq h1] at h ⊢
  by_cases h2 : n.N - u < k + l.length
  ·
   rw [At h2] at h ⊢
   simp only at h ⊢
   rw [KF h]
   exact Bo (KG _ _ _) (O9 (Q := fun p => p.length ≤ b) hl (by simp))
  · rw [Aq h2]; simpa [Bi, AZ] using hb
theorem Nr {k : Int} {l : List (List Nd)} (hl : ∀ p ∈ l, sml p) : ∀ n u, n.S.size < 1000000 → ∀ m ∈ (puV k l n u).2.flat, m.S.size < 1000000 := by
 intro n u h
 unfold puV
 by_cases h1 : n.N - u < k
 · rw [At h1]; simpa [Bi, AZ] using h
 ·
  rw [Aq h1]
  by_cases h2 : n.N - u < k + l.length
  ·
   rw [At h2]
   simp only
   by_cases he : sfE (J8 l (n.N - u - k)) (u + k) 0 = 0
   ·
    rw [KF he]
    exact D5.1 (QG (O9 (Q := sml) hl (fun k hk => by simp at hk)))
   ·
    rw [LL he]
    intro m hm
    have : Bk [] = .mk ndz [] := rfl
    rw [this] at hm
    simp [Bi, AZ] at hm
    subst hm
    decide
  ·
   rw [Aq h2]
   simp [Bi, AZ]
   decide
section
variable {t : List Nd} {u : Int} (h : BW t = true) (hk : (nth t (t.length - 1)).K = 0)
include h hk
theorem QE {b fr : Int} (h1 : fr ≤ (nth t (t.length - 1)).N - u) (h2 : (nth t (t.length - 1)).N + b - u < fr) : E4 (shV b fr) t u = 30 ∧ trL (shV b fr) t u = [] := by
 obtain ⟨e1, e2, _⟩ := Iw (V := shV b fr) (u := u) h hk
 rw [e1, e2]
 simp [shV, h1, h2]
theorem KD {b fr : Int} (h1 : fr ≤ (nth t (t.length - 1)).N - u) (h2 : ¬ (nth t (t.length - 1)).N + b - u < fr) (h3 : 99 < (nth t (t.length - 1)).N + b) : E4 (shV b fr) t u = 2 ∧ trL (shV b fr) t u = [] := by
 obtain ⟨e1, e2, _⟩ := Iw (V := shV b fr) (u := u) h hk
 rw [e1, e2]
 simp [shV, h1, h2, h3]
theorem KE {b fr : Int} (h1 : fr ≤ (nth t (t.length - 1)).N - u) (h2 : ¬ (nth t (t.length - 1)).N + b - u < fr) (h3 : ¬ 99 < (nth t (t.length - 1)).N + b) : E4 (shV b fr) t u = 0 ∧ trL (shV b fr) t u = [vN ((nth t (t.length - 1)).N + b)] := by
 obtain ⟨e1, e2, _⟩ := Iw (V := shV b fr) (u := u) h hk
 rw [e1, e2]
 simp [shV, h1, h2, h3, Bi, AZ]
theorem VU {k : Int} {l : List (List Nd)} (h1 : (nth t (t.length - 1)).N - u < k) : E4 (puV k l) t u = 0 ∧ trL (puV k l) t u = t := by
 obtain ⟨e1, e2, e3⟩ := Iw (V := puV k l) (u := u) h hk
 rw [e1, e2]
 simp only [puV, h1, if_true, Bi, AZ, List.nil_append, true_and]
 exact e3.symm
theorem T6 {k : Int} {l : List (List Nd)} (h1 : ¬ (nth t (t.length - 1)).N - u < k) (h2 : (nth t (t.length - 1)).N - u < k + l.length) :
  E4 (puV k l) t u = sfE (J8 l ((nth t (t.length - 1)).N - u - k)) (u + k) 0 ∧ trL (puV k l) t u = sfA (J8 l ((nth t (t.length - 1)).N - u - k)) (u + k) 0 := by
 obtain ⟨e1, e2, e3⟩ := Iw (V := puV k l) (u := u) h hk
 rw [e1, e2]
 simp only [puV, h1, h2, if_true, if_false, true_and]
 by_cases he : sfE (J8 l ((nth t (t.length - 1)).N - u - k)) (u + k) 0 = 0
 · rw [At he, KF he]
 · rw [Aq he, LL he]
theorem T7 {k : Int} {l : List (List Nd)} (h1 : ¬ (nth t (t.length - 1)).N - u < k) (h2 : ¬ (nth t (t.length - 1)).N - u < k + l.length) :
  E4 (puV k l) t u = 0 ∧ trL (puV k l) t u = [vN ((nth t (t.length - 1)).N - l.length)] := by
 obtain ⟨e1, e2, e3⟩ := Iw (V := puV k l) (u := u) h hk
 rw [e1, e2]
 simp only [puV, h1, h2, if_true, if_false, true_and, Bi, AZ, List.nil_append]
end
def poE (t : List Nd) (k : Int) (l : List (List Nd)) : Int := if E4 (puV k l) t 0 = 0 then chk (trL (puV k l) t 0) else E4 (puV k l) t 0
def poA (t : List Nd) (k : Int) (l : List (List Nd)) : List Nd := if poE t k l = 0 then trL (puV k l) t 0 else []
theorem Ro {t : List Nd} {k : Int} {l : List (List Nd)} (h : ¬ E4 (puV k l) t 0 = 0) : poE t k l = E4 (puV k l) t 0 ∧ poA t k l = [] := by
 have : poE t k l = E4 (puV k l) t 0 := by unfold poE; rw [Aq h]
 refine ⟨this, ?_⟩
 unfold poA
 rw [this, Aq h]
theorem GY {t : List Nd} {k : Int} {l : List (List Nd)} (h : E4 (puV k l) t 0 = 0) : poE t k l = chk (trL (puV k l) t 0) ∧ poA t k l = if chk (trL (puV k l) t 0) = 0 then trL (puV k l) t 0 else [] := by
 have : poE t k l = chk (trL (puV k l) t 0) := by unfold poE; rw [At h]
 refine ⟨this, ?_⟩
 unfold poA
 rw [this]
end
section
/- A term shifted in place, node by node from the root on: plain lists. -/
def stepS (b f : Int) (o : List Nd × Int) (x : Int × Int) : List Nd × Int :=
 if (nth o.1 x.1.toNat).K = 0 ∧ ¬ (nth o.1 x.1.toNat).N - x.2 < f then
  (o.1.set x.1.toNat ⟨(nth o.1 x.1.toNat).K, (nth o.1 x.1.toNat).N + b, (nth o.1 x.1.toNat).M, (nth o.1 x.1.toNat).S⟩,
   if (nth o.1 x.1.toNat).N + b - x.2 < f then 30 else if 99 < (nth o.1 x.1.toNat).N + b then 2 else o.2)
 else o
def Ba (b f : Int) (o : List Nd × Int) (pre : List (Int × Int)) : List Nd × Int := pre.foldl (stepS b f) o
theorem Gs (b f : Int) (o : List Nd × Int) (pre : List (Int × Int)) (x : Int × Int) : Ba b f o (pre ++ [x]) = stepS b f (Ba b f o pre) x := by simp [Ba]
theorem Q6 (b f : Int) (o : List Nd × Int) (x : Int × Int) : (stepS b f o x).1.length = o.1.length := by
 unfold stepS
 split <;> simp
theorem Sf (b f : Int) (o : List Nd × Int) (pre : List (Int × Int)) : (Ba b f o pre).1.length = o.1.length := by
 induction pre generalizing o with
 | nil => rfl
 | cons x pre ih =>
  show (Ba b f (stepS b f o x) pre).1.length = _
  rw [ih, Q6]
theorem Mv (b f : Int) (o : List Nd × Int) (p q : List (Int × Int)) : Ba b f o (p ++ q) = Ba b f (Ba b f o p) q := by simp [Ba]
def Jz (b f : Int) : VR := fun n u => ((shV b f n u).1, if f ≤ n.N - u then .mk ⟨n.K, n.N + b, n.M, n.S⟩ [] else .mk n [])
theorem R6 {u v : List Nd} {n : Nd} : nth (u ++ [n] ++ v) u.length = n := by simp [nth]
theorem VF {u v : List Nd} {n m : Nd} : (u ++ [n] ++ v).set u.length m = u ++ [m] ++ v := by simp
mutual
theorem Vn (b f : Int) : ∀ (x : T) (k : Int) (u v : List Nd) (e : Int), x.wf = true →
  Ba b f (u ++ x.flat ++ v, e) (L2 u.length k x) = (u ++ (trT (Jz b f) k x).flat ++ v, if trE (Jz b f) k x = 0 then e else trE (Jz b f) k x)
 | .mk n l, k, u, v, e, hw => by
  obtain ⟨h1, h2, h3⟩ := DS hw
  have hp : ((u.length : Int) + ((AA l).length : Int)).toNat = (u ++ AA l).length := by rw [Ab]; omega
  have hr : u ++ (T.mk n l).flat ++ v = (u ++ AA l) ++ [n] ++ v := by rw [Bi]; simp
  have hn : nth (u ++ (T.mk n l).flat ++ v) ((u.length : Int) + ((AA l).length : Int)).toNat = n := by rw [hp, hr, R6]
  have hstep : stepS b f (u ++ (T.mk n l).flat ++ v, e) ((u.length : Int) + (AA l).length, k) =
    if n.K = 0 ∧ ¬ n.N - k < f then ((u ++ AA l) ++ [⟨n.K, n.N + b, n.M, n.S⟩] ++ v, if n.N + b - k < f then 30 else if 99 < n.N + b then 2 else e) else (u ++ (T.mk n l).flat ++ v, e) := by
   unfold stepS
   simp only [hn]
   split
   · rw [hp, hr, VF]
   · rfl
  have hv : Ba b f (u ++ (T.mk n l).flat ++ v, e) (L2 u.length k (.mk n l)) = Ba b f (stepS b f (u ++ (T.mk n l).flat ++ v, e) ((u.length : Int) + (AA l).length, k)) (D9 u.length l ((binds n).map (k + ·))) := rfl
  rw [hv, hstep]
  by_cases hk : n.K = 0
  ·
   have hl : l = [] := BB (by rw [← h2]; simp [many, binds, hk, shp])
   subst hl
   simp only [D9, trE, trT, hk, if_true, AZ, CL, true_and, Bi, List.nil_append]
   show (if ¬ n.N - k < f then _ else _) = _
   unfold Jz shV
   by_cases hf : f ≤ n.N - k
   ·
    rw [At (by omega), At hf]
    simp only [hf, if_true, Bi, AZ, List.nil_append, hk]
    congr 1
    (repeat' split) <;> simp_all
   ·
    rw [Aq (by omega), Aq hf]
    simp [hf, Bi, AZ]
  ·
   have hk2 : ¬ (n.K = 0 ∧ ¬ n.N - k < f) := fun h => hk h.1
   rw [Aq hk2, show u ++ (T.mk n l).flat ++ v = u ++ AA l ++ ([n] ++ v) by rw [Bi]; simp]
   rw [Se b f l ((binds n).map (k + ·)) u ([n] ++ v) e h3 (by simp [← h2, many])]
   simp only [trE, trT, hk, if_false, Bi]
   simp
theorem Se (b f : Int) : ∀ (l : List T) (ks : List Int) (u v : List Nd) (e : Int), T.wfs l = true → l.length = ks.length →
  Ba b f (u ++ AA l ++ v, e) (D9 u.length l ks) = (u ++ AA (Fp (Jz b f) l ks) ++ v, if EC (Jz b f) l ks = 0 then e else EC (Jz b f) l ks)
 | [], ks, u, v, e, _, _ => by simp [D9, Fp, EC, AZ, Ba]
 | y :: l, [], _, _, _, _, h => by simp at h
 | y :: l, k :: ks, u, v, e, hw, hl => by
  obtain ⟨h1, h2⟩ := Eo hw
  have a1 := Se b f l ks (u ++ y.flat) v e h2 (by simpa using hl)
  have a2 := Vn b f y k u (AA (Fp (Jz b f) l ks) ++ v) (if EC (Jz b f) l ks = 0 then e else EC (Jz b f) l ks) h1
  simp only [D9, Bh, Fp, EC, Mv]
  rw [Ab] at a1
  rw [show u ++ (y.flat ++ AA l) ++ v = u ++ y.flat ++ AA l ++ v by simp, show (u.length : Int) + (y.flat.length : Int) = ((u.length + y.flat.length : Nat) : Int) by simp, a1,
   show u ++ y.flat ++ AA (Fp (Jz b f) l ks) ++ v = u ++ y.flat ++ (AA (Fp (Jz b f) l ks) ++ v) by simp, a2]
  congr 1
  · simp
  ·
   by_cases h : trE (Jz b f) k y = 0
   · simp [h]
   · simp [h]
end
mutual
theorem sh0_E (b f : Int) : ∀ (x : T) (k : Int), trE (Jz b f) k x = trE (shV b f) k x
 | .mk n l, k => by
  simp only [trE]
  split
  · rfl
  · exact UI b f l _
theorem UI (b f : Int) : ∀ (l : List T) (ks : List Int), EC (Jz b f) l ks = EC (shV b f) l ks
 | [], _ => by simp [EC]
 | _ :: _, [] => by simp [EC]
 | y :: l, k :: ks => by simp only [EC, sh0_E b f y k, UI b f l ks]
end
mutual
theorem sh0_T (b f : Int) : ∀ (x : T) (k : Int), x.wf = true → trE (shV b f) k x = 0 → trT (Jz b f) k x = trT (shV b f) k x
 | .mk n l, k, hw, h => by
  obtain ⟨h1, h2, h3⟩ := DS hw
  by_cases hk : n.K = 0
  ·
   obtain ⟨e, _, _⟩ := Gg h1 hk
   simp only [trE, trT, hk, if_true] at h ⊢
   unfold Jz
   unfold shV at h ⊢
   by_cases hf : f ≤ n.N - k
   ·
    simp only [hf, if_true] at h ⊢
    split
    · rename_i h4; simp [h4] at h
    ·
     split
     · rename_i h4 h5; simp [h4, h5] at h
     · rw [e]
   · simp only [hf, if_false]
  ·
   simp only [trE, trT, hk, if_false] at h ⊢
   rw [UH b f l _ h3 h]
theorem UH (b f : Int) : ∀ (l : List T) (ks : List Int), T.wfs l = true → EC (shV b f) l ks = 0 → Fp (Jz b f) l ks = Fp (shV b f) l ks
 | [], _, _, _ => by simp [Fp]
 | _ :: _, [], _, _ => by simp [Fp]
 | y :: l, k :: ks, hw, h => by
  obtain ⟨h1, h2⟩ := Eo hw
  simp only [EC] at h
  by_cases h3 : trE (shV b f) k y = 0
  ·
   rw [At h3] at h
   simp only [Fp, sh0_T b f y k h1 h3, UH b f l ks h2 h]
  ·
   rw [Aq h3] at h
   exact absurd h h3
end
theorem Uc {t : List Nd} {b f : Int} (hc : chk t = 0) : (Ba b f (t, 0) (Cx t)).2 = E4 (shV b f) t 0 ∧ (E4 (shV b f) t 0 = 0 → (Ba b f (t, 0) (Cx t)).1 = trL (shV b f) t 0) := by
 obtain ⟨hw, hf, _, _⟩ := Co hc
 have h := Vn b f (Bk t) 0 [] [] 0 hw
 simp only [List.nil_append, CL, Aj, hf] at h
 have h' : Ba b f (t, 0) (Cx t) = ((trT (Jz b f) 0 (Bk t)).flat, if trE (Jz b f) 0 (Bk t) = 0 then 0 else trE (Jz b f) 0 (Bk t)) := h
 have hE : E4 (shV b f) t 0 = trE (shV b f) 0 (Bk t) := rfl
 have hL : trL (shV b f) t 0 = if trE (shV b f) 0 (Bk t) = 0 then (trT (shV b f) 0 (Bk t)).flat else [] := rfl
 rw [h', hE, hL, sh0_E]
 constructor
 ·
  split
  · rename_i h1; exact h1.symm
  · rfl
 ·
  intro h1
  rw [At h1, sh0_T b f _ _ hw h1, At h1]
mutual
theorem Qr : ∀ (x : T) (o k : Int), ∀ y ∈ L2 o k x, o ≤ y.1 ∧ y.1 < o + x.flat.length ∧ k ≤ y.2 ∧ y.2 ≤ k + 2 * x.flat.length
 | .mk n l, o, k => by
  intro y hy
  simp only [L2, AD] at hy
  rw [Bi, Ab, Bv]
  rcases hy with rfl | hy
  ·
   simp only
   omega
  ·
   have h1 := Qq l o ((binds n).map (k + ·)) k (fun v hv => by
    obtain ⟨c, hc, rfl⟩ := Ch.1 hv
    have := Lz n c hc
    omega) y hy
   omega
theorem Qq : ∀ (l : List T) (o : Int) (ks : List Int) (k : Int), (∀ v ∈ ks, k ≤ v ∧ v ≤ k + 2) → ∀ y ∈ D9 o l ks, o ≤ y.1 ∧ y.1 < o + (AA l).length ∧ k ≤ y.2 ∧ y.2 ≤ k + 2 + 2 * (AA l).length
 | [], _, _, _, _ => by simp [D9]
 | _ :: _, _, [], _, _ => by simp [D9]
 | x :: l, o, v :: ks, k, h => by
  intro y hy
  simp only [D9, B5] at hy
  rw [Bh, Ab]
  have hv := h v (by simp)
  rcases hy with hy | hy
  ·
   have := Qq l (o + x.flat.length) ks k (fun w hw => h w (by simp [hw])) y hy
   omega
  ·
   have := Qr x o v y hy
   omega
end
theorem JU {t : List Nd} {pre : List (Int × Int)} {x : Int × Int} (hc : chk t = 0) (h : pre ++ [x] <+: Cx t) : ∃ (i : Nat) (j : Nat), x = ((i : Int), (j : Int)) ∧ i < t.length ∧ j ≤ 2 * t.length := by
 obtain ⟨rest, hr⟩ := h
 have hm : x ∈ Cx t := by rw [← hr]; simp
 have h1 := Qr (Bk t) 0 0 x hm
 rw [(Co hc).2.1] at h1
 exact ⟨x.1.toNat, x.2.toNat, by ext <;> simp only [] <;> omega, by omega, by omega⟩
theorem KA {b f : Int} {o : List Nd × Int} {i j : Nat} (h1 : (nth o.1 i).K = 0) (h2 : ¬ (nth o.1 i).N - (j : Int) < f) :
  stepS b f o ((i : Int), (j : Int)) = (o.1.set i ⟨(nth o.1 i).K, (nth o.1 i).N + b, (nth o.1 i).M, (nth o.1 i).S⟩, if (nth o.1 i).N + b - (j : Int) < f then 30 else if 99 < (nth o.1 i).N + b then 2 else o.2) := by
 unfold stepS
 simp only [Int.toNat_natCast]
 rw [At ⟨h1, h2⟩]
theorem V8 {b f : Int} {o : List Nd × Int} {i j : Nat} (h : ¬ (nth o.1 i).K = 0 ∨ (nth o.1 i).N - (j : Int) < f) : stepS b f o ((i : Int), (j : Int)) = o := by
 unfold stepS
 simp only [Int.toNat_natCast]
 rw [Aq (by rintro ⟨h1, h2⟩; rcases h with h | h; exact h h1; exact h2 h)]
theorem N3 (L : List Nd) (i k : Nat) (z : Nd) : nth (L.set i z) k = if i = k ∧ i < L.length then z else nth L k := by
 unfold nth
 rw [AP, List.getElem?_set, AP]
 by_cases h : i = k
 ·
  subst h
  by_cases h2 : i < L.length
  · simp [h2]
  · simp [h2]
 · simp [h]
theorem Sg {b f : Int} (hb : -1000 ≤ b ∧ b ≤ 1000) (B : Int) : ∀ (pre : List (Int × Int)) (o : List Nd × Int), (∀ k, -B ≤ (nth o.1 k).N ∧ (nth o.1 k).N ≤ B) → ∀ k, -(B + 1000 * pre.length) ≤ (nth (Ba b f o pre).1 k).N ∧ (nth (Ba b f o pre).1 k).N ≤ B + 1000 * pre.length
 | [], o, h => fun k => by have := h k; simpa [Ba] using this
 | x :: pre, o, h => by
  intro k
  have h2 : ∀ k, -(B + 1000) ≤ (nth (stepS b f o x).1 k).N ∧ (nth (stepS b f o x).1 k).N ≤ B + 1000 := by
   intro k
   have h3 := h k
   have h4 := h x.1.toNat
   unfold stepS
   split
   ·
    simp only
    rw [N3]
    split
    · simp only; omega
    · omega
   · omega
  have := Sg (f := f) hb (B + 1000) pre (stepS b f o x) h2 k
  have e : Ba b f o (x :: pre) = Ba b f (stepS b f o x) pre := rfl
  rw [e, Ad]
  omega
theorem QT {n : Nd} (h : right n = true) : 0 ≤ n.N ∧ n.N ≤ 99 := by
 obtain ⟨h1, h2, h3, h4⟩ := (Ec n).1 h
 unfold E3 at h2
 by_cases hn : (shp n.K.toNat).n = true
 ·
  have := h3 hn
  unfold most at this
  refine ⟨this.1, ?_⟩
  have := this.2
  (repeat' split at this) <;> omega
 ·
  have hn' : (shp n.K.toNat).n = false := by simpa using hn
  simp only [hn', Bool.not_false, Bool.true_and, Bool.or_eq_false_iff, Bool.not_eq_false', B8] at h2
  omega
theorem term_N {t : List Nd} (hc : chk t = 0) (k : Nat) : -99 ≤ (nth t k).N ∧ (nth t k).N ≤ 99 := by
 by_cases hk : k < t.length
 ·
  have := QT (Dn (BO hc) hk)
  omega
 ·
  have : nth t k = ndz := by simp [nth, AP, List.getElem?_eq_none (by omega : t.length ≤ k)]
  rw [this]
  decide
mutual
theorem Qp : ∀ (x : T) (o k : Int), x.wf = true → (L2 o k x).length = x.flat.length
 | .mk n l, o, k, hw => by
  obtain ⟨_, h2, h3⟩ := DS hw
  simp only [L2, Ad, Bi, Ab, Aj]
  rw [Og l o _ h3 (by simp [← h2, many])]
theorem Og : ∀ (l : List T) (o : Int) (ks : List Int), T.wfs l = true → l.length = ks.length → (D9 o l ks).length = (AA l).length
 | [], _, _, _, _ => by simp [D9, AZ]
 | _ :: _, _, [], _, h => by simp at h
 | x :: l, o, v :: ks, hw, h => by
  obtain ⟨h1, h2⟩ := Eo hw
  simp only [D9, Ab, Bh]
  rw [Og l _ ks h2 (by simpa using h), Qp x o v h1]
  omega
end
theorem JV {t : List Nd} (hc : chk t = 0) : (Cx t).length = t.length := by
 obtain ⟨hw, hf, _⟩ := Co hc
 have := Qp (Bk t) 0 0 hw
 rw [hf] at this
 exact this
theorem fold_N {t : List Nd} {b f e : Int} {pre : List (Int × Int)} (hc : chk t = 0) (hb : -1000 ≤ b ∧ b ≤ 1000) (hp : pre <+: Cx t) (k : Nat) : -10000000 ≤ (nth (Ba b f (t, e) pre).1 k).N ∧ (nth (Ba b f (t, e) pre).1 k).N ≤ 10000000 := by
 have h1 := Sg (f := f) hb 99 pre (t, e) (term_N hc) k
 have h2 := hp.length_le
 rw [JV hc] at h2
 have h3 := (Co hc).2.2.2
 omega
theorem F9 {t : List Nd} {b f : Int} (hc : chk t = 0) : sfE t b f = (Ba (As b) (max 0 (As f)) (t, chk t) (Cx t)).2 ∧ (sfE t b f = 0 → sfA t b f = (Ba (As b) (max 0 (As f)) (t, chk t) (Cx t)).1) := by
 obtain ⟨h1, h2⟩ := Uc (b := As b) (f := max 0 (As f)) hc
 obtain ⟨h3, h4⟩ := Fq (b := b) (f := f) hc
 rw [h3, h4, hc, h1]
 exact ⟨rfl, fun h => (h2 h).symm⟩
end
section
/- The nodes of a term from its root on, each with how many binders it is under: as subst.nodes hands them over. -/
def Dp (t : List Nd) : List (Nd × Int) := (Cx t).map fun x => (nth t x.1.toNat, x.2)
theorem N5 {t : List Nd} {k : Nat} {i u : Int} {n : Nat} (h : (Cx t).take k ++ [(i, u)] = (Cx t).take (k + 1)) (hi : i = (n : Int)) : (Dp t).take k ++ [(nth t n, u)] = (Dp t).take (k + 1) := by
 unfold Dp
 rw [← List.map_take, ← List.map_take, ← h, C3, hi]
 simp
theorem JT {t : List Nd} {k : Nat} {x : Nd × Int} (h : (Dp t).take k ++ [x] = (Dp t).take (k + 1)) : (Dp t).take k ++ [x] <+: Dp t := by
 rw [h]; exact List.take_prefix _ _
theorem PD {t : List Nd} {k : Nat} (h : (Cx t).take k = Cx t) : (Dp t).take k = Dp t := by
 unfold Dp
 rw [← List.map_take, h]
theorem Ut {t : List Nd} {k : Nat} (hk : k ≤ t.length) (h : bwL t = (bwL t).take k) : k = t.length := by
 have := congrArg List.length h
 rw [Ah, H9] at this
 omega
end
section
/- Results that lie in cells. -/
open Go Go.RowKit
section
variable {P : Program} {fn : Func} {N : Nat} {l : List (Nat × Value)} {a : Act} {w w0 : World} {Z M : Nat → Prop} {m : List Res} {ds : List Dat} {R : Ending → World → Prop}
theorem Tw {t u g h : Nat} {tt uu : TypeId} {v v' : Value} {d1 d2 : TypeDesc} (hR : Reg a N l) (hr : fn.results = #[.cell t tt, .cell u uu]) (hv : ev l (.tmp t) = some (.pointer (some ⟨g, 0, none⟩))) (hv' : ev l (.tmp u) = some (.pointer (some ⟨h, 0, none⟩)))
  (hc : w.cell? ⟨g, 0, none⟩ = some v) (hc' : w.cell? ⟨h, 0, none⟩ = some v') (ht : P.underlying tt = some d1) (ha : EB d1 = false) (ht' : P.underlying uu = some d2) (ha' : EB d2 = false) :
  (results fn a.tmps).run P w = .ok (.tuple #[v, v']) w := by
 have h1 : a.tmps[t]?.getD undef = .pointer (some ⟨g, 0, none⟩) := by rw [← Array.getD_eq_getD_getElem?]; exact hR.ev hv
 have h2 : a.tmps[u]?.getD undef = .pointer (some ⟨h, 0, none⟩) := by rw [← Array.getD_eq_getD_getElem?]; exact hR.ev hv'
 simp only [results, hr]
 simp [AF, h1, h2, asAddr, Ft ht ha hc, Ft ht' ha' hc']
theorem Tx {t g : Nat} {tt : TypeId} {v : Value} {d1 : TypeDesc} (hR : Reg a N l) (hr : fn.results = #[.cell t tt]) (hv : ev l (.tmp t) = some (.pointer (some ⟨g, 0, none⟩))) (hc : w.cell? ⟨g, 0, none⟩ = some v) (ht : P.underlying tt = some d1) (ha : EB d1 = false) :
  (results fn a.tmps).run P w = .ok v w := by
 have h1 : a.tmps[t]?.getD undef = .pointer (some ⟨g, 0, none⟩) := by rw [← Array.getD_eq_getD_getElem?]; exact hR.ev hv
 simp only [results, hr]
 simp [AF, h1, asAddr, Ft ht ha hc]
theorem St.cast {m' : List Res} (h : St w0 Z M w m ds) (e : m = m') : St w0 Z M w m' ds := e ▸ h
end
end
section
/- Erasing is done ahead of a shift, or of a substitution, as behind it. -/
theorem Ue {t : List Nd} (h : chk t = 0) : Bk (erL t) = erT (Bk t) := Du (OT _ (Co h).1).1
theorem VY (t : List Nd) (k : Int) (l : List (List Nd)) : (if poE t k l = 0 then poA t k l else []) = poA t k l := by
 unfold poA
 split <;> rfl
end
section
/- Terms put into one, node by node from the root on: plain lists. -/
structure RevN (t R : List Nd) (k : Nat) : Prop where
 len : R.length = t.length
 at_ : ∀ i, i < t.length → nth R i = if i < k ∨ t.length - k ≤ i then nth t (t.length - 1 - i) else nth t i
theorem RevN.zero (t : List Nd) : RevN t t 0 := ⟨rfl, fun i hi => by rw [Aq (by omega)]⟩
theorem RevN.step {t R : List Nd} {k j : Nat} {u v : Nd} (h : RevN t R k) (hk : 2 * k + 1 < t.length) (hj : j = t.length - 1 - k) (hu : u = nth R j) (hv : v = nth R k) : RevN t ((R.set k u).set j v) (k + 1) := by
 subst hj
 obtain ⟨h1, h2⟩ := h
 refine ⟨by simp [h1], fun i hi => ?_⟩
 rw [N3, N3, hu, hv, h2 _ (by omega), h2 _ (by omega), h2 i hi]
 simp only [List.length_set]
 by_cases e1 : t.length - 1 - k = i
 ·
  subst e1
  rw [At ⟨rfl, by omega⟩, Aq (by omega), At (by omega)]
  congr 1
  omega
 ·
  rw [Aq (by omega)]
  by_cases e2 : k = i
  ·
   subst e2
   rw [At ⟨rfl, by omega⟩, Aq (by omega), At (by omega)]
  ·
   rw [Aq (by omega)]
   by_cases e3 : i < k ∨ t.length - k ≤ i
   · rw [At e3, At (by omega)]
   · rw [Aq e3, Aq (by omega)]
theorem RevN.done {t R : List Nd} {k : Nat} (h : RevN t R k) (hk : t.length ≤ 2 * k + 1) : R = t.reverse := by
 obtain ⟨h1, h2⟩ := h
 apply List.ext_getElem
 · simp [h1]
 ·
  intro i hi hi'
  have h3 := h2 i (by omega)
  have h4 : nth R i = R[i] := by simp [nth, hi]
  have h5 : nth t (t.length - 1 - i) = t[t.length - 1 - i] := by
   have : t.length - 1 - i < t.length := by omega
   simp [nth, this]
  rw [List.getElem_reverse, ← h4, h3, ← h5]
  split
  · rfl
  ·
   congr 1
   omega
def reE (l : List (List Nd)) (x : Nd × Int) : Int := if x.1.K = 0 then (puV 0 l x.1 x.2).1 else 0
def reL (l : List (List Nd)) (x : Nd × Int) : List Nd := if x.1.K = 0 then (puV 0 l x.1 x.2).2.flat else [x.1]
def reR (l : List (List Nd)) (pre : List (Nd × Int)) : List Nd := pre.flatMap fun x => (reL l x).reverse
theorem Ox (l : List (List Nd)) (pre : List (Nd × Int)) (x : Nd × Int) : reR l (pre ++ [x]) = reR l pre ++ (reL l x).reverse := by simp [reR]
theorem P2 (l : List (List Nd)) (p q : List (Nd × Int)) : reR l (p ++ q) = reR l p ++ reR l q := by simp [reR]
mutual
def U3 (u : Int) : T → List (Nd × Int)
 | .mk n l => (n, u) :: GK l ((binds n).map (u + ·))
def GK : List T → List Int → List (Nd × Int)
 | [], _ => []
 | _ :: _, [] => []
 | t :: l, u :: us => GK l us ++ U3 u t
end
mutual
theorem vis_N (B : List Nd) : ∀ (x : T) (A : List Nd) (u : Int) (C : List Nd), B = A ++ x.flat ++ C → (L2 A.length u x).map (fun y => (nth B y.1.toNat, y.2)) = U3 u x
 | .mk n l, A, u, C, h => by
  have e : ((A.length : Int) + ((AA l).length : Int)).toNat = (A ++ AA l).length := by rw [Ab]; omega
  have hB : B = (A ++ AA l) ++ [n] ++ C := by rw [h, Bi]; simp
  simp only [L2, BJ, U3]
  rw [e]
  have hn : nth B (A ++ AA l).length = n := by rw [hB, R6]
  rw [hn, U2 B l A ((binds n).map (u + ·)) ([n] ++ C) (by rw [hB]; simp)]
theorem U2 (B : List Nd) : ∀ (l : List T) (A : List Nd) (us : List Int) (C : List Nd), B = A ++ AA l ++ C → (D9 A.length l us).map (fun y => (nth B y.1.toNat, y.2)) = GK l us
 | [], _, _, _, _ => by simp [D9, GK]
 | _ :: _, _, [], _, _ => by simp [D9, GK]
 | x :: l, A, u :: us, C, h => by
  have h1 := U2 B l (A ++ x.flat) us C (by rw [h, Bh]; simp)
  have h2 := vis_N B x A u (AA l ++ C) (by rw [h, Bh]; simp)
  simp only [D9, C3, GK]
  rw [Ab] at h1
  rw [← h1, ← h2]
  simp
end
theorem JS {t : List Nd} (hc : chk t = 0) : Dp t = U3 0 (Bk t) := by
 obtain ⟨_, hf, _⟩ := Co hc
 have := vis_N t (Bk t) [] 0 [] (by simp [hf])
 exact this
mutual
theorem re_T (l : List (List Nd)) : ∀ (x : T) (u : Int), x.wf = true → ((trE (puV 0 l) u x = 0 ↔ ∀ y ∈ U3 u x, reE l y = 0) ∧ reR l (U3 u x) = (trT (puV 0 l) u x).flat.reverse)
 | .mk n ps, u, hw => by
  obtain ⟨h1, h2, h3⟩ := DS hw
  by_cases hk : n.K = 0
  ·
   have hl : ps = [] := BB (by rw [← h2]; simp [many, binds, hk, shp])
   subst hl
   simp [U3, GK, trE, trT, hk, reE, reR, reL]
  ·
   obtain ⟨a1, a2⟩ := re_Ts l ps ((binds n).map (u + ·)) h3
   simp only [U3, trE, trT, hk, if_false, AD, forall_eq_or_imp, Bi, List.reverse_append]
   constructor
   ·
    rw [a1]
    have : reE l (n, u) = 0 := by simp [reE, hk]
    simp [this]
   ·
    have : reR l ((n, u) :: GK ps ((binds n).map (u + ·))) = (reL l (n, u)).reverse ++ reR l (GK ps ((binds n).map (u + ·))) := by simp [reR]
    rw [this, a2]
    simp [reL, hk]
theorem re_Ts (l : List (List Nd)) : ∀ (ps : List T) (us : List Int), T.wfs ps = true → ((EC (puV 0 l) ps us = 0 ↔ ∀ y ∈ GK ps us, reE l y = 0) ∧ reR l (GK ps us) = (AA (Fp (puV 0 l) ps us)).reverse)
 | [], _, _ => by simp [GK, EC, Fp, AZ, reR]
 | _ :: _, [], _ => by simp [GK, EC, Fp, AZ, reR]
 | x :: ps, u :: us, hw => by
  obtain ⟨h1, h2⟩ := Eo hw
  obtain ⟨a1, a2⟩ := re_T l x u h1
  obtain ⟨b1, b2⟩ := re_Ts l ps us h2
  simp only [GK, EC, Fp, B5, Bh, List.reverse_append, P2]
  constructor
  ·
   by_cases he : trE (puV 0 l) u x = 0
   ·
    rw [At he, b1]
    constructor
    ·
     intro h y hy
     rcases hy with hy | hy
     · exact h y hy
     · exact a1.1 he y hy
    ·
     intro h y hy
     exact h y (.inl hy)
   ·
    rw [Aq he]
    constructor
    · intro h; exact absurd h he
    · intro h; exact absurd (a1.2 fun y hy => h y (.inr hy)) he
  · rw [a2, b2]
end
theorem UJ {t : List Nd} {b f : Int} (hc : chk t = 0) (hb : 0 ≤ b) : sfE t b f = 0 ∨ sfE t b f = 2 := by
 rw [(Fq hc).1]
 exact Qz (VC (by unfold As; omega)) _ _
def oks (l : List (List Nd)) : Prop := ∀ p ∈ l, chk p = 0
theorem Wj {l : List (List Nd)} (h : oks l) {i : Nat} (hi : i < l.length) : chk (Ce l i) = 0 := h _ (CR hi)
theorem pu_max {l : List (List Nd)} (h : oks l) (n : Nd) (u : Int) (hu : 0 ≤ u) : (puV 0 l n u).1 = 0 ∨ (puV 0 l n u).1 = 2 := by
 unfold puV
 by_cases h1 : n.N - u < 0
 · simp [h1]
 ·
  by_cases h2 : n.N - u < 0 + l.length
  ·
   simp only [h1, h2, if_true, if_false]
   have : (n.N - u - 0).toNat < l.length := by omega
   exact UJ (Wj h this) (by omega)
  ·
   left
   simp only [h1, h2, if_false]
mutual
theorem Rd {l : List (List Nd)} (h : oks l) : ∀ (x : T) (u : Int), 0 ≤ u → trE (puV 0 l) u x = 0 ∨ trE (puV 0 l) u x = 2
 | .mk n ps, u, hu => by
  simp only [trE]
  split
  · exact pu_max h n u hu
  · exact O1 h ps _ (Qv hu)
theorem O1 {l : List (List Nd)} (h : oks l) : ∀ (ps : List T) (us : List Int), (∀ v ∈ us, 0 ≤ v) → EC (puV 0 l) ps us = 0 ∨ EC (puV 0 l) ps us = 2
 | [], _, _ => by simp [EC]
 | _ :: _, [], _ => by simp [EC]
 | x :: ps, u :: us, hu => by
  simp only [EC]
  split
  · exact O1 h ps us (fun v hv => hu v (by simp [hv]))
  · exact Rd h x u (hu u (by simp))
end
structure OutI (l : List (List Nd)) (pre : List (Nd × Int)) (O : List Nd) : Prop where
 er : ∀ y ∈ pre, reE l y = 0
 out : O = reR l pre ∨ (8000 ≤ O.length ∧ 8000 < (reR l pre).length)
 bd : O.length ≤ 16000 + pre.length
theorem OutI.nil (l : List (List Nd)) : OutI l [] [] := ⟨(fun _ h => by cases h), .inl rfl, by simp⟩
theorem Sh {l : List (List Nd)} {pre : List (Nd × Int)} {x : Nd × Int} (h : ∀ y ∈ pre, reE l y = 0) (hx : reE l x = 0) : ∀ y ∈ pre ++ [x], reE l y = 0 := by
 intro y hy
 rcases B5.1 hy with hy | hy
 · exact h y hy
 · rw [AB] at hy; subst hy; exact hx
theorem OutI.step {l : List (List Nd)} {pre : List (Nd × Int)} {O S : List Nd} {x : Nd × Int} (h : OutI l pre O) (hx : reE l x = 0) (hS : S = (reL l x).reverse) (hn : (O ++ S).length ≤ 16000 ∨ S.length = 1) : OutI l (pre ++ [x]) (O ++ S) := by
 have hb := h.bd
 refine ⟨Sh h.er hx, ?_, ?_⟩
 ·
  rw [Ox, ← hS]
  rcases h.out with q1 | ⟨q1, q3⟩
  · exact .inl (by rw [q1])
  ·
   right
   rw [Ab, Ab]
   omega
 ·
  rw [Ab] at hn
  rw [Ab, Ab, Bv]
  omega
theorem OutI.cut {l : List (List Nd)} {pre : List (Nd × Int)} {O S : List Nd} {x : Nd × Int} (h : OutI l pre O) (hx : reE l x = 0) (hS : S = (reL l x).reverse) (hn : 16000 < (O ++ S).length) : OutI l (pre ++ [x]) ((O ++ S).take 8000) := by
 have ht : ((O ++ S).take 8000).length = 8000 := by rw [Ah]; omega
 refine ⟨Sh h.er hx, ?_, by rw [ht]; omega⟩
 rw [Ox, ← hS]
 right
 rw [ht]
 rw [Ab] at hn ⊢
 rcases h.out with q1 | ⟨q1, q3⟩
 · rw [q1] at hn; omega
 · omega
theorem OutI.len {l : List (List Nd)} {t O : List Nd} {pre : List (Nd × Int)} (h : OutI l pre O) (hc : chk t = 0) (hp : pre <+: Dp t) : O.length ≤ 20000 := by
 have h1 := h.bd
 have h2 := hp.length_le
 have h3 : (Dp t).length = t.length := by unfold Dp; rw [BT, JV hc]
 have h4 := (Co hc).2.2.2
 omega
theorem OutI.all {l : List (List Nd)} {t O : List Nd} (hc : chk t = 0) (h : OutI l (Dp t) O) :
  E4 (puV 0 l) t 0 = 0 ∧ (4000 < O.length → 4000 < (trL (puV 0 l) t 0).length) ∧ (O.length ≤ 4000 → O.reverse = trL (puV 0 l) t 0) := by
 obtain ⟨hw, _, _, _⟩ := Co hc
 obtain ⟨h1, h2⟩ := re_T l (Bk t) 0 hw
 rw [← JS hc] at h1 h2
 have h3 : E4 (puV 0 l) t 0 = 0 := h1.2 h.er
 have h4 : trL (puV 0 l) t 0 = (trT (puV 0 l) 0 (Bk t)).flat := by unfold trL; rw [At h3]
 have h5 : (reR l (Dp t)).length = (trL (puV 0 l) t 0).length := by rw [h2, h4, CS]
 refine ⟨h3, fun hl => ?_, fun hl => ?_⟩
 ·
  rw [← h5]
  rcases h.out with q1 | ⟨_, q3⟩
  · rw [← q1]; exact hl
  · omega
 ·
  rcases h.out with q1 | ⟨q1, _⟩
  · rw [q1, h2, List.reverse_reverse, h4]
  · omega
theorem re_err {l : List (List Nd)} {t : List Nd} {x : Nd × Int} (hc : chk t = 0) (hl : oks l) (hx : x ∈ Dp t) (he : reE l x ≠ 0) : E4 (puV 0 l) t 0 = 2 := by
 obtain ⟨hw, _, _, _⟩ := Co hc
 obtain ⟨h1, _⟩ := re_T l (Bk t) 0 hw
 rw [← JS hc] at h1
 rcases Rd hl (Bk t) 0 (Int.le_refl _) with h | h
 · exact absurd (h1.1 h x hx) he
 · exact h
theorem T1 {l : List (List Nd)} {n : Nd} {u : Int} (h : ¬ n.K = 0) : reE l (n, u) = 0 ∧ reL l (n, u) = [n] := by simp [reE, reL, h]
theorem re_low {l : List (List Nd)} {n : Nd} {u : Int} (h : n.K = 0) (h1 : n.N < u) : reE l (n, u) = 0 ∧ reL l (n, u) = [n] := by
 have : n.N - u < 0 := by omega
 simp [reE, reL, h, puV, this, Bi, AZ]
theorem QY {l : List (List Nd)} {x : Nd × Int} (h : ¬ x.1.K = 0 ∨ x.1.N < x.2) : reE l x = 0 ∧ [x.1] = (reL l x).reverse := by
 by_cases hk : x.1.K = 0
 ·
  have h1 : x.1.N < x.2 := by
   rcases h with h | h
   · exact absurd hk h
   · exact h
  have h2 := re_low (l := l) (n := x.1) (u := x.2) hk h1
  exact ⟨h2.1, by rw [show reL l x = [x.1] from h2.2]; rfl⟩
 ·
  have h2 := T1 (l := l) (n := x.1) (u := x.2) hk
  exact ⟨h2.1, by rw [show reL l x = [x.1] from h2.2]; rfl⟩
theorem re_in {l : List (List Nd)} {n : Nd} {u : Int} (h : n.K = 0) (h1 : ¬ n.N < u) (h2 : n.N - u < l.length) : reE l (n, u) = sfE (Ce l (n.N - u).toNat) u 0 ∧ (sfE (Ce l (n.N - u).toNat) u 0 = 0 → reL l (n, u) = sfA (Ce l (n.N - u).toNat) u 0) := by
 have e1 : ¬ n.N - u < 0 := by omega
 have e2 : n.N - u < 0 + (l.length : Int) := by omega
 have e3 : J8 l (n.N - u - 0) = Ce l (n.N - u).toNat := by unfold J8; congr 1; omega
 have e4 : u + 0 = u := by omega
 simp only [reE, reL, h, if_true, puV, e1, e2, if_false, e3, e4]
 exact ⟨trivial, fun hs => KF hs⟩
theorem UN {l : List (List Nd)} {n : Nd} {u : Int} (hr : right n = true) (h : n.K = 0) (h1 : ¬ n.N < u) (h2 : ¬ n.N - u < l.length) : reE l (n, u) = 0 ∧ reL l (n, u) = [⟨n.K, n.N - l.length, n.M, n.S⟩] := by
 have e1 : ¬ n.N - u < 0 := by omega
 have e2 : ¬ n.N - u < 0 + (l.length : Int) := by omega
 obtain ⟨e3, _, _⟩ := Gg hr h
 simp only [reE, reL, h, if_true, puV, e1, e2, if_false, Bi, AZ, List.nil_append, true_and]
 rw [e3]
theorem RA {t : List Nd} {pre : List (Nd × Int)} {x : Nd × Int} (hc : chk t = 0) (h : pre ++ [x] <+: Dp t) : x ∈ Dp t ∧ right x.1 = true ∧ 0 ≤ x.2 ∧ x.2 ≤ 2 * t.length ∧ 0 ≤ x.1.N ∧ x.1.N ≤ 99 ∧ x.1 ∈ t := by
 obtain ⟨rest, hr⟩ := h
 have hm : x ∈ Dp t := by rw [← hr]; simp
 obtain ⟨y, hy, rfl⟩ := Ch.1 hm
 have h1 := Qr (Bk t) 0 0 y hy
 rw [(Co hc).2.1] at h1
 have hlt : y.1.toNat < t.length := by omega
 have h2 := Dn (BO hc) hlt
 have h3 := QT h2
 exact ⟨hm, h2, by omega, by omega, h3.1, h3.2, G6 hlt⟩
theorem VZ {t : List Nd} {l : List (List Nd)} {x : Nd × Int} (hc : chk t = 0) (hl : oks l) (hx : x ∈ Dp t) (he : reE l x ≠ 0) : poE t 0 l = 2 ∧ poA t 0 l = [] := by
 have h := re_err hc hl hx he
 have h2 := Ro (t := t) (k := 0) (l := l) (by rw [h]; decide)
 rw [h] at h2
 exact h2
theorem VQ {l : List (List Nd)} {t O : List Nd} (hc : chk t = 0) (h : OutI l (Dp t) O) (hn : 4000 < O.length) : poE t 0 l = 21 ∧ poA t 0 l = [] := by
 obtain ⟨h1, h2, _⟩ := h.all hc
 obtain ⟨h3, h4⟩ := GY h1
 rw [h3, h4, Ho (h2 hn)]
 exact ⟨rfl, Aq (by decide)⟩
theorem VS {l : List (List Nd)} {t O : List Nd} (hc : chk t = 0) (h : OutI l (Dp t) O) (hn : O.length ≤ 4000) : poE t 0 l = chk O.reverse ∧ poA t 0 l = if chk O.reverse = 0 then O.reverse else [] := by
 obtain ⟨h1, _, h2⟩ := h.all hc
 obtain ⟨h3, h4⟩ := GY h1
 rw [h2 hn]
 exact ⟨h3, h4⟩
theorem VP {l : List (List Nd)} {t O : List Nd} (hc : chk t = 0) (hs : sml t) (hl : ∀ x ∈ l, sml x) (h : OutI l (Dp t) O) (hn : O.length ≤ 4000) : sml O.reverse := by
 rw [(h.all hc).2.2 hn]
 exact K3 (Nr hl) (BO hc) hs 0
end
section
/- Several terms checked, and put into one. -/
def ckE : List (List Nd) → Int
 | [] => 0
 | p :: l => if chk p = 0 then ckE l else chk p
theorem SC {L : List (List Nd)} {k : Nat} (h : ∀ i, i < k → chk (Ce L i) = 0) (hk : k < L.length) (he : ¬ chk (Ce L k) = 0) : ckE L = chk (Ce L k) := by
 induction L generalizing k with
 | nil => simp at hk
 | cons p l ih =>
  cases k with
  | zero =>
   have : Ce (p :: l) 0 = p := rfl
   rw [this] at he ⊢
   simp [ckE, he]
  | succ k =>
   have h0 : chk p = 0 := h 0 (by omega)
   have : Ce (p :: l) (k + 1) = Ce l k := by simp [Ce]
   rw [this] at he ⊢
   simp only [ckE, h0, if_true]
   exact ih (fun i hi => by have := h (i + 1) (by omega); simpa [Ce] using this) (by simpa using hk) he
theorem WR {L : List (List Nd)} {k : Nat} (h : ∀ i, i < k → chk (Ce L i) = 0) (hk : L.length ≤ k) : ckE L = 0 ∧ oks L := by
 have hall : oks L := fun p hp => by
  obtain ⟨i, hi, rfl⟩ := List.getElem_of_mem hp
  have := h i (by omega)
  simpa [Ce, hi] using this
 refine ⟨?_, hall⟩
 clear h hk
 induction L with
 | nil => rfl
 | cons p l ih =>
  simp only [ckE, hall p (by simp), if_true]
  exact ih (fun q hq => hall q (by simp [hq]))
def inE (t : List Nd) (l : List (List Nd)) : Int := if ckE (t :: l) = 0 then poE t 0 l else ckE (t :: l)
def inA (t : List Nd) (l : List (List Nd)) : List Nd := if inE t l = 0 then poA t 0 l else []
theorem Mu {t : List Nd} {l : List (List Nd)} (h : ¬ ckE (t :: l) = 0) : inE t l = ckE (t :: l) ∧ inA t l = [] := by
 have : inE t l = ckE (t :: l) := Aq h
 refine ⟨this, ?_⟩
 unfold inA
 rw [this, Aq h]
theorem PO {t : List Nd} {l : List (List Nd)} (h : ckE (t :: l) = 0) : inE t l = poE t 0 l ∧ inA t l = poA t 0 l := by
 have e : inE t l = poE t 0 l := At h
 refine ⟨e, ?_⟩
 unfold inA
 rw [e]
 exact VY _ _ _
theorem Vk {t : List Nd} {l : List (List Nd)} (h : ¬ inE t l = 0) : inA t l = [] := by unfold inA; rw [Aq h]
theorem R9 (a : Sl) (l : List Sl) (k : Nat) : (BF ([a] ++ l) k).2.2 = Ce (a.2.2 :: Bt l) k := by
 rw [AQ, Er]
 rfl
theorem TW {L : List (List Nd)} {k : Nat} (h : ∀ i, i < k → chk (Ce L i) = 0) (hk : chk (Ce L k) = 0) : ∀ i, i < k + 1 → chk (Ce L i) = 0 := fun i hi => by
 by_cases e : i = k
 · subst e; exact hk
 · exact h i (by omega)
theorem Wc (t : List Nd) (k : Int) (l : List (List Nd)) : (poA t k l).length ≤ 4000 := by
 unfold poA
 split
 ·
  rename_i h
  unfold poE at h
  split at h
  · exact (Co h).2.2.2
  · rename_i h2; exact absurd h h2
 · simp
theorem W6 (t : List Nd) (l : List (List Nd)) : (inA t l).length ≤ 4000 := by
 unfold inA
 split
 · exact Wc t 0 l
 · simp
theorem Wb {t : List Nd} {l : List (List Nd)} (hc : chk t = 0) (hs : sml t) (hl : ∀ x ∈ l, sml x) : sml (poA t 0 l) := by
 unfold poA
 split
 · exact K3 (Nr hl) (BO hc) hs 0
 · intro k hk; simp at hk
theorem W5 {t : List Nd} {l : List (List Nd)} (hs : sml t) (hl : ∀ x ∈ l, sml x) : sml (inA t l) := by
 by_cases h : ckE (t :: l) = 0
 ·
  rw [(PO h).2]
  have hc : chk t = 0 := by
   by_cases hc : chk t = 0
   · exact hc
   · simp only [ckE, hc, if_false] at h
  exact Wb hc hs hl
 · rw [(Mu h).2]; intro k hk; simp at hk
end
section
/- Terms that may have an error: a slice of nodes with a number; slices of them. -/
open Go Go.RowKit
abbrev Bu := Sl × Int
def buz : Bu := (slz, 0)
def WF (s : Bu) : List Value := [.slice s.1.1 s.1.2.2.length s.1.2.1, .int .i64 s.2]
def Hn (l : List Bu) : List Value := l.flatMap WF
def DR (t : List Bu) (k : Nat) : Bu := t.getD k buz
theorem OV (s : Bu) : (WF s).length = 2 := rfl
theorem Uf (l : List Bu) : ∀ u ∈ Hn l, u.oneCell' = true := by
 intro u hu
 obtain ⟨n, _, hn⟩ := List.mem_flatMap.1 hu
 simp [WF] at hn
 rcases hn with rfl | rfl <;> rfl
theorem DM {w : World} {I : Nat → Prop} {A : Option Addr} {k : Nat} {t : List Bu} (h : RowI w I 2 A t.length (Hn t)) (hk : k < t.length) : ElemAt w A (k * 2) (WF (DR t k)) := by
 have := h.elem hk
 rwa [show (Hn t) = t.flatMap WF from rfl, EO OV t k hk buz] at this
def Fo (t : List Bu) : Dat := ⟨fun w I => ∀ s ∈ t, s.1.2.2.length ≤ s.1.2.1 ∧ RowI w I 4 s.1.1 s.1.2.2.length (Cd s.1.2.2),
 fun _ _ _ _ _ h hk s hs => ⟨(h s hs).1, (h s hs).2.mono hk⟩⟩
theorem TG {t : List Bu} {k : Nat} (h : k < t.length) : DR t k ∈ t := by
 have : DR t k = t[k] := by simp [DR, h]
 rw [this]
 exact List.getElem_mem h
section
variable {w : World} {I : Nat → Prop}
theorem Xh {t : List Bu} {k : Nat} (h : (Fo t).φ w I) (hk : k < t.length) : (Bw 4 (DR t k).1.1 (DR t k).1.2.2.length (DR t k).1.2.1 (Cd (DR t k).1.2.2)).φ w I := h _ (TG hk)
theorem Ir : (Fo []).φ w I := fun _ h => by cases h
theorem Hr {A : Option Addr} {c : Nat} {L : List Nd} {e : Int} {t : List Bu} (h : (Bw 4 A L.length c (Cd L)).φ w I) (ht : (Fo t).φ w I) : (Fo (((A, c, L), e) :: t)).φ w I := fun s hs => by
 rcases AD.1 hs with rfl | hs
 · exact h
 · exact ht s hs
theorem Oe {a b : List Bu} (ha : (Fo a).φ w I) (hb : (Fo b).φ w I) : (Fo (a ++ b)).φ w I := fun s hs => by
 rcases B5.1 hs with hs | hs
 · exact ha s hs
 · exact hb s hs
end
theorem Gw {A : Option Addr} {n n' c : Nat} {e e' : Int} (h : n = n') (h2 : e = e') : Value.agg #[.slice A n c, .int .i64 e] = .agg #[.slice A n' c, .int .i64 e'] := by rw [h, h2]
abbrev Bd := List Nd × Int
def EG (t : List Bu) : List Bd := t.map fun s => (s.1.2.2, s.2)
def TH (t : List Bd) (k : Nat) : Bd := t.getD k ([], 0)
theorem Fe (t : List Bu) : (EG t).length = t.length := by simp [EG]
theorem Fd (t : List Bu) (k : Nat) : ((DR t k).1.2.2, (DR t k).2) = TH (EG t) k := by
 unfold DR TH EG
 by_cases h : k < t.length
 · simp [h]
 · simp [AP, List.getElem?_eq_none (by omega : t.length ≤ k), buz, slz]
theorem Pj (a b : List Bu) : EG (a ++ b) = EG a ++ EG b := by simp [EG]
theorem MG (a : List Bu) (k : Nat) : EG (a.take k) = (EG a).take k := by simp [EG]
theorem Jn (s : Bu) (l : List Bu) : EG (s :: l) = (s.1.2.2, s.2) :: EG l := rfl
theorem Ly : EG [] = [] := rfl
def fsE : List Bd → Bd
 | [] => ([], 0)
 | x :: l => if x.2 = 0 then fsE l else x
def bOf (n : Nd) (l : List Bd) : Bd := if (fsE l).2 = 0 then ((l.map (·.1)).flatten ++ [n], 0) else ([], (fsE l).2)
def bUp (a : Bd) (n k : Int) : Bd := if a.2 = 0 then (sfA a.1 n k, sfE a.1 n k) else a
def Ge (a : Bd) : Bd := if a.2 = 0 then (if chk a.1 = 0 then (a.1, 0) else ([], chk a.1)) else ([], a.2)
theorem OQ {l : List Bd} {k : Nat} (h : ∀ i, i < k → (TH l i).2 = 0) (hk : k < l.length) (he : ¬ (TH l k).2 = 0) : fsE l = TH l k := by
 induction l generalizing k with
 | nil => simp at hk
 | cons x l ih =>
  cases k with
  | zero => exact Aq he
  | succ k =>
   have h0 : x.2 = 0 := h 0 (by omega)
   rw [fsE, At h0]
   exact ih (fun i hi => h (i + 1) (by omega)) (by simpa using hk) he
theorem NM {l : List Bd} (h : ∀ i, i < l.length → (TH l i).2 = 0) : (fsE l).2 = 0 := by
 induction l with
 | nil => rfl
 | cons x l ih =>
  have h0 : x.2 = 0 := h 0 (by simp)
  rw [fsE, At h0]
  exact ih (fun i hi => h (i + 1) (by simpa using hi))
theorem SL {n : Nd} {t : List Bu} {k : Nat} (h : ∀ i, i < k → (DR t i).2 = 0) (hk : k < t.length) (he : ¬ (DR t k).2 = 0) : bOf n (EG t) = ([], (DR t k).2) := by
 have h1 : fsE (EG t) = TH (EG t) k := OQ (fun i hi => by rw [← Fd]; exact h i hi) (by rw [Fe]; exact hk) (by rw [← Fd]; exact he)
 unfold bOf
 rw [h1, ← Fd, Aq he]
theorem Vu {n : Nd} {t : List Bu} (h : ∀ i, i < t.length → (DR t i).2 = 0) : bOf n (EG t) = (((EG t).map (·.1)).flatten ++ [n], 0) := by
 have h1 : (fsE (EG t)).2 = 0 := NM (fun i hi => by rw [← Fd]; exact h i (by rw [Fe] at hi; exact hi))
 unfold bOf
 rw [At h1]
theorem U6 {t : List Bu} {k : Nat} (h : ∀ i, i < k → (DR t i).2 = 0) (hk : (DR t k).2 = 0) : ∀ i, i < k + 1 → (DR t i).2 = 0 := fun i hi => by
 by_cases e : i = k
 · subst e; exact hk
 · exact h i (by omega)
def bAt (a : Bd) (l : List Bd) : Bd := if ¬ a.2 = 0 then a else if ¬ (fsE l).2 = 0 then fsE l else (inA a.1 (l.map (·.1)), inE a.1 (l.map (·.1)))
theorem SM {a : List Nd} {t : List Bu} {k : Nat} (h : ∀ i, i < k → (DR t i).2 = 0) (hk : k < t.length) (he : ¬ (DR t k).2 = 0) : bAt (a, 0) (EG t) = ((DR t k).1.2.2, (DR t k).2) := by
 have h1 : fsE (EG t) = TH (EG t) k := OQ (fun i hi => by rw [← Fd]; exact h i hi) (by rw [Fe]; exact hk) (by rw [← Fd]; exact he)
 unfold bAt
 rw [Aq (AR rfl), h1, ← Fd, At he]
theorem Vv {a : List Nd} {t : List Bu} (h : ∀ i, i < t.length → (DR t i).2 = 0) : bAt (a, 0) (EG t) = (inA a ((EG t).map (·.1)), inE a ((EG t).map (·.1))) := by
 have h1 : (fsE (EG t)).2 = 0 := NM (fun i hi => by rw [← Fd]; exact h i (by rw [Fe] at hi; exact hi))
 unfold bAt
 rw [Aq (AR rfl), Aq (AR h1)]
theorem Pb : ∀ (l : List (List Nd)) (x : List Nd), ckE (l ++ [x]) = if ckE l = 0 then chk x else ckE l
 | [], x => by simp only [List.nil_append, ckE]; split <;> simp_all
 | y :: l, x => by
  have := Pb l x
  simp only [List.cons_append, ckE]
  split
  · exact this
  · rename_i h; first | rfl | (rw [Aq h])
theorem SB : ∀ (l m : List (List Nd)), ¬ ckE l = 0 → ckE (l ++ m) = ckE l
 | [], m, h => absurd rfl h
 | y :: l, m, h => by
  simp only [List.cons_append, ckE] at h ⊢
  split at h
  · rename_i hy; rw [At hy, At hy]; exact SB l m h
  · rename_i hy; rw [Aq hy, Aq hy]
theorem WQ {t : List Nd} {l : List Sl} {k : Nat} (hk : k < l.length) (h : ckE (t :: (Bt l).take k) = 0) : chk (BF l k).2.2 = ckE (t :: (Bt l).take (k + 1)) := by
 have e : (Bt l)[k]? = some (BF l k).2.2 := by
  unfold Bt BF
  simp [hk]
 rw [List.take_add_one, e, ← List.cons_append]
 have := Pb (t :: (Bt l).take k) (BF l k).2.2
 rw [At h] at this
 exact this.symm
theorem ck_end {t : List Nd} {l : List Sl} {k : Nat} (h : ¬ k < l.length ∨ ¬ ckE (t :: (Bt l).take k) = 0) : ckE (t :: (Bt l).take k) = ckE (t :: Bt l) := by
 rcases h with h | h
 · rw [AM (by rw [Bs]; omega)]
 ·
  have := SB (t :: (Bt l).take k) ((Bt l).drop k) h
  rw [List.cons_append, List.take_append_drop] at this
  exact this.symm
theorem MH {l : List Bu} {k : Nat} (h : k < l.length) : (EG (l.take (k + 1))).map (·.1) = (EG (l.take k)).map (·.1) ++ [(DR l k).1.2.2] := by
 have e : DR l k = l[k] := by simp [DR, h]
 rw [List.take_add_one, Bx h, e, Pj, C3]
 rfl
theorem WW {l : List Bu} {k : Nat} (hb : ∀ x ∈ EG l, x.1.length ≤ 1000000) (hl : l.length ≤ 10) (hk : k ≤ l.length) : ((EG (l.take k)).map (·.1)).flatten.length ≤ 50000000 := by
 have h1 : ∀ (m : List Bd), (∀ x ∈ m, x.1.length ≤ 1000000) → (m.map (·.1)).flatten.length ≤ m.length * 1000000 := fun m => by
  induction m with
  | nil => simp
  | cons a t ih =>
   intro h
   have q1 := h a (by simp)
   have q2 := ih (fun x hx => h x (by simp [hx]))
   rw [BJ, Em, Ab, Ad, Nat.add_mul]
   omega
 have h2 := h1 (EG (l.take k)) (fun x hx => by rw [MG] at hx; exact hb x (List.mem_of_mem_take hx))
 rw [Fe, Ah] at h2
 have h3 : min k l.length * 1000000 ≤ 10 * 1000000 := Nat.mul_le_mul_right _ (by omega)
 omega
theorem WP {t : List Nd} {l : List Sl} (h : ckE (t :: Bt l) = 0) : BW t = true ∧ t.length ≤ 4000 ∧ ∀ x ∈ Bt l, x.length ≤ 4000 := by
 have h1 : ∀ (m : List (List Nd)), ckE m = 0 → ∀ x ∈ m, chk x = 0 := fun m => by
  induction m with
  | nil => intro _ x hx; cases hx
  | cons y m ih =>
   intro hm x hx
   simp only [ckE] at hm
   split at hm
   ·
    rcases AD.1 hx with rfl | hx
    · assumption
    · exact ih hm x hx
   · contradiction
 have h2 := h1 _ h
 exact ⟨BO (h2 t (by simp)), (Co (h2 t (by simp))).2.2.2, fun x hx => (Co (h2 x (by simp [hx]))).2.2.2⟩
theorem Xe {A B : Prop} [Decidable A] [Decidable B] (h : (decide A && decide B) = true) : A ∧ B := by simpa using h
theorem H7 {t : List Nd} {l : List Sl} {k : Nat} {ev : Int} (hev : ev = ckE (t :: (Bt l).take k)) (h : (decide ((k : Int) < (l.length : Int)) && decide (ev = 0)) = false) : ev = ckE (t :: Bt l) := by
 refine hev.trans (ck_end ?_)
 by_cases hk : k < l.length
 ·
  right
  intro h0
  rw [← hev] at h0
  rw [Aw h0, Aw (by omega)] at h
  cases h
 · exact .inl hk
end
section
/- The parts of a term by its measures, as term.backward hands them over; slices of slices made. -/
open Go Go.RowKit
theorem SQ {st st' : List T} {t : List Nd} : ∀ (_ : CM st t = some st'), ∃ r, Dq 0 st' = Dq 0 st ++ r := by
 induction t generalizing st with
 | nil =>
  intro h
  simp only [CM] at h
  obtain rfl := B4 h
  exact ⟨[], by simp⟩
 | cons n t ih =>
  intro h
  simp only [CM] at h
  cases hp : E5 st n with
  | none => simp [hp] at h
  | some s =>
   simp only [hp] at h
   obtain ⟨r, hr⟩ := ih h
   have := (ID hp rfl).2
   exact ⟨_, by rw [hr, this, BG]⟩
theorem PG {t : List Nd} {e : Nat} (h : BW t = true) (he : e < t.length) : (Ht (DB t) e).1 = (frL t e : Int) := by
 obtain ⟨x, hs, h2, _, hf⟩ := D0 h
 obtain ⟨st, hst⟩ := FX h e
 obtain ⟨hr, hm⟩ := KX h he hst
 have h3 := EK hst he
 obtain ⟨st', hp, _⟩ := FV hr hm
 rw [hp] at h3
 have hfl := Gk hst (by omega)
 have h4 := (ID hp hfl).2
 have h5 : CM st' (t.drop (e + 1)) = some [x] := by
  have := hs
  rw [show t = t.take (e + 1) ++ t.drop (e + 1) from (List.take_append_drop _ _).symm, DN, h3] at this
  simpa using this
 obtain ⟨r, hr2⟩ := SQ h5
 have hal : (Dq 0 st).length = e := by rw [Fg, hfl]
 have h6 : DB t = Dq 0 st ++ ((Fm e (meas 0 st) (st.length - many (nth t e)) (many (nth t e)), EV (meas 0 st) (st.length - many (nth t e)) (many (nth t e))) :: r) := by
  rw [h2]
  have : Dq 0 [x] = Ti 0 x := by simp [Dq]
  rw [← this, hr2, h4, BG]
  rfl
 have h7 : Ht (DB t) e = (Fm e (meas 0 st) (st.length - many (nth t e)) (many (nth t e)), EV (meas 0 st) (st.length - many (nth t e)) (many (nth t e))) := by
  rw [h6, Ht, AP, DV (by omega), hal]
  simp
 rw [h7, ← O5 h he]
 unfold C5
 rw [hst]
 simp only
 unfold Fm
 split
 ·
  rename_i h0
  rw [h0, Nat.sub_zero, CQ, hfl]
 ·
  obtain ⟨o, h8, h9⟩ := Hd (st := st) (i := st.length - many (nth t e)) (by omega)
  rw [h8, h9]
theorem Ri {t : List Nd} {j : Nat} (h : BW t = true) (hj : j < many (nth t (t.length - 1))) : 0 < C5 t (t.length - 1) j ∧ C5 t (t.length - 1) j ≤ t.length - 1 ∧ (Ht (DB t) (C5 t (t.length - 1) j - 1)).1 = (C5 t (t.length - 1) (j + 1) : Int) ∧ C5 t (t.length - 1) (j + 1) < C5 t (t.length - 1) j := by
 have hp := Dy h
 obtain ⟨h1, h2, h3, h4⟩ := IF h (show t.length - 1 < t.length by omega) hj
 refine ⟨h1, h2, ?_, h4⟩
 rw [PG h (by omega), h3]
def Gz (A : Option Addr) (c : Nat) (t : List Nd) (k : Nat) : Int × Sl :=
 (((many (nth t (t.length - 1)) - 1 - k : Nat) : Int), ((if c = C5 t (t.length - 1) (k + 1) then A else A.map (·.add (C5 t (t.length - 1) (k + 1) * 4))), c - C5 t (t.length - 1) (k + 1), (t.drop (C5 t (t.length - 1) (k + 1))).take (C5 t (t.length - 1) k - C5 t (t.length - 1) (k + 1))))
def bkS (A : Option Addr) (c : Nat) (t : List Nd) : List (Int × Sl) := (List.range (many (nth t (t.length - 1)))).map (Gz A c t)
theorem Pk {A : Option Addr} {c : Nat} {t : List Nd} {k : Nat} (h : k < many (nth t (t.length - 1))) : (bkS A c t).take k ++ [Gz A c t k] = (bkS A c t).take (k + 1) := by
 rw [List.take_add_one]
 have : (bkS A c t)[k]? = some (Gz A c t k) := by simp [bkS, h]
 rw [this]
 rfl
theorem NZ (A : Option Addr) (c : Nat) (t : List Nd) : (bkS A c t).length = many (nth t (t.length - 1)) := by simp [bkS]
theorem WY {A : Option Addr} {c : Nat} {t : List Nd} {k : Nat} (h : many (nth t (t.length - 1)) ≤ k) : (bkS A c t).take k = bkS A c t := AM (by rw [NZ]; exact h)
theorem SH {A : Option Addr} {c : Nat} {t : List Nd} {k : Nat} {x : Int × Sl} (h : k < many (nth t (t.length - 1))) (hx : x = Gz A c t k) : (bkS A c t).take k ++ [x] <+: bkS A c t := by
 rw [hx, Pk h]
 exact List.take_prefix _ _
theorem WX {A : Option Addr} {c : Nat} {t : List Nd} {k f : Nat} {i : Int} (hi : i = ((many (nth t (t.length - 1)) - 1 - k : Nat) : Int)) (hf : f = C5 t (t.length - 1) (k + 1)) :
  ((i, ((if c = f then A else A.map (·.add (f * 4))), c - f, (t.drop f).take (C5 t (t.length - 1) k - f))) : Int × Sl) = Gz A c t k := by
 subst hi hf
 rfl
theorem Uv {A : Option Addr} {c : Nat} {t : List Nd} {pre : List (Int × Sl)} {k : Nat} {x : Int × Sl} (hk : pre.length = k) (h : pre ++ [x] <+: bkS A c t) : k < many (nth t (t.length - 1)) ∧ x = Gz A c t k := by
 obtain ⟨r, hr⟩ := h
 have hl := congrArg List.length hr
 rw [Ab, Ab, Bv, NZ, hk] at hl
 have hlt : k < many (nth t (t.length - 1)) := by omega
 have h1 : (bkS A c t)[k]? = some x := by
  rw [← hr, BG, DV (by omega), hk]
  simp
 refine ⟨hlt, ?_⟩
 simp [bkS, hlt] at h1
 exact h1.symm
theorem bk_row {A : Option Addr} {c : Nat} {t : List Nd} {w : World} {I : Nat → Prop} {k : Nat} (hb : BW t = true) (h : (Bw 4 A t.length c (Cd t)).φ w I) (hk : k < many (nth t (t.length - 1))) :
  (Bw 4 (Gz A c t k).2.1 (Gz A c t k).2.2.2.length (Gz A c t k).2.2.1 (Cd (Gz A c t k).2.2.2)).φ w I := by
 obtain ⟨h1, h2, _, h4⟩ := Ri hb hk
 exact S1 (f := Eb) (L := t) h Cq (by omega)
theorem Ux {t : List Nd} {Ls : List Sl} {k : Nat} {A : Option Addr} {c : Nat} {A' : Option Addr} {c' : Nat} (hb : BW t = true) (hL : Bt Ls.reverse = ptD t k) (hk : k < many (nth t (t.length - 1))) : Bt (Ls ++ [((A', c', (Gz A c t k).2.2.2) : Sl)]).reverse = ptD t (k + 1) := by
 rw [List.reverse_append]
 exact JQ hb hL hk rfl rfl
theorem VJ {n k i : Nat} {Ls : List Sl} {x : Sl} (h : k < n) (hi : i = n - 1 - k) : (List.replicate (n - k) slz ++ Ls.reverse).set i x = List.replicate (n - (k + 1)) slz ++ (Ls ++ [x]).reverse := by
 subst hi
 rw [List.set_append_left _ _ (by rw [BP]; omega), show n - k = (n - 1 - k) + 1 by omega, List.replicate_succ', List.set_append_right _ _ (by rw [BP]; omega)]
 simp
 omega
theorem Xg {w : World} {I : Nat → Prop} (n : Nat) : (Cl (List.replicate n slz)).φ w I := fun s hs => by
 rw [List.eq_of_mem_replicate hs]
 exact ⟨Af _, RowI.nil _ _ _ _⟩
def agA (t : List Nd) : List (List Nd) := if chk t = 0 then ptL t else []
theorem Fh {t : List Nd} (h : chk t = 0) : agA t = ptL t := At h
theorem SV {t : List Nd} (h : ¬ chk t = 0) : agA t = [] := Aq h
theorem JE (n : Nat) : (List.replicate n slz).flatMap FK = List.replicate n (.slice none 0 0) := by
 induction n with
 | zero => rfl
 | succ n ih => rw [List.replicate_succ, List.flatMap_cons, ih]; rfl
section
variable {P : Program} {X : Prop} {Next : Act → World → Prop} {o : Oper} {a : Act} {w w0 : World} {N : Nat} {l : List (Nat × Value)} {d : Nat} {Z M : Nat → Prop} {m : List Res} {ds : List Dat}
theorem TQ {t e : TypeId} {n by_ : Nat} {x y : Operand} {p q : Int} {kx ky : IntKind} (hs : SteV P X Next o a w) (hR : Reg a N l) (hS : St w0 Z M w m ds) (hd : o.dst = some d) (ho : o.op = .makeSlice t x y) (hx : ev l x = some (.int kx p)) (hy : ev l y = some (.int ky q))
  (hp : p = (n : Int)) (hq' : q = (n : Int)) (ht : P.underlying t = some (.slice e)) (hi : (P.info? e).map (fun i => (i.zero, i.size, i.bytes)) = some (some (.slice none 0 0), 1, by_)) (hby : by_ ≤ 100) (hn : n ≤ 1000) (hdN : d < N)
  (k : ∀ a' w' g, Reg a' N ((d, .slice (some ⟨g, 0, none⟩) (List.replicate n slz).length (List.replicate n slz).length) :: l) → St w0 Z M w' (m ++ [.row (some ⟨g, 0, none⟩) (List.replicate n slz).length (List.replicate n slz).length e 1 (B7 (List.replicate n slz))]) ds → Next a' w') : X :=
 IU hs hR hS hd ho hx hy hp hq' ht hi rfl rfl (Aw (by omega)) (by omega) hdN (fun a' w' g hR' hS' => k a' w' g (by rw [BP]; exact hR') (by rw [BP, B7, JE]; exact hS'))
end
end
section
/- Slices of slices of slices of nodes; calls walked in place; loops over functions that hand over nothing. -/
open Go Go.RowKit
abbrev Tl := Option Addr × Nat × List Sl
def tlz : Tl := (none, 0, [])
def Xr (s : Tl) : List Value := [.slice s.1 s.2.2.length s.2.1]
def CW (l : List Tl) : List Value := l.flatMap Xr
def Bm (t : List Tl) (k : Nat) : Tl := t.getD k tlz
theorem OW (s : Tl) : (Xr s).length = 1 := rfl
theorem Cn {w : World} {I : Nat → Prop} {A : Option Addr} {k : Nat} {t : List Tl} (h : RowI w I 1 A t.length (CW t)) (hk : k < t.length) : ElemAt w A (k * 1) (Xr (Bm t k)) := by
 have := h.elem hk
 rwa [show (CW t) = t.flatMap Xr from rfl, EO OW t k hk tlz] at this
def CG (t : List Tl) : Dat := ⟨fun w I => ∀ s ∈ t, (Bw 1 s.1 s.2.2.length s.2.1 (B7 s.2.2)).φ w I ∧ (Cl s.2.2).φ w I, fun _ _ _ _ hs h hk s hm => ⟨(Bw _ _ _ _ _).mono _ _ _ _ hs (h s hm).1 hk, (Cl _).mono _ _ _ _ hs (h s hm).2 hk⟩⟩
theorem DT {t : List Tl} {k : Nat} (h : k < t.length) : Bm t k ∈ t := by
 have : Bm t k = t[k] := by simp [Bm, h]
 rw [this]
 exact List.getElem_mem h
theorem GG {w : World} {I : Nat → Prop} {t : List Tl} {k : Nat} (h : (CG t).φ w I) (hk : k < t.length) : (Bw 1 (Bm t k).1 (Bm t k).2.2.length (Bm t k).2.1 (B7 (Bm t k).2.2)).φ w I ∧ (Cl (Bm t k).2.2).φ w I := h _ (DT hk)
theorem Ps {w : World} {I : Nat → Prop} : (CG []).φ w I := fun _ h => by cases h
theorem MK {w : World} {I : Nat → Prop} {A : Option Addr} {c : Nat} {L : List Sl} {t : List Tl} (h : (Bw 1 A L.length c (B7 L)).φ w I) (h2 : (Cl L).φ w I) (ht : (CG t).φ w I) : (CG ((A, c, L) :: t)).φ w I := fun s hs => by
 rcases AD.1 hs with rfl | hs
 · exact ⟨h, h2⟩
 · exact ht s hs
def B1 (t : List Tl) : List (List (List Nd)) := t.map fun s => Bt s.2.2
def EE (c : List (List (List Nd))) (k : Nat) : List (List Nd) := c.getD k []
theorem FZ (t : List Tl) : (B1 t).length = t.length := by simp [B1]
theorem Fy (t : List Tl) (k : Nat) : Bt (Bm t k).2.2 = EE (B1 t) k := by
 unfold Bm EE B1
 by_cases h : k < t.length
 · simp [h]
 · simp [AP, List.getElem?_eq_none (by omega : t.length ≤ k), tlz, Bt]
section
variable {P : Program} {X : Prop} {Next : Act → World → Prop} {o : Oper} {a : Act} {w : World} {N : Nat} {l : List (Nat × Value)} {d : Nat}
theorem Wx {f : FuncId} {xs : List Operand} {ts : Array TypeId} {vs : List Value} (hs : Ste P X Next o a w) (hR : Reg a N l) (hd : o.dst = some d)
  (ho : o.op = .call { callee := .value (.func f), args := xs.toArray, argTypes := ts }) (hx : evs l xs = some vs) (hdN : d < N) (hf : FOK P f)
  (hc : Calls P f vs.toArray w (fun e w' => ∃ v, e = .returned v ∧ ∀ a', Reg a' N ((d, v) :: l) → Next a' w')) : X := Mr hs hR hd ho hx hdN hf hc (fun _ _ h => h)
end
section
variable {w0 w W : World} {Z M : Nat → Prop} {m : List Res} {ds : List Dat}
end
end
section
/- Shorter spellings of single steps. -/
open Go Go.RowKit
def putA : List Value → List Value → Option (List Value)
 | [], cs => some cs
 | _ :: _, [] => none
 | v :: vs, _ :: cs => match putA vs cs with | some r => some (v :: r) | none => none
def putJ (vs : List Value) : Nat → List Value → Option (List Value)
 | 0, cs => putA vs cs
 | _ + 1, [] => none
 | j + 1, c :: cs => match putJ vs j cs with | some r => some (c :: r) | none => none
def putO (cs : List Value) (j : Nat) (vs : List Value) : Option (List Value) := putJ vs j cs
theorem Rc : ∀ {vs cs r : List Value}, putA vs cs = some r → vs ++ cs.drop vs.length = r
 | [], cs, r, h => by cases h; simp
 | _ :: _, [], _, h => by cases h
 | v :: vs, c :: cs, r, h => by
  unfold putA at h
  split at h
  ·
   rename_i r' hr
   cases h
   rw [Ad, List.drop_succ_cons, List.cons_append, Rc hr]
  · cases h
theorem VT {cs : List Value} {j : Nat} {vs r : List Value} (h : putO cs j vs = some r) : cs.take j ++ vs ++ cs.drop (j + vs.length) = r := by
 unfold putO at h
 induction j generalizing cs r with
 | zero => simpa using Rc h
 | succ j ih =>
  cases cs with
  | nil => cases h
  | cons c cs =>
   unfold putJ at h
   split at h
   ·
    rename_i r' hr
    cases h
    rw [List.take_succ_cons, show j + 1 + vs.length = (j + vs.length) + 1 by omega, List.drop_succ_cons, List.cons_append, List.cons_append, ih hr]
   · cases h
def Xo {α : Type} : List α → Option (List α)
 | [] => some []
 | x :: l => match Xo l with | some r => some (x :: r) | none => none
theorem NB {α : Type} : ∀ {l r : List α}, Xo l = some r → l = r
 | [], _, h => by cases h; rfl
 | x :: l, r, h => by
  unfold Xo at h
  split at h
  ·
   rename_i r' hr
   cases h
   rw [NB hr]
  · cases h
def fillO (size : Nat) (z : List Value) : Nat → List (Nat × Value) → Option (List Value)
 | n, [] => Xo (List.replicate n z).flatten
 | n, (i, v) :: vs => match fillO size z n vs with | some r => putO r (i * size) v.cells.toList | none => none
def bldO (zs : List Value) (offs : List Nat) : List (Nat × Value) → Option (List Value)
 | [] => some zs
 | (i, v) :: vs => match bldO zs offs vs, offs[i]? with | some r, some j => putO r j v.cells.toList | _, _ => none
section
variable {P : Program} {ops : Array Oper} {Q : Exit → Act → World → Prop} {X : Prop} {Next : Act → World → Prop} {o : Oper} {a : Act} {w w0 w1 : World} {N : Nat} {l : List (Nat × Value)} {d : Nat} {Z M J : Nat → Prop} {m : List Res} {ds : List Dat} {ps : List (World → Prop)} {rest : List Oper}
theorem sto {t : TypeId} {x y : Operand} {g j n : Nat} {e : TypeId} {cs cs' : List Value} {v : Value} (i : Nat) (hR : Reg a N l) (hS : St w0 Z M w m ds) (k : ∀ a' w', Reg a' N l → St w0 Z M w' (m.set i (.box g e cs')) ds → Next a' w')
  (hs : Ste P X Next o a w := by first | exact se | exact F8 rfl (AJ rfl) | exact E1 (wt ‹_›) | exact F8 rfl (wt ‹_›)) (hd : o.dst = none := by exact rfl) (ho : o.op = .store t x y := by exact rfl) (hx : ev l x = some (.pointer (some ⟨g, j, none⟩)) := by exact rfl) (hy : ev l y = some v := by exact rfl)
  (hi : m[i]? = some (.box g e cs) := by exact rfl) (hq : Siz P t n := by infer_instance) (hn : n = v.cells.toList.length := by exact rfl) (hone : v.cells.toList.all Value.oneCell' = true := by exact rfl) (hfit : decide (j + v.cells.toList.length ≤ cs.length) = true := by exact rfl) (hcs : putO cs j v.cells.toList = some cs' := by exact rfl) : X :=
 RL hs hR hS hd ho hx hy hi (by rw [← hn]; exact hq.h) hone hfit (VT hcs) k
theorem alc {e : TypeId} {z : Value} {cs : List Value} (hR : Reg a N l) (hS : St w0 Z M w m ds) (k : ∀ a' w' g, Reg a' N ((d, .pointer (some ⟨g, 0, none⟩)) :: l) → St w0 Z M w' (m ++ [.box g e cs]) ds → Next a' w')
  (hs : SteV P X Next o a w := by first | exact sv | exact CY rfl (AJ rfl) | exact Bb (wt ‹_›) | exact CY rfl (wt ‹_›)) (hd : o.dst = some d := by exact rfl) (ho : o.op = .alloc e := by exact rfl) (hz : Zer P e z := by infer_instance) (hc : Xo z.cells.toList = some cs := by exact rfl) (hdN : d < N := by decide) : X :=
 Ws hs hR hS hd ho hz.h (NB hc) hdN k
theorem bxx {e : TypeId} {x : Operand} {v : Value} {cs : List Value} (hR : Reg a N l) (hS : St w0 Z M w m ds) (k : ∀ a' w' g, Reg a' N ((d, .pointer (some ⟨g, 0, none⟩)) :: l) → St w0 Z M w' (m ++ [.box g e cs]) ds → Next a' w')
  (hs : SteV P X Next o a w := by first | exact sv | exact CY rfl (AJ rfl) | exact Bb (wt ‹_›) | exact CY rfl (wt ‹_›)) (hd : o.dst = some d := by exact rfl) (ho : o.op = .box e x := by exact rfl) (hx : ev l x = some v := by exact rfl) (hc : Xo v.cells.toList = some cs := by exact rfl) (hdN : d < N := by decide) : X :=
 m_box hs hR hS hd ho hx (NB hc) hdN k
theorem bsl {t e : TypeId} {n size : Nat} {vs : List (Nat × Value)} {z : Value} {bytes : Nat} {ps' : List (Nat × Operand)} {cs : List Value} (hR : Reg a N l) (hS : St w0 Z M w m ds)
  (k : ∀ a' w' g, Reg a' N ((d, .slice (some ⟨g, 0, none⟩) n n) :: l) → St w0 Z M w' (m ++ [.row (some ⟨g, 0, none⟩) n n e size cs]) ds → Next a' w')
  (hs : SteV P X Next o a w := by first | exact sv | exact CY rfl (AJ rfl) | exact Bb (wt ‹_›) | exact CY rfl (wt ‹_›)) (hd : o.dst = some d := by exact rfl) (ho : o.op = .buildSlice t n ps'.toArray := by exact rfl) (hx : evp l ps' = some vs := by exact rfl) (ht : Slc P t e := by infer_instance) (hz : Zis P e z size bytes := by infer_instance)
  (hcs : fillO size z.cells.toList n vs = some cs := by exact rfl) (hn : decide (n * size ≤ 1000000) = true := by exact rfl) (hn1 : decide (n ≤ 1000000) = true := by exact rfl)
  (hf : Instr.fill (fun i => some (i * size, size)) ((Array.range (n * size)).map fun i => (if n * size = 0 then #[] else z.cells)[i % (if n * size = 0 then (#[] : Array Value) else z.cells).size]!) vs = some cs.toArray := by kernel_rfl) (hl : (cs.length == n * size) = true := by exact rfl) (hdN : d < N := by decide) : X :=
 HO (ps := ps') (cs := cs) hs hR hS hd ho hx ht.h hz.h hn hn1 hf hl hdN k
theorem bld {t : TypeId} {vs : List (Nat × Value)} {zs cs : List Value} {offs : List Nat} {ps' : List (Nat × Operand)} (hR : Reg a N l) (k : ∀ a', Reg a' N ((d, .agg cs.toArray) :: l) → Next a' w)
  (hs : SteV P X Next o a w := by first | exact sv | exact CY rfl (AJ rfl) | exact Bb (wt ‹_›) | exact CY rfl (wt ‹_›)) (hd : o.dst = some d := by exact rfl) (ho : o.op = .build t ps'.toArray := by exact rfl) (hx : evp l ps' = some vs := by exact rfl) (ht : Bld P t zs offs := by infer_instance) (hcs : bldO zs offs vs = some cs := by exact rfl)
  (hrun : ∀ w, (Instr.build t vs.toArray).run P w = .ok (.agg cs.toArray) w := by (intro _; kernel_rfl)) (hdN : d < N := by decide) : X :=
 RP hs hR hd ho hx hrun hdN k
theorem WV {t : TypeId} {vs : List (Nat × Value)} {zs cs : List Value} {offs : List Nat} {ps' : List (Nat × Operand)} (hR : Reg a N l) (ho : o.op = .build t ps'.toArray := by exact rfl) (hx : evp l ps' = some vs := by exact rfl) (ht : Bld P t zs offs := by infer_instance) (hcs : bldO zs offs vs = some cs := by exact rfl)
  (hrun : ∀ w, (Instr.build t vs.toArray).run P w = .ok (.agg cs.toArray) w := by (intro _; kernel_rfl)) : (execOp a.eval o).run P w = .ok (.value (.agg cs.toArray)) w := by
 have hm : ps'.toArray.map (fun (i, x) => (i, a.eval x)) = vs.toArray := by
  rw [← hR.evp hx]; simp
 unfold execOp; rw [ho]
 simp only [hm, AF, hrun, Az, Bg]
theorem ix {t : TypeId} {x y : Operand} {A : Option Addr} {n c size : Nat} {p : Int} {ki : IntKind} {e : TypeId} (i j : Nat) (hR : Reg a N l) (hA : A.isSome = true) (k : ∀ a', Reg a' N ((d, .pointer (eP A j)) :: l) → Next a' w)
  (hs : SteV P X Next o a w := by first | exact sv | exact CY rfl (AJ rfl) | exact Bb (wt ‹_›) | exact CY rfl (wt ‹_›)) (hd : o.dst = some d := by exact rfl) (ho : o.op = .indexAddr t x y := by exact rfl) (hx : ev l x = some (.slice A n c) := by exact rfl) (hy : ev l y = some (.int ki p) := by exact rfl)
  (ht : Slc P t e := by infer_instance) (hsz : Siz P e size := by infer_instance) (hp : p = (i : Int) := by omega) (hi : i < n := by omega) (hj : i * size = j := by exact rfl) (hdN : d < N := by decide) : X :=
 CV hs hR hd ho hx hy ht.h hsz.h hp hi hA hj hdN k
theorem lde {t : TypeId} {x : Operand} {A : Option Addr} {j : Nat} {vs : List Value} {v : Value} (i j0 : Nat) (hR : Reg a N l) (he : ElemAt w A j0 vs) (k : ∀ a', Reg a' N ((d, v) :: l) → Next a' w)
  (hs : SteV P X Next o a w := by first | exact sv | exact CY rfl (AJ rfl) | exact Bb (wt ‹_›) | exact CY rfl (wt ‹_›)) (hd : o.dst = some d := by exact rfl) (ho : o.op = .load t x := by exact rfl) (hx : ev l x = some (.pointer (eP A j)) := by exact rfl)
  (hj : j = j0 + i := by exact rfl) (hv : vs[i]? = some v := by exact rfl) (ht : NAg P t := by infer_instance) (hdN : d < N := by decide) : X :=
 have ⟨_, h1, h2⟩ := ht.h
 G8 hs hR hd ho hx i j0 he hj hv h1 h2 hdN k
theorem adi {t u : TypeId} {x y : Operand} {p q : Int} (z : Int) (hR : Reg a N l) (k : ∀ a', Reg a' N ((d, .int .i64 z) :: l) → Next a' w)
  (hs : SteV P X Next o a w := by first | exact sv | exact CY rfl (AJ rfl) | exact Bb (wt ‹_›) | exact CY rfl (wt ‹_›)) (hd : o.dst = some d := by exact rfl) (ho : o.op = .binOp .add t x y u := by exact rfl) (hx : ev l x = some (.int .i64 p) := by exact rfl) (hy : ev l y = some (.int .i64 q) := by exact rfl)
  (hdN : d < N := by decide) (hz : p + q = z := by omega) (h1 : -1000000000000000 ≤ z := by omega) (h2 : z ≤ 1000000000000000 := by omega) : X := IB hs hR hd ho hx hy hdN hz h1 h2 k
theorem sbi {t u : TypeId} {x y : Operand} {p q : Int} (z : Int) (hR : Reg a N l) (k : ∀ a', Reg a' N ((d, .int .i64 z) :: l) → Next a' w)
  (hs : SteV P X Next o a w := by first | exact sv | exact CY rfl (AJ rfl) | exact Bb (wt ‹_›) | exact CY rfl (wt ‹_›)) (hd : o.dst = some d := by exact rfl) (ho : o.op = .binOp .sub t x y u := by exact rfl) (hx : ev l x = some (.int .i64 p) := by exact rfl) (hy : ev l y = some (.int .i64 q) := by exact rfl)
  (hdN : d < N := by decide) (hz : p - q = z := by omega) (h1 : -1000000000000000 ≤ z := by omega) (h2 : z ≤ 1000000000000000 := by omega) : X := P3 hs hR hd ho hx hy hdN hz h1 h2 k
theorem er1 {fn : Func} {R : Ending → World → Prop} {t : Nat} {v : Value} (hR : Reg a N l) (h : R (.returned v) w) (h0 : l.lookup 1000000 = some (.bool false) := by exact rfl) (hr : fn.results = #[.tmp t] := by exact rfl) (hv : ev l (.tmp t) = some v := by exact rfl) : bodyPost P fn R .ret a w := e_ret1 hR h0 hr hv h
theorem er2 {fn : Func} {R : Ending → World → Prop} {t u : Nat} {v v' : Value} (hR : Reg a N l) (h : R (.returned (.tuple #[v, v'])) w) (h0 : l.lookup 1000000 = some (.bool false) := by exact rfl) (hr : fn.results = #[.tmp t, .tmp u] := by exact rfl) (hv : ev l (.tmp t) = some v := by exact rfl) (hv' : ev l (.tmp u) = some v' := by exact rfl) : bodyPost P fn R .ret a w := e_ret2 hR h0 hr hv hv' h
theorem kcl {f : FuncId} {xs : List Operand} {ts : Array TypeId} {vs : List Value} {R : Ending → World → Prop} (hR : Reg a N l) (hf : FOK P f) (hc : Calls P f vs.toArray w R) (k : ∀ e w', R e w' → ∃ v, e = .returned v ∧ ∀ a', Reg a' N ((d, v) :: l) → Next a' w')
  (hs : Ste P X Next o a w := by first | exact se | exact F8 rfl (AJ rfl) | exact E1 (wt ‹_›) | exact F8 rfl (wt ‹_›)) (hd : o.dst = some d := by exact rfl) (ho : o.op = .call { callee := .value (.func f), args := xs.toArray, argTypes := ts } := by exact rfl) (hx : evs l xs = some vs := by exact rfl) (hdN : d < N := by decide) : X := Mr hs hR hd ho hx hdN hf hc k
section
variable {S : World → Prop} {oi : Oper} {fuel : Nat} {listed : Array Bool}
theorem dix {t : TypeId} {x y : Operand} {A : Option Addr} {n c size : Nat} {p : Int} {ki : IntKind} {e : TypeId} (q i j : Nat) (hR : Reg a N l) (hA : ∀ x, sW w1 J ps x → A.isSome = true) (k : ∀ a', Reg a' N ((d, .pointer (eP A j)) :: l) → wpAnyH P .any ops Q (sW w1 J ps) fuel (listed.setIfInBounds q true) a' w) (hP : DD Q := by assumption) (hS : sW w1 J ps w := by assumption)
  (hi : ops[q]? = some oi := by exact rfl) (hd : oi.dst = some d := by exact rfl) (ho : oi.op = .indexAddr t x y := by exact rfl) (hx : ev l x = some (.slice A n c) := by exact rfl) (hy : ev l y = some (.int ki p) := by exact rfl)
  (hw : Region.wanted oi (yielded ops a.tmps) = true := by first | exact AJ rfl | exact wt ‹_›) (ht : Slc P t e := by infer_instance) (hsz : Siz P e size := by infer_instance) (hp : p = (i : Int) := by omega) (hin : i < n := by omega) (hj : i * size = j := by exact rfl) (hdN : d < N := by decide) (hne : d ≠ 1000000 := by decide)
  (hs : Region.noSelect ops = true := by kernel_rfl) (hf : Region.free .any ops listed q = true := by kernel_rfl) (hr : (Region.ready .any ops listed).contains q = true := by kernel_rfl) : wpAnyH P .any ops Q (sW w1 J ps) (fuel + 1) listed a w :=
 dt q hi hP hR hw (fun y hy' => CV (sy hR hd hdN) hR hd ho hx hy ht.h hsz.h hp hin (hA y hy') hj hdN (gt hne)) hS k hd hdN hs hf hr
theorem dle {t : TypeId} {x : Operand} {A : Option Addr} {j : Nat} {vs : List Value} {v : Value} (q i j0 : Nat) (hR : Reg a N l) (he : ∀ x, sW w1 J ps x → ElemAt x A j0 vs) (k : ∀ a', Reg a' N ((d, v) :: l) → wpAnyH P .any ops Q (sW w1 J ps) fuel (listed.setIfInBounds q true) a' w) (hP : DD Q := by assumption) (hS : sW w1 J ps w := by assumption)
  (hi : ops[q]? = some oi := by exact rfl) (hd : oi.dst = some d := by exact rfl) (ho : oi.op = .load t x := by exact rfl) (hx : ev l x = some (.pointer (eP A j)) := by exact rfl)
  (hw : Region.wanted oi (yielded ops a.tmps) = true := by first | exact AJ rfl | exact wt ‹_›) (hj : j = j0 + i := by exact rfl) (hv : vs[i]? = some v := by exact rfl) (ht : NAg P t := by infer_instance) (hdN : d < N := by decide) (hne : d ≠ 1000000 := by decide)
  (hs : Region.noSelect ops = true := by kernel_rfl) (hf : Region.free .any ops listed q = true := by kernel_rfl) (hr : (Region.ready .any ops listed).contains q = true := by kernel_rfl) : wpAnyH P .any ops Q (sW w1 J ps) (fuel + 1) listed a w :=
 have ⟨_, h1, h2⟩ := ht.h
 dt q hi hP hR hw (fun y hy' => G8 (sy hR hd hdN) hR hd ho hx i j0 (he y hy') hj hv h1 h2 hdN (gt hne)) hS k hd hdN hs hf hr
theorem dta {late : List Nat} {v : Value} (i : Nat) (hi : ops[i]? = some oi) (hP : DD Q) (hR : Reg a N l) (hw : Region.wanted oi (yielded ops a.tmps) = true) (hy : ∀ x, (execOp a.eval oi).run P x = .ok (.value v) x) (h : ∀ a', Reg a' N ((d, v) :: l) → DL P ops Q S late fuel (listed.setIfInBounds i true) a' w)
  (hd : oi.dst = some d := by exact rfl) (hdN : d < N := by decide) (hs : Region.noSelect ops = true := by kernel_rfl) (hf : Region.free .any ops listed i = true := by kernel_rfl) (hr : (Region.ready .any ops listed).contains i = true := by kernel_rfl) : DL P ops Q S late (fuel + 1) listed a w :=
 Uh hi hs hf hr (fun c a w h => hP c _ _ _ _ h) hd hdN hR hw hy h
theorem dtv {late : List Nat} {v : Value} (i : Nat) (hP : DD Q) (hR : Reg a N l) (h : ∀ a', Reg a' N ((d, v) :: l) → DL P ops Q S late fuel (listed.setIfInBounds i true) a' w)
  (hi : ops[i]? = some oi := by exact rfl) (hv : pv l oi.op = some v := by exact rfl) (hw : Region.wanted oi (yielded ops a.tmps) = true := by first | exact AJ rfl | exact wt ‹_›) (hd : oi.dst = some d := by exact rfl) (hdN : d < N := by decide) (hs : Region.noSelect ops = true := by kernel_rfl) (hf : Region.free .any ops listed i = true := by kernel_rfl) (hr : (Region.ready .any ops listed).contains i = true := by kernel_rfl) : DL P ops Q S late (fuel + 1) listed a w :=
 dta i hi hP hR hw (UQ hR hv) h hd hdN hs hf hr
theorem dlt {late : List Nat} {v : Value} (i : Nat) (hi : ops[i]? = some oi) (hP : DD Q) (hR : Reg a N l) (hw : Region.wanted oi (yielded ops a.tmps) = true) (hy : ∀ x, S x → (execOp a.eval oi).run P x = .ok (.value v) x) (hS : S w) (h : ∀ a', Reg a' N ((d, v) :: l) → DL P ops Q S late fuel (listed.setIfInBounds i true) a' w)
  (hd : oi.dst = some d := by exact rfl) (hdN : d < N := by decide) (hs : Region.noSelect ops = true := by kernel_rfl) (hf : Region.free .any ops listed i = true := by kernel_rfl) (hr : (Region.ready .any ops listed).contains i = true := by kernel_rfl) (hl : Qo ops late i = true := by kernel_rfl) : DL P ops Q S late (fuel + 1) listed a w :=
 WI hi hs hf hr hl (fun c a w h => hP c _ _ _ _ h) hd hdN hR hw hy hS h
end
theorem St.el {t : List Sl} (h : St w0 Z M w m ds) (i k : Nat) (hi : ds[i]? = some (Cl t) := by exact rfl) (hk : k < t.length := by omega) : St w0 Z M w m (ds ++ [Bw 4 (BF t k).1 (BF t k).2.2.length (BF t k).2.1 (Cd (BF t k).2.2)]) := h.data _ (SP (h.get hi) hk)
theorem St.elU {t : List Bu} (h : St w0 Z M w m ds) (i k : Nat) (hi : ds[i]? = some (Fo t) := by exact rfl) (hk : k < t.length := by omega) : St w0 Z M w m (ds ++ [Bw 4 (DR t k).1.1 (DR t k).1.2.2.length (DR t k).1.2.1 (Cd (DR t k).1.2.2)]) := h.data _ (Xh (h.get hi) hk)
theorem St.elT {t : List Tl} (h : St w0 Z M w m ds) (i k : Nat) (hi : ds[i]? = some (CG t) := by exact rfl) (hk : k < t.length := by omega) : St w0 Z M w m (ds ++ [Bw 1 (Bm t k).1 (Bm t k).2.2.length (Bm t k).2.1 (B7 (Bm t k).2.2)]) := h.data _ (GG (h.get hi) hk).1
theorem St.elA {t : List Tl} (h : St w0 Z M w m ds) (i k : Nat) (hi : ds[i]? = some (CG t) := by exact rfl) (hk : k < t.length := by omega) : St w0 Z M w m (ds ++ [Cl (Bm t k).2.2]) := h.data _ (GG (h.get hi) hk).2
theorem St.pub {A : Option Addr} {n cap e size : Nat} {xs : List Value} (h : St w0 Z A6 w m ds) (i : Nat) (D : Dat) (hi : m[i]? = some (.row A n cap e size xs) := by exact rfl) (hD : D = Bw size A n cap xs := by exact rfl) : St w0 Z A6 w (m.eraseIdx i) (ds ++ [D]) := by
 obtain ⟨h1, h2⟩ := h.row_data hi (fun _ h => h)
 subst hD
 exact h1.data _ ⟨Db (h.res hi), h2⟩
end
end
section
/- More short spellings, for merged texts. -/
open Go Go.RowKit
section
variable {P : Program} {Q : Exit → Act → World → Prop} {K : Act → World → Prop} {a : Act} {w w0 : World} {Z M : Nat → Prop} {m : List Res} {ds : List Dat} {N : Nat} {l l' : List (Nat × Value)} {d : Nat} {B : Bool} {x y : Code} {p X G : Prop} {hp : Decidable p}
theorem wcd (hR : Reg a N l) (h1 : p → Reg a N ((d, .bool true) :: l) → x.wp P Q a w) (h2 : ¬ p → Reg a N ((d, .bool false) :: l) → y.wp P Q a w) (hv : l.lookup d = some (.bool (@decide p hp)) := by exact rfl) (hd : Nat.beq d 1000000 = false := by exact rfl) : (Code.cond (.tmp d) x y).wp P Q a w :=
 (Cb p).elim (fun h => wct hR (Aw h) (h1 h) hv hd) (fun h => wcf hR (Ai h) (h2 h) hv hd)
theorem wce (hR : Reg a N l) (h1 : p → Reg a N ((d, .bool false) :: l) → y.wp P Q a w) (h2 : ¬ p → Reg a N ((d, .bool true) :: l) → x.wp P Q a w) (hv : l.lookup d = some (.bool (!(@decide p hp))) := by exact rfl) (hd : Nat.beq d 1000000 = false := by exact rfl) : (Code.cond (.tmp d) x y).wp P Q a w :=
 (Cb p).elim (fun h => wcf hR (by rw [Aw h]; rfl) (h1 h) hv hd) (fun h => wct hR (by rw [Ai h]; rfl) (h2 h) hv hd)
theorem wcg (hR : Reg a N l) (h1 : B = true → Reg a N ((d, .bool true) :: l) → x.wp P Q a w) (h2 : B = false → Reg a N ((d, .bool false) :: l) → y.wp P Q a w) (hv : l.lookup d = some (.bool B) := by exact rfl) (hd : Nat.beq d 1000000 = false := by exact rfl) : (Code.cond (.tmp d) x y).wp P Q a w :=
 (En B).elim (fun h => wct hR h (h1 h) hv hd) (fun h => wcf hR h (h2 h) hv hd)
theorem wch (hR : Reg a N l) (h1 : B = true → Reg a N ((d, .bool false) :: l) → y.wp P Q a w) (h2 : B = false → Reg a N ((d, .bool true) :: l) → x.wp P Q a w) (hv : l.lookup d = some (.bool (!B)) := by exact rfl) (hd : Nat.beq d 1000000 = false := by exact rfl) : (Code.cond (.tmp d) x y).wp P Q a w :=
 (En B).elim (fun h => wcf hR (by rw [h]; rfl) (h1 h) hv hd) (fun h => wct hR (by rw [h]; rfl) (h2 h) hv hd)
theorem spd (d : Nat) (hR : Reg a N l) (h1 : p → Reg a N ((d, .bool true) :: l) → X) (h2 : ¬ p → Reg a N ((d, .bool false) :: l) → X) (hv : l.lookup d = some (.bool (@decide p hp)) := by exact rfl) : X :=
 (Cb p).elim (fun h => h1 h (hR.setb hv (Aw h))) (fun h => h2 h (hR.setb hv (Ai h)))
theorem spe (d : Nat) (hR : Reg a N l) (h1 : p → Reg a N ((d, .bool false) :: l) → X) (h2 : ¬ p → Reg a N ((d, .bool true) :: l) → X) (hv : l.lookup d = some (.bool (!(@decide p hp))) := by exact rfl) : X :=
 (Cb p).elim (fun h => h1 h (hR.setb hv (by rw [Aw h]; rfl))) (fun h => h2 h (hR.setb hv (by rw [Ai h]; rfl)))
theorem spg (d : Nat) (hR : Reg a N l) (h1 : B = true → Reg a N ((d, .bool true) :: l) → X) (h2 : B = false → Reg a N ((d, .bool false) :: l) → X) (hv : l.lookup d = some (.bool B) := by exact rfl) : X :=
 (En B).elim (fun h => h1 h (hR.setb hv h)) (fun h => h2 h (hR.setb hv h))
theorem sph (d : Nat) (hR : Reg a N l) (h1 : B = true → Reg a N ((d, .bool false) :: l) → X) (h2 : B = false → Reg a N ((d, .bool true) :: l) → X) (hv : l.lookup d = some (.bool (!B)) := by exact rfl) : X :=
 (En B).elim (fun h => h1 h (hR.setb hv (by rw [h]; rfl))) (fun h => h2 h (hR.setb hv (by rw [h]; rfl)))
theorem wck (hR : Reg a N l) (h : Reg a N ((d, .bool true) :: l) → x.wp P Q a w) (hv : l.lookup d = some (.bool B) := by exact rfl) (hB : B = true := by decide) (hd : Nat.beq d 1000000 = false := by exact rfl) : (Code.cond (.tmp d) x y).wp P Q a w := wct hR hB h hv hd
theorem wcl (hR : Reg a N l) (h : Reg a N ((d, .bool false) :: l) → y.wp P Q a w) (hv : l.lookup d = some (.bool B) := by exact rfl) (hB : B = false := by decide) (hd : Nat.beq d 1000000 = false := by exact rfl) : (Code.cond (.tmp d) x y).wp P Q a w := wcf hR hB h hv hd
theorem xe (h : G) (run : G → X := by (intro kk; refine wp_exit ?_; (repeat refine EW ?_); refine EH ?_; exact kk)) : X := run h
theorem rt1 {fn : Func} {R : Ending → World → Prop} {t : Nat} {v : Value} (hR : Reg a N l) (h : R (.returned v) w) (run : bodyPost P fn R .ret a w → X := by (intro kk; refine BV ?_; (repeat first | refine AX ?_ | refine Bf ?_); exact kk))
  (h0 : l.lookup 1000000 = some (.bool false) := by exact rfl) (hr : fn.results = #[.tmp t] := by exact rfl) (hv : ev l (.tmp t) = some v := by exact rfl) : X := run (er1 hR h h0 hr hv)
theorem rt2 {fn : Func} {R : Ending → World → Prop} {t u : Nat} {v v' : Value} (hR : Reg a N l) (h : R (.returned (.tuple #[v, v'])) w) (run : bodyPost P fn R .ret a w → X := by (intro kk; refine BV ?_; (repeat first | refine AX ?_ | refine Bf ?_); exact kk))
  (h0 : l.lookup 1000000 = some (.bool false) := by exact rfl) (hr : fn.results = #[.tmp t, .tmp u] := by exact rfl) (hv : ev l (.tmp t) = some v := by exact rfl) (hv' : ev l (.tmp u) = some v' := by exact rfl) : X := run (er2 hR h h0 hr hv hv')
theorem rt {fn : Func} {t : Nat} {v v' : Value} (hR : Reg a N l) (hf : Fr M w0 w) (he : v = v') (run : bodyPost P fn (fun e w' => e = .returned v' ∧ Fr M w0 w') .ret a w → X := by (intro kk; refine BV ?_; (repeat first | refine AX ?_ | refine Bf ?_); exact kk))
  (h0 : l.lookup 1000000 = some (.bool false) := by exact rfl) (hr : fn.results = #[.tmp t] := by exact rfl) (hv : ev l (.tmp t) = some v := by exact rfl) : X := run (er1 hR ⟨congrArg _ he, hf⟩ h0 hr hv)
theorem rR {id : Nat} {ls : List Oper} (hR : Reg a N l) (k : ∀ a', Reg a' N l' → y.wp P Q a' w)
  (run : ∀ K : Act → World → Prop, (∀ a', Reg a' N l' → K a' w) → ∀ a, Reg a N l → wpList P ls.toArray (Exit.then K Q) ls a w := by (intro K kk _ hR; (repeat refine lst hR fun _ hR => ?_); exact Ae (AC (kk _ hR)))) : (Code.seq (Code.region id ls.toArray false) y).wp P Q a w := wsc fun K hK => run K (fun a' h => hK _ _ (k a' h)) a hR
end
section
variable {P : Program} {w0 w : World} {Z M : Nat → Prop} {m : List Res} {ds : List Dat} {X : Prop} {Next : Act → World → Prop} {a : Act} {N d : Nat} {o : Oper} {ops : Array Oper} {l : List (Nat × Value)} {f : FuncId} {xs : List Operand} {ts : Array TypeId} {vs : List Value} {α β γ : Type}
theorem kra {v : Value} (hR : Reg a N l) (hS : St w0 Z M w m ds) (hf : FOK P f) (hc : Calls P f vs.toArray w (fun e w' => e = .returned v ∧ Fr A6 w w'))
  (k : ∀ w', St w0 Z M w' m ds → ∀ a', Reg a' N ((d, v) :: l) → Next a' w') (hs : Ste P X Next o a w := by first | exact se | exact F8 rfl (AJ rfl) | exact E1 (wt ‹_›) | exact F8 rfl (wt ‹_›)) (hd : o.dst = some d := by exact rfl) (ho : o.op = .call { callee := .value (.func f), args := xs.toArray, argTypes := ts } := by exact rfl) (hx : evs l xs = some vs := by exact rfl) (hdN : d < N := by decide) : X := kr hs hR hS hf hc k hd ho hx hdN
theorem krc {V : α → β → γ → Value} {D : α → β → γ → Dat} {Pf : α → β → γ → Prop} (hR : Reg a N l) (hS : St w0 Z M w m ds) (hf : FOK P f) (hc : Calls P f vs.toArray w (fun e w' => ∃ A c L, e = .returned (V A c L) ∧ Fr A6 w w' ∧ (D A c L).φ w' (nxt (imm Z w0 m w) w w') ∧ Pf A c L))
  (k : ∀ w' A c L, Pf A c L → St w0 Z M w' m (ds ++ [D A c L]) → ∀ a', Reg a' N ((d, V A c L) :: l) → Next a' w') (hs : Ste P X Next o a w := by first | exact se | exact F8 rfl (AJ rfl) | exact E1 (wt ‹_›) | exact F8 rfl (wt ‹_›)) (hd : o.dst = some d := by exact rfl) (ho : o.op = .call { callee := .value (.func f), args := xs.toArray, argTypes := ts } := by exact rfl) (hx : evs l xs = some vs := by exact rfl) (hdN : d < N := by decide) : X := ks hs hR hS hf hc k hd ho hx hdN
theorem krb {V : α → β → Value} {D : α → β → Dat} (hR : Reg a N l) (hS : St w0 Z M w m ds) (hf : FOK P f) (hc : Calls P f vs.toArray w (fun e w' => ∃ A c, e = .returned (V A c) ∧ Fr A6 w w' ∧ (D A c).φ w' (nxt (imm Z w0 m w) w w')))
  (k : ∀ w' A c, St w0 Z M w' m (ds ++ [D A c]) → ∀ a', Reg a' N ((d, V A c) :: l) → Next a' w') (hs : Ste P X Next o a w := by first | exact se | exact F8 rfl (AJ rfl) | exact E1 (wt ‹_›) | exact F8 rfl (wt ‹_›)) (hd : o.dst = some d := by exact rfl) (ho : o.op = .call { callee := .value (.func f), args := xs.toArray, argTypes := ts } := by exact rfl) (hx : evs l xs = some vs := by exact rfl) (hdN : d < N := by decide) : X := k2 hs hR hS hf hc k hd ho hx hdN
theorem krd {V : α → β → γ → Value} {D E : α → β → γ → Dat} {Pf : α → β → γ → Prop} (hR : Reg a N l) (hS : St w0 Z M w m ds) (hf : FOK P f) (hc : Calls P f vs.toArray w (fun e w' => ∃ A c L, e = .returned (V A c L) ∧ Fr A6 w w' ∧ (D A c L).φ w' (nxt (imm Z w0 m w) w w') ∧ (E A c L).φ w' (nxt (imm Z w0 m w) w w') ∧ Pf A c L))
  (k : ∀ w' A c L, Pf A c L → St w0 Z M w' m ((ds ++ [D A c L]) ++ [E A c L]) → ∀ a', Reg a' N ((d, V A c L) :: l) → Next a' w') (hs : Ste P X Next o a w := by first | exact se | exact F8 rfl (AJ rfl) | exact E1 (wt ‹_›) | exact F8 rfl (wt ‹_›)) (hd : o.dst = some d := by exact rfl) (ho : o.op = .call { callee := .value (.func f), args := xs.toArray, argTypes := ts } := by exact rfl) (hx : evs l xs = some vs := by exact rfl) (hdN : d < N := by decide) : X :=
 kcl hR hf hc (fun _ w' ⟨A, c, L, he, hfr, hd', he', hp⟩ => ⟨_, he, k w' A c L hp (hS.dN (hS.dN (hS.below hfr.below) hd') he')⟩) hs hd ho hx hdN
end
theorem ax {q : Prop} (h : q := by first | assumption | omega | (simp <;> omega)) : q := h
abbrev HZ (w0 : World) (Z : Nat → Prop) : Prop := ∀ k, Z k → k < w0.heap.size
abbrev n4 (A : Option Addr) (c : Nat) (t : List Nd) : Dat := Bw 4 A t.length c (Cd t)
abbrev N4 (A : Option Addr) (c : Nat) (t : List Nd) (w : World) (Z : Nat → Prop) : Prop := (n4 A c t).φ w Z
end
section
/- Rows of truths. -/
open Go Go.RowKit
def encB (b : Bool) : List Value := [.bool b]
def D2 (l : List Bool) : List Value := l.flatMap encB
def H1 (t : List Bool) (k : Nat) : Bool := t.getD k false
theorem Ug (b : Bool) : (encB b).length = 1 := rfl
section
variable {w : World} {I : Nat → Prop} {A : Option Addr} {k cap e : Nat}
theorem DX {t : List Bool} (h : RowI w I 1 A t.length (D2 t)) (hk : k < t.length) : ElemAt w A (k * 1) (encB (H1 t k)) := by
 have := h.elem hk
 rwa [show (D2 t) = t.flatMap encB from rfl, EO Ug t k hk false] at this
end
end
section
/- What makers make, behind an error nothing. -/
open Go Go.RowKit
def noL (e : Int) (n : Nd) (p : List (List Nd)) : List Nd := if e = 0 then p.flatten ++ [n] else []
def upL (e : Int) (t : List Nd) (n k : Int) : List Nd := if e = 0 then sfA t n k else []
def upE (e : Int) (t : List Nd) (n k : Int) : Int := if e = 0 then sfE t n k else e
def inL (e : Int) (t : List Nd) (l : List (List Nd)) : List Nd := if e = 0 then inA t l else []
def inQ (e : Int) (t : List Nd) (l : List (List Nd)) : Int := if e = 0 then inE t l else e
def GF (n : Int) (k : Nat) : Int := ((n.toNat &&& k : Nat) : Int)
def plL (e m : Int) (t : List Nd) : List Nd := if 0 < GF m 2 then noL e ⟨29, 0, 0, ⟨#[]⟩⟩ [] else t
theorem Ov {P : Program} {w : World} {t : TypeId} {n : Int} {b : Nat} (h0 : 0 ≤ n) (hn : n < 1000) (hb : b < 1000) : (Go.binOp .and t (.int .i64 n) (.int .i64 (b : Int))).run P w = .ok (.int .i64 (GF n b)) w := by
 have h := QM (P := P) (w := w) (t := t) (a := n.toNat) (b := b) (by omega) (by omega)
 rw [Int.toNat_of_nonneg h0] at h
 exact h
theorem H3 {e : Int} {n : Nd} {p : List (List Nd)} : (noL e n p).length ≤ p.flatten.length + 1 := by
 unfold noL
 split <;> simp
theorem FW {e : Int} {n : Nd} {p : List (List Nd)} (hn : n.S.size < 1000000) (hp : ∀ x ∈ p, sml x) : sml (noL e n p) := by
 rw [D5]
 unfold noL
 split
 ·
  intro m hm
  rcases B5.1 hm with h | h
  ·
   obtain ⟨x, hx, h⟩ := List.mem_flatten.1 h
   exact D5.1 (hp x hx) m h
  ·
   simp only [AB] at h
   rw [h]; exact hn
 · intro m hm; simp at hm
theorem Qu {e : Int} {t : List Nd} {n k : Int} (h : sml t) : sml (upL e t n k) := by
 unfold upL
 split
 · exact QG h
 · intro k hk; simp at hk
theorem V3 {e : Int} {t : List Nd} {n k : Int} : (upL e t n k).length ≤ t.length := by
 unfold upL
 split
 · exact KG _ _ _
 · simp
theorem Wz {e : Int} {t : List Nd} {l : List (List Nd)} (h : sml t) (hl : ∀ x ∈ l, sml x) : sml (inL e t l) := by
 unfold inL
 split
 · exact W5 h hl
 · intro k hk; simp at hk
theorem W4 {e : Int} {t : List Nd} {l : List (List Nd)} : (inL e t l).length ≤ 4000 := by
 unfold inL
 split
 · exact W6 _ _
 · simp
theorem We {e m : Int} {t : List Nd} : (plL e m t).length ≤ t.length + 1 := by
 unfold plL
 split
 ·
  have h1 : (noL e ⟨29, 0, 0, ⟨#[]⟩⟩ []).length ≤ 1 := H3
  omega
 · omega
theorem Rt {e m : Int} {t : List Nd} (h : sml t) : sml (plL e m t) := by
 unfold plL
 split
 · exact FW (by decide) (by intro x hx; cases hx)
 · exact h
section
variable {r : List Nd} {e : Int}
theorem upZ {t : List Nd} {n k : Int} (h : r = upL e t n k) (hs : sml t) : r.length ≤ t.length ∧ sml r := by rw [h]; exact ⟨V3, Qu hs⟩
theorem plZ {m : Int} {t : List Nd} (h : r = plL e m t) (hs : sml t) : r.length ≤ t.length + 1 ∧ sml r := by rw [h]; exact ⟨We, Rt hs⟩
theorem noZ2 {n : Nd} {A B : Option Addr} {c d : Nat} {a b : List Nd} (h : r = noL e n (Bt [((A, c, a) : Sl), ((B, d, b) : Sl)])) (hn : n.S.size < 1000000) (ha : sml a) (hb : sml b) : r.length ≤ a.length + b.length + 1 ∧ sml r := by
 rw [h, show Bt [((A, c, a) : Sl), ((B, d, b) : Sl)] = [a, b] from rfl]
 refine ⟨?_, FW hn (by intro x hx; simp only [AD, AG, or_false] at hx; rcases hx with rfl | rfl; exact ha; exact hb)⟩
 have h1 : (noL e n [a, b]).length ≤ _ := H3
 simpa using h1
end
theorem IR {n : Nd} (h : n.K = 3) : many n = 2 := by simp [many, binds, h, shp]
end
section
/- Terms that are Lx of parts: whether they are terms, what their parts are, and which errors there may be. -/
theorem Ur {t : List Nd} (h : BW t = true) : chk t = 0 ∨ chk t = 21 ∨ chk t = 22 := by
 by_cases hl : t.length ≤ 4000
 ·
  by_cases hd : 60 < (Ht (DB t) ((DB t).length - 1)).2
  · exact .inr (.inr (Lv hl h hd))
  · exact .inl (Lt hl h hd)
 · exact .inr (.inl (Ho (by omega)))
def dpL (t : List Nd) : Nat := (Bk t).deep
theorem Pg {t : List Nd} (h : BW t = true) (hl : t.length ≤ 4000) (hd : dpL t ≤ 60) : chk t = 0 := by
 obtain ⟨hw, hf⟩ := C7 h
 rw [← hf]
 exact Iq hw hd (by rw [hf]; exact hl)
theorem chk_le {t : List Nd} (h : chk t = 0) : t.length ≤ 4000 := (Co h).2.2.2
theorem Uj {l : List T} {b : Nat} (h : ∀ t ∈ l, t.deep ≤ b) : BZ l ≤ b := by
 induction l with
 | nil => simp [BZ]
 | cons t l ih =>
  simp only [BZ]
  have h1 := h t (by simp)
  have h2 := ih (fun x hx => h x (by simp [hx]))
  omega
theorem Lx {n : Nd} {p : List (List Nd)} (hr : right n = true) (hm : many n = p.length) (hp : ∀ x ∈ p, BW x = true) :
  BW (p.flatten ++ [n]) = true ∧ Bk (p.flatten ++ [n]) = .mk n (p.map Bk) ∧ ptL (p.flatten ++ [n]) = p ∧ nth (p.flatten ++ [n]) ((p.flatten ++ [n]).length - 1) = n := by
 have e1 : (p.map Bk).map T.flat = p := by
  rw [List.map_map]
  have : p.map (T.flat ∘ Bk) = p.map id := List.map_congr_left fun x hx => (C7 (hp x hx)).2
  rw [this, List.map_id]
 have e2 : AA (p.map Bk) = p.flatten := by rw [← FI, e1]
 have hw : (T.mk n (p.map Bk)).wf = true := by
  rw [E8]
  simp only [AK, beq_iff_eq, BT]
  refine ⟨⟨hr, hm⟩, (EQ _).2 ?_⟩
  intro t ht
  obtain ⟨x, hx, rfl⟩ := Ch.1 ht
  exact (C7 (hp x hx)).1
 have e3 : (T.mk n (p.map Bk)).flat = p.flatten ++ [n] := by rw [Bi, e2]
 have e4 : Bk (p.flatten ++ [n]) = .mk n (p.map Bk) := by rw [← e3, Du hw]
 refine ⟨by rw [← e3]; exact Hh hw, e4, ?_, ?_⟩
 ·
  unfold ptL
  rw [e4]
  exact e1
 · simp [nth]
theorem HA {n : Nd} {p : List (List Nd)} {b : Nat} (hr : right n = true) (hm : many n = p.length) (hp : ∀ x ∈ p, BW x = true) (hb : ∀ x ∈ p, dpL x ≤ b) : dpL (p.flatten ++ [n]) ≤ b + 1 := by
 unfold dpL
 rw [(Lx hr hm hp).2.1]
 simp only [T.deep]
 have := Uj (l := p.map Bk) (b := b) (by
  intro t ht
  obtain ⟨x, hx, rfl⟩ := Ch.1 ht
  exact hb x hx)
 omega
def GE (e : Int) : Prop := e = 0 ∨ e = 2 ∨ e = 21 ∨ e = 22
theorem GE.zero : GE 0 := .inl rfl
theorem GE.meas {t : List Nd} (h : BW t = true) : GE (chk t) := by
 rcases Ur h with q | q | q
 · exact .inl q
 · exact .inr (.inr (.inl q))
 · exact .inr (.inr (.inr q))
theorem To {t : List Nd} {n k : Int} : upL 0 t n k = sfA t n k := At rfl
theorem TV {t : List Nd} {l : List (List Nd)} : inL 0 t l = inA t l := At rfl
theorem Xi {t : List Nd} (hc : chk t = 0) {k : Nat} (hk : k < many (nth t (t.length - 1))) : chk (Ce (agA t) k) = 0 ∧ Ce (agA t) k ∈ agA t := by
 have hb := BO hc
 rw [Fh hc]
 have hm := CR (l := ptL t) (k := k) (by rw [Cz hb]; exact hk)
 exact ⟨VV hc hm, hm⟩
theorem VA : sml [] := fun k hk => by simp at hk
theorem ag_sml {t : List Nd} (hs : sml t) : ∀ x ∈ agA t, sml x ∧ x.length ≤ t.length := by
 intro x hx
 by_cases hc : chk t = 0
 ·
  rw [Fh hc] at hx
  obtain ⟨_, h2, h3⟩ := G4 (BO hc) hx
  exact ⟨QB hs h3, by omega⟩
 · rw [SV hc] at hx; cases hx
end
section
/- What the rule for a cast comes to, by its cases. -/
section
variable {a b t : List Nd}
theorem Ll {a : List Nd} (hc : chk a = 0) (hk : (nth a (a.length - 1)).K = 3 ∨ (nth a (a.length - 1)).K = 6) : 0 ≤ (nth a (a.length - 1)).N ∧ (nth a (a.length - 1)).N < 4 := by
 have hr := Dn (BO hc) (show a.length - 1 < a.length by have := FL hc; omega)
 rw [KH hk, B8] at hr
 omega
end
section
variable {a b t : List Nd} (hsa : sml a) (hsb : sml b) (hst : sml t) (hla : a.length ≤ 5000) (hlb : b.length ≤ 5000) (hlt : t.length ≤ 5000)
include hsa hsb hst hla hlb hlt
end
end
section
/- What a cast comes to: its errors, and its parts. -/
section
variable {a b t : List Nd} (ha : chk a = 0) (hb : chk b = 0) (ht : chk t = 0)
include ha hb ht
end
def grB (e : Int) : Bool := (decide (e = 2) || decide (e = 21)) || decide (e = 22)
end
section
/- What a pair is cast to. -/
theorem Vr {t : List Nd} (h : BW t = true) : dpL t ≤ t.length := by
 have := M2 (Bk t)
 rw [(C7 h).2] at this
 exact this
mutual
theorem Ve (k : Int) : ∀ (x : T) (u : Int), x.wf = true → 0 ≤ u → moT k u x ≤ 99
 | .mk n l, u, hw, hu => by
  obtain ⟨h1, _, h3⟩ := DS hw
  simp only [moT]
  split
  ·
   rename_i hk
   obtain ⟨_, _, h5⟩ := Gg h1 hk
   split <;> omega
  · exact RC k l _ h3 (Qv hu)
theorem RC (k : Int) : ∀ (l : List T) (us : List Int), T.wfs l = true → (∀ v ∈ us, 0 ≤ v) → Ic k l us ≤ 99
 | [], us, _, _ => by simp [Ic]
 | y :: l, [], _, _ => by simp [Ic]
 | y :: l, u :: us, hw, hu => by
  obtain ⟨h1, h2⟩ := Eo hw
  simp only [Ic]
  have := Ve k y u h1 (hu u (by simp))
  have := RC k l us h2 (fun v hv => hu v (by simp [hv]))
  omega
end
theorem moL_bd {t : List Nd} (h : BW t = true) (k : Int) : -1 ≤ moL t k 0 ∧ moL t k 0 ≤ 99 := ⟨OE _ _ _, Ve _ _ _ (C7 h).1 (Int.le_refl _)⟩
def frF (t : List Nd) : Int := if chk t = 0 then moL t (-1) 0 + 1 else 0
def PQ (x : List Nd) : Prop := Df 100 x = false ∧ chk x = 0 ∧ dpL x ≤ 25
section
variable {m : Nat} {a b c d t : List Nd} (hm : m < 3) (ha : PQ a) (hb : PQ b) (hc : PQ c) (hd : PQ d) (ht : PQ t) (h29 : ¬ (nth t (t.length - 1)).K = 29)
include hm ha hb hc hd ht h29
end
end
section
/- What a redex comes to (eliminators of inductive types aside); which kind an argument's type is of. -/
def Tf (s : ByteArray) : List Nd := [⟨25, 0, 0, s⟩]
def kdA (s : ByteArray) (t : List Nd) : Int := if ¬ chk t = 0 then 0 else if t = Tf s then 1 else if (nth t (t.length - 1)).K = 3 ∧ Ce (agA t) 1 = Tf s then 2 else 0
section
variable {k m : Nat} {t : List Nd} {a b : ByteArray} (hm : m < 4) (ht : chk t = 0) (hd : dpL t ≤ 50) (hl : t.length ≤ 200) (ha : CJ a = true)
include hm ht hd hl ha
end
end
section
/- What the walks of redexes ask: parts of roots, sizes, strings. -/
theorem R8 {Ls : List Sl} {k : Nat} (h : k < Ls.length) : (BF Ls k).2.2 ∈ Bt Ls := by
 rw [AQ]; exact CR (by rw [Bs]; exact h)
theorem ML {t : List Nd} {Ls : List Sl} {k : Nat} (hc : chk t = 0) (hL : Bt Ls = agA t) (hs : sml t) (hk : k < many (nth t (t.length - 1))) : (BF Ls k).2.2.length ≤ 4000 ∧ sml (BF Ls k).2.2 ∧ chk (BF Ls k).2.2 = 0 := by
 obtain ⟨h1, h2⟩ := Xi hc hk
 obtain ⟨h3, h4⟩ := ag_sml hs _ h2
 rw [AQ, hL]
 exact ⟨chk_le h1, h3, h1⟩
theorem ag_len {t : List Nd} {Ls : List Sl} (hc : chk t = 0) (hL : Bt Ls = agA t) : Ls.length = many (nth t (t.length - 1)) ∧ Ls.length ≤ 8 := by
 have h1 : Ls.length = many (nth t (t.length - 1)) := by rw [← Bs, hL, Fh hc, Cz (BO hc)]
 have h2 := FY (Dn (BO hc) (show t.length - 1 < t.length by have := FL hc; omega))
 exact ⟨h1, by omega⟩
def kinB (e f : Int) : Bool := decide (e = f) || (grB e && grB f)
theorem kin_of {e f : Int} (h : e = f) : kinB e f = true := by unfold kinB; simp [h]
end
section
/- Redexes of pairs, of functions, of numbers. -/
def PU (x : List Nd) : Prop := chk x = 0 ∧ dpL x ≤ 50
section
variable {s a b : List Nd} (hs : PU s) (ha : PU a) (hb : PU b) (hls : s.length ≤ 120) (hla : a.length ≤ 120) (hlb : b.length ≤ 120)
include hs ha hb hls hla hlb
end
mutual
theorem shz_T {f : Int} : ∀ (x : T) (u : Int), x.wf = true → trE (shV 0 f) u x = 0 ∧ trT (shV 0 f) u x = x
 | .mk n l, u, hw => by
  obtain ⟨h1, h2, h3⟩ := DS hw
  by_cases hk : n.K = 0
  ·
   obtain ⟨e, a, b⟩ := Gg h1 hk
   have hl : l = [] := BB (by rw [← h2]; simp [many, binds, hk, shp])
   simp only [trE, trT, hk, if_true, shV]
   split
   ·
    rw [Aq (by omega), Aq (by omega)]
    refine ⟨rfl, ?_⟩
    rw [hl, e]
    simp
   · rw [hl]; exact ⟨rfl, rfl⟩
  ·
   simp only [trE, trT, hk, if_false]
   obtain ⟨a, b⟩ := UG (f := f) l ((binds n).map (u + ·)) h3 (by simp [← h2, many])
   exact ⟨a, by rw [b]⟩
theorem UG {f : Int} : ∀ (l : List T) (us : List Int), T.wfs l = true → l.length = us.length → EC (shV 0 f) l us = 0 ∧ Fp (shV 0 f) l us = l
 | [], us, _, _ => by simp [EC, Fp]
 | y :: l, [], _, h => by simp at h
 | y :: l, u :: us, hw, h => by
  obtain ⟨h1, h2⟩ := Eo hw
  obtain ⟨a, b⟩ := shz_T (f := f) y u h1
  obtain ⟨c, d⟩ := UG (f := f) l us h2 (by simpa using h)
  simp only [EC, Fp, a, if_true, b, c, d, and_self]
end
theorem VD {t : List Nd} {f : Int} (h : chk t = 0) : sfE t 0 f = 0 ∧ sfA t 0 f = t := by
 obtain ⟨h1, h2⟩ := Fq (b := 0) (f := f) h
 have hc : As 0 = 0 := by decide
 rw [hc] at h1 h2
 obtain ⟨a, b⟩ := shz_T (f := max 0 (As f)) (Bk t) 0 (C7 (BO h)).1
 refine ⟨h1.trans a, ?_⟩
 rw [h2]
 unfold trL E4
 rw [At a, b, (C7 (BO h)).2]
end
section
/- Eliminators of constructors: what their rule says where no argument has a hypothesis. -/
open Go Go.RowKit
def ofN (n : Nd) (p : List (List Nd)) : List Nd := p.flatten ++ [n]
def PE (x : List Nd) : Prop := chk x = 0 ∧ dpL x ≤ 30
section
variable {m c : List Nd} {q : List (List Nd)} {s : ByteArray} (hm : PE m) (hlm : m.length ≤ 120) (hc : PE c) (hlc : c.length ≤ 120) (hq : ∀ x ∈ q, PE x ∧ x.length ≤ 120) (h6 : q.length ≤ 6) (hs : CJ s = true)
def elT (m c : List Nd) (q : List (List Nd)) (s : ByteArray) : List Nd := ofN ⟨27, 0, 1, s⟩ [m, c, ofN ⟨26, 0, (q.length : Int), s⟩ q]
include hm hlm hc hlc hq h6 hs
end
end
section
/- Iterators that change a box of their caller's between the rounds, and hand over rows that they have made. -/
open Go Go.RowKit
structure Hnd (β : Type) where
 el : Nat
 sz : Nat
 enc : List β → List Value
section
variable {I0 : Nat → Prop} {W W' w w0 wl : World} {m m' m0 : List Res} {ds ds' : List Dat} {Z M : Nat → Prop} {g : Nat}
end
section
variable {P : Program}
end
section
variable {β : Type} {P : Program} {ops : Array Oper} {Q : Exit → Act → World → Prop} {rest : List Oper} {o : Oper} {a : Act} {w w0 : World} {N : Nat} {ls : List (Nat × Value)} {d : Nat} {m : List Res} {ds ds0 : List Dat} {jf jx : JF (List β)} {H : Hnd β} {xl : List (List β)} {C0 M0 Zd : Nat → Prop} {g : Nat} {t : TypeId} {c0 cE : List Value} {cell : List (List β) → List Value}
end
end
section
/- Hypotheses of an eliminator: what they are. -/
open Go Go.RowKit
section
variable {n : Nd} {p T Q : List (List Nd)} {e : Int}
theorem IX {s : ByteArray} {t : List Nd} (h0 : ¬ kdA s t = 0) (h1 : ¬ kdA s t = 1) : kdA s t = 2 ∧ chk t = 0 ∧ (nth t (t.length - 1)).K = 3 := by
 unfold kdA at h0 h1 ⊢
 split at h0
 · exact absurd rfl h0
 ·
  rename_i hc
  rw [Aq hc] at h1 ⊢
  split at h1
  · exact absurd rfl h1
  ·
   rename_i ho
   rw [Aq ho] at h0 ⊢
   split at h0
   ·
    rename_i h3
    rw [At h3]
    exact ⟨rfl, Classical.not_not.1 hc, h3.1⟩
   · exact absurd rfl h0
end
section
variable {n : Nd} {p T Q : List (List Nd)} {e : Int} {o : List Nd} {pre : List (List Nd)} {x : List Nd}
end
end
section
/- What is asked of an inductive type's declaration. -/
open Go Go.RowKit
def meN (s : ByteArray) (n : Nd) : Bool := decide (n.S = s) && (decide (n.K = 25) || (decide (n.K = 26) || decide (n.K = 27)))
def ixF {α : Type} (p : α → Bool) (t : List α) : Int := match t.findIdx? p with
 | some i => (i : Int)
 | none => -1
theorem NL {α : Type} {t : List α} {i : Nat} {z : α} (h : i < t.length) : t.getD i z = t[i] := by simp [List.getD, h]
theorem Vi {α : Type} {p : α → Bool} {t : List α} {k : Nat} {z : α} (hk : k < t.length) (hn : ∀ i, i < k → p (t.getD i z) = false) (hp : p (t.getD k z) = true) : ixF p t = (k : Int) := by
 rw [NL hk] at hp
 have h : t.findIdx? p = some k := by
  rw [List.findIdx?_eq_some_iff_getElem]
  refine ⟨hk, hp, fun j hj => ?_⟩
  have := hn j hj
  rw [NL (by omega)] at this
  simpa using this
 unfold ixF
 rw [h]
theorem Vh {α : Type} {p : α → Bool} {t : List α} {z : α} (hn : ∀ i, i < t.length → p (t.getD i z) = false) : ixF p t = -1 := by
 have h : t.findIdx? p = none := by
  rw [List.findIdx?_eq_none_iff]
  intro x hx
  obtain ⟨i, hi, rfl⟩ := List.mem_iff_getElem.1 hx
  have := hn i hi
  rw [NL hi] at this
  simpa using this
 unfold ixF
 rw [h]
theorem RU {α : Type} (p : α → Bool) (t : List α) : decide (0 ≤ ixF p t) = t.any p := by
 unfold ixF
 cases h : t.findIdx? p with
 | none =>
  rw [List.findIdx?_eq_none_iff] at h
  simp only
  symm
  rw [show decide ((0 : Int) ≤ -1) = false by decide, List.any_eq_false]
  intro x hx
  simp [h x hx]
 | some i =>
  rw [List.findIdx?_eq_some_iff_getElem] at h
  obtain ⟨h1, h2, _⟩ := h
  simp only
  rw [show decide ((0 : Int) ≤ (i : Int)) = true by simp]
  symm
  rw [F3]
  exact ⟨_, List.getElem_mem h1, h2⟩
theorem RT {α : Type} {p : α → Bool} {t : List α} {k : Nat} {z : α} (hn : ∀ i, i < k → p (t.getD i z) = false) (h : p (t.getD k z) = false) : ∀ i, i < k + 1 → p (t.getD i z) = false := fun i hi => by
 by_cases e : i = k
 · rw [e]; exact h
 · exact hn i (by omega)
def mkI (b : Bool) (n : Int) : Int := if b then n else 0
def poP (s : ByteArray) (t : List Nd) : Int :=
 if ¬ chk t = 0 then chk t else if kdA s t = 1 then 0 else if kdA s t = 2 ∧ (Ce (agA t) 0).any (meN s) = false then 0 else if t.any (meN s) = false then 0 else 170
theorem Rr {s : ByteArray} {t : List Nd} (h : ¬ chk t = 0) : poP s t = chk t := At h
theorem Rq {s : ByteArray} {t : List Nd} (hc : chk t = 0) (h : kdA s t = 1) : poP s t = 0 := by unfold poP; rw [Aq (AR hc), At h]
theorem Rp {s : ByteArray} {t : List Nd} (hc : chk t = 0) (h1 : ¬ kdA s t = 1) (h : kdA s t = 2) (hm : (Ce (agA t) 0).any (meN s) = false) : poP s t = 0 := by unfold poP; rw [Aq (AR hc), Aq h1, At ⟨h, hm⟩]
theorem Hz {s : ByteArray} {t : List Nd} (hc : chk t = 0) (h1 : ¬ kdA s t = 1) (hm : t.any (meN s) = false) : poP s t = 0 := by
 unfold poP
 rw [Aq (AR hc), Aq h1]
 split
 · rfl
 · first | rfl | rw [At hm]
theorem H0 {s : ByteArray} {t : List Nd} (hc : chk t = 0) (h1 : ¬ kdA s t = 1) (h2 : (decide (kdA s t = 2) && !((Ce (agA t) 0).any (meN s))) = false) (hm : t.any (meN s) = true) : poP s t = 170 := by
 unfold poP
 rw [Aq (AR hc), Aq h1, Aq (fun h => by simp [h.1, h.2] at h2), Aq (by rw [hm]; decide)]
def frE : List Int → Int
 | [] => 0
 | e :: l => if e = 0 then frE l else e
theorem frE_at {l : List Int} {k : Nat} (h : ∀ i, i < k → Ci l i = 0) (hk : k < l.length) (he : ¬ Ci l k = 0) : frE l = Ci l k := by
 induction l generalizing k with
 | nil => simp at hk
 | cons x l ih =>
  cases k with
  | zero => exact Aq he
  | succ k =>
   have h0 : x = 0 := h 0 (by omega)
   rw [frE, At h0]
   exact ih (fun i hi => h (i + 1) (by omega)) (by simpa using hk) he
theorem WC {l : List Int} (h : ∀ i, i < l.length → Ci l i = 0) : frE l = 0 := by
 induction l with
 | nil => rfl
 | cons x l ih =>
  have h0 : x = 0 := h 0 (by simp)
  rw [frE, At h0]
  exact ih (fun i hi => h (i + 1) (by simpa using hi))
def clT (t : List Nd) : Int := if ¬ chk t = 0 then chk t else if 0 < frF t then 30 else 0
end
end Go.Proofs.YtpfmnpaifchleaaGreatDoor
namespace Go.Proofs.YtpfmnpaifchleaaGreatDoor
open Go Go.RowKit
set_option linter.unusedSimpArgs false
set_option linter.unusedVariables false
set_option maxRecDepth 100000
set_option maxHeartbeats 4000000
theorem TR (w0 : World) (Z : Nat → Prop) (hZ : HZ w0 Z) (n : Int)  :
    Calls Tryz.prog 165 [.int .i64 n].toArray w0 (fun e w' => e = .returned (.bool (!decide (0 ≤ n ∧ n ≤ 9))) ∧ Fr A6 w0 w') := by
 have b0 := s0 (M := A6) hZ zn
 refine AE Tryz.func165 rfl Tryz.ntmps165 rfl fun c0 d0 => ?_
 refine rR d0 fun c0 f0 => ?_
 refine wsc fun c0 d0 => lR f0 fun c0 h0 => ?_
 refine lOr 2 (decide (9 < n)) h0 fun c0 f0 => ?_
 refine aw f0 d0 fun c0 h0 => ?_
 refine rt h0 b0.fr ?_
 exact BQ (by (rw [Bool.eq_iff_iff]; simp [] <;> omega))
theorem Lc (w0 : World) (Z : Nat → Prop) (hZ : HZ w0 Z) (tA : Option Addr) (tc : Nat) (t : List Int) (ht : (Bw 1 tA t.length tc (BN t)).φ w0 Z) (hl : t.length ≤ 1000000 := by exact ax) :
    Calls Tryz.prog 167 [.slice tA t.length tc, .func (.func 165) #[] #[]].toArray w0 (fun e w' => e = .returned (.int .i64 (lvIndex t)) ∧ Fr A6 w0 w') := by
 have b0 := s0 (M := A6) hZ (zc ht zn)
 refine AE Tryz.func167 rfl Tryz.ntmps167 rfl fun c0 d0 => ?_
 refine rR d0 fun c0 f0 => ?_
 refine Ac fun c0 d0 => rR f0 fun c0 i0 => ?_
 refine A4 ?_
 refine AH (fun gn ga gw => ∃ k : Nat, (Reg ga 19 [(1000000, .bool false), (0, .slice tA t.length tc), (1, .func (.func 165) #[] #[]), (7, .int .i64 (t.length : Int)), (8, .int .i64 (k : Int))]) ∧ (St w0 Z A6 gw [] [Bw 1 tA t.length tc (BN t)]) ∧ (k ≤ t.length) ∧ (lvIndex t = (let r := lvIndex (t.drop k); if r < 0 then r else r + (k : Int))) ∧ (t.length - k) = gn) _ ⟨0, (i0.sub (rc4 (rc rfl rnl))), b0, by omega, by simp, rfl⟩ ?_
 rintro i0 b0 c0 ⟨k, f0, j0, hk, hi, k0⟩
 refine rR f0 fun k0 c0 => ?_
 refine Ac fun k0 f0 => wcd c0 (fun k0 b0 => ?_) fun k0 i0 => ?_
 refine Am <| xn f0 <| Ac fun f0 k0 => A4 ?_
 refine rR b0 fun f0 c0 => ?_
 refine wsc fun f0 b0 => lR c0 fun f0 m0 => ?_
 refine ix k (k * 1) m0 (Ds (t := t) (k := k) (j0.row (i := 0) rfl).2 (by omega)).some_ fun f0 c0 => ?_
 refine lde 0 (k * 1) c0 (Ds (t := t) (k := k) (j0.row (i := 0) rfl).2 (by omega)) fun f0 m0 => ?_
 have f0 := j0.nf
 refine DI (xs := [.tmp 15]) se m0 rfl rfl rfl rfl (by decide) ok165 (TR _ _ f0.il (Ci t k)) ?_
 rintro m0 c0 ⟨rfl, n0⟩
 have c0 := f0.below n0.below
 refine ⟨_, rfl, fun n0 f0 => ?_⟩
 refine wn b0 <| wcg f0 (fun b0 n0 => ?_) fun b0 m0 => ?_
 have f0 := IJ b0
 have o0 := Ak f0
 refine rR n0 fun f0 p0 => ?_
 refine rt p0 c0.fr ?_
 exact Bz (by exact (Mp (k := k) hi (by omega) (by intro p0; have q := o0; simp at q; omega)).symm)
 have p0 := He b0
 have b0 := A9 p0
 refine Am <| A7 <| xn k0 <| A0 ?_
 refine adi ((k + 1 : Nat) : Int) m0 fun k0 p0 => ?_
 refine mv p0 fun k0 m0 => ?_
 refine Ae ?_
 exact ⟨_, by omega, k + 1, (m0.sub (rc4 (rc rfl rnl))), c0, by omega, Mn hi (by omega) (by have q := b0; simpa using q), rfl⟩
 refine xe ?_
 refine xn d0 <| rR i0 fun d0 m0 => ?_
 refine rt m0 j0.fr ?_
 exact Bz (by exact (Mo hi (by omega)).symm)
theorem Id (w0 : World) (Z : Nat → Prop) (hZ : HZ w0 Z) (tA : Option Addr) (tc : Nat) (t : List Int) (ht : (Bw 1 tA t.length tc (BN t)).φ w0 Z) (hl : t.length ≤ 1000000 := by exact ax) :
    Calls Tryz.prog 164 [.slice tA t.length tc, .func (.func 165) #[] #[]].toArray w0 (fun e w' => e = .returned (.bool (decide (0 ≤ lvIndex t))) ∧ Fr A6 w0 w') := by
 have b0 := s0 (M := A6) hZ (zc ht zn)
 refine AE Tryz.func164 rfl Tryz.ntmps164 rfl fun c0 d0 => ?_
 refine rR d0 fun c0 f0 => ?_
 refine wsc fun c0 d0 => lR f0 fun c0 h0 => ?_
 have c0 := b0.nf
 refine kra h0 c0 ok167 (Lc _ _ c0.il _ _ _ (c0.g 0)) fun b0 f0 i0 j0 => ?_
 refine lR j0 fun i0 b0 => ?_
 refine wn d0 <| rt b0 f0.fr ?_
 exact BQ (by rfl)
theorem NA (w0 : World) (Z : Nat → Prop) (hZ : HZ w0 Z) (tA : Option Addr) (tc : Nat) (t : List Int) (ht : (Bw 1 tA t.length tc (BN t)).φ w0 Z) (hl : t.length ≤ 1000000 := by exact ax) :
    Calls Tryz.prog 159 [.slice tA t.length tc].toArray w0 (fun e w' => e = .returned (.bool (!decide (0 ≤ lvIndex t))) ∧ Fr A6 w0 w') := by
 have b0 := s0 (M := A6) hZ (zc ht zn)
 refine AE Tryz.func159 rfl Tryz.ntmps159 rfl fun c0 d0 => ?_
 refine rR d0 fun c0 f0 => ?_
 refine wsc fun c0 d0 => mv f0 fun c0 h0 => ?_
 have c0 := b0.nf
 refine kra h0 c0 ok164 (Id _ _ c0.il _ _ _ (c0.g 0)) fun b0 f0 i0 j0 => ?_
 refine lR j0 fun i0 b0 => ?_
 refine wn d0 <| rt b0 f0.fr ?_
 exact BQ (by rfl)
theorem Ld (w0 : World) (Z : Nat → Prop) (hZ : HZ w0 Z) (n : Int)  :
    Calls Tryz.prog 147 [.int .i64 n].toArray w0 (fun e w' => e = .returned (.int .i64 (Ie n)) ∧ Fr A6 w0 w') := by
 have b0 := s0 (M := A6) hZ zn
 refine AE Tryz.func147 rfl Tryz.ntmps147 rfl fun c0 d0 => ?_
 refine rR d0 fun c0 f0 => ?_
 refine Ac fun c0 d0 => wsc fun c0 h0 => mv f0 fun c0 i0 => ?_
 refine bsl i0 b0 fun c0 f0 j0 k0 m0 => ?_
 have f0 := m0.nf
 have m0 := f0.pub 0 (Bw 1 (some ⟨j0, 0, none⟩) 1 1 (BN ([n])))
 refine kra k0 m0 ok159 (NA _ _ m0.il _ _ ([n]) (m0.g 0)) fun f0 j0 c0 i0 => ?_
 refine lR i0 fun c0 f0 => ?_
 refine wn h0 <| wch f0 (fun h0 c0 => ?_) fun h0 i0 => ?_
 have f0 := IJ h0
 have m0 := Ak f0
 refine Am <| xn d0 <| rR c0 fun d0 f0 => ?_
 refine rt f0 j0.fr ?_
 exact Bz (by exact (PJ (by have q := m0; simpa using q)).symm)
 have m0 := He h0
 have h0 := A9 m0
 refine rR i0 fun m0 f0 => ?_
 refine rt f0 j0.fr ?_
 exact Bz (by exact (RQ (by have q := h0; simpa using q)).symm)
theorem JX (w0 : World) (Z : Nat → Prop) (hZ : HZ w0 Z) (k : Int)  :
    Calls Tryz.prog 148 [.int .i64 k].toArray w0 (fun e w' => e = .returned (.int .i64 (most k)) ∧ Fr A6 w0 w') := by
 have b0 := s0 (M := A6) hZ zn
 refine AE Tryz.func148 rfl Tryz.ntmps148 rfl fun c0 d0 => ?_
 refine rR d0 fun c0 f0 => ?_
 refine Ac fun c0 d0 => rR f0 fun c0 h0 => ?_
 refine A4 ?_
 refine rR h0 fun c0 f0 => ?_
 refine wcd f0 (fun c0 h0 => ?_) fun c0 i0 => ?_
 refine rR h0 fun f0 j0 => ?_
 refine rt j0 b0.fr ?_
 exact Bz (by have j0 := c0; (try simp at j0);  unfold most; (repeat' split) <;> omega)
 refine Gc (fun ga gw => Reg ga 9 [(2, .int .i64 0), (6, .bool ((decide (k = 3)) || (decide (k = 6)))), (1000000, .bool false)] ∧ St w0 Z A6 gw [] []) ?_ ?_
 refine rR i0 fun f0 h0 => ?_
 refine wcd h0 (fun f0 i0 => ?_) fun f0 k0 => ?_
 refine Am ?_
 exact AC ⟨(i0.sub (rc rfl (rc (rb rfl (by (simp only [Aw f0, At f0, bl]; done))) (rc rfl rnl)))), b0⟩
 refine A0 ?_
 refine lR k0 fun i0 h0 => ?_
 refine Ae ?_
 exact AC ⟨(h0.sub (rc rfl (rc (rb rfl (by (simp only [Ai f0, Aq f0, bl]; done))) (rc rfl rnl)))), b0⟩
 rintro h0 f0 ⟨b0, i0⟩
 refine wcg b0 (fun f0 h0 => ?_) fun f0 k0 => ?_
 have b0 := f0
 try simp only [bz] at b0
 refine rR h0 fun b0 m0 => ?_
 refine rt m0 i0.fr ?_
 exact Bz (by have j0 := c0; (try simp at j0); have m0 := f0; (try simp at m0);  unfold most; (repeat' split) <;> omega)
 have b0 := CU f0
 have h0 := Ak b0
 have b0 := CT f0
 have n0 := Ak b0
 refine Am <| A7 <| xn d0 <| rR k0 fun d0 b0 => ?_
 refine rt b0 i0.fr ?_
 exact Bz (by have j0 := c0; (try simp at j0); have m0 := f0; (try simp at m0); have b0 := h0; (try simp at b0); have i0 := n0; (try simp at i0);  unfold most; (repeat' split) <;> omega)
theorem Gn (w0 : World) (Z : Nat → Prop) (hZ : HZ w0 Z) (n : Nd) (hShp : Cu w0 Z) (hr : right n = true := by exact ax) :
    Calls Tryz.prog 120 [.agg #[.int .i64 (n.K), .int .i64 (n.N), .int .i64 (n.M), .string n.S]].toArray w0 (fun e w' => e = .returned (.int .i64 ((many n : Nat) : Int)) ∧ Fr A6 w0 w') := by
 have b0 := s0 (M := A6) hZ (zc (d := Br) hShp zn)
 obtain ⟨c0, d0⟩ := Ng hr
 refine AE Tryz.func120 rfl Tryz.ntmps120 rfl fun d0 c0 => ?_
 refine wsc fun d0 f0 => bxx c0 b0 fun d0 h0 i0 j0 k0 => ?_
 refine aw j0 f0 fun i0 h0 => ?_
 refine Ac fun f0 i0 => rR h0 fun f0 j0 => ?_
 refine A4 ?_
 refine rR j0 fun f0 h0 => ?_
 refine wcd h0 (fun f0 j0 => ?_) fun f0 d0 => ?_
 refine rR j0 fun f0 h0 => ?_
 refine rt h0 k0.fr ?_
 exact Bz (by exact OI hr (by omega))
 refine rR d0 fun h0 f0 => ?_
 refine wcd f0 (fun h0 d0 => ?_) fun h0 j0 => ?_
 obtain ⟨f0, c0⟩ := Gm hr h0
 refine wsc fun c0 f0 => lR d0 fun c0 h0 => ?_
 refine adi (n.M + 2) h0 fun c0 d0 => ?_
 refine aw d0 f0 fun c0 h0 => ?_
 refine rt h0 k0.fr ?_
 exact Bz (by first | exact IQ hr (by omega) | exact KZ (by omega) (by omega))
 refine Am <| A7 <| xn i0 <| wsc fun i0 h0 => lR j0 fun i0 f0 => ?_
 refine Lb (i := (n.K).toNat) (j := ((n.K).toNat) * 4) sv f0 rfl rfl rfl rfl Tryz.underlying155 Q4 (by omega) (by omega) rfl (by decide) fun i0 j0 => ?_
 refine CB (j' := ((n.K).toNat) * 4) sv j0 rfl rfl rfl rfl DY rfl sz57 rfl rfl (by decide) fun i0 f0 => ?_
 obtain ⟨i0, j0, c0, d0⟩ := I1 (k0.get (i := 0) rfl) ((n.K).toNat) (by omega)
 have b0 := k0.data (Bw 1 i0 (shp ((n.K).toNat)).b.length j0 (BN (shp ((n.K).toNat)).b)) c0
 refine G8 sv f0 rfl rfl rfl 0 (((n.K).toNat) * 4) d0 rfl rfl AU rfl (by decide) fun c0 j0 => ?_
 refine lR j0 fun c0 d0 => ?_
 refine wn h0 <| rt d0 b0.fr ?_
 exact Bz (by first | exact IQ hr (by omega) | exact KZ (by omega) (by omega))
theorem JW (w0 : World) (Z : Nat → Prop) (hZ : HZ w0 Z) (s : ByteArray) (hs : s.size < 1000000 := by exact ax) :
    Calls Tryz.prog 115 [.string s].toArray w0 (fun e w' => e = .returned (.bool (CJ s)) ∧ Fr A6 w0 w') := by
 have b0 := s0 (M := A6) hZ zn
 refine AE Tryz.func115 rfl Tryz.ntmps115 rfl fun c0 d0 => ?_
 refine rR d0 fun c0 f0 => ?_
 refine Ac fun c0 d0 => rR f0 fun c0 h0 => ?_
 refine A4 ?_
 refine AH (fun gn ga gw => ∃ k : Nat, (Reg ga 48 [(1000000, .bool false), (0, .string s), (7, .int .i64 (s.size : Int)), (8, .int .i64 (k : Int))]) ∧ (St w0 Z A6 gw [] []) ∧ (k ≤ s.size) ∧ (HL s k) ∧ (s.size - k) = gn) _ ⟨0, (h0.sub (rc2 (rc rfl (rc rfl rnl)))), b0, by omega, IM s, rfl⟩ ?_
 rintro h0 b0 c0 ⟨k, f0, i0, hk, hi, j0⟩
 refine rR f0 fun j0 c0 => ?_
 refine Ac fun j0 f0 => wcd c0 (fun j0 b0 => ?_) fun j0 h0 => ?_
 refine Am <| xn f0 <| Ac fun f0 c0 => A4 ?_
 refine rR b0 fun f0 k0 => ?_
 refine wsc fun f0 b0 => lR k0 fun f0 m0 => ?_
 refine Mb (i := k) sv m0 rfl rfl rfl rfl A8 (by omega) (by omega) (by decide) fun f0 k0 => ?_
 refine aw k0 b0 fun f0 m0 => ?_
 refine wsc fun b0 f0 => mv m0 fun b0 k0 => ?_
 refine LZ (v := .int .u8 ((orB (CK s k) 32 : Nat) : Int)) sv k0 rfl rfl rfl rfl (by decide) (QL (a := CK s k) (b := 32) (by exact Gd _ _) (by omega)) fun b0 m0 => ?_
 refine lR m0 fun b0 k0 => ?_
 refine TU 3 (decide (((orB (CK s k) 32 : Nat) : Int) ≤ 122)) k0 (fun b0 m0 n0 => ?_) fun o0 p0 => ?_
 have o0 := A9 b0
 refine CI (Bb (wt m0)) m0 rfl rfl rfl (by decide) fun o0 b0 => ?_
 refine LZ (v := .int .u8 ((orB (CK s k) 32 : Nat) : Int)) (Bb (wt b0)) b0 rfl rfl rfl rfl (by decide) (QL (a := CK s k) (b := 32) (by exact Gd _ _) (by omega)) fun o0 m0 => ?_
 refine r_leq (Bb (wt m0)) m0 rfl rfl rfl rfl (by decide) fun o0 b0 => ?_
 refine EX sv b0 rfl rfl rfl rfl (by decide) fun o0 m0 => ?_
 exact n0.fin m0
 refine mv p0 fun m0 n0 => ?_
 refine lOr 2 (decide (((CK s k : Nat) : Int) = 95)) n0 fun m0 p0 => ?_
 refine aw p0 f0 fun m0 n0 => ?_
 refine wsc fun f0 m0 => lR n0 fun f0 p0 => ?_
 refine EA (fun ga gw => Reg ga 48 [(0, .string s), (7, .int .i64 (s.size : Int)), (8, .int .i64 (k : Int)), (39, .bool ((!(((decide (97 ≤ ((orB (CK s k) 32 : Nat) : Int))) && (decide (((orB (CK s k) 32 : Nat) : Int) ≤ 122))) || (decide (((CK s k : Nat) : Int) = 95)))) && ((decide ((k : Int) = 0)) || ((decide (((CK s k : Nat) : Int) < 48)) || (decide (57 < ((CK s k : Nat) : Int))))))), (1000000, .bool false)] ∧ St w0 Z A6 gw [] []) 11 ?_ ?_
 refine sph 28 p0 (fun f0 n0 => ?_) fun f0 o0 => ?_
 have p0 := f0
 try simp only [bz] at p0
 refine lR n0 fun p0 b0 => ?_
 refine Ae ?_
 exact AC ⟨(b0.sub (rc2 (rc rfl (rc (rb rfl (by (simp only [f0, bl]; done))) (rc rfl rnl))))), i0⟩
 have b0 := CU f0
 have p0 := b0
 try simp only [bz] at p0
 have p0 := CT f0
 have b0 := Ak p0
 refine lR o0 fun b0 p0 => ?_
 refine spd 31 p0 (fun b0 o0 => ?_) fun b0 n0 => ?_
 refine lR o0 fun p0 k0 => ?_
 refine Ae ?_
 exact AC ⟨(k0.sub (rc2 (rc rfl (rc (rb rfl (by (simp only [f0, Aw b0, At b0, bl]; done))) (rc rfl rnl))))), i0⟩
 refine lR n0 fun k0 p0 => ?_
 refine spd 35 p0 (fun k0 n0 => ?_) fun k0 o0 => ?_
 refine lR n0 fun p0 t0 => ?_
 refine Ae ?_
 exact AC ⟨(t0.sub (rc2 (rc rfl (rc (rb rfl (by (simp only [f0, Ai b0, Aq b0, Aw k0, At k0, bl]; done))) (rc rfl rnl))))), i0⟩
 refine lR o0 fun t0 p0 => ?_
 refine Ae ?_
 exact AC ⟨(p0.sub (rc2 (rc rfl (rc (rb rfl (by (simp only [f0, Ai b0, Aq b0, Ai k0, Aq k0, bl]; done))) (rc rfl rnl))))), i0⟩
 rintro p0 k0 ⟨b0, f0⟩
 refine wn m0 <| wcg b0 (fun m0 k0 => ?_) fun m0 p0 => ?_
 have b0 := Eu m0
 have t0 := IJ b0
 have b0 := CU t0
 have o0 := b0
 try simp only [bz] at o0
 have o0 := CT t0
 have t0 := Ak o0
 have o0 := Et m0
 have b0 := o0
 try simp only [bz] at b0
 refine rR k0 fun b0 o0 => ?_
 refine rt o0 f0.fr ?_
 exact BQ (by exact (OB (k := k) (by omega) (by have o0 := j0; (try simp at o0); have b0 := m0; (try simp at b0); have k0 := t0; (try simp at k0);  unfold okC; omega)).symm)
 have k0 := m0
 try simp only [bz] at k0
 refine Am <| A7 <| xn c0 <| A0 ?_
 refine adi ((k + 1 : Nat) : Int) p0 fun c0 k0 => ?_
 refine mv k0 fun c0 p0 => ?_
 refine Ae ?_
 exact ⟨_, by omega, k + 1, (p0.sub (rc2 (rc rfl (rc rfl rnl)))), f0, by omega, Qaq hi (by have o0 := j0; (try simp at o0); have b0 := m0; (try simp at b0);  unfold okC; omega), rfl⟩
 refine xe ?_
 refine xn d0 <| wsc fun d0 p0 => lR h0 fun d0 b0 => ?_
 refine lAn 3 (decide ((s.size : Int) ≤ 16)) b0 fun d0 h0 => ?_
 refine aw h0 p0 fun d0 b0 => ?_
 refine rt b0 i0.fr ?_
 exact BQ (by (rw [TI hi (by omega)]; done))
end Go.Proofs.YtpfmnpaifchleaaGreatDoor
