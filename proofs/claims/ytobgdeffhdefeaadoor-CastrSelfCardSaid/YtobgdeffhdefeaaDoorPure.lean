/- Terms as lists of nodes, and as trees. -/
namespace Go.Proofs.YtobgdeffhdefeaaDoor
set_option linter.unusedSimpArgs false
set_option linter.unusedVariables false
/-- A node. -/
structure Nd where
  K : Int
  N : Int
  M : Int
  S : ByteArray
  deriving DecidableEq

def letter (c : UInt8) : Bool := (97 ≤ c && c ≤ 122) || (65 ≤ c && c ≤ 90) || c == 95
def digit (c : UInt8) : Bool := 48 ≤ c && c ≤ 57
def nameOk (s : ByteArray) : Bool :=
  match s.data.toList with
  | [] => false
  | c :: r => decide (s.size ≤ 16) && letter c && r.all fun c => letter c || digit c

/-- The shape of a kind: its binders, and which fields it has. -/
structure Shp where
  b : List Int
  n : Bool
  m : Bool
  s : Bool
  deriving DecidableEq

def shp : Nat → Shp
  | 0 => ⟨[], true, false, false⟩
  | 1 => ⟨[], false, false, true⟩
  | 2 => ⟨[], true, false, false⟩
  | 3 => ⟨[0, 1], true, false, false⟩
  | 4 => ⟨[0, 1], false, false, false⟩
  | 5 => ⟨[0, 0], false, false, false⟩
  | 6 => ⟨[0, 1], true, false, false⟩
  | 7 => ⟨[0, 0, 0], false, false, false⟩
  | 8 => ⟨[0], false, false, false⟩
  | 9 => ⟨[0], false, false, false⟩
  | 10 => ⟨[], false, false, false⟩
  | 11 => ⟨[], false, false, false⟩
  | 12 => ⟨[0], false, false, false⟩
  | 13 => ⟨[1, 0, 2, 0], false, false, false⟩
  | 14 => ⟨[], false, false, false⟩
  | 15 => ⟨[0, 0], false, false, false⟩
  | 16 => ⟨[], false, false, false⟩
  | 17 => ⟨[], false, false, false⟩
  | 18 => ⟨[0, 0, 0], false, false, false⟩
  | 19 => ⟨[0, 0], false, false, false⟩
  | 20 => ⟨[0, 0, 0, 0], false, false, false⟩
  | 21 => ⟨[0, 0, 1, 0, 0, 0], false, false, false⟩
  | 22 => ⟨[0, 2, 0, 0, 0], false, false, false⟩
  | 23 => ⟨[0, 0], false, false, false⟩
  | 24 => ⟨[0, 1, 0, 0], false, false, false⟩
  | 25 => ⟨[], false, false, true⟩
  | 26 => ⟨[], true, true, true⟩
  | 27 => ⟨[], false, true, true⟩
  | 28 => ⟨[0], false, false, false⟩
  | _ => ⟨[], false, false, false⟩

/-- The most that N may be. -/
def most (k : Int) : Int := if k = 0 then 99 else if k = 3 ∨ k = 6 then 3 else 5

/-- Are a node's fields right? -/
def right (n : Nd) : Bool :=
  decide (0 ≤ n.K) && decide (n.K < 30) &&
  (let x := shp n.K.toNat
   (if x.n then decide (0 ≤ n.N) && decide (n.N ≤ if n.K = 2 then 9 else most n.K) else n.N == 0) &&
   (if x.m then decide (0 ≤ n.M) && decide (n.M ≤ 6) else n.M == 0) &&
   (if x.s then nameOk n.S else n.S.size == 0))

/-- The binders of a node's parts. -/
def binds (n : Nd) : List Int :=
  if n.K = 26 then List.replicate n.M.toNat 0
  else if n.K = 27 then 1 :: List.replicate (n.M.toNat + 1) 0
  else (shp n.K.toNat).b

def many (n : Nd) : Nat := (binds n).length

inductive T where
  | mk (n : Nd) (l : List T)

def T.root : T → Nd
  | .mk n _ => n
def T.args : T → List T
  | .mk _ l => l

mutual
def T.flat : T → List Nd
  | .mk n l => T.flats l ++ [n]
def T.flats : List T → List Nd
  | [] => []
  | t :: l => t.flat ++ T.flats l
end

mutual
def T.wf : T → Bool
  | .mk n l => right n && many n == l.length && T.wfs l
def T.wfs : List T → Bool
  | [] => true
  | t :: l => t.wf && T.wfs l
end

mutual
def T.deep : T → Nat
  | .mk _ l => T.deeps l + 1
def T.deeps : List T → Nat
  | [] => 0
  | t :: l => max t.deep (T.deeps l)
end

theorem T.flat_mk (n : Nd) (l : List T) : (T.mk n l).flat = T.flats l ++ [n] := by simp [T.flat]
theorem T.flats_nil : T.flats [] = [] := by simp [T.flats]
theorem T.flats_cons (t : T) (l : List T) : T.flats (t :: l) = t.flat ++ T.flats l := by simp [T.flats]
theorem T.flats_append (a b : List T) : T.flats (a ++ b) = T.flats a ++ T.flats b := by
  induction a with
  | nil => simp [T.flats]
  | cons t a ih => simp [T.flats, ih]
theorem T.flats_one (t : T) : T.flats [t] = t.flat := by simp [T.flats]
theorem T.wfs_append (a b : List T) : T.wfs (a ++ b) = (T.wfs a && T.wfs b) := by
  induction a with
  | nil => simp [T.wfs]
  | cons t a ih => simp [T.wfs, ih, Bool.and_assoc]
theorem T.wf_mk (n : Nd) (l : List T) : (T.mk n l).wf = (right n && many n == l.length && T.wfs l) := by simp [T.wf]
theorem T.flat_ne (t : T) : t.flat ≠ [] := by cases t; simp [T.flat]
theorem T.flat_pos (t : T) : 0 < t.flat.length := by cases t; simp [T.flat]
theorem T.flat_last (t : T) (h) : t.flat.getLast h = t.root := by cases t; simp [T.flat, T.root]
theorem T.wfs_iff (l : List T) : T.wfs l = true ↔ ∀ t ∈ l, t.wf = true := by
  induction l with
  | nil => simp [T.wfs]
  | cons t l ih => simp [T.wfs, ih]

/-- One node more on a stack of trees. -/
def pushT (st : List T) (n : Nd) : Option (List T) :=
  if right n && decide (many n ≤ st.length) then
    some (st.take (st.length - many n) ++ [T.mk n (st.drop (st.length - many n))])
  else none

def scanT (st : List T) : List Nd → Option (List T)
  | [] => some st
  | n :: t => match pushT st n with
    | some st' => scanT st' t
    | none => none

theorem scanT_append (st : List T) (a b : List Nd) : scanT st (a ++ b) = (scanT st a).bind fun s => scanT s b := by
  induction a generalizing st with
  | nil => simp [scanT]
  | cons n a ih =>
    simp only [List.cons_append, scanT]
    cases pushT st n with
    | none => simp
    | some s => simp [ih]

theorem pushT_flat {st st' : List T} {n : Nd} (h : pushT st n = some st') (hw : T.wfs st = true) : T.flats st' = T.flats st ++ [n] ∧ T.wfs st' = true := by
  unfold pushT at h
  split at h
  · rename_i hc
    simp only [Bool.and_eq_true, decide_eq_true_eq] at hc
    obtain rfl := Option.some.inj h
    have hsplit : st = st.take (st.length - many n) ++ st.drop (st.length - many n) := (List.take_append_drop _ _).symm
    have hw' := hw
    rw [hsplit, T.wfs_append] at hw'
    simp only [Bool.and_eq_true] at hw'
    constructor
    · rw [T.flats_append, T.flats_one, T.flat_mk, ← List.append_assoc, ← T.flats_append, List.take_append_drop]
    · rw [T.wfs_append]
      simp only [T.wfs, T.wf_mk, Bool.and_true, Bool.and_eq_true, beq_iff_eq]
      exact ⟨hw'.1, ⟨hc.1, by rw [List.length_drop]; omega⟩, hw'.2⟩
  · cases h

theorem scanT_flat {st st' : List T} {t : List Nd} (h : scanT st t = some st') (hw : T.wfs st = true) : T.flats st' = T.flats st ++ t ∧ T.wfs st' = true := by
  induction t generalizing st with
  | nil => simp only [scanT] at h; obtain rfl := Option.some.inj h; simp [hw]
  | cons n t ih =>
    simp only [scanT] at h
    cases hp : pushT st n with
    | none => simp [hp] at h
    | some s =>
      simp only [hp] at h
      obtain ⟨h1, h2⟩ := pushT_flat hp hw
      obtain ⟨h3, h4⟩ := ih h h2
      exact ⟨by rw [h3, h1]; simp, h4⟩

theorem pushT_mk (st l : List T) (n : Nd) (h : (T.mk n l).wf = true) : pushT (st ++ l) n = some (st ++ [T.mk n l]) := by
  rw [T.wf_mk] at h
  simp only [Bool.and_eq_true, beq_iff_eq] at h
  unfold pushT
  have hl : (st ++ l).length - many n = st.length := by rw [List.length_append]; omega
  rw [if_pos (by simp only [Bool.and_eq_true, decide_eq_true_eq]; exact ⟨h.1.1, by rw [List.length_append]; omega⟩), hl]
  simp

mutual
theorem scanT_tree (st : List T) : ∀ t : T, t.wf = true → scanT st t.flat = some (st ++ [t])
  | .mk n l, h => by
    have h' := h
    rw [T.wf_mk] at h'
    simp only [Bool.and_eq_true] at h'
    rw [T.flat_mk, scanT_append, scanT_trees st l h'.2]
    simp only [Option.bind_some, scanT, pushT_mk st l n h]
theorem scanT_trees (st : List T) : ∀ l : List T, T.wfs l = true → scanT st (T.flats l) = some (st ++ l)
  | [], _ => by simp [T.flats, scanT]
  | t :: l, h => by
    simp only [T.wfs, Bool.and_eq_true] at h
    rw [T.flats_cons, scanT_append, scanT_tree st t h.1]
    simp only [Option.bind_some]
    rw [scanT_trees (st ++ [t]) l h.2]
    simp
end

/-- Two forests of one list of nodes are one. -/
theorem flats_inj {a b : List T} (ha : T.wfs a = true) (hb : T.wfs b = true) (h : T.flats a = T.flats b) : a = b := by
  have h1 := scanT_trees [] a ha
  rw [h, scanT_trees [] b hb] at h1
  simpa using h1.symm
theorem flat_inj {a b : T} (ha : a.wf = true) (hb : b.wf = true) (h : a.flat = b.flat) : a = b := by
  have := flats_inj (a := [a]) (b := [b]) (by simpa [T.wfs] using ha) (by simpa [T.wfs] using hb) (by simpa [T.flats] using h)
  simpa using this

/-- The errors by their numbers. -/
abbrev OKe : Int := 0

/-- What is said of a list of nodes: its error. -/
def chk (t : List Nd) : Int :=
  if t.length > 4000 then 21 else
  match scanT [] t with
  | some [x] => if x.deep > 60 then 22 else 0
  | _ => 20

theorem chk_tree {x : T} (h : x.wf = true) : chk x.flat = if x.flat.length > 4000 then 21 else if x.deep > 60 then 22 else 0 := by
  unfold chk
  rw [scanT_tree [] x h]
  rfl

/-- A list of nodes that is a term. -/
theorem chk_ok {t : List Nd} : chk t = 0 ↔ ∃ x : T, x.wf = true ∧ x.flat = t ∧ t.length ≤ 4000 ∧ x.deep ≤ 60 := by
  constructor
  · intro h
    unfold chk at h
    split at h
    · cases h
    · rename_i hl
      split at h
      · rename_i x hs
        split at h
        · cases h
        · rename_i hd
          have := scanT_flat hs (by simp [T.wfs])
          simp [T.flats, T.wfs] at this
          exact ⟨x, this.2, this.1, by omega, by omega⟩
      · cases h
  · rintro ⟨x, hw, rfl, hl, hd⟩
    rw [chk_tree hw]
    rw [if_neg (by omega), if_neg (by omega)]

theorem flats_len_ge (l : List T) : l.length ≤ (T.flats l).length := by
  induction l with
  | nil => simp
  | cons t l ih => rw [T.flats_cons, List.length_append, List.length_cons]; have := T.flat_pos t; omega
theorem scanT_len {st : List T} {t : List Nd} (h : scanT [] t = some st) : st.length ≤ t.length := by
  have := (scanT_flat h (by simp [T.wfs])).1
  simp [T.flats_nil] at this
  rw [← this]
  exact flats_len_ge st

theorem right_K {n : Nd} (h : right n = true) : 0 ≤ n.K ∧ n.K < 30 := by
  unfold right at h
  simp only [Bool.and_eq_true, decide_eq_true_eq] at h
  exact h.1
theorem right_con {n : Nd} (h : right n = true) (hk : n.K = 26) : 0 ≤ n.N ∧ n.N ≤ 5 ∧ 0 ≤ n.M ∧ n.M ≤ 6 := by
  unfold right at h
  rw [hk] at h
  simp [shp, most] at h
  omega
theorem right_elim {n : Nd} (h : right n = true) (hk : n.K = 27) : 0 ≤ n.M ∧ n.M ≤ 6 := by
  unfold right at h
  rw [hk] at h
  simp [shp] at h
  omega
theorem many_con {n : Nd} (h : right n = true) (hk : n.K = 26) : n.M = ((many n : Nat) : Int) := by
  have := right_con h hk
  simp [many, binds, hk]
  omega
theorem many_elim {n : Nd} (h : right n = true) (hk : n.K = 27) : n.M + 2 = ((many n : Nat) : Int) := by
  have := right_elim h hk
  simp [many, binds, hk]
  omega
theorem many_oth {n : Nd} (h1 : ¬ n.K = 26) (h2 : ¬ n.K = 27) : (((shp n.K.toNat).b.length : Nat) : Int) = ((many n : Nat) : Int) := by
  simp [many, binds, h1, h2]
theorem shp_le (k : Nat) : (shp k).b.length ≤ 6 := by
  unfold shp
  split <;> simp
theorem many_le {n : Nd} (h : right n = true) : many n ≤ 8 := by
  by_cases h1 : n.K = 26
  · have := many_con h h1; have := right_con h h1; omega
  · by_cases h2 : n.K = 27
    · have := many_elim h h2; have := right_elim h h2; omega
    · have := many_oth h1 h2; have := shp_le n.K.toNat; omega
end Go.Proofs.YtobgdeffhdefeaaDoor
