import Derived.Test.YtobgdeffhdefeaaDoorFwe
import Derived.Test.YtobgdeffhdefeaaDoorPure
/- Kinds of data; how a call begins and ends. -/
namespace Go.Proofs.YtobgdeffhdefeaaDoor
set_option linter.unusedSimpArgs false
set_option linter.unusedVariables false
open Go.RowKit

/-! ### Data -/
/-- A slice of cells. -/
def dRow (size : Nat) (A : Option Addr) (n cap : Nat) (xs : List Value) : Dat :=
  ⟨fun w I => n ≤ cap ∧ RowI w I size A n xs, fun _ _ _ _ h hk => ⟨h.1, h.2.mono hk⟩⟩

def ndz : Nd := ⟨0, 0, 0, .empty⟩
def nth (t : List Nd) (k : Nat) : Nd := t.getD k ndz
def encN (n : Nd) : List Value := [.int .i64 n.K, .int .i64 n.N, .int .i64 n.M, .string n.S]
def encNs (l : List Nd) : List Value := l.flatMap encN
def encI (n : Int) : List Value := [.int .i64 n]
def encIs (l : List Int) : List Value := l.flatMap encI
def nthI (t : List Int) (k : Nat) : Int := t.getD k 0
def encM (p : Int × Int) : List Value := [.int .i64 p.1, .int .i64 p.2]
def encMs (l : List (Int × Int)) : List Value := l.flatMap encM
def nthM (t : List (Int × Int)) (k : Nat) : Int × Int := t.getD k (0, 0)

section
variable {α : Type} {f : α → List Value} {size : Nat}
theorem enc_length (hf : ∀ x, (f x).length = size) (l : List α) : (l.flatMap f).length = l.length * size := by
  induction l with
  | nil => simp
  | cons x l ih => rw [List.flatMap_cons, List.length_append, ih, hf, List.length_cons, Nat.add_mul]; omega
theorem enc_drop (hf : ∀ x, (f x).length = size) (l : List α) (k : Nat) : (l.flatMap f).drop (k * size) = (l.drop k).flatMap f := by
  induction l generalizing k with
  | nil => simp
  | cons x l ih =>
    cases k with
    | zero => simp
    | succ k =>
      rw [List.flatMap_cons, List.drop_succ_cons, Nat.add_mul, Nat.one_mul, Nat.add_comm, ← List.drop_drop, List.drop_left' (hf x), ih]
theorem enc_take (hf : ∀ x, (f x).length = size) (l : List α) (k : Nat) : (l.flatMap f).take (k * size) = (l.take k).flatMap f := by
  induction l generalizing k with
  | nil => simp
  | cons x l ih =>
    cases k with
    | zero => simp
    | succ k =>
      rw [List.flatMap_cons, List.take_succ_cons, List.flatMap_cons, Nat.add_mul, Nat.one_mul, Nat.add_comm, List.take_add, List.take_left' (hf x), List.drop_left' (hf x), ih]
theorem enc_at (hf : ∀ x, (f x).length = size) (l : List α) (k : Nat) (hk : k < l.length) (z : α) : ((l.flatMap f).drop (k * size)).take size = f (l.getD k z) := by
  rw [enc_drop hf, List.drop_eq_getElem_cons hk, List.flatMap_cons, List.take_left' (hf _)]
  simp [hk]
end
theorem encN_len (n : Nd) : (encN n).length = 4 := rfl
theorem encI_len (n : Int) : (encI n).length = 1 := rfl
theorem encM_len (n : Int × Int) : (encM n).length = 2 := rfl
theorem encNs_length (l : List Nd) : (encNs l).length = l.length * 4 := enc_length encN_len l
theorem encIs_length (l : List Int) : (encIs l).length = l.length * 1 := enc_length encI_len l
theorem encMs_length (l : List (Int × Int)) : (encMs l).length = l.length * 2 := enc_length encM_len l
theorem encNs_append (a b : List Nd) : encNs (a ++ b) = encNs a ++ encNs b := by simp [encNs]
theorem encIs_append (a b : List Int) : encIs (a ++ b) = encIs a ++ encIs b := by simp [encIs]
theorem encMs_append (a b : List (Int × Int)) : encMs (a ++ b) = encMs a ++ encMs b := by simp [encMs]
theorem encNs_drop (l : List Nd) (k : Nat) : (encNs l).drop (k * 4) = encNs (l.drop k) := enc_drop encN_len l k
theorem encNs_take (l : List Nd) (k : Nat) : (encNs l).take (k * 4) = encNs (l.take k) := enc_take encN_len l k
theorem encIs_drop (l : List Int) (k : Nat) : (encIs l).drop (k * 1) = encIs (l.drop k) := enc_drop encI_len l k
theorem encIs_take (l : List Int) (k : Nat) : (encIs l).take (k * 1) = encIs (l.take k) := enc_take encI_len l k
theorem encMs_drop (l : List (Int × Int)) (k : Nat) : (encMs l).drop (k * 2) = encMs (l.drop k) := enc_drop encM_len l k
theorem encMs_take (l : List (Int × Int)) (k : Nat) : (encMs l).take (k * 2) = encMs (l.take k) := enc_take encM_len l k
theorem encN_one (l : List Nd) : ∀ u ∈ encNs l, u.oneCell' = true := by
  intro u hu
  obtain ⟨n, _, hn⟩ := List.mem_flatMap.1 hu
  simp [encN] at hn
  rcases hn with rfl | rfl | rfl | rfl <;> rfl
theorem encI_one (l : List Int) : ∀ u ∈ encIs l, u.oneCell' = true := by
  intro u hu
  obtain ⟨n, _, hn⟩ := List.mem_flatMap.1 hu
  simp [encI] at hn
  subst hn
  rfl
theorem encM_one (l : List (Int × Int)) : ∀ u ∈ encMs l, u.oneCell' = true := by
  intro u hu
  obtain ⟨n, _, hn⟩ := List.mem_flatMap.1 hu
  simp [encM] at hn
  rcases hn with rfl | rfl <;> rfl

section
variable {w : World} {I : Nat → Prop} {A : Option Addr} {k n cap e : Nat}
theorem nds_elem {t : List Nd} (h : RowI w I 4 A t.length (encNs t)) (hk : k < t.length) : ElemAt w A (k * 4) (encN (nth t k)) := by
  have := h.elem hk
  rwa [show (encNs t) = t.flatMap encN from rfl, enc_at encN_len t k hk ndz] at this
theorem ints_elem {t : List Int} (h : RowI w I 1 A t.length (encIs t)) (hk : k < t.length) : ElemAt w A (k * 1) (encI (nthI t k)) := by
  have := h.elem hk
  rwa [show (encIs t) = t.flatMap encI from rfl, enc_at encI_len t k hk 0] at this
theorem ms_elem {t : List (Int × Int)} (h : RowI w I 2 A t.length (encMs t)) (hk : k < t.length) : ElemAt w A (k * 2) (encM (nthM t k)) := by
  have := h.elem hk
  rwa [show (encMs t) = t.flatMap encM from rfl, enc_at encM_len t k hk (0, 0)] at this
theorem own_nds {t : List Nd} (h : (Res.row A t.length cap e 4 (encNs t)).holds w) (hk : k < t.length) : ElemAt w A (k * 4) (encN (nth t k)) := by
  have := own_elem h hk
  rwa [show (encNs t) = t.flatMap encN from rfl, enc_at encN_len t k hk ndz] at this
theorem own_ints {t : List Int} (h : (Res.row A t.length cap e 1 (encIs t)).holds w) (hk : k < t.length) : ElemAt w A (k * 1) (encI (nthI t k)) := by
  have := own_elem h hk
  rwa [show (encIs t) = t.flatMap encI from rfl, enc_at encI_len t k hk 0] at this
theorem own_ms {t : List (Int × Int)} (h : (Res.row A t.length cap e 2 (encMs t)).holds w) (hk : k < t.length) : ElemAt w A (k * 2) (encM (nthM t k)) := by
  have := own_elem h hk
  rwa [show (encMs t) = t.flatMap encM from rfl, enc_at encM_len t k hk (0, 0)] at this
theorem ElemAt.some_ {j : Nat} {vs : List Value} (h : ElemAt w A j vs) : A.isSome = true := by
  obtain ⟨ad, rfl, _⟩ := h
  rfl
theorem RowI.news {size : Nat} {xs : List Value} (h : RowI w I size A n xs) : 0 < n → ∃ ad, A = some ad ∧ CellsAt w ad xs := fun hn => by
  obtain ⟨ad, h1, _, h2⟩ := h.2 hn
  exact ⟨ad, h1, h2⟩
end

/-! ### A call -/
def FOK (P : Program) (f : FuncId) : Prop := ∀ args w, (callFunc f args).run P w = .ok (.enter f args) w
theorem fok {P : Program} {f : FuncId} {fn : Func} (hf : P.funcs[f]? = some fn) (hb : fn.body.isNone = false) (hn : (fn.name == "runtime.NumGoroutine") = false) : FOK P f := fun args w => by
  have hn' : fn.name ≠ "runtime.NumGoroutine" := by simpa using hn
  have hb' : fn.body ≠ none := by intro e; rw [e] at hb; cases hb
  simp [callFunc, hf, hn', hb']

def idx : Nat → List Value → List (Nat × Value)
  | _, [] => []
  | k, v :: vs => (k, v) :: idx (k + 1) vs
theorem idx_get : ∀ (vs : List Value) (k i : Nat) (v : Value), (idx k vs).lookup i = some v → k ≤ i ∧ vs[i - k]? = some v
  | [], _, _, _, h => by simp [idx] at h
  | u :: vs, k, i, v, h => by
    simp only [idx, List.lookup] at h
    by_cases hik : i = k
    · subst hik
      simp only [BEq.rfl] at h
      exact ⟨Nat.le_refl _, by simpa using h⟩
    · have : (i == k) = false := by simpa using hik
      simp only [this] at h
      obtain ⟨h1, h2⟩ := idx_get vs (k + 1) i v h
      refine ⟨by omega, ?_⟩
      rw [show i - k = (i - (k + 1)) + 1 by omega]
      simpa using h2
theorem c_enter {P : Program} {f : FuncId} {fn : Func} {c : Code} {vs : List Value} {w : World} {R : Ending → World → Prop} {N : Nat} (hf : P.funcs[f]? = some fn) (hb : fn.body = some c) (hN : fn.ntmps = N) (hsz : (decide (vs.length ≤ N)) = true)
    (h : ∀ a, Reg a N (idx 0 vs) → c.wp P (bodyPost P fn R) a w) : Calls P f vs.toArray w R := by
  subst hN
  have hsz' : vs.length ≤ fn.ntmps := by simpa using hsz
  refine calls_of_wp hf hb (h _ (Reg.start vs.toArray fn.ntmps (by simpa using hsz') _ fun i v hv => ?_))
  obtain ⟨_, h2⟩ := idx_get vs 0 i v hv
  have h3 : vs[i]? = some v := by simpa using h2
  obtain ⟨hlt, h4⟩ := List.getElem?_eq_some_iff.1 h3
  simp [Array.getElem?_append, hlt, h4]

section
variable {P : Program} {X : Prop} {Next : Act → World → Prop} {o : Oper} {a : Act} {w : World} {N : Nat} {l : List (Nat × Value)} {d : Nat}
theorem k_call {f : FuncId} {xs : List Operand} {ts : Array TypeId} {vs : List Value} {R : Ending → World → Prop} (hs : Ste P X Next o a w) (hR : Reg a N l) (hd : o.dst = some d)
    (ho : o.op = .call { callee := .value (.func f), args := xs.toArray, argTypes := ts }) (hx : evs l xs = some vs) (hdN : d < N) (hf : FOK P f) (hc : Calls P f vs.toArray w R)
    (k : ∀ e w', R e w' → ∃ v, e = .returned v ∧ ∀ a', Reg a' N ((d, v) :: l) → Next a' w') : X := by
  refine hs.enter f vs.toArray w ?_ (hc.mono fun e w' he => ?_)
  · have hm : xs.toArray.map a.eval = vs.toArray := by rw [← hR.evs hx]; simp
    unfold execOp
    rw [ho]
    simp only [resolve, hm, Act.eval, Deferred.ofValue, Sem.run_bind, Sem.run_pure, Result.andThen_ok, invoke, Array.append_empty, Array.empty_append]
    exact hf _ _
  · obtain ⟨v, rfl, hk⟩ := k e w' he
    exact ⟨v, rfl, by rw [hd]; exact hk _ (hR.put hdN v)⟩
theorem k_callV {g : Operand} {f : FuncId} {cs : Array Value} {xs : List Operand} {ts : Array TypeId} {vs : List Value} {R : Ending → World → Prop} (hs : Ste P X Next o a w) (hR : Reg a N l) (hd : o.dst = some d)
    (ho : o.op = .call { callee := .value g, args := xs.toArray, argTypes := ts }) (hg : ev l g = some (.func (.func f) #[] cs)) (hx : evs l xs = some vs) (hdN : d < N) (hf : FOK P f) (hc : Calls P f (vs.toArray ++ cs) w R)
    (k : ∀ e w', R e w' → ∃ v, e = .returned v ∧ ∀ a', Reg a' N ((d, v) :: l) → Next a' w') : X := by
  refine hs.enter f (vs.toArray ++ cs) w ?_ (hc.mono fun e w' he => ?_)
  · have hm : xs.toArray.map a.eval = vs.toArray := by rw [← hR.evs hx]; simp
    unfold execOp
    rw [ho]
    simp only [resolve, hm, hR.ev hg, Deferred.ofValue, Sem.run_bind, Sem.run_pure, Result.andThen_ok, invoke, Array.empty_append]
    exact hf _ _
  · obtain ⟨v, rfl, hk⟩ := k e w' he
    exact ⟨v, rfl, by rw [hd]; exact hk _ (hR.put hdN v)⟩

/-! guards -/
theorem want_t {ops : Array Oper} {j : Nat} {b : Bool} {oj : Oper} {dj : Nat} (hR : Reg a N l) (hg : o.guard = some (j, b)) (hj : ops[j]? = some oj) (hdj : oj.dst = some dj) (hdN : dj < N) (hv : l.lookup dj = some (.bool b)) : Region.wanted o (yielded ops a.tmps) = true := by
  have h1 := hR.get dj _ hv
  have hlt : dj < a.tmps.size := by rw [hR.size]; exact hdN
  have h2 : a.tmps[dj]? = some (.bool b) := by
    rw [Array.getD, dif_pos hlt] at h1
    rw [Array.getElem?_eq_getElem hlt, ← h1]
    rfl
  simp [Region.wanted, hg, yielded, hj, hdj, h2]
theorem want_f {ops : Array Oper} {j : Nat} {b b' : Bool} {oj : Oper} {dj : Nat} (hR : Reg a N l) (hg : o.guard = some (j, b)) (hj : ops[j]? = some oj) (hdj : oj.dst = some dj) (hdN : dj < N) (hv : l.lookup dj = some (.bool b')) (hb : (b' == b) = false) : Region.wanted o (yielded ops a.tmps) = false := by
  have h1 := hR.get dj _ hv
  have hlt : dj < a.tmps.size := by rw [hR.size]; exact hdN
  have h2 : a.tmps[dj]? = some (.bool b') := by
    rw [Array.getD, dif_pos hlt] at h1
    rw [Array.getElem?_eq_getElem hlt, ← h1]
    rfl
  simpa [Region.wanted, hg, yielded, hj, hdj, h2] using hb
theorem want_u {ops : Array Oper} {j : Nat} {b : Bool} {oj : Oper} {dj : Nat} (hR : Reg a N l) (hg : o.guard = some (j, b)) (hj : ops[j]? = some oj) (hdj : oj.dst = some dj) (hdN : dj < N) (hv : l.lookup dj = some undef) : Region.wanted o (yielded ops a.tmps) = false := by
  have h1 := hR.get dj _ hv
  have hlt : dj < a.tmps.size := by rw [hR.size]; exact hdN
  have h2 : a.tmps[dj]? = some undef := by
    rw [Array.getD, dif_pos hlt] at h1
    rw [Array.getElem?_eq_getElem hlt, ← h1]
    rfl
  simp [Region.wanted, hg, yielded, hj, hdj, h2, undef]
theorem s_pass {ops : Array Oper} {Q : Exit → Act → World → Prop} {rest : List Oper} (hR : Reg a N l) (hd : o.dst = some d) (hdN : d < N) (hw : Region.wanted o (yielded ops a.tmps) = false) (k : ∀ a', Reg a' N ((d, undef) :: l) → wpList P ops Q rest a' w) :
    wpList P ops Q (o :: rest) a w := st_pass hw (by rw [hd]; exact k _ (hR.put hdN _))
theorem Reg.setb (h : Reg a N l) {B b : Bool} (hv : l.lookup d = some (.bool B)) (hb : B = b) : Reg a N ((d, .bool b) :: l) := h.cons h (by rw [hv, hb])
end

/-! exits -/
section
variable {P : Program} {Q : Exit → Act → World → Prop} {K : Act → World → Prop} {a : Act} {w : World} {id id' : Nat}
theorem x_then_n (h : K a w) : Exit.then K Q .normal a w := h
theorem x_then_e (h : Q (.exit id) a w) : Exit.then K Q (.exit id) a w := h
theorem x_then_r (h : Q .ret a w) : Exit.then K Q .ret a w := h
theorem x_block_n (h : Q .normal a w) : Exit.inBlock id Q .normal a w := h
theorem x_block_r (h : Q .ret a w) : Exit.inBlock id Q .ret a w := h
theorem x_block_eq (h : Q .normal a w) : Exit.inBlock id Q (.exit id) a w := by
  unfold Exit.inBlock
  simpa using h
theorem x_block_e (hne : (id' == id) = false) (h : Q (.exit id') a w) : Exit.inBlock id Q (.exit id') a w := by
  have hne' : id' ≠ id := by simpa using hne
  unfold Exit.inBlock
  simpa [hne', Ne.symm hne'] using h
variable {fn : Func} {R : Ending → World → Prop} {N : Nat} {l : List (Nat × Value)}
theorem e_ret1 {t : Nat} {v : Value} (hR : Reg a N l) (hr : fn.results = #[.tmp t]) (hv : l.lookup t = some v) (h : R (.returned v) w) : bodyPost P fn R .ret a w :=
  ⟨hR.dfr, v, by rw [results_tmp hr, hR.get t v hv], h⟩
theorem e_ret2 {t u : Nat} {v v' : Value} (hR : Reg a N l) (hr : fn.results = #[.tmp t, .tmp u]) (hv : l.lookup t = some v) (hv' : l.lookup u = some v') (h : R (.returned (.tuple #[v, v'])) w) : bodyPost P fn R .ret a w :=
  ⟨hR.dfr, _, by rw [results_tmp2 hr, hR.get t v hv, hR.get u v' hv'], h⟩
theorem e_ret0 (hR : Reg a N l) (hr : fn.results = #[]) (h : R (.returned (.tuple #[])) w) : bodyPost P fn R .ret a w :=
  ⟨hR.dfr, _, results_none hr _ _ _, h⟩
theorem e_end0 (hR : Reg a N l) (hr : fn.results = #[]) (h : R (.returned (.tuple #[])) w) : bodyPost P fn R .normal a w :=
  ⟨hR.dfr, _, results_none hr _ _ _, h⟩
end
section
variable {w0 w : World} {Z M : Nat → Prop} {m : List Res} {ds : List Dat}
theorem St.erase (h : St w0 Z M w m ds) (i : Nat) : St w0 Z M w (m.eraseIdx i) ds := h.drop _ (List.eraseIdx_sublist m i)
theorem St.forget (h : St w0 Z M w m ds) (i : Nat) : St w0 Z M w m (ds.eraseIdx i) := h.datas _ fun d hd => h.dat d ((List.eraseIdx_sublist ds i).subset hd)
theorem imm_nxt {k : Nat} (h : imm Z w0 m w k) : nxt Z w0 w k := ⟨h.1, h.2.1⟩
/-- What a call hands back is nobody's. -/
theorem nxt_imm {w' : World} (h : St w0 Z M w m ds) {k : Nat} (hk : nxt (imm Z w0 m w) w w' k) : imm Z w0 m w' k := by
  refine ⟨hk.1, fun hlt => ?_, fun r hr e => ?_⟩
  · exact (hk.2 (Nat.lt_of_lt_of_le hlt h.size)).2.1 hlt
  · exact (hk.2 (h.own r hr k e).1).2.2 r hr e
end

/-! ### Regions that draw their order -/
/-- Where the blocks of J are as they were. -/
def dAg (w1 : World) (J : Nat → Prop) : Dat := ⟨fun w I => ∀ k, J k → I k ∧ w.heap[k]? = w1.heap[k]?, fun _ _ _ _ h hk k hJ => ⟨(hk k (h k hJ).1).1, (hk k (h k hJ).1).2.trans (h k hJ).2⟩⟩
theorem St.agree {w0 w : World} {Z M : Nat → Prop} {m : List Res} {ds : List Dat} (h : St w0 Z M w m ds) : ∃ J : Nat → Prop, (∀ (i : Nat) (d : Dat), ds[i]? = some d → d.φ w J) ∧ St w0 Z M w m (ds ++ [dAg w J]) :=
  ⟨imm Z w0 m w, fun _ _ hi => h.get hi, h.data _ fun _ hk => ⟨hk, rfl⟩⟩
theorem sdat {d : Dat} {w x : World} {J : Nat → Prop} (h : d.φ w J) (hx : ∀ k, J k → x.heap[k]? = w.heap[k]?) : d.φ x J := d.mono _ _ _ _ h fun k hk => ⟨hk, hx k hk⟩
theorem box_cell {w : World} {g j : Nat} {e : TypeId} {cs : List Value} {v : Value} (h : (Res.box g e cs).holds w) (hv : cs[j]? = some v) : w.cell? ⟨g, j, none⟩ = some v := by
  rw [cell_of_row w g j cs.toArray e (0, 0) h]
  simpa using hv
theorem CellsAt.nil (w : World) (p : Addr) : CellsAt w p [] := fun j u hu => by simp at hu
theorem CellsAt.cons_ {w : World} {g j : Nat} {v : Value} {vs : List Value} (h : w.cell? ⟨g, j, none⟩ = some v) (hs : CellsAt w ⟨g, j + 1, none⟩ vs) : CellsAt w ⟨g, j, none⟩ (v :: vs) := fun i u hu => by
  have hadd : ∀ (k : Nat) (i : Nat), (⟨g, k, none⟩ : Addr).add i = ⟨g, k + i, none⟩ := fun k i => by unfold Addr.add; split <;> simp_all
  rw [hadd]
  cases i with
  | zero =>
    have : v = u := by simpa using hu
    subst this
    exact h
  | succ i =>
    have := hs i u (by simpa using hu)
    rw [hadd] at this
    rw [show j + (i + 1) = j + 1 + i by omega]
    exact this
section
variable {P : Program} {X : Prop} {Next : Act → World → Prop} {o : Oper} {a : Act} {w : World} {N : Nat} {l : List (Nat × Value)} {d : Nat}
theorem m_loadC {t : TypeId} {x : Operand} {p : Addr} {v : Value} {dsc : TypeDesc} (hs : SteV P X Next o a w) (hR : Reg a N l) (hd : o.dst = some d) (ho : o.op = .load t x) (hx : ev l x = some (.pointer (some p)))
    (hc : w.cell? p = some v) (ht : P.underlying t = some dsc) (hag : isAggD dsc = false) (hdN : d < N) (k : ∀ a', Reg a' N ((d, v) :: l) → Next a' w) : X := by
  refine r_pure hs hR hd hdN ?_ k
  unfold execOp; rw [ho]
  simp only [hR.ev hx, Instr.loadAt, Instr.sureAddr, Sem.run_bind, Sem.run_pure, Result.andThen_ok, run_load1 ht hag hc]
theorem m_loadCN {t : TypeId} {x : Operand} {p : Addr} {vs : List Value} {dsc : TypeDesc} (hs : SteV P X Next o a w) (hR : Reg a N l) (hd : o.dst = some d) (ho : o.op = .load t x) (hx : ev l x = some (.pointer (some p)))
    (hc : CellsAt w p vs) (ht : P.underlying t = some dsc) (hag : isAggD dsc = true) (hsz : (P.info? t).map (·.size) = some vs.length) (hdN : d < N) (k : ∀ a', Reg a' N ((d, .agg vs.toArray) :: l) → Next a' w) : X := by
  refine r_pure hs hR hd hdN ?_ k
  unfold execOp; rw [ho]
  simp only [hR.ev hx, Instr.loadAt, Instr.sureAddr, Sem.run_bind, Sem.run_pure, Result.andThen_ok, run_loadN ht hag hsz hc]
end
section
variable {P : Program} {ops : Array Oper} {Q : Exit → Act → World → Prop} {S : World → Prop} {a : Act} {w w0 : World} {N : Nat} {l : List (Nat × Value)} {d : Nat} {Z M : Nat → Prop} {m : List Res} {ds : List Dat} {oi : Oper} {i fuel : Nat} {listed : Array Bool}
theorem d_region {id n : Nat} (hm : P.follows .mixedOrders = true) (hn : ops.size = n) (hS : St w0 Z M w m ds) (h : ∀ w', St w0 Z M w' m ds → wpAnyH P .any ops Q S n (Array.replicate n false) a w') : (Code.region id ops true).wp P Q a w :=
  wp_region_held hm (by rw [hn]; exact h _ hS.drew)
theorem d_take {v : Value} (hi : ops[i]? = some oi) (hs : Region.noSelect ops = true) (hf : Region.free .any ops listed i = true) (hr : (Region.ready .any ops listed).contains i = true)
    (hQ : ∀ c a w, Q (.panic c) (a.put oi.dst v) w → Q (.panic c) a w) (hd : oi.dst = some d) (hdN : d < N) (hR : Reg a N l) (hw : Region.wanted oi (yielded ops a.tmps) = true) (hy : ∀ x, S x → (execOp a.eval oi).run P x = .ok (.value v) x) (hS : S w)
    (h : ∀ a', Reg a' N ((d, v) :: l) → wpAnyH P .any ops Q S fuel (listed.setIfInBounds i true) a' w) : wpAnyH P .any ops Q S (fuel + 1) listed a w :=
  wpAnyH_take hi hs hf hr hQ (.inl ⟨hw, hy⟩) hS (by rw [hd]; exact h _ (hR.put hdN v))
theorem d_pass (hi : ops[i]? = some oi) (hs : Region.noSelect ops = true) (hf : Region.free .any ops listed i = true) (hr : (Region.ready .any ops listed).contains i = true)
    (hQ : ∀ c a w, Q (.panic c) (a.put oi.dst undef) w → Q (.panic c) a w) (hd : oi.dst = some d) (hdN : d < N) (hR : Reg a N l) (hw : Region.wanted oi (yielded ops a.tmps) = false) (hS : S w)
    (h : ∀ a', Reg a' N ((d, undef) :: l) → wpAnyH P .any ops Q S fuel (listed.setIfInBounds i true) a' w) : wpAnyH P .any ops Q S (fuel + 1) listed a w :=
  wpAnyH_take hi hs hf hr hQ (.inr ⟨hw, rfl⟩) hS (by rw [hd]; exact h _ (hR.put hdN _))
theorem d_one (hr : Region.ready .any ops listed = [i]) (h : wpOp P ops Q i (fun a' w' => S w' ∧ wpAnyH P .any ops Q S fuel (listed.setIfInBounds i true) a' w') a w) : wpAnyH P .any ops Q S (fuel + 1) listed a w :=
  wpAnyH_all hr (by simp) (fun j hj => by rw [List.mem_singleton] at hj; subst hj; exact h)
end
end Go.Proofs.YtobgdeffhdefeaaDoor
