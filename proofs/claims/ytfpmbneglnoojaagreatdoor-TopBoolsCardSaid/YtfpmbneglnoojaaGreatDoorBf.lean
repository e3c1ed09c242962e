/- Two goroutines: the scanner sends, the other one receives; pieces of a run. -/
import Derived.Conc.Script
import Derived.Conc.Pipeline3
import Derived.Conc.Fork
import Derived.Test.YtfpmbneglnoojaaGreatDoorBe
import Derived.KernelRfl
import Derived.Below
set_option linter.all false
/- A sender that sends by a select of two cases: its value to one channel, or a receive from another one that nobody sends to. -/
namespace Go.Conc
open Go
def selc (c : Nat) (x zx : Value) (q : Nat) (zq : Value) : Array CommCase := #[scase c x zx, rcase q zq]
/-- what the select hands over, its value having been taken -/
def selV (zq : Value) : Value := .tuple #[goInt 0, .bool false, zq]
section
variable {P : Program} {a a₂ b b₂ : Goroutine} {w w₁ : World} {sl : Option (Nat × Nat)} {es : Array Event} {c q s r s' r' : Nat} {z zx zq v : Value} {tm tm' : Bool}
theorem runT_sel_waits (h : stepG P false b w = .comm b₂ (selc c v zx q zq) true .select w₁ es) (hc : w₁.heap[c]? = some (.chan 0 #[] false s r tm)) (hq : w₁.heap[q]? = some (.chan 0 #[] false s' r' tm')) (ha : a.status ≠ .blocked) :
    runT P (duo a b w sl) 1 = (.next (duo a (parked b₂ (selc c v zx q zq) .select) w₁ sl), MemOp.ofEvents 1 b.frame.fn b.frame.place es) := by
  have hp : ∀ x y, partners #[a, { (default : Goroutine) with status := .finished }] x y = [] := by
    intro x y
    cases hs : a.status <;> simp_all [partners]
  simp [runT, duo, Array.swapAt!, Array.swapAt, h, GStep.es, communicate, ways, selc, scase, rcase, hc, hq, hp, waitingAt, timerAhead, parked]
theorem runT_sel_meets (h : stepG P false b w = .comm b₂ (selc c v zx q zq) true .select w₁ es) (hc : w₁.heap[c]? = some (.chan 0 #[] false s r tm)) (hq : w₁.heap[q]? = some (.chan 0 #[] false s' r' tm')) (hcq : c ≠ q) (ha : a = parked a₂ #[rcase c z] (.recv true)) :
    runT P (duo a b w sl) 1 = (.next (duo (served a₂ (.tuple #[v, .bool true])) (served b₂ (selV zq)) (w₁.passed c s r tm) sl),
      MemOp.ofEvents 1 b.frame.fn b.frame.place es ++ #[{ g := 1, fn := b₂.frame.fn, pos := b₂.frame.place, act := .send c s }, { g := 0, fn := a₂.frame.fn, pos := a₂.frame.place, act := .recv c r 0 },
        { g := 1, fn := b₂.frame.fn, pos := b₂.frame.place, act := .sendDone c s }, { g := 0, fn := a₂.frame.fn, pos := a₂.frame.place, act := .recvDone c r }]) := by
  subst ha
  have hcq' : (c == q) = false := by simpa using hcq
  simp [runT, duo, Array.swapAt!, Array.swapAt, h, GStep.es, communicate, ways, selc, scase, rcase, hc, hq, hcq, hcq', partners, choose, Sem.run, Question.forced, bind, Sem.bind, pure, finishPartner, Goroutine.finishComm, commResult, parked, served, World.passed, selV]
theorem runT_recv_meets_sel (h : stepG P true a w = .comm a₂ #[rcase c z] true (.recv true) w₁ es) (hc : w₁.heap[c]? = some (.chan 0 #[] false s r tm)) (hcq : c ≠ q) (hb : b = parked b₂ (selc c v zx q zq) .select) :
    runT P (duo a b w sl) 0 = (.next (duo (served a₂ (.tuple #[v, .bool true])) (served b₂ (selV zq)) (w₁.passed c s r tm) sl),
      MemOp.ofEvents 0 a.frame.fn a.frame.place es ++ #[{ g := 1, fn := b₂.frame.fn, pos := b₂.frame.place, act := .send c s }, { g := 0, fn := a₂.frame.fn, pos := a₂.frame.place, act := .recv c r 0 },
        { g := 1, fn := b₂.frame.fn, pos := b₂.frame.place, act := .sendDone c s }, { g := 0, fn := a₂.frame.fn, pos := a₂.frame.place, act := .recvDone c r }]) := by
  subst hb
  have hcq' : (q == c) = false := by simpa using Ne.symm hcq
  simp [runT, duo, Array.swapAt!, Array.swapAt, h, GStep.es, communicate, ways, selc, scase, rcase, hc, hcq, hcq', partners, choose, Sem.run, Question.forced, bind, Sem.bind, pure, finishPartner, offeredValue, Goroutine.finishComm, commResult, parked, served, World.passed, selV]
/-- Whoever waits at the two, both open, goes on waiting. -/
theorem again_parked_sel {g : Goroutine} (hc : w.heap[c]? = some (.chan 0 #[] false s r tm)) (hq : w.heap[q]? = some (.chan 0 #[] false s' r' tm')) : (parked g (selc c v zx q zq) .select).again w = parked g (selc c v zx q zq) .select := by
  simp [Goroutine.again, parked, selc, scase, rcase, hc, hq]
end
end Go.Conc
/- Two goroutines, each of which writes blocks of its own: no race; and behind the close whatever the first one does. -/
namespace Go.Conc
open Go
def blkOf : Loc → Option Nat
  | .cell a => some a.block
  | .obj r => some r
  | _ => none
/-- what goroutine g may touch: what was there ahead of the fork, to read; what is its own -/
def okT (lim sz : Nat) (own : Nat → Bool) (g : Nat) (x : Touch) : Prop := ∀ b, blkOf x.loc = some b → (b < lim ∧ x.write = false) ∨ (lim ≤ b ∧ b < sz ∧ own b = decide (g = 1))
/-- pr: where goroutine 0 has found the channel closed (or beyond the trace) -/
structure Two (lim sz : Nat) (own : Nat → Bool) (pr : Option Nat) (t : Trace) (p : Nat) : Prop where
  wordless : Wordless t
  go : ∃ op, t[p]? = some op ∧ op.g = 0 ∧ op.act = .go 1
  start : ∃ op, t[p + 1]? = some op ∧ op.g = 1 ∧ op.act = .start
  early : ∀ i op, t[i]? = some op → i < p → op.g = 0
  late : ∀ i op, t[i]? = some op → p + 1 < i → (op.g = 0 ∨ op.g = 1) ∧ ((op.g = 0 ∧ ∃ k, pr = some k ∧ k < i) ∨ ∀ x, op.act.touch? = some x → okT lim sz own op.g x)
theorem okT.grow {lim sz sz' : Nat} {own own' : Nat → Bool} {g : Nat} {x : Touch} (h : okT lim sz own g x) (hs : sz ≤ sz') (ho : ∀ b, b < sz → own' b = own b) : okT lim sz' own' g x := fun b hb => by
  rcases h b hb with h | ⟨h1, h2, h3⟩
  · exact .inl h
  · exact .inr ⟨h1, Nat.lt_of_lt_of_le h2 hs, by rw [ho b h2]; exact h3⟩
theorem Two.append {lim sz sz' : Nat} {own own' : Nat → Bool} {pr : Option Nat} {t u : Trace} {p : Nat} (h : Two lim sz own pr t p) (hs : sz ≤ sz') (ho : ∀ b, b < sz → own' b = own b) (hw : Wordless u)
    (hu : ∀ op ∈ u, (op.g = 0 ∨ op.g = 1) ∧ ((op.g = 0 ∧ ∃ k, pr = some k ∧ k < t.size) ∨ ∀ x, op.act.touch? = some x → okT lim sz' own' op.g x)) : Two lim sz' own' pr (t ++ u) p := by
  obtain ⟨g, hg, hg1, hg2⟩ := h.go
  obtain ⟨s, hs0, hs1, hs2⟩ := h.start
  have hp1 := lt_size_of_getElem? hs0
  refine ⟨h.wordless.append hw, ⟨g, by rw [getElem?_append_old (by omega)]; exact hg, hg1, hg2⟩, ⟨s, by rw [getElem?_append_old hp1]; exact hs0, hs1, hs2⟩, fun i op hi hlt => ?_, fun i op hi hlt => ?_⟩
  · rw [getElem?_append_old (by omega)] at hi; exact h.early i op hi hlt
  · rcases getElem?_append_cases hi with ⟨_, hi'⟩ | ⟨hge, hm⟩
    · obtain ⟨k1, k2⟩ := h.late i op hi' hlt
      exact ⟨k1, k2.imp id fun k2 x hx => (k2 x hx).grow hs ho⟩
    · obtain ⟨k1, k2⟩ := hu op hm
      exact ⟨k1, k2.imp (fun ⟨a, k, b, c⟩ => ⟨a, k, b, by omega⟩) id⟩
/-- operations that touch no memory -/
theorem Two.addComm {lim sz : Nat} {own : Nat → Bool} {pr : Option Nat} {t u : Trace} {p : Nat} (h : Two lim sz own pr t p) (hu : ∀ op ∈ u, (op.g = 0 ∨ op.g = 1) ∧ op.act.touch? = none ∧ ∀ m, op.act = .mark m → Neutral m) : Two lim sz own pr (t ++ u) p :=
  h.append (Nat.le_refl _) (fun _ _ => rfl) (fun op hop => (hu op hop).2.2) fun op hop => ⟨(hu op hop).1, .inr fun x hx => by rw [(hu op hop).2.1] at hx; cases hx⟩
/-- from here on goroutine 0 may touch what it likes -/
theorem Two.free {lim sz : Nat} {own : Nat → Bool} {pr : Option Nat} {t : Trace} {p : Nat} (h : Two lim sz own none t p) : Two lim sz own pr t p :=
  ⟨h.wordless, h.go, h.start, h.early, fun i op hi hlt => by
    obtain ⟨k1, k2⟩ := h.late i op hi hlt
    refine ⟨k1, .inr ?_⟩
    rcases k2 with ⟨_, _, h, _⟩ | k2
    · cases h
    · exact k2⟩
theorem blkOf_mem {l : Loc} (h : l.isMemory = true) : ∃ b, blkOf l = some b := by
  cases l <;> first | exact ⟨_, rfl⟩ | (simp [Loc.isMemory] at h)
/-- no race -/
theorem Two.noRace {lim sz : Nat} {own : Nat → Bool} {c pc pr : Nat} {t : Trace} {p : Nat} (h : Two lim sz own (some pr) t p) (hC : Closed c t pc) (hR : ∃ op, t[pr]? = some op ∧ op.g = 0 ∧ op.act = .recvClosed c) (hlt : pc < pr) (said : Bool) : ¬ Race said t := by
  rintro ⟨i, j, hij, ⟨x, y, hx, hy, hloc, hmem, hwr, _⟩, hn, _⟩
  obtain ⟨oi, hoi, hxi⟩ := touch_of hx
  obtain ⟨oj, hoj, hyj⟩ := touch_of hy
  obtain ⟨g, hg, hg1, hg2⟩ := h.go
  obtain ⟨s, hs, hs1, hs2⟩ := h.start
  have nip : i ≠ p := by rintro rfl; rw [hg] at hoi; cases hoi; simp [hg2, MemAct.touch?] at hxi
  have nip1 : i ≠ p + 1 := by rintro rfl; rw [hs] at hoi; cases hoi; simp [hs2, MemAct.touch?] at hxi
  have njp : j ≠ p := by rintro rfl; rw [hg] at hoj; cases hoj; simp [hg2, MemAct.touch?] at hyj
  have njp1 : j ≠ p + 1 := by rintro rfl; rw [hs] at hoj; cases hoj; simp [hs2, MemAct.touch?] at hyj
  obtain ⟨k, hk, hk1, hk2⟩ := hC.close
  obtain ⟨r, hr, hr1, hr2⟩ := hR
  -- both its own: no conflict
  have clash : ∀ {gi gj : Nat}, okT lim sz own gi x → okT lim sz own gj y → (gi = 1 ∧ gj ≠ 1 ∨ gi ≠ 1 ∧ gj = 1) → False := by
    intro gi gj h1 h2 hne
    obtain ⟨b, hb⟩ := blkOf_mem hmem
    have hb2 : blkOf y.loc = some b := by rw [← hloc]; exact hb
    rcases h1 b hb with ⟨a1, a2⟩ | ⟨a1, a2, a3⟩ <;> rcases h2 b hb2 with ⟨b1, b2⟩ | ⟨b1, b2, b3⟩
    · rcases hwr with hw | hw
      · rw [a2] at hw; cases hw
      · rw [b2] at hw; cases hw
    · omega
    · omega
    · rw [a3] at b3
      rcases hne with ⟨e1, e2⟩ | ⟨e1, e2⟩
      · rw [decide_eq_true e1, decide_eq_false e2] at b3; cases b3
      · rw [decide_eq_false e1, decide_eq_true e2] at b3; cases b3
  apply hn
  by_cases hi : i < p
  · have gi := h.early i oi hoi hi
    by_cases hj : j < p
    · exact hb_po hij hoi hoj (by rw [gi, h.early j oj hoj hj])
    · rcases (h.late j oj hoj (by omega)).1 with gj | gj
      · exact hb_po hij hoi hoj (by rw [gi, gj])
      · have e1 : HappensBefore t i p := hb_po hi hoi hg (by rw [gi, hg1])
        have e2 : HappensBefore t p (p + 1) := .single (.inr ⟨.spawn (child := 1) (by simp [Trace.act?, hg, hg2]) (by simp [Trace.act?, hs, hs2]) (by simp [Trace.g?, hs, hs1]), h.wordless.heard hg, h.wordless.heard hs⟩)
        have e3 : HappensBefore t (p + 1) j := hb_po (by omega) hs hoj (by rw [hs1, gj])
        exact (e1.trans e2).trans e3
  · obtain ⟨gi, li⟩ := h.late i oi hoi (by omega)
    obtain ⟨gj, lj⟩ := h.late j oj hoj (by omega)
    rcases gi with gi | gi <;> rcases gj with gj | gj
    · exact hb_po hij hoi hoj (by rw [gi, gj])
    · exfalso
      have hjc := (hC.last j oj hoj (by rw [gj]; simp)).2
      rcases li with ⟨_, k0, hk0, hpr⟩ | li
      · cases hk0
        omega
      · rcases lj with ⟨h0, _⟩ | lj
        · rw [gj] at h0; cases h0
        · exact clash (li x hxi) (lj y hyj) (.inr ⟨by rw [gi]; simp, gj⟩)
    · rcases lj with ⟨_, k0, hk0, hpr⟩ | lj
      · cases hk0
        have hic := (hC.last i oi hoi (by rw [gi]; simp)).2
        have hne : i ≠ pc := by rintro rfl; rw [hk] at hoi; cases hoi; simp [hk2, MemAct.touch?] at hxi
        have e1 : HappensBefore t i pc := hb_po (by omega) hoi hk (by rw [gi, hk1])
        have e2 : HappensBefore t pc pr := .single (.inr ⟨.closed (c := c) (by simp [Trace.act?, hk, hk2]) (by simp [Trace.act?, hr, hr2]), h.wordless.heard hk, h.wordless.heard hr⟩)
        have e3 : HappensBefore t pr j := hb_po hpr hr hoj (by rw [hr1, gj])
        exact (e1.trans e2).trans e3
      · exfalso
        rcases li with ⟨h0, _⟩ | li
        · rw [gi] at h0; cases h0
        · exact clash (li x hxi) (lj y hyj) (.inl ⟨gi, by rw [gj]; simp⟩)
    · exact hb_po hij hoi hoj (by rw [gi, gj])
end Go.Conc
/- Two goroutines, each with blocks of its own: whose each block is; a goroutine's way to a stop, in whatever the other one does. -/
namespace Go.Conc
open Go
/-- whose each block is (true: goroutine 1's), as far as they are counted -/
abbrev Own := (Nat → Bool) × Nat
/-- what happens between two steps of 'me' -/
structure Mv (low c : Nat) (me : Bool) (p q : Own) (w v : World) : Prop where
  a : p.2 ≤ w.heap.size
  sz : q.2 = v.heap.size
  grow : w.heap.size ≤ v.heap.size
  old : ∀ b, b < p.2 → q.1 b = p.1 b
  mine : ∀ b, p.2 ≤ b → b < w.heap.size → q.1 b = me
  new : ∀ b, w.heap.size ≤ b → b < v.heap.size → q.1 b = !me
  keep : ∀ b, b < w.heap.size → b ≠ c → ¬ (low ≤ b ∧ b < p.2 ∧ p.1 b = !me) → v.heap[b]? = w.heap[b]?
  tape : v.tape = w.tape
  os : v.os = w.os
  output : v.output = w.output
variable {low c : Nat} {me : Bool}
theorem Mv.trans {p q r : Own} {w v u : World} (h : Mv low c me p q w v) (k : Mv low c me q r v u) : Mv low c me p r w u := by
  have hsz := h.sz
  have hg := h.grow
  have hkg := k.grow
  have ha := h.a
  refine ⟨h.a, k.sz, Nat.le_trans h.grow k.grow, fun b hb => ?_, fun b hb1 hb2 => ?_, fun b hb1 hb2 => ?_, fun b hb hne hn => ?_, k.tape.trans h.tape, k.os.trans h.os, k.output.trans h.output⟩
  · rw [k.old b (by omega), h.old b hb]
  · rw [k.old b (by omega), h.mine b hb1 hb2]
  · by_cases hb : b < v.heap.size
    · rw [k.old b (by omega), h.new b hb1 hb]
    · exact k.new b (by omega) hb2
  · rw [k.keep b (by omega) hne ?_, h.keep b hb hne hn]
    rintro ⟨h1, h2, h3⟩
    by_cases hp : b < p.2
    · rw [h.old b hp] at h3
      exact hn ⟨h1, hp, h3⟩
    · rw [h.mine b (by omega) hb] at h3
      cases me <;> cases h3
/-- nothing but the count of what is one's own -/
theorem Mv.null {p q : Own} {w : World} (h1 : p.2 ≤ w.heap.size) (h2 : q.2 = w.heap.size) (h3 : ∀ b, b < p.2 → q.1 b = p.1 b) (h4 : ∀ b, p.2 ≤ b → b < w.heap.size → q.1 b = me) (d : Nat) : Mv low c me p q w (w.at d) :=
  ⟨h1, h2, Nat.le_refl _, h3, h4, fun b hb1 hb2 => absurd hb2 (Nat.not_lt.2 hb1), fun _ _ _ _ => rfl, rfl, rfl, rfl⟩
theorem Mv.at {own : Nat → Bool} {w : World} (d : Nat) : Mv low c me (own, w.heap.size) (own, w.heap.size) w (w.at d) :=
  .null (Nat.le_refl _) rfl (fun _ _ => rfl) (fun b h1 h2 => absurd h2 (Nat.not_lt.2 h1)) d
theorem Mv.put {own : Nat → Bool} {w : World} (o : Obj) : Mv low c me (own, w.heap.size) (own, w.heap.size) w { w with heap := w.heap.setIfInBounds c o } :=
  ⟨Nat.le_refl _, by simp, by simp, fun _ _ => rfl, fun b h1 h2 => absurd h2 (Nat.not_lt.2 h1), fun b h1 h2 => by simp at h2; omega, fun b _ hne _ => by simp [Ne.symm hne], rfl, rfl, rfl⟩
/-- an access of 'me' -/
def EvG (low : Nat) (me : Bool) (q : Own) (N : Nat) (e : Event) : Prop := (∀ m, e.loc = .mark m → Neutral m) ∧ ∀ b, blkOf e.loc = some b → b < N ∧ (b < low → e.write = false) ∧ ¬ (low ≤ b ∧ b < q.2 ∧ q.1 b = !me)
/-- a step of 'me' -/
structure Gd (low c : Nat) (K : Nat → Prop) (me : Bool) (q : Own) (v w : World) (es : Array Event) : Prop where
  grow : v.heap.size ≤ w.heap.size
  keep : ∀ b, b < v.heap.size → (b < low ∨ b = c ∨ K b ∨ (low ≤ b ∧ b < q.2 ∧ q.1 b = !me)) → w.heap[b]? = v.heap[b]?
  tape : w.tape = v.tape
  os : w.os = v.os
  output : w.output = v.output
  ev : ∀ e ∈ es, EvG low me q w.heap.size e
/-- the count behind a step of 'me' -/
def ownx (me : Bool) (q : Own) : Nat → Bool := fun b => if b < q.2 then q.1 b else me
theorem ownx_old {q : Own} {b : Nat} (h : b < q.2) : ownx me q b = q.1 b := if_pos h
theorem ownx_new {q : Own} {b : Nat} (h : q.2 ≤ b) : ownx me q b = me := if_neg (Nat.not_lt.2 h)
/-- one's own step: one's own count -/
theorem Mv.own {q : Own} {w : World} (h : q.2 ≤ w.heap.size) : Mv low c me q (ownx me q, w.heap.size) w w :=
  .null h rfl (fun b hb => ownx_old hb) (fun b hb _ => ownx_new hb) w.drawn
/-- the other one's step -/
theorem Gd.mv {K : Nat → Prop} {own : Nat → Bool} {v w : World} {es : Array Event} (h : Gd low c K me (own, v.heap.size) v w es) : Mv low c (!me) (own, v.heap.size) (ownx me (own, v.heap.size), w.heap.size) v w := by
  refine ⟨Nat.le_refl _, rfl, h.grow, fun b hb => ownx_old hb, fun b h1 h2 => absurd h2 (Nat.not_lt.2 h1), fun b h1 _ => ?_, fun b hb hne hn => h.keep b hb ?_, h.tape, h.os, h.output⟩
  · rw [Bool.not_not]
    exact ownx_new h1
  · simp only [Bool.not_not] at hn
    by_cases h1 : b < low
    · exact .inl h1
    · refine .inr (.inr (.inr ⟨by omega, hb, ?_⟩))
      have : ¬ own b = me := fun h2 => hn ⟨by omega, hb, h2⟩
      show own b = !me
      cases me <;> cases hq : own b <;> simp_all
theorem EvG.ok {q : Own} {N g : Nat} {e : Event} (h : EvG low me q N e) (hg : me = decide (g = 1)) {x : Touch} (hx : (MemAct.ofEvent e).touch? = some x) : okT low N (ownx me q) g x := by
  obtain ⟨h1, h2⟩ := ofEvent_touch h.1 hx
  intro b hb
  rw [h1] at hb
  obtain ⟨k1, k2, k3⟩ := h.2 b hb
  by_cases hl : b < low
  · exact .inl ⟨hl, by rw [h2]; exact k2 hl⟩
  · refine .inr ⟨by omega, k1, ?_⟩
    rw [← hg]
    by_cases hq : b < q.2
    · rw [ownx_old hq]
      have : ¬ q.1 b = !me := fun h => k3 ⟨by omega, hq, h⟩
      cases me <;> cases hh : q.1 b <;> simp_all
    · exact ownx_new (by omega)
/-- a goroutine's way to a stop -/
def Runs (P : Program) (low c : Nat) (main me : Bool) (K : Nat → Prop) (Stop : Own → Goroutine → World → Prop) : Nat → Own → Goroutine → World → Prop
  | 0, p, g, w => ∀ q v, Mv low c me p q w v → Stop q g v
  | n + 1, p, g, w => (∀ q v, Mv low c me p q w v → Stop q g v) ∨ (g.status = .running ∧ ∀ q v, Mv low c me p q w v → (stepG P main g v).goes fun g' w' es => Gd low c K me q v w' es ∧ Runs P low c main me K Stop n q g' w')
section
variable {P : Program} {main : Bool} {K : Nat → Prop} {Stop : Own → Goroutine → World → Prop}
theorem Runs.rely {n : Nat} {p q : Own} {g : Goroutine} {w v : World} (h : Runs P low c main me K Stop n p g w) (hm : Mv low c me p q w v) : Runs P low c main me K Stop n q g v := by
  cases n with
  | zero => exact fun r u hr => h r u (hm.trans hr)
  | succ n =>
    rcases h with h | ⟨hs, h⟩
    · exact .inl fun r u hr => h r u (hm.trans hr)
    · exact .inr ⟨hs, fun r u hr => h r u (hm.trans hr)⟩
theorem Runs.more {n : Nat} {p : Own} {g : Goroutine} {w : World} (h : Runs P low c main me K Stop n p g w) : Runs P low c main me K Stop (n + 1) p g w := by
  induction n generalizing p g w with
  | zero => exact .inl h
  | succ n ih =>
    rcases h with h | ⟨hs, h⟩
    · exact .inl h
    · refine .inr ⟨hs, fun q v hq => ?_⟩
      have := h q v hq
      revert this
      cases stepG P main g v <;> simp only [GStep.goes, imp_self]
      exact fun ⟨d, x⟩ => ⟨d, ih x⟩
theorem Runs.cases {n : Nat} {p : Own} {g : Goroutine} {w : World} (h : Runs P low c main me K Stop n p g w) : (∀ q v, Mv low c me p q w v → Stop q g v) ∨ ∃ n', n = n' + 1 ∧ g.status = .running ∧ ∀ q v, Mv low c me p q w v → ∃ g' w' es, stepG P main g v = .go g' w' es ∧ Gd low c K me q v w' es ∧ Runs P low c main me K Stop n' q g' w' := by
  cases n with
  | zero => exact .inl h
  | succ n =>
    rcases h with h | ⟨hs, h⟩
    · exact .inl h
    · exact .inr ⟨n, rfl, hs, fun q v hq => goes_elim (h q v hq)⟩
theorem Runs.running {n : Nat} {own : Nat → Bool} {g : Goroutine} {w : World} (hst : ∀ q g v, Stop q g v → g.status = .running) (h : Runs P low c main me K Stop n (own, w.heap.size) g w) : g.status = .running := by
  rcases h.cases with h | ⟨_, _, hs, _⟩
  · exact hst _ _ _ (h _ _ (Mv.at w.drawn))
  · exact hs
end
/-! the two scripts -/
section
variable (P : Program) (low c qu : Nat)
def AtRecv2 (z x : Value) (Next : Own → Goroutine → World → Prop) (p : Own) (g : Goroutine) (w : World) : Prop :=
  g.status = .running ∧ ∃ es, stepG P true g w = .comm (core g) #[rcase c z] true (.recv true) w es ∧ (∀ e ∈ es, EvG low false p w.heap.size e) ∧ ∀ q v, Mv low c false p q w v → Next q (served (core g) x) v
/-- goroutine 0: it keeps the other channel's block -/
def Recvs2 (z : Value) (Fin : Own → Goroutine → World → Prop) : List Value → Own → Goroutine → World → Prop
  | [], p, g, w => ∃ n, Runs P low c true false (· = qu) (AtRecv2 P low c z (.tuple #[z, .bool false]) Fin) n p g w
  | x :: vs, p, g, w => ∃ n, Runs P low c true false (· = qu) (AtRecv2 P low c z (.tuple #[x, .bool true]) (Recvs2 z Fin vs)) n p g w
def StopM (z : Value) (Fin : Own → Goroutine → World → Prop) : List Value → Own → Goroutine → World → Prop
  | [] => AtRecv2 P low c z (.tuple #[z, .bool false]) Fin
  | x :: vs => AtRecv2 P low c z (.tuple #[x, .bool true]) (Recvs2 P low c qu z Fin vs)
theorem recvs2_iff (z : Value) (Fin : Own → Goroutine → World → Prop) (vs : List Value) (p : Own) (g : Goroutine) (w : World) : Recvs2 P low c qu z Fin vs p g w ↔ ∃ n, Runs P low c true false (· = qu) (StopM P low c qu z Fin vs) n p g w := by
  cases vs <;> exact Iff.rfl
def AtSel2 (x : Value) (Next : Own → Goroutine → World → Prop) (p : Own) (g : Goroutine) (w : World) : Prop :=
  g.status = .running ∧ ∃ g₂ zx zq es, stepG P false g w = .comm g₂ (selc c x zx qu zq) true .select w es ∧ (∀ e ∈ es, EvG low true p w.heap.size e) ∧ ∀ q v, Mv low c true p q w v → Next q (served g₂ (selV zq)) v
def AtClose2 (_ : Own) (g : Goroutine) (w : World) : Prop :=
  g.status = .running ∧ mayWake P g = true ∧ ∃ (g₂ : Goroutine) (n : Nat), (∀ s r tm, w.heap[c]? = some (.chan 0 #[] false s r tm) → stepG P false g w = .go g₂ (w.shut c s r tm) (#[⟨.obj c, false, true⟩].push ⟨.obj c, true, true⟩)) ∧ QuitsIn P n g₂
def Sends2 : List Value → Own → Goroutine → World → Prop
  | [], p, g, w => ∃ n, Runs P low c false true (fun _ => False) (AtClose2 P c) n p g w
  | x :: vs, p, g, w => ∃ n, Runs P low c false true (fun _ => False) (AtSel2 P low c qu x (Sends2 vs)) n p g w
def StopS : List Value → Own → Goroutine → World → Prop
  | [] => AtClose2 P c
  | x :: vs => AtSel2 P low c qu x (Sends2 P low c qu vs)
theorem sends2_iff (vs : List Value) (p : Own) (g : Goroutine) (w : World) : Sends2 P low c qu vs p g w ↔ ∃ n, Runs P low c false true (fun _ => False) (StopS P low c qu vs) n p g w := by
  cases vs <;> exact Iff.rfl
end
section
variable {P : Program} {low c qu : Nat} {z : Value} {Fin : Own → Goroutine → World → Prop}
theorem StopM.running {vs : List Value} (q : Own) (g : Goroutine) (v : World) (h : StopM P low c qu z Fin vs q g v) : g.status = .running := by cases vs <;> exact h.1
theorem StopS.running {vs : List Value} (q : Own) (g : Goroutine) (v : World) (h : StopS P low c qu vs q g v) : g.status = .running := by cases vs <;> exact h.1
theorem StopM.comm {vs : List Value} {q : Own} {g : Goroutine} {w : World} (h : StopM P low c qu z Fin vs q g w) : ∃ es, stepG P true g w = .comm (core g) #[rcase c z] true (.recv true) w es ∧ ∀ e ∈ es, EvG low false q w.heap.size e := by
  cases vs <;> exact let ⟨_, es, h1, h2, _⟩ := h; ⟨es, h1, h2⟩
theorem StopM.cons {x : Value} {vs : List Value} {p : Own} {g : Goroutine} {w : World} (h : StopM P low c qu z Fin (x :: vs) p g w) : ∀ q v, Mv low c false p q w v → Recvs2 P low c qu z Fin vs q (served (core g) (.tuple #[x, .bool true])) v :=
  let ⟨_, _, _, _, h3⟩ := h; h3
theorem StopM.nil {p : Own} {g : Goroutine} {w : World} (h : StopM P low c qu z Fin [] p g w) : ∀ q v, Mv low c false p q w v → Fin q (served (core g) (.tuple #[z, .bool false])) v :=
  let ⟨_, _, _, _, h3⟩ := h; h3
theorem StopM.again {vs : List Value} {q : Own} {g : Goroutine} {w : World} (h : StopM P low c qu z Fin vs q g w) : StopM P low c qu z Fin vs q { parked (core g) #[rcase c z] (.recv true) with status := .running } w := by
  have e : stepG P true { parked (core g) #[rcase c z] (.recv true) with status := .running } w = stepG P true g w := stepG_same rfl rfl rfl w
  cases vs <;> exact let ⟨_, es, h1, h2, h3⟩ := h; ⟨rfl, es, by rw [e]; exact h1, h2, h3⟩
variable (P low c qu z Fin) in
def SitM (vs : List Value) (ra : Nat) (p : Own) (a : Goroutine) (w : World) : Prop :=
  (∃ n, ra = n + 1 ∧ Runs P low c true false (· = qu) (StopM P low c qu z Fin vs) n p a w) ∨
  (ra = 0 ∧ ∃ g, a = parked (core g) #[rcase c z] (.recv true) ∧ ∀ q v, Mv low c false p q w v → StopM P low c qu z Fin vs q g v)
variable (P low c qu) in
def SitS (vs : List Value) (rb : Nat) (p : Own) (b : Goroutine) (w : World) : Prop :=
  (∃ n, rb = n + 1 ∧ Runs P low c false true (fun _ => False) (StopS P low c qu vs) n p b w) ∨
  (rb = 0 ∧ ∃ x vs' g₂ zx zq, vs = x :: vs' ∧ b = parked g₂ (selc c x zx qu zq) .select ∧ ∀ q v, Mv low c true p q w v → Sends2 P low c qu vs' q (served g₂ (selV zq)) v)
theorem SitM.rely {vs : List Value} {ra : Nat} {p q : Own} {a : Goroutine} {w v : World} (h : SitM P low c qu z Fin vs ra p a w) (hr : Mv low c false p q w v) : SitM P low c qu z Fin vs ra q a v := by
  rcases h with ⟨n, e, hg⟩ | ⟨e, g, ea, hs⟩
  · exact .inl ⟨n, e, hg.rely hr⟩
  · exact .inr ⟨e, g, ea, fun r u h => hs r u (hr.trans h)⟩
theorem SitS.rely {vs : List Value} {rb : Nat} {p q : Own} {b : Goroutine} {w v : World} (h : SitS P low c qu vs rb p b w) (hr : Mv low c true p q w v) : SitS P low c qu vs rb q b v := by
  rcases h with ⟨n, e, hg⟩ | ⟨e, x, vs', g₂, zx, zq, e1, e2, hs⟩
  · exact .inl ⟨n, e, hg.rely hr⟩
  · exact .inr ⟨e, x, vs', g₂, zx, zq, e1, e2, fun r u h => hs r u (hr.trans h)⟩
theorem SitM.status {vs : List Value} {ra : Nat} {own : Nat → Bool} {a : Goroutine} {w : World} (h : SitM P low c qu z Fin vs ra (own, w.heap.size) a w) : (a.status = .running ∧ 0 < ra) ∨ (a.status = .blocked ∧ ra = 0) := by
  rcases h with ⟨n, e, hg⟩ | ⟨e, g, rfl, _⟩
  · exact .inl ⟨hg.running StopM.running, by omega⟩
  · exact .inr ⟨rfl, e⟩
theorem SitS.status {vs : List Value} {rb : Nat} {own : Nat → Bool} {b : Goroutine} {w : World} (h : SitS P low c qu vs rb (own, w.heap.size) b w) : (b.status = .running ∧ 0 < rb) ∨ (b.status = .blocked ∧ rb = 0) := by
  rcases h with ⟨n, e, hg⟩ | ⟨e, x, vs', g, zx, zq, _, rfl, _⟩
  · exact .inl ⟨hg.running StopS.running, by omega⟩
  · exact .inr ⟨rfl, e⟩
theorem SitM.woken {vs : List Value} {ra : Nat} {own : Nat → Bool} {a g g' : Goroutine} {w w' : World} {s r : Nat} {tm : Bool} (h : SitM P low c qu z Fin vs ra (own, w.heap.size) a w) (hc : w'.heap[c]? = some (.chan 0 #[] false s r tm)) : woken P g g' w' a = a := by
  unfold Go.Conc.woken
  split
  · rcases h with ⟨n, e, hg⟩ | ⟨e, g, rfl, _⟩
    · exact again_running _ (.inl (hg.running StopM.running))
    · exact again_parked_open rfl hc
  · rfl
theorem SitS.woken {vs : List Value} {rb : Nat} {own : Nat → Bool} {b g g' : Goroutine} {w w' : World} {s r s' r' : Nat} {tm tm' : Bool} (h : SitS P low c qu vs rb (own, w.heap.size) b w) (hc : w'.heap[c]? = some (.chan 0 #[] false s r tm)) (hq : w'.heap[qu]? = some (.chan 0 #[] false s' r' tm')) : woken P g g' w' b = b := by
  unfold Go.Conc.woken
  split
  · rcases h with ⟨n, e, hg⟩ | ⟨e, x, vs', g, zx, zq, _, rfl, _⟩
    · exact again_running _ (.inl (hg.running StopS.running))
    · exact again_parked_sel hc hq
  · rfl
end
end Go.Conc
/- The machine of two: an open channel, both on their way. -/
namespace Go.Conc
open Go
section
variable {P : Program} {low c qu : Nat} {z : Value} {Post : Value → World → Prop}
/-- the last part of goroutine 0's way: nothing is asked of what it touches -/
def DF (_ _ : World) (es : Array Event) : Prop := ∀ e ∈ es, ∀ m, e.loc = .mark m → Neutral m
def AtRet (P : Program) (Post : Value → World → Prop) (g : Goroutine) (w : World) : Prop :=
  g.status = .running ∧ ∃ v es, stepG P true g w = .ended (.done v) w es ∧ (∀ e ∈ es, ∀ m, e.loc = .mark m → Neutral m) ∧ Post v w
def Ret2 (P : Program) (c : Nat) (Post : Value → World → Prop) (_ : Own) (g : Goroutine) (w : World) : Prop := ∃ n, Goes P true (Aside c) DF (AtRet P Post) n g w
variable (P low c qu z Post) in
inductive Inv2 : Nat × Nat → Machine → Trace → Prop
  /-- The channel is open; 'vs' are still to pass. -/
  | opn (vs : List Value) (a b : Goroutine) (w : World) (sl : Option (Nat × Nat)) (t : Trace) (s r s' r' : Nat) (tm tm' : Bool) (own : Nat → Bool) (ra rb p : Nat)
      (hc : w.heap[c]? = some (.chan 0 #[] false s r tm)) (hq : w.heap[qu]? = some (.chan 0 #[] false s' r' tm')) (hlow : low ≤ qu) (hcq : c ≠ qu) (hoq : own qu = false) (hoc : own c = true)
      (hA : SitM P low c qu z (Ret2 P c Post) vs ra (own, w.heap.size) a w) (hB : SitS P low c qu vs rb (own, w.heap.size) b w) (hpos : 0 < ra + rb) (hT : Two low w.heap.size own none t p) :
      Inv2 (vs.length + 2, ra + rb) (duo a b w sl) t
  /-- It is closed; the receiver has not seen that yet. -/
  | shut (a b : Goroutine) (w : World) (sl : Option (Nat × Nat)) (t : Trace) (s r : Nat) (tm : Bool) (own : Nat → Bool) (n k p pc : Nat)
      (hc : w.heap[c]? = some (.chan 0 #[] true s r tm)) (hA : Runs P low c true false (· = qu) (StopM P low c qu z (Ret2 P c Post) []) n (own, w.heap.size) a w) (hB : QuitsIn P k b) (hT : Two low w.heap.size own none t p) (hC : Closed c t pc) :
      Inv2 (1, n + k) (duo a b w sl) t
  /-- It has. -/
  | fin (a b : Goroutine) (w : World) (sl : Option (Nat × Nat)) (t : Trace) (sz : Nat) (own : Nat → Bool) (n k p pc pr : Nat)
      (hA : Goes P true (Aside c) DF (AtRet P Post) n a w) (hB : QuitsIn P k b) (hT : Two low sz own (some pr) t p) (hC : Closed c t pc) (hR : ∃ op, t[pr]? = some op ∧ op.g = 0 ∧ op.act = .recvClosed c) (hlt : pc < pr) :
      Inv2 (0, n + k) (duo a b w sl) t
theorem lt_size_of_getElem?' {α : Type} {l : Array α} {i : Nat} {x : α} (h : l[i]? = some x) : i < l.size := (Array.getElem?_eq_some_iff.1 h).1
theorem Two.two {sz : Nat} {own : Nat → Bool} {pr : Option Nat} {t : Trace} {p : Nat} (hT : Two low sz own pr t p) {i : Nat} {op : MemOp} (h : t[i]? = some op) : op.g = 0 ∨ op.g = 1 := by
  obtain ⟨g, hg, hg1, _⟩ := hT.go
  obtain ⟨s, hs, hs1, _⟩ := hT.start
  rcases Nat.lt_trichotomy i p with hi | rfl | hi
  · exact .inl (hT.early i op h hi)
  · rw [hg] at h; cases h; exact .inl hg1
  · by_cases h1 : i = p + 1
    · subst h1; rw [hs] at h; cases h; exact .inr hs1
    · exact (hT.late i op h (by omega)).1
theorem closed_push {sz : Nat} {own : Nat → Bool} {pr : Option Nat} {u : Trace} {p : Nat} {y : MemOp} (hT : Two low sz own pr (u.push y) p) (h1 : y.g = 1) (h2 : y.act = .close c) : Closed c (u.push y) u.size := by
  refine ⟨⟨y, by simp, h1, h2⟩, fun i op hi hne => ?_⟩
  have hlt := lt_size_of_getElem? hi
  simp only [Array.size_push] at hlt
  exact ⟨(hT.two hi).resolve_left hne, by omega⟩
theorem gd_trace {me : Bool} {g : Nat} {own : Nat → Bool} {N : Nat} {sz : Nat} {t : Trace} {p : Nat} {fn : FuncId} {pos : String} {es : Array Event} (hT : Two low sz own none t p) (hg : (g = 0 ∨ g = 1) ∧ me = decide (g = 1)) (hN : sz ≤ N) (h : ∀ e ∈ es, EvG low me (own, sz) N e) :
    Two low N (ownx me (own, sz)) none (t ++ MemOp.ofEvents g fn pos es) p := by
  rw [ofEvents_eq]
  refine hT.append hN (fun b hb => ownx_old hb) (fun op hop => ?_) fun op hop => ?_
  · obtain ⟨e, he, rfl⟩ := Array.mem_map.1 hop
    exact ofEvent_noMark (h e he).1
  · obtain ⟨e, he, rfl⟩ := Array.mem_map.1 hop
    exact ⟨hg.1, .inr fun x hx => (h e he).ok hg.2 hx⟩
theorem ownx_self {me : Bool} {own : Nat → Bool} {sz : Nat} {t : Trace} {pr : Option Nat} {p : Nat} (h : Two low sz (ownx me (own, sz)) pr t p) : Two low sz own pr t p := by
  have := h.append (u := #[]) (own' := own) (Nat.le_refl _) (fun b hb => (ownx_old (q := (own, sz)) hb).symm) (by intro op hop; simp at hop) (by intro op hop; simp at hop)
  simpa using this
theorem step_opn2 {vs : List Value} {a b : Goroutine} {w : World} {sl : Option (Nat × Nat)} {t : Trace} {s r s' r' : Nat} {tm tm' : Bool} {own : Nat → Bool} {ra rb p : Nat}
    (hc : w.heap[c]? = some (.chan 0 #[] false s r tm)) (hq : w.heap[qu]? = some (.chan 0 #[] false s' r' tm')) (hlow : low ≤ qu) (hcq : c ≠ qu) (hoq : own qu = false) (hoc : own c = true)
    (hA : SitM P low c qu z (Ret2 P c Post) vs ra (own, w.heap.size) a w) (hB : SitS P low c qu vs rb (own, w.heap.size) b w) (hpos : 0 < ra + rb) (hT : Two low w.heap.size own none t p) :
    ∃ m' ops μ', stepT P (duo a b w sl) = (.next m', ops) ∧ Lt2 μ' (vs.length + 2, ra + rb) ∧ Inv2 P low c qu z Post μ' m' (t ++ ops) := by
  have sA := hA.status
  have sB := hB.status
  have awA : awake a := awake_of (by rcases sA with ⟨h, _⟩ | ⟨h, _⟩ <;> simp [h])
  have awB : awake b := awake_of (by rcases sB with ⟨h, _⟩ | ⟨h, _⟩ <;> simp [h])
  have some1 : a.status = .running ∨ b.status = .running := by
    rcases sA with ⟨h, _⟩ | ⟨_, h0⟩
    · exact .inl h
    · rcases sB with ⟨h, _⟩ | ⟨_, h1⟩
      · exact .inr h
      · omega
  have hqs : qu < w.heap.size := lt_size_of_getElem?' hq
  have hcs : c < w.heap.size := lt_size_of_getElem?' hc
  obtain ⟨d, sl', hmv⟩ := duo_pick (P := P) (w := w) (sl := sl) awA awB some1
  have hc1 : (w.at d).heap[c]? = some (.chan 0 #[] false s r tm) := hc
  have hq1 : (w.at d).heap[qu]? = some (.chan 0 #[] false s' r' tm') := hq
  have hMd : Mv low c false (own, w.heap.size) (own, w.heap.size) w (w.at d) := Mv.at d
  have hSd : Mv low c true (own, w.heap.size) (own, w.heap.size) w (w.at d) := Mv.at d
  have hMp : Mv low c false (own, w.heap.size) (own, w.heap.size) (w.at d) ((w.at d).passed c s r tm) := Mv.put (w := w.at d) (.chan 0 #[] false (s + 1) (r + 1) tm)
  have hSp : Mv low c true (own, w.heap.size) (own, w.heap.size) (w.at d) ((w.at d).passed c s r tm) := Mv.put (w := w.at d) (.chan 0 #[] false (s + 1) (r + 1) tm)
  have hpsz : ((w.at d).passed c s r tm).heap.size = w.heap.size := by simp [World.passed, World.at]
  have hcp : ((w.at d).passed c s r tm).heap[c]? = some (.chan 0 #[] false (s + 1) (r + 1) tm) := heap_put hc1
  have hqp : ((w.at d).passed c s r tm).heap[qu]? = some (.chan 0 #[] false s' r' tm') := by
    have : ((w.at d).passed c s r tm).heap[qu]? = (w.at d).heap[qu]? := by simp [World.passed, hcq]
    rw [this]; exact hq1
  rcases hmv with ⟨hra, hst⟩ | ⟨hrb, hst⟩
  · -- THE RECEIVER MOVES
    rcases hA with ⟨n, rfl, hg⟩ | ⟨_, g, rfl, _⟩
    · rcases hg.cases with hstop | ⟨n', rfl, _, hstep⟩
      · -- it stands at the receive
        have hat := hstop _ _ hMd
        obtain ⟨es, hcomm, hes⟩ := hat.comm
        have hT1 : ∀ {fn : FuncId} {pos : String}, Two low w.heap.size own none (t ++ MemOp.ofEvents 0 fn pos es) p := fun {fn pos} => ownx_self (gd_trace hT ⟨.inl rfl, rfl⟩ (Nat.le_refl _) hes)
        rcases hB with ⟨k, rfl, hgb⟩ | ⟨rfl, v, vs', g₂, zx, zq, rfl, rfl, hnext⟩
        · -- the sender is on its way: the receiver waits
          have hbs : b.status ≠ .blocked := by rw [hgb.running StopS.running]; simp
          refine ⟨_, _, (vs.length + 2, 0 + (k + 1)), hst.trans (runT_recv_waits hcomm hc1 hbs), .right _ (by omega), ?_⟩
          exact .opn vs _ b (w.at d) sl' _ s r s' r' tm tm' own 0 (k + 1) p hc1 hq1 hlow hcq hoq hoc (.inr ⟨rfl, a, rfl, fun q v h => hstop q v (hMd.trans h)⟩) (.inl ⟨k, rfl, hgb.rely hSd⟩) (by omega) hT1
        · -- the sender waits: both are served in this one step
          obtain ⟨na, hna⟩ := (recvs2_iff P low c qu z _ vs' _ _ _).1 (hat.cons _ _ hMp)
          obtain ⟨nb, hnb⟩ := (sends2_iff P low c qu vs' _ _ _).1 (hnext _ _ (hSd.trans hSp))
          refine ⟨_, _, (vs'.length + 2, (na + 1) + (nb + 1)), hst.trans (runT_recv_meets_sel hcomm hc1 hcq rfl), .left _ _ (by simp), ?_⟩
          rw [← Array.append_assoc]
          refine .opn vs' _ _ _ sl' _ (s + 1) (r + 1) s' r' tm tm' own (na + 1) (nb + 1) p hcp hqp hlow hcq hoq hoc (.inl ⟨na, rfl, by rw [hpsz]; exact hna⟩) (.inl ⟨nb, rfl, by rw [hpsz]; exact hnb⟩) (by omega) ?_
          rw [hpsz]
          exact hT1.addComm (by simp [MemAct.touch?])
      · -- a step of its own
        obtain ⟨a', w', es, hgo, hgd, hg'⟩ := hstep _ _ hMd
        have hgd' : Gd low c (· = qu) false (own, (w.at d).heap.size) (w.at d) w' es := hgd
        have hsz : (w.at d).heap.size = w.heap.size := rfl
        have hc' : w'.heap[c]? = some (.chan 0 #[] false s r tm) := by
          rw [hgd.keep c (lt_size_of_getElem?' hc1) (.inr (.inl rfl))]
          exact hc1
        have hq' : w'.heap[qu]? = some (.chan 0 #[] false s' r' tm') := by
          rw [hgd.keep qu hqs (.inr (.inr (.inl rfl)))]
          exact hq1
        have hg2 := hg'.rely (Mv.own (by have := hgd.grow; exact this))
        have hB2 := hB.rely (hSd.trans hgd'.mv)
        refine ⟨_, _, (vs.length + 2, (n' + 1) + rb), hst.trans (runT_duo0 hgo), .right _ (by omega), ?_⟩
        rw [hB2.woken hc' hq']
        exact .opn vs a' b w' sl' _ s r s' r' tm tm' (ownx false (own, w.heap.size)) (n' + 1) rb p hc' hq' hlow hcq (by rw [ownx_old hqs]; exact hoq) (by rw [ownx_old hcs]; exact hoc) (.inl ⟨n', rfl, hg2⟩) hB2 (by omega) (gd_trace hT ⟨.inl rfl, rfl⟩ hgd.grow hgd.ev)
    · simp [parked] at hra
  · -- THE SENDER MOVES
    rcases hB with ⟨k, rfl, hgb⟩ | ⟨_, v, vs', g₂, zx, zq, _, rfl, _⟩
    · rcases hgb.cases with hstop | ⟨k', rfl, _, hstep⟩
      · have hat := hstop _ _ hSd
        cases vs with
        | nil =>
          -- it closes the channel
          obtain ⟨_, hwake, g₂, nq, hclose, hqt⟩ := hat
          have hes : ∀ e ∈ (#[⟨.obj c, false, true⟩] : Array Event), EvG low true (own, w.heap.size) w.heap.size e := fun e he => by
            simp at he
            subst he
            refine ⟨by simp, fun b hb => ?_⟩
            cases hb
            refine ⟨hcs, fun _ => rfl, fun ⟨_, _, h⟩ => ?_⟩
            have h' : own c = false := h
            rw [hoc] at h'
            cases h'
          have hgo := hclose s r tm hc1
          have hw3 : Mv low c false (own, w.heap.size) (own, w.heap.size) (w.at d) ((w.at d).shut c s r tm) := Mv.put (w := w.at d) (.chan 0 #[] true s r tm)
          have hssz : ((w.at d).shut c s r tm).heap.size = w.heap.size := by simp [World.shut, World.at]
          have hc2 : ((w.at d).shut c s r tm).heap[c]? = some (.chan 0 #[] true s r tm) := heap_put hc1
          have hwk : ∀ o, woken P b g₂ ((w.at d).shut c s r tm) o = o.again ((w.at d).shut c s r tm) := by
            intro o; unfold Go.Conc.woken; rcases hqt.status with h | h <;> simp [hwake, h]
          have hA' : ∃ n, Runs P low c true false (· = qu) (StopM P low c qu z (Ret2 P c Post) []) n (own, w.heap.size) (a.again ((w.at d).shut c s r tm)) ((w.at d).shut c s r tm) := by
            rcases hA with ⟨n, _, hg⟩ | ⟨_, g, rfl, hs⟩
            · rw [again_running _ (.inl (hg.running StopM.running))]
              exact ⟨n, hg.rely (hMd.trans hw3)⟩
            · rw [again_parked_shut rfl hc2]
              exact ⟨0, fun q v h => (hs q v ((hMd.trans hw3).trans h)).again⟩
          obtain ⟨na, hna⟩ := hA'
          refine ⟨_, _, (1, na + nq), hst.trans (runT_duo1 hgo), .left _ _ (by simp), ?_⟩
          rw [hwk, ofEvents_push, ← Array.push_append]
          have hF : Two low w.heap.size own none ((t ++ MemOp.ofEvents 1 b.frame.fn b.frame.place #[⟨.obj c, false, true⟩]).push { g := 1, fn := b.frame.fn, pos := b.frame.place, act := .ofEvent ⟨.obj c, true, true⟩ }) p := by
            rw [Array.push_eq_append]
            exact (ownx_self (gd_trace hT ⟨.inr rfl, rfl⟩ (Nat.le_refl _) hes)).addComm (by simp [MemAct.touch?, MemAct.ofEvent])
          refine .shut _ g₂ _ sl' _ s r tm own na nq p _ hc2 (by rw [hssz]; exact hna) hqt (by rw [hssz]; exact hF) (closed_push hF rfl rfl)
        | cons v vs' =>
          obtain ⟨_, g₂, zx, zq, es, hcm, hes, hnext⟩ := hat
          have hT1 : ∀ {fn : FuncId} {pos : String}, Two low w.heap.size own none (t ++ MemOp.ofEvents 1 fn pos es) p := fun {fn pos} => ownx_self (gd_trace hT ⟨.inr rfl, rfl⟩ (Nat.le_refl _) hes)
          rcases hA with ⟨n, rfl, hg⟩ | ⟨rfl, g, rfl, hs⟩
          · -- the receiver is on its way: the sender waits
            have has : a.status ≠ .blocked := by rw [hg.running StopM.running]; simp
            refine ⟨_, _, ((v :: vs').length + 2, (n + 1) + 0), hst.trans (runT_sel_waits hcm hc1 hq1 has), .right _ (by omega), ?_⟩
            exact .opn (v :: vs') a _ (w.at d) sl' _ s r s' r' tm tm' own (n + 1) 0 p hc1 hq1 hlow hcq hoq hoc (.inl ⟨n, rfl, hg.rely hMd⟩) (.inr ⟨rfl, v, vs', g₂, zx, zq, rfl, rfl, hnext⟩) (by omega) hT1
          · -- the receiver waits: both are served in this one step
            obtain ⟨na, hna⟩ := (recvs2_iff P low c qu z _ vs' _ _ _).1 ((hs _ _ hMd).cons _ _ hMp)
            obtain ⟨nb, hnb⟩ := (sends2_iff P low c qu vs' _ _ _).1 (hnext _ _ hSp)
            refine ⟨_, _, (vs'.length + 2, (na + 1) + (nb + 1)), hst.trans (runT_sel_meets hcm hc1 hq1 hcq rfl), .left _ _ (by simp), ?_⟩
            rw [← Array.append_assoc]
            refine .opn vs' _ _ _ sl' _ (s + 1) (r + 1) s' r' tm tm' own (na + 1) (nb + 1) p hcp hqp hlow hcq hoq hoc (.inl ⟨na, rfl, by rw [hpsz]; exact hna⟩) (.inl ⟨nb, rfl, by rw [hpsz]; exact hnb⟩) (by omega) ?_
            rw [hpsz]
            exact hT1.addComm (by simp [MemAct.touch?])
      · -- a step of its own
        obtain ⟨b', w', es, hgo, hgd, hg'⟩ := hstep _ _ hSd
        have hgd' : Gd low c (fun _ => False) true (own, (w.at d).heap.size) (w.at d) w' es := hgd
        have hc' : w'.heap[c]? = some (.chan 0 #[] false s r tm) := by
          rw [hgd.keep c (lt_size_of_getElem?' hc1) (.inr (.inl rfl))]
          exact hc1
        have hq' : w'.heap[qu]? = some (.chan 0 #[] false s' r' tm') := by
          rw [hgd.keep qu hqs (.inr (.inr (.inr ⟨hlow, hqs, hoq⟩)))]
          exact hq1
        have hg2 := hg'.rely (Mv.own (by have := hgd.grow; exact this))
        have hA2 := hA.rely (hMd.trans hgd'.mv)
        refine ⟨_, _, (vs.length + 2, ra + (k' + 1)), hst.trans (runT_duo1 hgo), .right _ (by omega), ?_⟩
        rw [hA2.woken hc']
        exact .opn vs a b' w' sl' _ s r s' r' tm tm' (ownx true (own, w.heap.size)) ra (k' + 1) p hc' hq' hlow hcq (by rw [ownx_old hqs]; exact hoq) (by rw [ownx_old hcs]; exact hoc) hA2 (.inl ⟨k', rfl, hg2⟩) (by omega) (gd_trace hT ⟨.inr rfl, rfl⟩ hgd.grow hgd.ev)
    · simp [parked] at hrb
end
end Go.Conc
/- The machine of two, to its end; from a machine of one. -/
namespace Go.Conc
open Go
section
variable {P : Program} {low c qu : Nat} {z : Value} {Post : Value → World → Prop}
theorem step_shut2 {a b : Goroutine} {w : World} {sl : Option (Nat × Nat)} {t : Trace} {s r : Nat} {tm : Bool} {own : Nat → Bool} {n k p pc : Nat}
    (hc : w.heap[c]? = some (.chan 0 #[] true s r tm)) (hA : Runs P low c true false (· = qu) (StopM P low c qu z (Ret2 P c Post) []) n (own, w.heap.size) a w) (hB : QuitsIn P k b) (hT : Two low w.heap.size own none t p) (hC : Closed c t pc) :
    ∃ m' ops μ', stepT P (duo a b w sl) = (.next m', ops) ∧ Lt2 μ' (1, n + k) ∧ Inv2 P low c qu z Post μ' m' (t ++ ops) := by
  have hra : a.status = .running := hA.running StopM.running
  have sB := hB.status
  have awB : awake b := awake_of (sB.elim .inl fun h => .inr (.inr h))
  obtain ⟨d, sl', hmv⟩ := duo_pick (P := P) (w := w) (sl := sl) (awake_of (.inl hra)) awB (.inl hra)
  have hMd : Mv low c false (own, w.heap.size) (own, w.heap.size) w (w.at d) := Mv.at d
  have hc1 : (w.at d).heap[c]? = some (.chan 0 #[] true s r tm) := hc
  rcases hmv with ⟨_, hst⟩ | ⟨hrb, hst⟩
  · rcases hA.cases with hstop | ⟨n', rfl, _, hstep⟩
    · -- the receiver finds the channel closed
      have hat := hstop _ _ hMd
      obtain ⟨es, hcomm, hes⟩ := hat.comm
      have hbs : b.status ≠ .blocked := by rcases sB with h | h <;> rw [h] <;> simp
      obtain ⟨nf, hnf⟩ := hat.nil _ _ (Mv.at (w := w.at d) (w.at d).drawn)
      have hT1 : Two low w.heap.size own none (t ++ MemOp.ofEvents 0 a.frame.fn a.frame.place es) p := ownx_self (gd_trace hT ⟨.inl rfl, rfl⟩ (Nat.le_refl _) hes)
      refine ⟨_, _, (0, nf + k), hst.trans (runT_recv_closed hcomm hc1 hbs), .left _ _ (by omega), ?_⟩
      rw [← Array.append_assoc]
      refine .fin _ b _ sl' _ w.heap.size own nf k p pc (t ++ MemOp.ofEvents 0 a.frame.fn a.frame.place es).size hnf hB ((hT1.free (pr := some (t ++ MemOp.ofEvents 0 a.frame.fn a.frame.place es).size)).addComm (by simp [MemAct.touch?])) ((hC.append fun op hop => ?_).append (by simp)) ⟨{ g := 0, fn := (core a).frame.fn, pos := (core a).frame.place, act := .recvClosed c }, ?_, rfl, rfl⟩ ?_
      · rw [ofEvents_eq] at hop
        obtain ⟨e, _, rfl⟩ := Array.mem_map.1 hop
        rfl
      · rw [Array.getElem?_append]
        simp
      · obtain ⟨k0, hk0, _⟩ := hC.close
        have := lt_size_of_getElem? hk0
        simp
        omega
    · obtain ⟨a', w', es, hgo, hgd, hg'⟩ := hstep _ _ hMd
      have hc' : w'.heap[c]? = some (.chan 0 #[] true s r tm) := by
        rw [hgd.keep c (lt_size_of_getElem?' hc1) (.inr (.inl rfl))]
        exact hc1
      have hg2 := hg'.rely (Mv.own (by have := hgd.grow; exact this))
      refine ⟨_, _, (1, n' + k), hst.trans (runT_duo0 hgo), .right _ (by omega), ?_⟩
      rw [woken_quits hB]
      refine .shut a' b w' sl' _ s r tm (ownx false (own, w.heap.size)) n' k p pc hc' hg2 hB (gd_trace hT ⟨.inl rfl, rfl⟩ hgd.grow hgd.ev) (hC.append fun op hop => ?_)
      rw [ofEvents_eq] at hop
      obtain ⟨e, _, rfl⟩ := Array.mem_map.1 hop
      rfl
  · -- the sender leaves
    cases k with
    | zero => rw [show b.status = .finished from hB] at hrb; cases hrb
    | succ k =>
      rcases hB with h | ⟨_, b', hw, hq⟩
      · rw [h] at hrb; cases hrb
      · refine ⟨_, _, (1, n + k), hst.trans (runT_duo1 (hw _)), .right _ (by omega), ?_⟩
        rw [woken_running hra, ofEvents_none, Array.append_empty]
        exact .shut a b' (w.at d) sl' t s r tm own n k p pc hc1 (hA.rely hMd) hq hT hC
theorem late_free {sz : Nat} {own : Nat → Bool} {pr : Nat} {t : Trace} {p : Nat} {fn : FuncId} {pos : String} {es : Array Event} (hT : Two low sz own (some pr) t p) (hpr : pr < t.size) (h : ∀ e ∈ es, ∀ m, e.loc = .mark m → Neutral m) :
    Two low sz own (some pr) (t ++ MemOp.ofEvents 0 fn pos es) p ∧ ∀ op ∈ MemOp.ofEvents 0 fn pos es, op.g = 0 := by
  have h0 := early0 (fn := fn) (pos := pos) h
  exact ⟨hT.append (Nat.le_refl _) (fun _ _ => rfl) h0.1 fun op hop => ⟨.inl (h0.2 op hop), .inl ⟨h0.2 op hop, pr, rfl, hpr⟩⟩, h0.2⟩
theorem step_fin2 {a b : Goroutine} {w : World} {sl : Option (Nat × Nat)} {t : Trace} {sz : Nat} {own : Nat → Bool} {n k p pc pr : Nat}
    (hA : Goes P true (Aside c) DF (AtRet P Post) n a w) (hB : QuitsIn P k b) (hT : Two low sz own (some pr) t p) (hC : Closed c t pc) (hR : ∃ op, t[pr]? = some op ∧ op.g = 0 ∧ op.act = .recvClosed c) (hlt : pc < pr) :
    (∃ o w' ops, stepT P (duo a b w sl) = (.ended o w', ops) ∧ Good P Post (duo a b w sl) o w' (t ++ ops)) ∨
    ∃ m' ops μ', stepT P (duo a b w sl) = (.next m', ops) ∧ Lt2 μ' (0, n + k) ∧ Inv2 P low c qu z Post μ' m' (t ++ ops) := by
  have hra : a.status = .running := hA.running (fun _ _ h => h.1) w (Aside.refl c w)
  have sB := hB.status
  have awB : awake b := awake_of (sB.elim .inl fun h => .inr (.inr h))
  obtain ⟨d, sl', hmv⟩ := duo_pick (P := P) (w := w) (sl := sl) (awake_of (.inl hra)) awB (.inl hra)
  have hAs : Aside c w (w.at d) := Aside.at c w d
  have hprt : pr < t.size := by
    obtain ⟨op, h1, _⟩ := hR
    exact lt_size_of_getElem? h1
  have keepR : ∀ u : Trace, ∃ op, (t ++ u)[pr]? = some op ∧ op.g = 0 ∧ op.act = .recvClosed c := fun u => by
    obtain ⟨op, h1, h2, h3⟩ := hR
    exact ⟨op, by rw [getElem?_append_old (lt_size_of_getElem? h1)]; exact h1, h2, h3⟩
  rcases hmv with ⟨_, hst⟩ | ⟨hrb, hst⟩
  · rcases hA.cases with hstop | ⟨n', rfl, hstep⟩
    · -- THE RETURN
      obtain ⟨_, v, es, hend, hes, hpost⟩ := hstop _ hAs
      obtain ⟨hT', h0⟩ := late_free (fn := a.frame.fn) (pos := a.frame.place) hT hprt hes
      refine .inl ⟨_, _, _, hst.trans (runT_duo0_ended hend), v, rfl, hpost, hT'.noRace (hC.append h0) (keepR _) hlt, handedOver_of_closed hT'.wordless (hC.append h0) (keepR _), ⟨?_, rfl⟩, ?_⟩
      · intro g hg
        have : g = b := by simpa [duo] using hg
        rw [this]
        exact ⟨k, hB.leaves⟩
      · intro i g hg hne
        match i, hg, hne with
        | 0, _, hne => exact absurd rfl hne
        | 1, hg, _ =>
          have : g = b := by simpa [duo] using hg.symm
          rw [this, hT'.wordless.deaf]
          exact ⟨k, hB.hears _ 0⟩
        | i + 2, hg, _ => simp [duo] at hg
    · obtain ⟨a', w', es, hgo, hes, hg'⟩ := hstep _ hAs
      obtain ⟨hT', h0⟩ := late_free (fn := a.frame.fn) (pos := a.frame.place) hT hprt hes
      refine .inr ⟨_, _, (0, n' + k), hst.trans (runT_duo0 hgo), .right _ (by omega), ?_⟩
      rw [woken_quits hB]
      exact .fin a' b w' sl' _ sz own n' k p pc pr hg' hB hT' (hC.append h0) (keepR _) hlt
  · cases k with
    | zero => rw [show b.status = .finished from hB] at hrb; cases hrb
    | succ k =>
      rcases hB with h | ⟨_, b', hw, hq⟩
      · rw [h] at hrb; cases hrb
      · refine .inr ⟨_, _, (0, n + k), hst.trans (runT_duo1 (hw _)), .right _ (by omega), ?_⟩
        rw [woken_running hra, ofEvents_none, Array.append_empty]
        exact .fin a b' (w.at d) sl' t sz own n k p pc pr (Goes.rely (R := Aside c) (fun _ _ _ h h' => Aside.trans h h') hA hAs) hq hT hC hR hlt
/-- the two, to the end -/
theorem pipeline2 {vs : List Value} {a b : Goroutine} {w : World} {sl : Option (Nat × Nat)} {t : Trace} {s r s' r' : Nat} {tm tm' : Bool} {own : Nat → Bool} {p : Nat}
    (hc : w.heap[c]? = some (.chan 0 #[] false s r tm)) (hq : w.heap[qu]? = some (.chan 0 #[] false s' r' tm')) (hlow : low ≤ qu) (hcq : c ≠ qu) (hoq : own qu = false) (hoc : own c = true)
    (hA : Recvs2 P low c qu z (Ret2 P c Post) vs (own, w.heap.size) a w) (hB : Sends2 P low c qu vs (own, w.heap.size) b w) (hT : Two low w.heap.size own none t p) :
    ∃ n last o w' t', runNT P (n + 1) (duo a b w sl) t = (.ended o w', t') ∧ runN P n (duo a b w sl) = .next last ∧ step P last = .ended o w' ∧ Good P Post last o w' t' := by
  obtain ⟨na, hna⟩ := (recvs2_iff P low c qu z _ vs _ _ _).1 hA
  obtain ⟨nb, hnb⟩ := (sends2_iff P low c qu vs _ _ _).1 hB
  refine run_of_inv (r := Lt2) (Prod.lex Nat.lt_wfRel Nat.lt_wfRel).wf (Inv2 P low c qu z Post) (Good P Post) ?_ _ _ _
    (.opn vs a b w sl t s r s' r' tm tm' own (na + 1) (nb + 1) p hc hq hlow hcq hoq hoc (.inl ⟨na, rfl, hna⟩) (.inl ⟨nb, rfl, hnb⟩) (by omega) hT)
  intro μ m t hI
  match μ, m, t, hI with
  | _, _, _, .opn vs a b w sl t s r s' r' tm tm' own ra rb p hc hq hlow hcq hoq hoc hA hB hpos hT => exact .inr (step_opn2 hc hq hlow hcq hoq hoc hA hB hpos hT)
  | _, _, _, .shut a b w sl t s r tm own n k p pc hc hA hB hT hC => exact .inr (step_shut2 hc hA hB hT hC)
  | _, _, _, .fin a b w sl t sz own n k p pc pr hA hB hT hC hR hlt => exact step_fin2 hA hB hT hC hR hlt
variable (P low Post) in
/-- where goroutine 0 stands at the go statement -/
def AtGo2 (a : Goroutine) (w : World) : Prop :=
  a.status = .running ∧ ∃ (a' child : Goroutine) (w' : World) (es : Array Event) (c qu : Nat) (own : Nat → Bool) (z : Value) (vs : List Value) (s r s' r' : Nat) (tm tm' : Bool),
    stepG P true a w = .spawn a' child w' es ∧ (∀ e ∈ es, ∀ m, e.loc = .mark m → Neutral m) ∧ w'.heap[c]? = some (.chan 0 #[] false s r tm) ∧ w'.heap[qu]? = some (.chan 0 #[] false s' r' tm') ∧ low ≤ qu ∧ c ≠ qu ∧ own qu = false ∧ own c = true ∧
    Recvs2 P low c qu z (Ret2 P c Post) vs (own, w'.heap.size) a' w' ∧ Sends2 P low c qu vs (own, w'.heap.size) child w'
theorem two_new {sz : Nat} {own : Nat → Bool} {u : Trace} {x y : MemOp} (hw : Wordless u) (h0 : ∀ op ∈ u, op.g = 0) (hx : x.g = 0 ∧ x.act = .go 1) (hy : y.g = 1 ∧ y.act = .start) : Two low sz own none ((u.push x).push y) u.size := by
  have := forked_new (Mine := fun _ => True) hw h0 hx hy
  refine ⟨this.wordless, this.go, this.start, this.early, fun i op hi hlt => ?_⟩
  have := lt_size_of_getElem? hi
  simp at this
  omega
/-- FROM THE ENTRY TO THE RETURN. -/
theorem fork_pipeline2 {n : Nat} {a : Goroutine} {w : World} (h : Goes P true Eq D0 (AtGo2 P low Post) n a w) :
    ∃ N last o w' t', runNT P (N + 1) (solo a w) #[] = (.ended o w', t') ∧ runN P N (solo a w) = .next last ∧ step P last = .ended o w' ∧ Good P Post last o w' t' := by
  obtain ⟨k, a₁, w₁, u, hrun, ⟨hs, a', child, w', es, c, qu, own, z, vs, s, r, s', r', tm, tm', hsp, hes, hc, hq, hlow, hcq, hoq, hoc, hA, hB⟩, hw, h0⟩ := solo_goes #[] h
  have hstep := (stepT_solo (P := P) (w := w₁) hs).trans (runT_solo_spawn hsp)
  generalize hops : ((MemOp.ofEvents 0 a₁.frame.fn a₁.frame.place es).push { g := 0, fn := a₁.frame.fn, pos := a₁.frame.place, act := .go 1 } |>.push { g := 1, fn := child.frame.fn, pos := a₁.frame.place, act := .start }) = ops at hstep
  have hF : Two low w'.heap.size own none (#[] ++ u ++ ops) (u ++ MemOp.ofEvents 0 a₁.frame.fn a₁.frame.place es).size := by
    rw [← hops, Array.empty_append, Array.append_push, Array.append_push]
    exact two_new (hw.append (early0 hes).1) (fun op hop => (Array.mem_append.1 hop).elim (h0 op) ((early0 hes).2 op)) ⟨rfl, rfl⟩ ⟨rfl, rfl⟩
  obtain ⟨N, last, o, w'', t', h1, h2, h3, h4⟩ := pipeline2 (sl := none) hc hq hlow hcq hoq hoc hA hB hF
  have hk1 : runNT P (k + 1) (solo a w) #[] = (.next (duo a' child w' none), #[] ++ u ++ ops) := by
    rw [runNT_add, hrun]
    simp only [runNT, hstep]
  refine ⟨k + 1 + N, last, o, w'', t', ?_, ?_, h3, h4⟩
  · rw [Nat.add_assoc, runNT_add, hk1]; exact h1
  · rw [runN_add, ← runNT_fst P (k + 1) _ #[], hk1]; exact h2
end
end Go.Conc
/- Phases: what of the heap is another one's; steps, in either goroutine. -/
namespace Go.Proofs.YtfpmbneglnoojaaGreatDoor.Ab
open Go Go.Conc
set_option maxRecDepth 100000
noncomputable section
/-- the context of a goroutine 'me': X: blocks that it keeps besides -/
def cxG (L : Nat) (me : Bool) (c : Nat) (X : Nat → Prop) (gho : Option AObj) (pin : Nat → Nat → Prop) (p : Own) : Cx where
  base := BASE
  F := fun b => b < L ∨ X b ∨ b = c ∨ (L ≤ b ∧ b < p.2 ∧ p.1 b = !me)
  C := fun b => b = c ∨ (L ≤ b ∧ b < p.2 ∧ p.1 b = !me)
  lo := L
  subL := fun _ h => .inl h
  sub := fun _ h => .inr (.inr h)
  gho := gho
  pin := pin
variable {L : Nat} {me : Bool} {c : Nat} {X : Nat → Prop} {gho : Option AObj} {pin : Nat → Nat → Prop}
theorem mv_wr {p q : Own} {ρ : Rho} {n : Nat} {h : Tr AObj} {w v : World} (hm : Mv L c me p q w v) (hr : WR (cxG L me c X gho pin p) ρ n h w) : WR (cxG L me c X gho pin q) ρ n h v := by
  have ha := hm.a
  have hsz := hm.sz
  have hg := hm.grow
  have hC : ∀ b, b < w.heap.size → ¬ (cxG L me c X gho pin p).C b → ¬ (cxG L me c X gho pin q).C b := by
    rintro b hb hn (h | ⟨h1, h2, h3⟩)
    · exact hn (.inl h)
    · by_cases hp : b < p.2
      · rw [hm.old b hp] at h3
        exact hn (.inr ⟨h1, hp, h3⟩)
      · rw [hm.mine b (by omega) hb] at h3
        cases me <;> cases h3
  have hkeep : ∀ b, b < w.heap.size → ¬ (cxG L me c X gho pin p).C b → v.heap[b]? = w.heap[b]? := fun b hb hn => hm.keep b hb (fun h => hn (.inl h)) fun h => hn (.inr h)
  refine ⟨fun b i hi => ?_, fun b i hi hb hl => ?_, fun b i o hi ho => ?_, fun b i hi hb => ?_, hr.inj, fun b hb => ?_, fun b hb => ?_, hr.bn, hr.small, hr.old, hr.gho, hr.gk, hr.pin, hr.gn⟩
  · obtain ⟨d1, d2, d3⟩ := hr.dom b i hi
    exact ⟨d1, by omega, fun hl => hC _ d2 (d3 hl)⟩
  · obtain ⟨d1, d2, d3⟩ := hr.dom b i hi
    have h1 := hr.low b i hi hb hl
    rintro (h | h | h)
    · exact h1 (.inl h)
    · exact h1 (.inr (.inl h))
    · exact hC _ d2 (d3 hl) h
  · by_cases hd : o = .dead
    · subst hd; trivial
    · obtain ⟨d1, d2, d3⟩ := hr.dom b i hi
      exact OR_heap (hkeep _ d2 (d3 ⟨o, ho, hd⟩)) (hr.obj b i o hi ho)
  · exact hr.lowF b i hi hb
  · rcases hb with h | h | h | ⟨h1, h2, h3⟩
    · have := hr.deep b (.inl h)
      omega
    · have := hr.deep b (.inr (.inl h))
      omega
    · have := hr.deep b (.inr (.inr (.inl h)))
      omega
    · omega
  · rcases hb with h | ⟨h1, h2, h3⟩
    · have := hr.deep b (.inr (.inr (.inl h)))
      omega
    · omega
/-- the count is turned -/
theorem WR.count {p : Own} {ρ : Rho} {n : Nat} {h : Tr AObj} {w : World} (hr : WR (cxG L me c X gho pin p) ρ n h w) (o : AObj) : WR (cxG L me c X (some o) pin p) ρ n (Tr.set o 40 GK h) w := by
  have hb := hr.bn
  have hG : GK < 2 ^ 39 := by decide
  have hne : ∀ b i, ρ b = some i → b ≠ GK := fun b i hi e => by
    subst e
    rw [hr.gn] at hi
    cases hi
  have hgk := hr.gk
  have hlive : ∀ b i, ρ b = some i → live (Tr.set o 40 GK h) b → live h b := fun b i hi ⟨x, hx, hd⟩ => ⟨x, by rwa [set_get hG, if_neg (hne b i hi)] at hx, hd⟩
  refine ⟨fun b i hi => ?_, fun b i hi hb hl => hr.low b i hi hb (hlive b i hi hl), fun b i o' hi ho => ?_, hr.lowF, fun b c' i j hi hj h1 h2 l1 l2 he => hr.inj b c' i j hi hj h1 h2 (hlive b i hi l1) (hlive c' j hj l2) he, hr.deep, hr.deepC, hr.bn, hr.small, fun b o' ho => ?_, by rw [set_get hG, if_pos rfl]; rfl, hgk, hr.pin, hr.gn⟩
  · obtain ⟨d1, d2, d3⟩ := hr.dom b i hi
    exact ⟨d1, d2, fun hl => d3 (hlive b i hi hl)⟩
  · rw [set_get hG, if_neg (hne b i hi)] at ho
    exact hr.obj b i o' hi ho
  · rw [set_get hG] at ho
    by_cases hg : b = GK
    · subst hg
      exact Nat.lt_of_lt_of_le hgk hb
    · rw [if_neg hg] at ho
      exact hr.old b o' ho
theorem EvOK.evg {q : Own} {N : Nat} {e : Event} (h : EvOK (cxG L me c X gho pin q) N e) : EvG L me q N e := by
  obtain ⟨h1, h2, h3, h4⟩ := h
  refine ⟨fun m hm => h1 m hm, fun b hb => ?_⟩
  have key : ∀ r, ¬ (cxG L me c X gho pin q).C r ∧ r < N → (e.write = true → ¬ (cxG L me c X gho pin q).F r) → r < N ∧ (r < L → e.write = false) ∧ ¬ (L ≤ r ∧ r < q.2 ∧ q.1 r = !me) := by
    intro r hr hw
    refine ⟨hr.2, fun hlt => ?_, fun h => hr.1 (.inr h)⟩
    cases hwr : e.write with
    | false => rfl
    | true => exact absurd (.inl hlt) (hw hwr)
  cases hl : e.loc with
  | cell a =>
    rw [hl] at hb
    cases hb
    refine key a.block (h3 a hl) fun hw => ?_
    rcases h2 hw with ⟨a', ha', hF⟩ | ⟨r, hr, _⟩
    · rw [hl] at ha'; cases ha'; exact hF
    · rw [hl] at hr; cases hr
  | obj r =>
    rw [hl] at hb
    cases hb
    refine key _ (h4 _ hl) fun hw => ?_
    rcases h2 hw with ⟨a', ha', _⟩ | ⟨r', hr', hF⟩
    · rw [hl] at ha'; cases ha'
    · rw [hl] at hr'; cases hr'; exact hF
  | _ => rw [hl] at hb; cases hb
theorem Gw.gd {K : Nat → Prop} (hK : ∀ b, K b → X b) {q : Own} {v w' : World} {es : Array Event} (h : Gw (cxG L me c X gho pin q) v w') (he : ∀ e ∈ es, EvOK (cxG L me c X gho pin q) w'.heap.size e) : Gd L c K me q v w' es := by
  refine ⟨h.grow, fun b _ hb => h.keep b ?_, h.tape, h.os, h.output, fun e hm => (he e hm).evg⟩
  rcases hb with h | h | h | h
  · exact .inl h
  · exact .inr (.inr (.inl h))
  · exact .inr (.inl (hK b h))
  · exact .inr (.inr (.inr h))
/-- a goroutine's own steps, up to a stop: the rule of steps -/
theorem runs_step {main : Bool} {K : Nat → Prop} {Stop : Own → Goroutine → World → Prop} (hK : ∀ b, K b → X b) {n : Nat} {p : Own} {g : Goroutine} {w : World} (hs : g.status = .running)
    (h : ∀ q v, Mv L c me p q w v → (stepG PG main g v).goes fun g' w' es => Gw (cxG L me c X gho pin q) v w' ∧ (∀ e ∈ es, EvOK (cxG L me c X gho pin q) w'.heap.size e) ∧ Runs PG L c main me K Stop n q g' w') : Runs PG L c main me K Stop (n + 1) p g w := by
  refine .inr ⟨hs, fun q v hm => ?_⟩
  have := h q v hm
  revert this
  cases stepG PG main g v <;> simp only [GStep.goes, imp_self]
  exact fun ⟨h1, h2, h3⟩ => ⟨h1.gd hK h2, h3⟩
/-- an operation that is a communication -/
theorem apply_comm {cx : Cx} {fr : Frame} {cs : List Frame} {t : Sem Next} {w : World} {cases_ : Array CommCase} {bl : Bool} {sh : CommShape} (hF : ∀ b, cx.F b → b < w.heap.size) (hk : fr.kind = .normal ∨ fr.kind = .deferred) (hs : wpS PG cx NoP t w fun nx w' => nx = .comm cases_ bl sh ∧ w' = w) :
    ∃ es, stepG.apply PG true fr cs none t w = .comm (G fr cs) cases_ bl sh w es ∧ ∀ e ∈ es, EvOK cx w.heap.size e := by
  obtain ⟨es', N, h1, h2⟩ := wpS_sound hF #[] hs
  have h3 : ∀ e ∈ seen PG fr.fn es', EvOK cx N e := seen_ok fun e he => (h1 e he).resolve_left (by simp)
  have hke : (fr.kind == CallKind.early) = false := by rcases hk with h | h <;> rw [h] <;> rfl
  rcases h2 with ⟨nx, w', h4, ⟨rfl, rfl⟩, h6, rfl⟩ | ⟨v, w', h4, h5, h6, rfl⟩
  · refine ⟨_, ?_, h3⟩
    unfold stepG.apply
    simp [h4, hke, GStep.after, G, -Sem.runT_eq]
  · exact h5.elim
theorem served_G {fr : Frame} {cs : List Frame} {x : Value} : Go.Conc.served (G fr cs) x = G (fr.finish x) cs := rfl
theorem core_G {fr : Frame} {cs : List Frame} : core (G fr cs) = G fr cs := rfl
end
end Go.Proofs.YtfpmbneglnoojaaGreatDoor.Ab
/- Goroutine 1: its script. -/
namespace Go.Proofs.YtfpmbneglnoojaaGreatDoor.Ab
open Go Go.Conc
set_option maxRecDepth 100000
noncomputable section
variable {Z : Phs} {L : Nat}
theorem sound_deferB {o : Oper} {c : Call} {e : Env} {s : St} (hop : o.op = .defer c) (hnf : ¬ isFail (hkDefer o c e s)) : SoundSp Z o e s (hkDefer o c e s) := by
  unfold hkDefer at hnf ⊢
  cases hcal : c.callee with
  | builtin bb =>
    simp only [hcal] at hnf ⊢
    cases hcl : isClose bb with
    | false => rw [hcl] at hnf; exact absurd ⟨_, rfl⟩ hnf
    | true =>
      rw [hcl, cond_true] at hnf
      rw [cond_true]
      cases hargs : mapG (opnd e) c.args.toList with
      | none => rw [hargs] at hnf; exact absurd ⟨_, rfl⟩ hnf
      | some args =>
        simp only [hargs] at hnf ⊢
        cases hc1 : clean s.d with
        | false => rw [hc1] at hnf; exact absurd ⟨_, rfl⟩ hnf
        | true =>
          rw [cond_true]
          intro ops i fn ho hg _
          show SoundO Z ops i o fn e s (.val _ _)
          refine ⟨1, fun p ρ w b a cs rest k m hb ha hc => ?_⟩
          rw [Nat.add_comm]
          refine Z.step p _ _ _ rfl fun p w1 hw => ?_
          replace hc := hc.shift (Z.mv_le hw) (Pst.refl _ _ _)
          have ha1 := ha.rel hw
          have hro := clean_none ha.dr hc1
          have hE := opnd_ok ha.er ha.glob
          rw [g_oper ho (wanted_ok ha.er hg) (.inl hro)]
          obtain ⟨k3, k4⟩ := mapG_ok hE hargs
          have hD : tD ρ { target := .builtin bb c.argTypes o.type (c.args.map isConst), args := ⟨args⟩ } = { target := .builtin bb c.argTypes o.type (c.args.map fun | .const _ => true | _ => false), args := c.args.map a.eval } := by
            simp only [tD, tT]
            congr 1
            apply Array.ext'
            rw [Array.toList_map, Array.toList_map, k4]
          have hx : execOp a.eval o = pure (.defer (tD ρ { target := .builtin bb c.argTypes o.type (c.args.map isConst), args := ⟨args⟩ })) := by
            rw [hD]
            unfold execOp
            rw [hop]
            simp only [resolve, hcal]
            rfl
          rw [hx]
          generalize hDD : tD ρ { target := .builtin bb c.argTypes o.type (c.args.map isConst), args := ⟨args⟩ } = DD
          refine apply_go (cx := Z.cx p) (E := NoP) (Q := fun nx w' => nx = .defer DD ∧ w' = w1) ha1.wr.deep ha.kind (by simp [plainTodo, Frame.atR]) ⟨rfl, rfl⟩ (fun nx w' es hq hG hE => ?_) fun v w' es hf => hf.elim
          obtain ⟨rfl, rfl⟩ := hq
          refine ⟨hG, hE, ?_⟩
          have hfr : ({ b.atR a (.inRegion ops (i :: rest) :: k) with defers := DD :: (b.atR a (.inRegion ops (i :: rest) :: k)).defers } : Frame) = b.atR { a with defers := DD :: a.defers } (.inRegion ops (i :: rest) :: k) := rfl
          rw [hfr, fin_atR ho]
          have hdr := ha.dr
          rw [hro] at hdr
          have hput : ∀ (x : Value), (Act.put { a with defers := DD :: a.defers } o.dst x).tmps = (a.put o.dst x).tmps := fun x => by cases o.dst <;> rfl
          rw [hput]
          have := hc p ρ w' cs (DD :: a.defers) (Z.refl p) ⟨ρ.le_refl, Nat.le_refl _, fun _ _ _ h => ⟨h, rfl⟩, CS.refl _ _⟩ ha1.wr (by simp [okV]) (by
            rw [hro]
            refine ⟨fun x hx => ?_, by simp [hdr.2, hDD]⟩
            rcases List.mem_cons.1 hx with rfl | hx
            · exact ⟨fun v hv => k3 v (by simpa using hv), trivial⟩
            · exact hdr.1 x hx) ha.rk
          have e1 : tV ρ (.tuple #[]) = undef := by simp [tV, undef]
          rw [e1] at this
          exact this
  | _ => rw [hcal] at hnf; exact absurd ⟨_, rfl⟩ hnf
/-- goroutine 1's phases: how many values it has sent -/
def pinS (bc bq c qu : Nat) : Nat → Nat → Prop := fun b k => (b = bc ∧ k = c) ∨ (b = bq ∧ k = qu)
def cxS (L bc bq c qu j : Nat) (p : Own) : Cx := cxG L true c (fun _ => False) (some (.iter none j [] 0)) (pinS bc bq c qu) p
def ZS (L bc bq c qu : Nat) (Tk : List Value) : Phs where
  T := Nat × Own
  main := false
  cx := fun t => cxS L bc bq c qu t.1 t.2
  fam := fun t n g w => Runs PG L c false true (fun _ => False) (StopS PG L c qu (Tk.drop t.1)) n t.2 g w
  base := fun _ => rfl
  le := fun s t => s.1 ≤ t.1
  refl := fun _ => Nat.le_refl _
  trans := Nat.le_trans
  mv := fun s t w v => s.1 = t.1 ∧ Mv L c true s.2 t.2 w v
  mv_le := fun h => Nat.le_of_eq h.1
  mv_wr := fun {p q w v ρ n h} hm hr => by
    obtain ⟨j, o⟩ := p
    obtain ⟨j', o'⟩ := q
    obtain ⟨h1, h2⟩ := hm
    simp only [] at h1 h2
    subst h1
    exact mv_wr h2 hr
  step := fun p n g w hs h => runs_step (X := fun _ => False) (gho := some (.iter none p.1 [] 0)) (pin := pinS bc bq c qu) (fun _ h => h) hs fun q v hm => h (p.1, q) v ⟨rfl, hm⟩
  more := fun _ _ _ _ h => h.more
theorem count_ok {o : Option AObj} {j : Nat} (h : count o = some j) : ∃ l k, o = some (.iter none j l k) := by
  unfold count at h
  split at h
  · cases h; exact ⟨_, _, rfl⟩
  · cases h
theorem sound_sel {bc bq c qu : Nat} {Tk : List Value} {o : Oper} {e : Env} {s : St} {c0 c1 x : Operand} {el0 el1 : TypeId} {cs : Array SelectCase} (hop : o.op = .select cs true) (hcs : cs.toList = [⟨c0, some x, el0⟩, ⟨c1, none, el1⟩])
    (hnf : ¬ isFail (hkSel2 bc bq Tk (opnd e c0) (opnd e c1) (opnd e x) el0 el1 s)) : SoundSp (ZS L bc bq c qu Tk) o e s (hkSel2 bc bq Tk (opnd e c0) (opnd e c1) (opnd e x) el0 el1 s) := by
  unfold hkSel2 at hnf ⊢
  split at hnf
  rotate_left
  · exact absurd ⟨_, rfl⟩ hnf
  · rename_i b0 b1 v h0 h1 hv
    cases hbb : (Nat.beq b0 bc && Nat.beq b1 bq) with
    | false => rw [hbb] at hnf; exact absurd ⟨_, rfl⟩ hnf
    | true =>
      rw [hbb, cond_true] at hnf
      rw [cond_true]
      rw [Bool.and_eq_true] at hbb
      obtain rfl := Nat.eq_of_beq_eq_true hbb.1
      obtain rfl := Nat.eq_of_beq_eq_true hbb.2
      cases hj : count (s.h.get GK) with
      | none => rw [hj] at hnf; exact absurd ⟨_, rfl⟩ hnf
      | some j =>
        simp only [hj] at hnf ⊢
        unfold hkSel3 at hnf ⊢
        cases hy : nth Tk j with
        | none => rw [hy] at hnf; exact absurd ⟨_, rfl⟩ hnf
        | some y =>
          cases hz1 : zeroV el1 with
          | none => rw [hy, hz1] at hnf; exact absurd ⟨_, rfl⟩ hnf
          | some zq =>
            cases hz0 : zeroV el0 with
            | none => rw [hy, hz1, hz0] at hnf; exact absurd ⟨_, rfl⟩ hnf
            | some z0 =>
              simp only [hy, hz1, hz0] at hnf ⊢
              cases hsame : (closedB 4 v && sameV 4 v y) with
              | false => rw [hsame] at hnf; exact absurd ⟨_, rfl⟩ hnf
              | true =>
                rw [cond_true]
                rw [Bool.and_eq_true] at hsame
                obtain rfl := sameV_ok 4 v y hsame.2
                have hvc := closedB_ok 4 v hsame.1
                intro ops i fn ho hg _
                show SoundO _ ops i o fn e s (.val _ _)
                refine ⟨0, fun p ρ w b a cs' rest k m hb ha hc => ?_⟩
                rw [Nat.zero_add]
                obtain ⟨jp, own⟩ := p
                have hgho : s.h.get GK = some (.iter none jp [] 0) := ha.wr.gho
                have hjj : jp = j := by
                  rw [hgho] at hj
                  exact Option.some.inj hj
                subst hjj
                rw [nth_eq] at hy
                have hdrop : Tk.drop jp = v :: Tk.drop (jp + 1) := by
                  obtain ⟨hlt, hval⟩ := List.getElem?_eq_some_iff.1 hy
                  rw [List.drop_eq_getElem_cons hlt, hval]
                show Runs PG L c false true (fun _ => False) (StopS PG L c qu (Tk.drop jp)) m own _ w
                rw [hdrop]
                have hstop : ∀ q v', Mv L c true own q w v' → StopS PG L c qu (v :: Tk.drop (jp + 1)) q (G (b.atR a (.inRegion ops (i :: rest) :: k)) cs') v' := by
                  intro q v' hm
                  have hwr : WR (cxS L b0 b1 c qu jp q) ρ s.n s.h v' := mv_wr hm ha.wr
                  have hE := opnd_ok ha.er ha.glob
                  obtain ⟨_, e0⟩ := hE c0 _ h0
                  obtain ⟨_, e1⟩ := hE c1 _ h1
                  obtain ⟨_, e2⟩ := hE x _ hv
                  obtain ⟨i0, hi0, hk0⟩ := hwr.pin b0 c (.inl ⟨rfl, rfl⟩)
                  obtain ⟨i1, hi1, hk1⟩ := hwr.pin b1 qu (.inr ⟨rfl, rfl⟩)
                  have e0' : a.eval c0 = .chan (some c) := by rw [e0]; simp [tV, tB, hi0, hk0]
                  have e1' : a.eval c1 = .chan (some qu) := by rw [e1]; simp [tV, tB, hi1, hk1]
                  rw [(hvc ρ).2] at e2
                  obtain ⟨cz1, in1, q1, q2⟩ := zeroV_ok hz1
                  obtain ⟨cz0, in0, q3, q4⟩ := zeroV_ok hz0
                  have hwp : wpS PG (cxS L b0 b1 c qu jp q) NoP (execOp a.eval o) v' fun nx w' => nx = .comm (selc c v z0 qu zq) true .select ∧ w' = v' := by
                    unfold execOp
                    rw [hop]
                    simp only []
                    rw [w_bind, Array.mapM_eq_mapM_toList, w_map, hcs]
                    simp only [List.mapM_cons, List.mapM_nil, w_bind, w_zeroValue, w_pure]
                    refine ⟨in0, z0, q3, q4, in1, zq, q1, q2, ?_, trivial⟩
                    simp [selc, scase, rcase, e0', e1', e2]
                  have hst : stepG PG false (G (b.atR a (.inRegion ops (i :: rest) :: k)) cs') v' = stepG.apply PG true (b.atR a (.inRegion ops (i :: rest) :: k)) cs' none (execOp a.eval o) v' := g_oper ho (wanted_ok ha.er hg) (.inr (by rw [hop]; simp))
                  obtain ⟨es, hcm, hes⟩ := apply_comm (fr := b.atR a (.inRegion ops (i :: rest) :: k)) (cs := cs') hwr.deep ha.kind hwp
                  refine ⟨rfl, G (b.atR a (.inRegion ops (i :: rest) :: k)) cs', z0, zq, es, by rw [hst]; exact hcm, fun e he => (hes e he).evg, fun q2 v2 hm2 => ?_⟩
                  rw [sends2_iff, served_G, fin_atR ho]
                  have hwr2 : WR (cxS L b0 b1 c qu (jp + 1) q2) ρ s.n (Tr.set (.iter none (fNat (jp + 1)) [] 0) 40 GK s.h) v2 := by
                    have hb2 : WR (cxS L b0 b1 c qu jp q2) ρ s.n s.h v2 := mv_wr hm2 hwr
                    rw [fNat_eq]
                    exact hb2.count _
                  refine ⟨m, ?_⟩
                  have hP : Pst ρ s cs' ρ { n := s.n, h := Tr.set (.iter none (fNat (jp + 1)) [] 0) 40 GK s.h, d := s.d, rk := s.rk } cs' := ⟨ρ.le_refl, Nat.le_refl _, fun b' hB hb' hn' => ⟨hn', by rw [set_get (by decide), if_neg (by unfold BASE at hB; unfold GK; omega)]⟩, CS.refl _ _⟩
                  have hval : okV ρ (.tuple #[.int .i64 (.ofNat 0), .bool false, zq]) ∧ tV ρ (.tuple #[.int .i64 (.ofNat 0), .bool false, zq]) = selV zq := by
                    refine ⟨?_, ?_⟩
                    · simp only [okV]
                      intro u hu
                      simp at hu
                      rcases hu with rfl | rfl | rfl
                      · simp [okV]
                      · simp [okV]
                      · exact (cz1 ρ).1
                    · simp [tV, selV, (cz1 ρ).2, goInt]
                  have := hc (jp + 1, q2) ρ v2 cs' a.defers (Nat.le_succ _) hP hwr2 hval.1 ha.dr ha.rk
                  rw [hval.2] at this
                  exact this
                cases m with
                | zero => exact hstop
                | succ m => exact .inl hstop
/-- goroutine 1's hooks are sound -/
theorem sound_hkS {bc bq c qu : Nat} {Tk : List Value} (o : Oper) (e : Env) (s : St) (hnf : ¬ isFail (hkS bc bq Tk o e s)) : SoundSp (ZS L bc bq c qu Tk) o e s (hkS bc bq Tk o e s) := by
  unfold hkS at hnf ⊢
  cases hop : o.op <;> simp only [hop] at hnf ⊢ <;> try (exact absurd ⟨_, rfl⟩ hnf)
  case defer cc => exact sound_deferB hop hnf
  case select cs bl =>
    split at hnf
    · rename_i c0 x el0 c1 el1 hcs
      exact sound_sel hop hcs hnf
    · exact absurd ⟨_, rfl⟩ hnf
theorem ev_S {bc bq c qu : Nat} {Tk : List Value} (n : Nat) : SoundI (ZS L bc bq c qu Tk) (ev (hkS bc bq Tk) noSpd n) :=
  ev_sound (fun o e s h => sound_hkS o e s h) (fun _ _ h => absurd ⟨_, rfl⟩ h) n
end
end Go.Proofs.YtfpmbneglnoojaaGreatDoor.Ab
/- Goroutine 1, from its start on: the values that it sends. -/
namespace Go.Proofs.YtfpmbneglnoojaaGreatDoor.Ab
open Go Go.Conc
set_option maxRecDepth 100000
noncomputable section
def scanF : Func := PG.funcs.getD SCAN default
theorem scan_1 : PG.funcs[SCAN]? = some scanF := by kernel_rfl
theorem scan_2 : scanF.body.isSome = true := by kernel_rfl
theorem scan_3 : scanF.results = #[] := by kernel_rfl
def scanC : Code := scanF.body.getD .skip
theorem scan_b : scanF.body = some scanC := by
  obtain ⟨c, hc⟩ := Option.isSome_iff_exists.1 scan_2
  unfold scanC
  rw [hc]
  rfl
/-- the child as a go statement makes it -/
def childOf (d : Deferred) : Goroutine := { frame := { (default : Frame) with fn := PG.funcs.size, defers := [d], mode := .panicking [goexitEntry] }, callers := [], status := .running, dying := none }
def scanD (T : ByteArray) (c qu : Nat) : Deferred := { target := .fn (.func SCAN) #[], args := #[.string T, .chan (some c), .chan (some qu)] }
def scanH : Tr AObj := Tr.set (.iter none 0 [] 0) 40 GK .leaf
def scanS : St := { n := 35, h := scanH, d := [], rk := none }
def scanArgs (T : ByteArray) : List Value := [.string T, .chan (some 33), .chan (some 34)]
def scanRho (c qu : Nat) : Rho := fun b => if b < NG then some ⟨b, 0, 1, 0⟩ else if b = 33 then some ⟨c, 0, 1, 0⟩ else if b = 34 then some ⟨qu, 0, 1, 0⟩ else none
theorem scanH_get (b : Nat) : scanH.get b = if b = GK then some (.iter none 0 [] 0) else none := by
  unfold scanH
  rw [set_get (by decide)]
  rfl
theorem scan_wr {L c qu : Nat} {own : Nat → Bool} {w : World} (hc : c < w.heap.size) (hq : qu < w.heap.size) (hN : NG ≤ L) (hL : L ≤ w.heap.size) : WR (cxS L 33 34 c qu 0 (own, w.heap.size)) (scanRho c qu) 35 scanH w := by
  have hnl : ∀ b i, scanRho c qu b = some i → ¬ live scanH b := by
    rintro b i hi ⟨x, hx, _⟩
    rw [scanH_get] at hx
    by_cases hb : b = GK
    · subst hb
      simp [scanRho, GK, NG] at hi
    · rw [if_neg hb] at hx; cases hx
  have hGK : scanRho c qu GK = none := by simp [scanRho, GK, NG]
  refine ⟨fun b i hi => ⟨?_, ?_, fun hl => absurd hl (hnl b i hi)⟩, fun b i hi _ hl => absurd hl (hnl b i hi), fun b i o hi ho => ?_, fun b i hi hb => ?_, fun b _ i _ hi _ _ _ hl => absurd hl (hnl b i hi), fun b hb => ?_, fun b hb => ?_, (by show BASE ≤ 35; decide), by decide, fun b o ho => ?_, by rw [scanH_get, if_pos rfl]; rfl, (by show GK < BASE; decide), fun b k hb => ?_, hGK⟩
  · unfold scanRho at hi
    split at hi
    · rename_i h; unfold NG at h; omega
    · split at hi
      · omega
      · split at hi
        · omega
        · cases hi
  · unfold scanRho at hi
    split at hi
    · rename_i h; cases hi; exact Nat.lt_of_lt_of_le h (Nat.le_trans hN hL)
    · split at hi
      · cases hi; exact hc
      · split at hi
        · cases hi; exact hq
        · cases hi
  · rw [scanH_get] at ho
    by_cases h : b = GK
    · subst h
      rw [hGK] at hi; cases hi
    · rw [if_neg h] at ho; cases ho
  · have hb' : b < 33 := hb
    unfold scanRho at hi
    split at hi
    · rename_i h; cases hi; exact Nat.lt_of_lt_of_le h hN
    · rename_i h
      rw [if_neg (by omega), if_neg (by omega)] at hi
      cases hi
  · rcases hb with h | h | h | ⟨_, h, _⟩
    · exact Nat.lt_of_lt_of_le h hL
    · exact h.elim
    · subst h; exact hc
    · exact h
  · rcases hb with h | ⟨_, h, _⟩
    · subst h; exact hc
    · exact h
  · rw [scanH_get] at ho
    by_cases h : b = GK
    · subst h; decide
    · rw [if_neg h] at ho; cases ho
  · rcases hb with ⟨rfl, rfl⟩ | ⟨rfl, rfl⟩
    · exact ⟨⟨k, 0, 1, 0⟩, by simp [scanRho, GK, NG], rfl⟩
    · exact ⟨⟨k, 0, 1, 0⟩, by simp [scanRho, GK, NG], rfl⟩
theorem scan_glob {c qu : Nat} : Glob (scanRho c qu) := fun g hg => ⟨⟨g, 0, 1, 0⟩, by unfold scanRho; rw [if_pos hg], rfl, rfl⟩
/-- how a goroutine that was started so begins -/
theorem g_child {T : ByteArray} {c qu : Nat} {w : World} : stepG PG false (childOf (scanD T c qu)) w = .go (G (Frame.enter PG SCAN #[.string T, .chan (some c), .chan (some qu)] .deferred) [{ (default : Frame) with fn := PG.funcs.size, defers := [], mode := .panicking [goexitEntry] }]) w := by
  have hrun : (invoke (.fn (.func SCAN) #[]) #[.string T, .chan (some c), .chan (some qu)]).runT PG w #[] = (.ok (.enter SCAN #[.string T, .chan (some c), .chan (some qu)]) w, #[]) := by
    have := invoke_run (cap := #[]) (args := #[.string T, .chan (some c), .chan (some qu)]) (w := w) scan_1 scan_b
    simpa using this
  have hseen : seen PG PG.funcs.size #[] = #[] := by simp [seen]
  simp [childOf, scanD, G, stepG, unwind, callDeferred, hrun, GStep.after, hseen, -Sem.runT_eq]
/-- .. and how it ends -/
theorem scan_quits {b : Frame} {tmps : Array Value} {todo : List Item} (hb : b.fn = SCAN) (hk : b.kind = .deferred) : QuitsIn PG 2 (G { b.atR { tmps := tmps, defers := [] } todo with mode := .returning } [{ (default : Frame) with fn := PG.funcs.size, defers := [], mode := .panicking [goexitEntry] }]) := by
  have hseen : ∀ f, seen PG f #[] = #[] := fun f => by simp [seen]
  refine .inr ⟨rfl, G { (default : Frame) with fn := PG.funcs.size, defers := [], mode := .panicking [goexitEntry] } [], fun w => ?_, .inr ⟨rfl, { frame := { (default : Frame) with fn := PG.funcs.size, defers := [], mode := .panicking [goexitEntry] }, callers := [], status := .finished, dying := none }, fun w => ?_, rfl⟩⟩
  · have hres : (Go.results scanF tmps).runT PG w #[] = (.ok (.tuple #[]) w, #[]) := by
      unfold Go.results
      rw [scan_3, Array.mapM_eq_mapM_toList]
      rfl
    simp [G, stepG, unwind, Frame.atR, hb, scan_1, hres, doReturn, hk, GStep.after, hseen, goexitEntry, -Sem.runT_eq]
  · simp [G, stepG, unwind, Frame.catches, goexitEntry]
    rfl
/-- the close, deferred -/
theorem g_close {b : Frame} {tmps : Array Value} {todo : List Item} {ts : Array TypeId} {ty : TypeId} {cst : Array Bool} {c s r : Nat} {tm : Bool} {ds : List Deferred} {cs : List Frame} {mn : Bool} {mode : FrameMode} (hm : mode ≠ .run) {w : World} (hc : w.heap[c]? = some (.chan 0 #[] false s r tm)) :
    stepG PG mn (G { b.atR { tmps := tmps, defers := { target := .builtin .close ts ty cst, args := #[.chan (some c)] } :: ds } todo with mode := mode } cs) w = .go (G { b.atR { tmps := tmps, defers := ds } todo with mode := mode } cs) (w.shut c s r tm) (#[⟨.obj c, false, true⟩].push ⟨.obj c, true, true⟩) := by
  have hrun : (invoke (.builtin .close ts ty cst) #[.chan (some c)]).runT PG w #[] = (.ok (.value (.tuple #[])) (w.shut c s r tm), #[⟨.obj c, false, true⟩, ⟨.obj c, true, true⟩]) := by
    obtain ⟨g, hcl⟩ : ∃ g : String, Builtin.close_ ts ty #[.chan (some c)] = (do
        let .chan room buf closed sent received timer ← getObj c | stuck g
        if closed then runtimePanic (.plain "close of closed channel")
        setObj c (.chan room buf true sent received timer)
        pure (.tuple #[])) := ⟨_, rfl⟩
    show (Sem.runT PG (do pure (Next.value (← Builtin.close_ ts ty #[.chan (some c)]))) w #[]) = _
    rw [hcl]
    show Sem.runT PG (Sem.bind (Sem.bind (Sem.getObj c Sem.pure) _) _) w #[] = _
    simp only [Sem.bind, Sem.runT, hc]
    show Sem.runT PG (Sem.bind (Sem.bind (Sem.setObj c _ (Sem.pure ())) _) _) w _ = _
    simp only [Sem.bind, Sem.runT, hc]
    rfl
  have hseen : ∀ f, seen PG f #[⟨.obj c, false, true⟩, ⟨.obj c, true, true⟩] = #[⟨.obj c, false, true⟩, ⟨.obj c, true, true⟩] := fun f => by simp [seen]
  cases mode with
  | run => exact absurd rfl hm
  | _ => simp [G, stepG, unwind, Frame.atR, callDeferred, hrun, GStep.after, hseen, -Sem.runT_eq]
end
end Go.Proofs.YtfpmbneglnoojaaGreatDoor.Ab
/- Goroutine 1, from its start on: it sends what the list says, closes and leaves. -/
namespace Go.Proofs.YtfpmbneglnoojaaGreatDoor.Ab
open Go Go.Conc
set_option maxRecDepth 100000
noncomputable section
def botF : Frame := { (default : Frame) with fn := PG.funcs.size, defers := [], mode := .panicking [goexitEntry] }
/-- what the evaluator is to say of scan -/
def scanEnds (len : Nat) (out : Out) : Prop := ∃ e1 s1 ts ty cst, (out = .norm e1 s1 ∨ out = .ret e1 s1) ∧ s1.d = [⟨.builtin .close ts ty cst, #[.chan (some 33)]⟩] ∧ count (s1.h.get GK) = some len
theorem scan_stop {L c qu : Nat} {Tk : List Value} {ρ' : Rho} {own' : Own} {s1 : St} {e1 : Env} {b : Frame} {a' : Act} {w' : World} {j' : Nat} {ts : Array TypeId} {ty : TypeId} {cst : Array Bool}
    (hb : b.fn = SCAN) (hk : b.kind = .deferred) (hro : b.roundOf = none) (hle : (scanRho c qu).le ρ') (hat : AtC (ZS L 33 34 c qu Tk) (j', own') ρ' w' e1 s1 b a' [botF])
    (hd : s1.d = [⟨.builtin .close ts ty cst, #[.chan (some 33)]⟩]) (hcnt : count (s1.h.get GK) = some Tk.length) (todo : List Item) (q : Own) (v : World) :
    StopS PG L c qu (Tk.drop j') q (G { b.atR a' todo with mode := .returning } [botF]) v := by
  have hgho : s1.h.get GK = some (.iter none j' [] 0) := hat.wr.gho
  rw [hgho] at hcnt
  have hj : j' = Tk.length := Option.some.inj hcnt
  rw [hj, List.drop_length]
  have hdr := hat.dr
  rw [hro] at hdr
  have h33 : ρ' 33 = some ⟨c, 0, 1, 0⟩ := hle _ _ (by simp [scanRho, GK, NG])
  have hdef : a'.defers = [{ target := .builtin .close ts ty cst, args := #[.chan (some c)] }] := by
    rw [hdr.2, hd]
    simp [tD, tT, tV, tB, h33]
  obtain ⟨tmps, defers⟩ := a'
  simp only [] at hdef
  subst hdef
  refine ⟨rfl, ?_, G { b.atR { tmps := tmps, defers := [] } todo with mode := .returning } [botF], 2, fun s r tm hc => ?_, scan_quits hb hk⟩
  · simp [mayWake, G, Frame.atR]
  · exact g_close (by simp) hc
theorem child_sends {T : ByteArray} {Tk : List Value} {N : Nat} {L c qu : Nat} {own : Nat → Bool} {w : World}
    (hev : scanEnds Tk.length (ev (hkS 33 34 Tk) noSpd N (.code SCAN scanC (entry (scanArgs T)) scanS)))
    (hc : c < w.heap.size) (hq : qu < w.heap.size) (hN : NG ≤ L) (hL : L ≤ w.heap.size) : Sends2 PG L c qu Tk (own, w.heap.size) (childOf (scanD T c qu)) w := by
  rw [sends2_iff]
  obtain ⟨e1, s1, ts, ty, cst, hout, hd, hcnt⟩ := hev
  have hC : SoundC (ZS L 33 34 c qu Tk) SCAN scanC (entry (scanArgs T)) scanS (ev (hkS 33 34 Tk) noSpd N (.code SCAN scanC (entry (scanArgs T)) scanS)) := by
    have hnf : ¬ isFail (ev (hkS 33 34 Tk) noSpd N (.code SCAN scanC (entry (scanArgs T)) scanS)) := by
      rintro ⟨x, hx⟩
      rcases hout with h | h <;> rw [h] at hx <;> cases hx
    exact (ev_S (L := L) (c := c) (qu := qu) N (.code SCAN scanC (entry (scanArgs T)) scanS) hnf).1
  obtain ⟨N1, h1⟩ := hC
  refine ⟨N1 + 1 + 1, (ZS L 33 34 c qu Tk).step (0, (own, w.heap.size)) (N1 + 1) _ _ rfl fun q v hm => ?_⟩
  obtain ⟨j, own', sz⟩ := q
  obtain ⟨h0, hm⟩ := hm
  simp only [] at h0 hm
  subst h0
  obtain rfl : sz = v.heap.size := hm.sz
  have hg := hm.grow
  show (stepG PG false (childOf (scanD T c qu)) v).goes _
  rw [g_child]
  refine ⟨Gw.refl _ _, by simp, ?_⟩
  have hargs : (#[.string T, .chan (some c), .chan (some qu)] : Array Value) = ((scanArgs T).map (tV (scanRho c qu))).toArray := by
    simp [scanArgs, tV, tB, scanRho, GK, NG]
  rw [hargs, enter_eq scan_1 scan_b]
  have hwr := scan_wr (own := own') (w := v) (Nat.lt_of_lt_of_le hc hg) (Nat.lt_of_lt_of_le hq hg) hN (Nat.le_trans hL hg)
  refine h1 (0, (own', v.heap.size)) (scanRho c qu) v _ _ _ [] 1 rfl ⟨hwr, fun t u hu => ?_, scan_glob, ?_, ⟨by simp [scanS], rfl⟩, ?_, .inr rfl⟩ ?_
  · rw [entry_get] at hu
    have hlt := (List.getElem?_eq_some_iff.1 hu).1
    refine ⟨?_, ?_⟩
    · have hmem := List.mem_of_getElem? hu
      simp only [scanArgs, List.mem_cons, List.not_mem_nil, or_false] at hmem
      rcases hmem with rfl | rfl | rfl
      · simp [okV]
      · simp only [okV]; intro x hx; cases hx; exact ⟨_, by simp [scanRho, GK, NG]; rfl⟩
      · simp only [okV]; intro x hx; cases hx; exact ⟨_, by simp [scanRho, GK, NG]; rfl⟩
    · rw [Array.getElem?_append_left (by simpa using hlt)]
      simp [hu]
  · rw [ntOf_eq scan_1]
    simp
    omega
  · intro _ fr hfr
    have hfr' : fr.kind = .deferred := hfr
    simp [tryRecover, hfr', goexitEntry]
  · have fin : ∀ (p' : (ZS L 33 34 c qu Tk).T) (ρ' : Rho) (w' : World) (a' : Act) (cs' : List Frame) (k' : List Item) (e' : Env) (s' : St), s' = s1 → Pst (scanRho c qu) scanS [botF] ρ' s' cs' → ∀ b : Frame, b.fn = SCAN → b.kind = .deferred → b.roundOf = none → AtC (ZS L 33 34 c qu Tk) p' ρ' w' e' s' b a' cs' → (∀ w, stepG PG false (G (b.atR a' k') cs') w = .go (G { b.atR a' k' with mode := .returning } cs') w) →
        (ZS L 33 34 c qu Tk).fam p' 1 (G (b.atR a' k') cs') w' := by
      intro p' ρ' w' a' cs' k' e' s' hs1 hq b hb hk hro hat hst
      subst hs1
      obtain rfl : cs' = [botF] := by
        rcases hq.rk with ⟨_, h⟩ | ⟨⟨v, hv⟩, _⟩
        · exact h
        · cases hv
      obtain ⟨j', own2⟩ := p'
      refine (ZS L 33 34 c qu Tk).step (j', own2) 0 _ _ rfl fun q2 v2 hm2 => ?_
      obtain ⟨j2, own3⟩ := q2
      have h0 : j' = j2 := hm2.1
      subst h0
      show (stepG PG false (G (b.atR a' k') [botF]) v2).goes _
      rw [hst]
      refine ⟨Gw.refl _ _, by simp, ?_⟩
      intro r u _
      exact scan_stop hb hk hro hq.le (hat.rel hm2) hd hcnt k' r u
    intro p' ρ' w' a' cs' hp
    rcases hout with h | h
    · rw [h]
      intro hq hat
      exact fin p' ρ' w' a' cs' [] e1 s1 rfl hq _ rfl rfl rfl hat fun w => g_end rfl
    · rw [h]
      intro hq hat k'
      exact fin p' ρ' w' a' cs' _ e1 s1 rfl hq _ rfl rfl rfl hat fun w => g_ret rfl
end
end Go.Proofs.YtfpmbneglnoojaaGreatDoor.Ab
/- Goroutine 0: alone, with the other one, behind the closed channel, behind the close of the other channel. -/
namespace Go.Proofs.YtfpmbneglnoojaaGreatDoor.Ab
open Go Go.Conc Go.RowKit
set_option maxRecDepth 100000
noncomputable section
inductive TM
  | A
  | D (bc bq c qu j : Nat) (own : Own)
  | B (bc bq c qu : Nat) (own : Own)
  | E (bc bq c qu : Nat) (own : Own)
def cxA (L : Nat) : Cx where
  base := BASE
  F := fun b => b < L
  lo := L
  subL := fun _ h => h
  C := fun _ => False
  sub := fun _ h => h.elim
  gho := none
  pin := fun _ _ => False
def cxD (L bc bq c qu j : Nat) (own : Own) : Cx := cxG L false c (· = qu) (some (.iter none j [bc, bq] 0)) (pinS bc bq c qu) own
def cxB (L k bc bq c qu : Nat) (own : Own) : Cx where
  base := BASE
  F := (cxD L bc bq c qu 0 own).F
  lo := L
  subL := fun _ h => .inl h
  C := fun b => b = c
  sub := fun _ h => .inr (.inr (.inl h))
  gho := some (.iter none 0 [bc, bq] k)
  pin := pinS bc bq c qu
def cxM (L : Nat) : TM → Cx
  | .A => cxA L
  | .D bc bq c qu j own => cxD L bc bq c qu j own
  | .B bc bq c qu own => cxB L 1 bc bq c qu own
  | .E bc bq c qu own => cxB L 2 bc bq c qu own
/-- a channel of that kind, open -/
def Op (qu : Nat) (w : World) : Prop := ∃ s r tm, w.heap[qu]? = some (.chan 0 #[] false s r tm)
theorem Op.aside {c qu : Nat} {w v : World} (hne : c ≠ qu) (h : Op qu w) (ha : Aside c w v) : Op qu v := by
  obtain ⟨s, r, tm, h⟩ := h
  exact ⟨s, r, tm, by rw [ha.block qu (Ne.symm hne)]; exact h⟩
theorem Op.lt {qu : Nat} {w : World} (h : Op qu w) : qu < w.heap.size := by
  obtain ⟨s, r, tm, h⟩ := h
  exact lt_size_of_getElem?' h
/-- the count is turned: any context -/
theorem WR.gho' {cx cx' : Cx} {ρ : Rho} {n : Nat} {h : Tr AObj} {w : World} {o : AObj} (hb : cx'.base = BASE) (hb0 : cx.base = BASE) (hlo : cx'.lo = cx.lo) (hF : ∀ b, cx'.F b ↔ cx.F b) (hC : ∀ b, cx'.C b → cx.C b) (hp : ∀ b k, cx'.pin b k → cx.pin b k) (hg : cx'.gho = some o) (hr : WR cx ρ n h w) : WR cx' ρ n (Tr.set o 40 GK h) w := by
  have hG : GK < 2 ^ 39 := by decide
  have hne : ∀ b i, ρ b = some i → b ≠ GK := fun b i hi e => by
    subst e
    rw [hr.gn] at hi
    cases hi
  have hlive : ∀ b i, ρ b = some i → live (Tr.set o 40 GK h) b → live h b := fun b i hi ⟨x, hx, hd⟩ => ⟨x, by rwa [set_get hG, if_neg (hne b i hi)] at hx, hd⟩
  have hbn := hr.bn
  refine ⟨fun b i hi => ?_, fun b i hi hB hl hFb => hr.low b i hi (by rw [hb0]; rw [hb] at hB; exact hB) (hlive b i hi hl) ((hF _).1 hFb), fun b i o' hi ho => ?_, fun b i hi hB => by rw [hlo]; exact hr.lowF b i hi (by rw [hb0]; rw [hb] at hB; exact hB), fun b c' i j hi hj h1 h2 l1 l2 he => hr.inj b c' i j hi hj (by rw [hb0]; rw [hb] at h1; exact h1) (by rw [hb0]; rw [hb] at h2; exact h2) (hlive b i hi l1) (hlive c' j hj l2) he, fun b hb' => hr.deep b ((hF b).1 hb'), fun b hb' => hr.deepC b (hC b hb'), by rw [hb]; rw [hb0] at hbn; exact hbn, hr.small, fun b o' ho => ?_, by rw [set_get hG, if_pos rfl, hg], by rw [hb]; decide, fun b k hk => hr.pin b k (hp b k hk), hr.gn⟩
  · obtain ⟨d1, d2, d3⟩ := hr.dom b i hi
    exact ⟨d1, d2, fun hl hc => d3 (hlive b i hi hl) (hC _ hc)⟩
  · rw [set_get hG, if_neg (hne b i hi)] at ho
    have := hr.obj b i o' hi ho
    rw [hb0] at this
    rw [hb]
    exact this
  · rw [set_get hG] at ho
    by_cases hg : b = GK
    · subst hg
      rw [hb0] at hbn
      exact Nat.lt_of_lt_of_le (by decide) hbn
    · rw [if_neg hg] at ho
      exact hr.old b o' ho
/-- the go statement: two channels are handed on -/
theorem WR.fork {L : Nat} {ρ : Rho} {n : Nat} {h : Tr AObj} {w : World} {bc bq : Nat} {i i' : Img} (hr : WR (cxA L) ρ n h w) (hi : ρ bc = some i) (hi' : ρ bq = some i') (hB : BASE ≤ bc) (hB' : BASE ≤ bq) (hne : bc ≠ bq) (hl : live h bc) (hl' : live h bq) :
    i.blk ≠ i'.blk ∧ L ≤ i.blk ∧ L ≤ i'.blk ∧ WR (cxD L bc bq i.blk i'.blk 0 ((fun b => decide (b = i.blk)), w.heap.size)) ρ n (Tr.set (.iter none 0 [bc, bq] 0) 40 GK (Tr.set .dead 40 bc (Tr.set .dead 40 bq h))) w := by
  have hn1 := (hr.dom bc i hi).1
  have hn2 := (hr.dom bq i' hi').1
  have hsm := hr.small
  have hG : GK < 2 ^ 39 := by decide
  have e1 : bc < 2 ^ 39 := by omega
  have e2 : bq < 2 ^ 39 := by omega
  have n1 : i.blk ≠ i'.blk := fun he => hne (hr.inj bc bq i i' hi hi' hB hB' hl hl' he)
  have g1 : L ≤ i.blk := Nat.le_of_not_lt (hr.low bc i hi hB hl)
  have g2 : L ≤ i'.blk := Nat.le_of_not_lt (hr.low bq i' hi' hB' hl')
  have hk := (hr.kill hn2 hB').kill (b := bc) hn1 hB
  have hne' : ∀ b k, ρ b = some k → b ≠ GK := fun b k hb e => by
    subst e
    rw [hr.gn] at hb
    cases hb
  have key : ∀ b k, ρ b = some k → live (Tr.set (.iter none 0 [bc, bq] 0) 40 GK (Tr.set .dead 40 bc (Tr.set .dead 40 bq h))) b → live h b ∧ b ≠ bc ∧ b ≠ bq := by
    rintro b k hb ⟨x, hx, hd⟩
    rw [set_get hG, if_neg (hne' b k hb), set_get e1] at hx
    by_cases h1 : b = bc
    · rw [if_pos h1] at hx; cases hx; exact absurd rfl hd
    · rw [if_neg h1, set_get e2] at hx
      by_cases h2 : b = bq
      · rw [if_pos h2] at hx; cases hx; exact absurd rfl hd
      · rw [if_neg h2] at hx
        exact ⟨⟨x, hx, hd⟩, h1, h2⟩
  have dif : ∀ b k, ρ b = some k → live (Tr.set (.iter none 0 [bc, bq] 0) 40 GK (Tr.set .dead 40 bc (Tr.set .dead 40 bq h))) b → k.blk ≠ i.blk ∧ k.blk ≠ i'.blk := by
    intro b k hb hlb
    obtain ⟨h1, h2, h3⟩ := key b k hb hlb
    by_cases hlow : BASE ≤ b
    · exact ⟨fun he => h2 (hr.inj b bc k i hb hi hlow hB h1 hl he), fun he => h3 (hr.inj b bq k i' hb hi' hlow hB' h1 hl' he)⟩
    · have : k.blk < L := hr.lowF b k hb (Nat.lt_of_not_le hlow)
      exact ⟨by omega, by omega⟩
  refine ⟨n1, g1, g2, fun b k hb => ⟨(hr.dom b k hb).1, (hr.dom b k hb).2.1, fun hlb => ?_⟩, fun b k hb hlow hlb => ?_, fun b k o hb ho => ?_, fun b k hb hlow => hr.lowF b k hb hlow, fun b c k l hb hc h1 h2 l1 l2 he => hr.inj b c k l hb hc h1 h2 (key b k hb l1).1 (key c l hc l2).1 he, fun b hb => ?_, fun b hb => ?_, hr.bn, hr.small, fun b o ho => ?_, by rw [set_get hG, if_pos rfl]; rfl, hr.gk, fun b k hk => ?_, hr.gn⟩
  · rintro (h1 | ⟨_, _, h1⟩)
    · exact (dif b k hb hlb).1 h1
    · exact (dif b k hb hlb).1 (of_decide_eq_true h1)
  · obtain ⟨h1, h2⟩ := dif b k hb hlb
    rintro (h3 | h3 | h3 | ⟨_, _, h3⟩)
    · exact hr.low b k hb hlow (key b k hb hlb).1 h3
    · exact h2 h3
    · exact h1 h3
    · exact h1 (of_decide_eq_true h3)
  · rw [set_get hG, if_neg (hne' b k hb)] at ho
    exact hk.obj b k o hb ho
  · rcases hb with h3 | h3 | h3 | ⟨_, h3, _⟩
    · exact hr.deep b h3
    · subst h3; exact (hr.dom bq i' hi').2.1
    · subst h3; exact (hr.dom bc i hi).2.1
    · exact h3
  · rcases hb with h3 | ⟨_, h3, _⟩
    · subst h3; exact (hr.dom bc i hi).2.1
    · exact h3
  · rw [set_get hG] at ho
    by_cases hg : b = GK
    · subst hg
      exact Nat.lt_of_lt_of_le hr.gk hr.bn
    · rw [if_neg hg] at ho
      exact hk.old b o ho
  · rcases hk with ⟨rfl, rfl⟩ | ⟨rfl, rfl⟩
    · exact ⟨i, hi, rfl⟩
    · exact ⟨i', hi', rfl⟩
theorem WR.toB {L : Nat} {ρ : Rho} {n : Nat} {h : Tr AObj} {w : World} {bc bq c qu j : Nat} {own : Own} (hr : WR (cxD L bc bq c qu j own) ρ n h w) : WR (cxB L 1 bc bq c qu own) ρ n (Tr.set (.iter none 0 [bc, bq] 1) 40 GK h) w :=
  WR.gho' (cx := cxD L bc bq c qu j own) (cx' := cxB L 1 bc bq c qu own) rfl rfl rfl (fun _ => Iff.rfl) (fun _ h => Or.inl h) (fun _ _ h => h) rfl hr
theorem WR.nextD {L : Nat} {ρ : Rho} {n : Nat} {h : Tr AObj} {w : World} {bc bq c qu j j' : Nat} {own : Own} (hr : WR (cxD L bc bq c qu j own) ρ n h w) : WR (cxD L bc bq c qu j' own) ρ n (Tr.set (.iter none j' [bc, bq] 0) 40 GK h) w :=
  WR.gho' (cx := cxD L bc bq c qu j own) (cx' := cxD L bc bq c qu j' own) rfl rfl rfl (fun _ => Iff.rfl) (fun _ h => h) (fun _ _ h => h) rfl hr
/-- aside of one block that is not read -/
theorem aside_wr {cx : Cx} {c : Nat} (hC : cx.C c) {ρ : Rho} {n : Nat} {h : Tr AObj} {w v : World} (ha : Aside c w v) (hr : WR cx ρ n h w) : WR cx ρ n h v :=
  hr.rely (by rw [ha.size]; exact Nat.le_refl _) fun b _ hn => ha.block b fun e => hn (e ▸ hC)
/-- the other channel is closed -/
theorem WR.toE {L : Nat} {ρ : Rho} {n : Nat} {h : Tr AObj} {w : World} {bc bq c qu : Nat} {own : Own} (hq : L ≤ qu) (hqs : qu < w.heap.size) (O : Obj) (hr : WR (cxB L 1 bc bq c qu own) ρ n h w) : WR (cxB L 2 bc bq c qu own) ρ n (Tr.set (.iter none 0 [bc, bq] 2) 40 GK h) { w with heap := w.heap.setIfInBounds qu O } := by
  have h2 : WR (cxB L 2 bc bq c qu own) ρ n (Tr.set (.iter none 0 [bc, bq] 2) 40 GK h) w := WR.gho' (cx := cxB L 1 bc bq c qu own) (cx' := cxB L 2 bc bq c qu own) rfl rfl rfl (fun _ => Iff.rfl) (fun _ h => h) (fun _ _ h => h) rfl hr
  have hdif : ∀ b i, ρ b = some i → live (Tr.set (.iter none 0 [bc, bq] 2) 40 GK h) b → i.blk ≠ qu := by
    intro b i hi hl he
    by_cases hlow : BASE ≤ b
    · exact h2.low b i hi hlow hl (.inr (.inl he))
    · have : i.blk < L := hr.lowF b i hi (Nat.lt_of_not_le hlow)
      omega
  refine ⟨fun b i hi => ?_, h2.low, fun b i o hi ho => ?_, h2.lowF, h2.inj, fun b hb => by simpa using h2.deep b hb, fun b hb => by simpa using h2.deepC b hb, h2.bn, h2.small, h2.old, h2.gho, h2.gk, h2.pin, h2.gn⟩
  · have := h2.dom b i hi
    simpa using this
  · by_cases hd : o = .dead
    · subst hd; trivial
    · exact OR_heap (by simp [Ne.symm (hdif b i hi ⟨o, ho, hd⟩)]) (h2.obj b i o hi ho)
section
/-- what is to be so in a phase -/
def Rdy (L c qu : Nat) (own : Own) (w : World) : Prop := c ≠ qu ∧ L ≤ qu ∧ own.1 qu = false ∧ qu < own.2 ∧ Op qu w
/-- the start's memory is as it was -/
def Lo (L c : Nat) (W0 w : World) : Prop := Below L W0 w ∧ L ≤ c ∧ L ≤ W0.heap.size
theorem Lo.mv {L c : Nat} {me : Bool} {W0 w v : World} {own own' : Own} (h : Lo L c W0 w) (hm : Mv L c me own own' w v) : Lo L c W0 v := by
  obtain ⟨h1, h2, h3⟩ := h
  have hs := h1.size
  refine ⟨⟨hm.os.trans h1.os, hm.tape.trans h1.tape, hm.output.trans h1.output, Nat.le_trans hs hm.grow, fun k hk => ?_⟩, h2, h3⟩
  rw [hm.keep k (by omega) (by omega) fun h => by omega]
  exact h1.block k hk
theorem Lo.aside {L c : Nat} {W0 w v : World} (h : Lo L c W0 w) (ha : Aside c w v) : Lo L c W0 v := by
  obtain ⟨h1, h2, h3⟩ := h
  refine ⟨⟨ha.os.trans h1.os, ha.tape.trans h1.tape, ha.output.trans h1.output, by rw [ha.size]; exact h1.size, fun k hk => ?_⟩, h2, h3⟩
  rw [ha.block k (by omega)]
  exact h1.block k hk
theorem Lo.gw {L c : Nat} {W0 v w : World} {cx : Cx} (h : Lo L c W0 v) (hg : Gw cx v w) (hF : ∀ b, b < L → cx.F b) : Lo L c W0 w := by
  obtain ⟨h1, h2, h3⟩ := h
  refine ⟨⟨hg.os.trans h1.os, hg.tape.trans h1.tape, hg.output.trans h1.output, Nat.le_trans h1.size hg.grow, fun k hk => ?_⟩, h2, h3⟩
  rw [hg.keep k (hF k hk)]
  exact h1.block k hk
theorem Lo.set {L c q : Nat} {W0 v : World} (h : Lo L c W0 v) (hq : L ≤ q) (O : Obj) : Lo L c W0 { v with heap := v.heap.setIfInBounds q O } := by
  obtain ⟨h1, h2, h3⟩ := h
  refine ⟨⟨h1.os, h1.tape, h1.output, by simpa using h1.size, fun k hk => ?_⟩, h2, h3⟩
  rw [← h1.block k hk]
  have : q ≠ k := by omega
  simp [this]
def famM (W0 : World) (L : Nat) (Tk : List Value) (Z0 : Value) (Post : Value → World → Prop) : TM → Nat → Goroutine → World → Prop
  | .A => fun n g w => Lo L L W0 w → Goes PG true Eq D0 (AtGo2 PG L Post) n g w
  | .D _ _ c qu j own => fun n g w => Lo L c W0 w → Rdy L c qu own w → Runs PG L c true false (· = qu) (StopM PG L c qu Z0 (Ret2 PG c Post) (Tk.drop j)) n own g w
  | .B _ _ c qu _ => fun n g w => Lo L c W0 w → c ≠ qu → L ≤ qu → Op qu w → Goes PG true (Aside c) DF (AtRet PG Post) n g w
  | .E _ _ c _ _ => fun n g w => Lo L c W0 w → Goes PG true (Aside c) DF (AtRet PG Post) n g w
def mvM (L : Nat) : TM → TM → World → World → Prop
  | .A, .A => fun w v => w = v
  | .D bc bq c qu j own, .D bc' bq' c' qu' j' own' => fun w v => (bc = bc' ∧ bq = bq' ∧ c = c' ∧ qu = qu' ∧ j = j') ∧ Mv L c false own own' w v
  | .B bc bq c qu own, .B bc' bq' c' qu' own' => fun w v => (bc = bc' ∧ bq = bq' ∧ c = c' ∧ qu = qu' ∧ own = own') ∧ Aside c w v
  | .E bc bq c qu own, .E bc' bq' c' qu' own' => fun w v => (bc = bc' ∧ bq = bq' ∧ c = c' ∧ qu = qu' ∧ own = own') ∧ Aside c w v
  | _, _ => fun _ _ => False
theorem Rdy.mv {L c qu : Nat} {own own' : Own} {w v : World} (h : Rdy L c qu own w) (hm : Mv L c false own own' w v) : Rdy L c qu own' v := by
  obtain ⟨h1, h2, h3, h4, s, r, tm, h5⟩ := h
  have ha := hm.a
  have hs := hm.sz
  have hg := hm.grow
  refine ⟨h1, h2, by rw [hm.old qu h4]; exact h3, by omega, s, r, tm, ?_⟩
  rw [hm.keep qu (by omega) (Ne.symm h1) fun ⟨_, _, h⟩ => by rw [h3] at h; cases h]
  exact h5
theorem EvOK.neutral {cx : Cx} {N : Nat} {e : Event} (h : EvOK cx N e) : ∀ m, e.loc = .mark m → Neutral m := fun m hm => h.1 m hm
def ZM (W0 : World) (L : Nat) (Tk : List Value) (Z0 : Value) (Post : Value → World → Prop) : Phs where
  T := TM
  main := true
  cx := cxM L
  fam := famM W0 L Tk Z0 Post
  base := fun p => by cases p <;> rfl
  le := fun _ _ => True
  refl := fun _ => trivial
  trans := fun _ _ => trivial
  mv := mvM L
  mv_le := fun _ => trivial
  mv_wr := fun {p q w v ρ n h} hm hr => by
    cases p <;> cases q <;> first | exact hm.elim | skip
    · obtain rfl : w = v := hm
      exact hr
    · obtain ⟨⟨rfl, rfl, rfl, rfl, rfl⟩, hm⟩ := hm
      exact mv_wr hm hr
    · obtain ⟨⟨rfl, rfl, rfl, rfl, rfl⟩, hm⟩ := hm
      exact aside_wr (cx := cxB L 1 _ _ _ _ _) rfl hm hr
    · obtain ⟨⟨rfl, rfl, rfl, rfl, rfl⟩, hm⟩ := hm
      exact aside_wr (cx := cxB L 2 _ _ _ _ _) rfl hm hr
  step := fun p n g w hs h => by
    cases p with
    | A =>
      intro hlo
      refine .step hs fun v hv => ?_
      have hlo : Lo L L W0 v := by obtain rfl : w = v := hv; exact hlo
      have := h .A v hv
      revert this
      cases stepG PG true g v <;> simp only [GStep.goes, imp_self]
      exact fun ⟨h1, h2, h3⟩ => ⟨fun e he => (h2 e he).neutral, h3 (hlo.gw h1 fun _ h => h)⟩
    | D bc bq c qu j own =>
      intro hlo hR
      refine runs_step (X := (· = qu)) (gho := some (.iter none j [bc, bq] 0)) (pin := pinS bc bq c qu) (fun _ h => h) hs fun q v hm => ?_
      have hR1 := hR.mv hm
      have hlo1 := hlo.mv hm
      have := h (.D bc bq c qu j q) v ⟨⟨rfl, rfl, rfl, rfl, rfl⟩, hm⟩
      revert this
      cases stepG PG true g v <;> simp only [GStep.goes, imp_self]
      rintro ⟨h1, h2, h3⟩
      refine ⟨h1, h2, h3 (hlo1.gw h1 fun _ h => Or.inl h) ?_⟩
      obtain ⟨r1, r2, r3, r4, s, r, tm, r5⟩ := hR1
      exact ⟨r1, r2, r3, r4, s, r, tm, by rw [h1.keep qu (.inr (.inl rfl))]; exact r5⟩
    | B bc bq c qu own =>
      intro hlo hne hq hop
      refine .step hs fun v hv => ?_
      have hlo1 := hlo.aside hv
      have hop1 := hop.aside hne hv
      have := h (.B bc bq c qu own) v ⟨⟨rfl, rfl, rfl, rfl, rfl⟩, hv⟩
      revert this
      cases stepG PG true g v <;> simp only [GStep.goes, imp_self]
      rintro ⟨h1, h2, h3⟩
      refine ⟨fun e he => (h2 e he).neutral, h3 (hlo1.gw h1 fun _ h => Or.inl h) hne hq ?_⟩
      obtain ⟨s, r, tm, r5⟩ := hop1
      exact ⟨s, r, tm, by rw [h1.keep qu (.inr (.inl rfl))]; exact r5⟩
    | E bc bq c qu own =>
      intro hlo
      refine .step hs fun v hv => ?_
      have hlo1 := hlo.aside hv
      have := h (.E bc bq c qu own) v ⟨⟨rfl, rfl, rfl, rfl, rfl⟩, hv⟩
      revert this
      cases stepG PG true g v <;> simp only [GStep.goes, imp_self]
      rintro ⟨h1, h2, h3⟩
      exact ⟨fun e he => (h2 e he).neutral, h3 (hlo1.gw h1 fun _ h => Or.inl h)⟩
  more := fun p n g w h => by
    cases p with
    | A => exact fun hl => Goes.more (h hl)
    | D _ _ c qu j own => exact fun hl hR => (h hl hR).more
    | B _ _ c qu own => exact fun hl h1 h2 h3 => Goes.more (h hl h1 h2 h3)
    | E _ _ c qu own => exact fun hl => Goes.more (h hl)
end
end
end Go.Proofs.YtfpmbneglnoojaaGreatDoor.Ab
/- Goroutine 0's hooks are sound. -/
namespace Go.Proofs.YtfpmbneglnoojaaGreatDoor.Ab
open Go Go.Conc
set_option maxRecDepth 100000
noncomputable section
variable {W0 : World} {L : Nat} {T : ByteArray} {Tk : List Value} {Z0 : Value} {Post : Value → World → Prop}
/-- the phase is seen -/
theorem phase_A {p : TM} {ρ : Rho} {n : Nat} {h : Tr AObj} {w : World} (hr : WR (cxM L p) ρ n h w) (hg : h.get GK = none) : p = .A := by
  have := hr.gho
  rw [hg] at this
  cases p <;> first | rfl | cases this
theorem phase_D {p : TM} {ρ : Rho} {n : Nat} {h : Tr AObj} {w : World} {bc bq j : Nat} (hr : WR (cxM L p) ρ n h w) (hg : h.get GK = some (.iter none j [bc, bq] 0)) : ∃ c qu own, p = .D bc bq c qu j own := by
  have := hr.gho
  rw [hg] at this
  cases p <;> cases this
  exact ⟨_, _, _, rfl⟩
theorem phase_B {p : TM} {ρ : Rho} {n : Nat} {h : Tr AObj} {w : World} {bc bq j : Nat} (hr : WR (cxM L p) ρ n h w) (hg : h.get GK = some (.iter none j [bc, bq] 1)) : ∃ c qu own, p = .B bc bq c qu own := by
  have := hr.gho
  rw [hg] at this
  cases p <;> cases this
  exact ⟨_, _, _, rfl⟩
theorem phase_E {p : TM} {ρ : Rho} {n : Nat} {h : Tr AObj} {w : World} {bc bq j : Nat} (hr : WR (cxM L p) ρ n h w) (hg : h.get GK = some (.iter none j [bc, bq] 2)) : ∃ c qu own, p = .E bc bq c qu own := by
  have := hr.gho
  rw [hg] at this
  cases p <;> cases this
  exact ⟨_, _, _, rfl⟩
theorem ghost_pst {ρ : Rho} {s : St} {cs : List Frame} {o : AObj} {h : Tr AObj} (hk : ∀ b, BASE ≤ b → ρ b = none → h.get b = s.h.get b) : Pst ρ s cs ρ (ghost s o h) cs :=
  ⟨ρ.le_refl, Nat.le_refl _, fun b' hB _ hn' => ⟨hn', by
    show (Tr.set o 40 GK h).get b' = _
    rw [set_get (by decide), if_neg (by unfold BASE at hB; unfold GK; omega)]
    exact hk b' hB hn'⟩, CS.refl _ _⟩
theorem chanEl_ok {d : TypeDesc} {el : TypeId} (h : chanEl d = some el) : ∃ dir, d = .chan dir el := by
  cases d <;> cases h
  exact ⟨_, rfl⟩
theorem sound_recv {ty : TypeId} {x : Operand} {ok : Bool} {o : Oper} {e : Env} {s : St} (hop : o.op = .recv ty x ok) (hz0 : zeroV ITEM = some Z0)
    (hnf : ¬ isFail (hkRecv Tk ty ok (opnd e x) s)) : SoundSp (ZM W0 L Tk Z0 Post) o e s (hkRecv Tk ty ok (opnd e x) s) := by
  unfold hkRecv at hnf ⊢
  split at hnf
  rotate_left
  · exact absurd ⟨_, rfl⟩ hnf
  · rename_i b el hx hel
    obtain ⟨dir, hdir⟩ := chanEl_ok hel
    have hund : PG.underlying ty = some (.chan dir el) := desc_ok hdir (by simp)
    cases hok : (ok && Nat.beq el ITEM) with
    | false => rw [hok] at hnf; exact absurd ⟨_, rfl⟩ hnf
    | true =>
      rw [hok, cond_true, hz0] at hnf
      rw [cond_true, hz0]
      rw [Bool.and_eq_true] at hok
      obtain ⟨rfl, hel2⟩ := hok
      obtain rfl := Nat.eq_of_beq_eq_true hel2
      unfold hkRecv2 at hnf ⊢
      split at hnf
      rotate_left
      · exact absurd ⟨_, rfl⟩ hnf
      · rename_i j bc bq z hg hz
        cases hz
        cases hbb : Nat.beq b bc with
        | false => rw [hbb] at hnf; exact absurd ⟨_, rfl⟩ hnf
        | true =>
          obtain rfl := Nat.eq_of_beq_eq_true hbb
          rw [hbb, cond_true] at hnf
          rw [cond_true]
          obtain ⟨cz, inf, q1, q2⟩ := zeroV_ok hz0
          -- what is asked, step by step
          have core1 : ∀ {ops : Array Oper} {i : Nat} {fn : FuncId} (ho : ops[i]? = some o) (hgd : guardOk ops o.guard e = some true) {c qu : Nat} {own : Own} {ρ : Rho} {w : World} {fb : Frame} {a : Act} {cs' : List Frame} {rest : List Nat} {k : List Item} (ha : AtC (ZM W0 L Tk Z0 Post) (.D b bq c qu j own) ρ w e s fb a cs') (v y : Value) (q : Own) (v' : World) (hm : Mv L c false own q w v') (Next : Own → Goroutine → World → Prop)
              (hnext : ∀ q2 v2, Mv L c false q q2 v' v2 → Next q2 (G (fb.atR { tmps := (a.put o.dst (.tuple #[v, y])).tmps, defers := a.defers } (.inRegion ops rest :: k)) cs') v2),
              AtRecv2 PG L c Z0 (.tuple #[v, y]) Next q (G (fb.atR a (.inRegion ops (i :: rest) :: k)) cs') v' := by
            intro ops i fn ho hgd c qu own ρ w fb a cs' rest k ha v y q v' hm Next hnext
            have hwr : WR (cxD L b bq c qu j q) ρ s.n s.h v' := mv_wr hm ha.wr
            have hE := opnd_ok ha.er ha.glob
            obtain ⟨_, e0⟩ := hE x _ hx
            obtain ⟨i0, hi0, hk0⟩ := hwr.pin b c (.inl ⟨rfl, rfl⟩)
            have e0' : a.eval x = .chan (some c) := by rw [e0]; simp [tV, tB, hi0, hk0]
            have hwp : wpS PG (cxD L b bq c qu j q) NoP (execOp a.eval o) v' fun nx w' => nx = .comm #[rcase c Z0] true (.recv true) ∧ w' = v' := by
              unfold execOp
              rw [hop]
              simp only []
              rw [w_bind, w_underlying]
              refine ⟨_, hund, ?_⟩
              simp only [w_bind, w_zeroValue, w_pure]
              refine ⟨inf, Z0, q1, q2, ?_, trivial⟩
              simp [rcase, e0']
            have hst : stepG PG true (G (fb.atR a (.inRegion ops (i :: rest) :: k)) cs') v' = stepG.apply PG true (fb.atR a (.inRegion ops (i :: rest) :: k)) cs' none (execOp a.eval o) v' := g_oper ho (wanted_ok ha.er hgd) (.inr (by rw [hop]; simp))
            obtain ⟨es, hcm, hes⟩ := apply_comm (fr := fb.atR a (.inRegion ops (i :: rest) :: k)) (cs := cs') hwr.deep ha.kind hwp
            refine ⟨rfl, es, by rw [hst]; exact hcm, fun e he => (hes e he).evg, fun q2 v2 hm2 => ?_⟩
            rw [core_G, served_G, fin_atR ho]
            exact hnext q2 v2 hm2
          unfold hkRecv3 at hnf ⊢
          cases hy : nth Tk j with
          | some y =>
            simp only [hy] at hnf ⊢
            cases hcl : closedB 4 y with
            | false => rw [hcl] at hnf; exact absurd ⟨_, rfl⟩ hnf
            | true =>
              rw [cond_true]
              have hyc := closedB_ok 4 y hcl
              intro ops i fn ho hgd _
              show SoundO _ ops i o fn e s (.val _ _)
              refine ⟨0, fun p ρ w fb a cs' rest k m hb ha hc => ?_⟩
              rw [Nat.zero_add]
              obtain ⟨c, qu, own, rfl⟩ := phase_D ha.wr hg
              rw [nth_eq] at hy
              have hdrop : Tk.drop j = y :: Tk.drop (j + 1) := by
                obtain ⟨hlt, hval⟩ := List.getElem?_eq_some_iff.1 hy
                rw [List.drop_eq_getElem_cons hlt, hval]
              intro hlo hR
              show Runs PG L c true false (· = qu) (StopM PG L c qu Z0 (Ret2 PG c Post) (Tk.drop j)) m own _ w
              rw [hdrop]
              have hstop : ∀ q v', Mv L c false own q w v' → StopM PG L c qu Z0 (Ret2 PG c Post) (y :: Tk.drop (j + 1)) q (G (fb.atR a (.inRegion ops (i :: rest) :: k)) cs') v' := by
                intro q v' hm
                refine core1 (fn := fn) ho hgd ha y (.bool true) q v' hm _ fun q2 v2 hm2 => ?_
                rw [recvs2_iff]
                have hwr2 : WR (cxD L b bq c qu (j + 1) q2) ρ s.n (Tr.set (.iter none (fNat (j + 1)) [b, bq] 0) 40 GK s.h) v2 := by
                  have hb2 : WR (cxD L b bq c qu j q2) ρ s.n s.h v2 := mv_wr hm2 (mv_wr hm ha.wr)
                  rw [fNat_eq]
                  exact hb2.nextD
                refine ⟨m, ?_⟩
                have hval : okV ρ (.tuple #[y, .bool true]) ∧ tV ρ (.tuple #[y, .bool true]) = .tuple #[y, .bool true] := by
                  refine ⟨?_, ?_⟩
                  · simp only [okV]
                    intro u hu
                    simp at hu
                    rcases hu with rfl | rfl
                    · exact (hyc ρ).1
                    · simp [okV]
                  · simp [tV, (hyc ρ).2]
                have := hc (.D b bq c qu (j + 1) q2) ρ v2 cs' a.defers trivial (ghost_pst (fun _ _ _ => rfl)) hwr2 hval.1 ha.dr ha.rk
                rw [hval.2] at this
                exact this ((hlo.mv hm).mv hm2) ((hR.mv hm).mv hm2)
              cases m with
              | zero => exact hstop
              | succ m => exact .inl hstop
          | none =>
            simp only [hy] at hnf ⊢
            intro ops i fn ho hgd _
            show SoundO _ ops i o fn e s (.val _ _)
            refine ⟨0, fun p ρ w fb a cs' rest k m hb ha hc => ?_⟩
            rw [Nat.zero_add]
            obtain ⟨c, qu, own, rfl⟩ := phase_D ha.wr hg
            rw [nth_eq] at hy
            have hdrop : Tk.drop j = [] := List.drop_eq_nil_iff.2 (List.getElem?_eq_none_iff.1 hy)
            intro hlo hR
            show Runs PG L c true false (· = qu) (StopM PG L c qu Z0 (Ret2 PG c Post) (Tk.drop j)) m own _ w
            rw [hdrop]
            have hstop : ∀ q v', Mv L c false own q w v' → StopM PG L c qu Z0 (Ret2 PG c Post) [] q (G (fb.atR a (.inRegion ops (i :: rest) :: k)) cs') v' := by
              intro q v' hm
              refine core1 (fn := fn) ho hgd ha Z0 (.bool false) q v' hm _ fun q2 v2 hm2 => ?_
              have hwr2 : WR (cxB L 1 b bq c qu q2) ρ s.n (Tr.set (.iter none 0 [b, bq] 1) 40 GK s.h) v2 := by
                have hb2 : WR (cxD L b bq c qu j q2) ρ s.n s.h v2 := mv_wr hm2 (mv_wr hm ha.wr)
                exact hb2.toB
              have hval : okV ρ (.tuple #[Z0, .bool false]) ∧ tV ρ (.tuple #[Z0, .bool false]) = .tuple #[Z0, .bool false] := by
                refine ⟨?_, ?_⟩
                · simp only [okV]
                  intro u hu
                  simp at hu
                  rcases hu with rfl | rfl
                  · exact (cz ρ).1
                  · simp [okV]
                · simp [tV, (cz ρ).2]
              have := hc (.B b bq c qu q2) ρ v2 cs' a.defers trivial (ghost_pst (fun _ _ _ => rfl)) hwr2 hval.1 ha.dr ha.rk
              rw [hval.2] at this
              obtain ⟨r1, r2, _, _, r5⟩ := (hR.mv hm).mv hm2
              exact ⟨m, this ((hlo.mv hm).mv hm2) r1 r2 r5⟩
            cases m with
            | zero => exact hstop
            | succ m => exact .inl hstop
end
end Go.Proofs.YtfpmbneglnoojaaGreatDoor.Ab
/- The go statement, the close of the other channel; all that goroutine 0 does. -/
namespace Go.Proofs.YtfpmbneglnoojaaGreatDoor.Ab
open Go Go.Conc
set_option maxRecDepth 100000
noncomputable section
variable {W0 : World} {L : Nat} {T : ByteArray} {Tk : List Value} {Z0 : Value} {Post : Value → World → Prop}
theorem apply_spawn {fr : Frame} {cs : List Frame} {w : World} {f : FuncId} {cap args : Array Value} (hk : fr.kind = .normal ∨ fr.kind = .deferred) :
    stepG.apply PG true fr cs none (pure (.spawn { target := .fn (.func f) cap, args := args })) w = .spawn (G (fr.finish undef) cs) (childOf { target := .fn (.func f) cap, args := args }) w := by
  have hke : (fr.kind == CallKind.early) = false := by rcases hk with h | h <;> rw [h] <;> rfl
  have hseen : ∀ f, seen PG f #[] = #[] := fun f => by simp [seen]
  have hrun : Sem.runT PG (pure (Next.spawn { target := .fn (.func f) cap, args := args })) w #[] = (.ok (.spawn { target := .fn (.func f) cap, args := args }) w, #[]) := rfl
  unfold stepG.apply
  simp [hrun, hke, hseen, GStep.after, G, childOf, -Sem.runT_eq]
theorem isClose_ok {b : Builtin} (h : isClose b = true) : b = .close := by cases b <;> first | rfl | cases h
theorem isScan_ok {o : Option Value} (h : isScan o = true) : o = some (.func (.func SCAN) #[] #[]) := by
  unfold isScan at h
  split at h
  · rename_i k first cap
    simp only [Bool.and_eq_true] at h
    obtain ⟨h1, h2, h3⟩ := h
    obtain rfl := Nat.eq_of_beq_eq_true h1
    have e1 : first = #[] := Array.ext' (by simpa using h2)
    have e2 : cap = #[] := Array.ext' (by simpa using h3)
    rw [e1, e2]
  · cases h
theorem sound_go {N : Nat} (hN : NG ≤ L) (hev : scanEnds Tk.length (ev (hkS 33 34 Tk) noSpd N (.code SCAN scanC (entry (scanArgs T)) scanS))) {cl : Call} {o : Oper} {e : Env} {s : St} (hop : o.op = .go cl)
    (hnf : ¬ isFail (hkGo T cl e s)) : SoundSp (ZM W0 L Tk Z0 Post) o e s (hkGo T cl e s) := by
  unfold hkGo at hnf ⊢
  cases hcal : cl.callee with
  | value f =>
    simp only [hcal] at hnf ⊢
    cases hsc : isScan (opnd e f) with
    | false => rw [hsc] at hnf; exact absurd ⟨_, rfl⟩ hnf
    | true =>
      rw [hsc, cond_true] at hnf
      rw [cond_true]
      have hf := isScan_ok hsc
      unfold hkGo2 at hnf ⊢
      split at hnf
      rotate_left
      · exact absurd ⟨_, rfl⟩ hnf
      · rename_i t bc bq hargs
        cases hcd : (sameV 1 t (.string T) && (Nat.ble BASE bc && (Nat.ble BASE bq && !Nat.beq bc bq))) with
        | false => rw [hcd] at hnf; exact absurd ⟨_, rfl⟩ hnf
        | true =>
          rw [hcd, cond_true] at hnf
          rw [cond_true]
          simp only [Bool.and_eq_true, Bool.not_eq_true'] at hcd
          obtain ⟨hT, hB, hB', hne⟩ := hcd
          obtain rfl := sameV_ok 1 t (.string T) hT
          have hB := Nat.le_of_ble_eq_true hB
          have hB' := Nat.le_of_ble_eq_true hB'
          have hne : bc ≠ bq := fun h => by
            subst h
            rw [Nat.beq_refl] at hne
            cases hne
          unfold hkGo3 at hnf ⊢
          split at hnf
          rotate_left
          · exact absurd ⟨_, rfl⟩ hnf
          · rename_i h0 h1 h2
            intro ops i fn ho hgd _
            show SoundO _ ops i o fn e s (.val _ _)
            refine ⟨0, fun p ρ w fb a cs' rest k m hb ha hc => ?_⟩
            rw [Nat.zero_add]
            obtain rfl := phase_A ha.wr h2
            have hE := opnd_ok ha.er ha.glob
            obtain ⟨k3, k4⟩ := mapG_ok hE hargs
            obtain ⟨_, e0⟩ := hE f _ hf
            have okc : okV ρ (.chan (some bc)) := k3 _ (by simp)
            have okq : okV ρ (.chan (some bq)) := k3 _ (by simp)
            obtain ⟨i0, hi0⟩ : okB ρ bc := by simpa [okV] using okc
            obtain ⟨i1, hi1⟩ : okB ρ bq := by simpa [okV] using okq
            have hl0 : live s.h bc := ⟨_, h0, by simp⟩
            have hl1 : live s.h bq := ⟨_, h1, by simp⟩
            have hch0 : w.heap[i0.blk]? = some (.chan 0 #[] false 0 0 false) := ha.wr.obj bc i0 _ hi0 h0
            have hch1 : w.heap[i1.blk]? = some (.chan 0 #[] false 0 0 false) := ha.wr.obj bq i1 _ hi1 h1
            obtain ⟨n1, g1, g2, hwr⟩ := WR.fork (show WR (cxA L) ρ s.n s.h w from ha.wr) hi0 hi1 hB hB' hne hl0 hl1
            have hs0 := lt_size_of_getElem?' hch0
            have hs1 := lt_size_of_getElem?' hch1
            have hx : execOp a.eval o = pure (.spawn (scanD T i0.blk i1.blk)) := by
              unfold execOp
              rw [hop]
              have hf' : a.eval f = .func (.func SCAN) #[] #[] := by
                rw [e0]; exact (closed_func SCAN ρ).2
              have ha' : cl.args.map a.eval = #[.string T, .chan (some i0.blk), .chan (some i1.blk)] := by
                apply Array.ext'
                rw [Array.toList_map, k4]
                simp [tV, tB, hi0, hi1]
              simp only [resolve, hcal, hf', ha', Deferred.ofValue, scanD]
              rfl
            intro hlo
            have hlo1 : Lo L i0.blk W0 w := ⟨hlo.1, g1, hlo.2.2⟩
            have hstop : AtGo2 PG L Post (G (fb.atR a (.inRegion ops (i :: rest) :: k)) cs') w := by
              have hstep : stepG PG true (G (fb.atR a (.inRegion ops (i :: rest) :: k)) cs') w = .spawn (G (fb.atR { tmps := (a.put o.dst undef).tmps, defers := a.defers } (.inRegion ops rest :: k)) cs') (childOf (scanD T i0.blk i1.blk)) w := by
                rw [g_oper ho (wanted_ok ha.er hgd) (.inr (by rw [hop]; simp)), hx]
                show stepG.apply PG true _ cs' none (pure (.spawn { target := .fn (.func SCAN) #[], args := _ })) w = _
                have hsp := apply_spawn (fr := fb.atR a (.inRegion ops (i :: rest) :: k)) (cs := cs') (w := w) (f := SCAN) (cap := #[]) (args := #[.string T, .chan (some i0.blk), .chan (some i1.blk)]) ha.kind
                rw [fin_atR ho] at hsp
                exact hsp
              refine ⟨rfl, _, _, w, #[], i0.blk, i1.blk, (fun b => decide (b = i0.blk)), Z0, Tk, 0, 0, 0, 0, false, false, hstep, by simp, hch0, hch1, g2, n1, by simpa using Ne.symm n1, by simp, ?_, ?_⟩
              · rw [recvs2_iff]
                refine ⟨m, ?_⟩
                have := hc (.D bc bq i0.blk i1.blk 0 ((fun b => decide (b = i0.blk)), w.heap.size)) ρ w cs' a.defers trivial (ghost_pst (fun b' hb' hn' => ?_)) hwr (by simp [okV]) ha.dr ha.rk
                · have hu : tV ρ (.tuple #[]) = undef := by simp [tV, undef]
                  rw [hu] at this
                  exact this hlo1 ⟨n1, g2, by simpa using Ne.symm n1, hs1, 0, 0, false, hch1⟩
                · have hsm := ha.wr.small
                  have b1 := (ha.wr.dom bc i0 hi0).1
                  have b2 := (ha.wr.dom bq i1 hi1).1
                  rw [set_get (by omega), if_neg (fun h => by rw [h, hi0] at hn'; cases hn'), set_get (by omega), if_neg (fun h => by rw [h, hi1] at hn'; cases hn')]
              · exact child_sends hev hs0 hs1 hN (by omega)
            exact Goes.stop fun w1 hw1 => by
              subst hw1
              exact hstop
  | _ => rw [hcal] at hnf; exact absurd ⟨_, rfl⟩ hnf
theorem sound_close {d : Deferred} {s : St} (hnf : ¬ isFail (hdM d s)) : SoundSpd (ZM W0 L Tk Z0 Post) d s (hdM d s) := by
  unfold hdM at hnf ⊢
  split at hnf
  rotate_left
  · exact absurd ⟨_, rfl⟩ hnf
  · rename_i bb ts ty cst x ht hargs
    cases hcl : isClose bb with
    | false => rw [hcl] at hnf; exact absurd ⟨_, rfl⟩ hnf
    | true =>
      rw [hcl, cond_true] at hnf
      rw [cond_true]
      obtain rfl := isClose_ok hcl
      unfold hdM2 at hnf ⊢
      split at hnf
      rotate_left
      · exact absurd ⟨_, rfl⟩ hnf
      · rename_i bc bq hg
        cases hbb : Nat.beq x bq with
        | false => rw [hbb] at hnf; exact absurd ⟨_, rfl⟩ hnf
        | true =>
          obtain rfl := Nat.eq_of_beq_eq_true hbb
          rw [cond_true]
          refine ⟨_, _, rfl, 1, fun p ρ w fb a cs todo mode ds m hm hk hwr hglob hd had hc => ?_⟩
          obtain ⟨c, qu, own, rfl⟩ := phase_B hwr hg
          intro hlo hne hqu hop
          rw [Nat.add_comm]
          refine .step rfl fun v hv => ?_
          obtain ⟨s0, r0, tm0, hch⟩ := hop.aside hne hv
          have hwv : WR (cxB L 1 bc x c qu own) ρ s.n s.h v := aside_wr (cx := cxB L 1 _ _ _ _ _) rfl hv hwr
          obtain ⟨i0, hi0, hk0⟩ := hwv.pin x qu (.inr ⟨rfl, rfl⟩)
          have hdef : a.defers = { target := .builtin .close ts ty cst, args := #[.chan (some qu)] } :: ds := by
            rw [had]
            congr 1
            obtain ⟨tg, args⟩ := d
            simp only [] at ht hargs
            subst ht
            have : args = #[.chan (some x)] := Array.ext' (by simpa using hargs)
            subst this
            simp [tD, tT, tV, tB, hi0, hk0]
          obtain ⟨tmps, defers⟩ := a
          simp only [] at hdef
          subst hdef
          rw [g_close hm hch]
          refine ⟨fun e he m hm' => ?_, ?_⟩
          · simp at he
            rcases he with rfl | rfl <;> cases hm'
          · exact hc (.E bc x c qu own) ρ _ trivial (ghost_pst (fun _ _ _ => rfl)) (hwv.toE hqu (lt_size_of_getElem?' hch) _) ((hlo.aside hv).set hqu _)
/-- goroutine 0's hooks are sound -/
theorem sound_hkM {N : Nat} (hN : NG ≤ L) (hev : scanEnds Tk.length (ev (hkS 33 34 Tk) noSpd N (.code SCAN scanC (entry (scanArgs T)) scanS))) (hz0 : zeroV ITEM = some Z0) (o : Oper) (e : Env) (s : St) (hnf : ¬ isFail (hkM T Tk o e s)) : SoundSp (ZM W0 L Tk Z0 Post) o e s (hkM T Tk o e s) := by
  unfold hkM at hnf ⊢
  cases hop : o.op <;> simp only [hop] at hnf ⊢ <;> try (exact absurd ⟨_, rfl⟩ hnf)
  case go cc => exact sound_go hN hev hop hnf
  case recv ty x ok => exact sound_recv hop hz0 hnf
  case defer cc => exact sound_deferB hop hnf
theorem ev_M {N : Nat} (hN : NG ≤ L) (hev : scanEnds Tk.length (ev (hkS 33 34 Tk) noSpd N (.code SCAN scanC (entry (scanArgs T)) scanS))) (hz0 : zeroV ITEM = some Z0) (n : Nat) : SoundI (ZM W0 L Tk Z0 Post) (ev (hkM T Tk) hdM n) :=
  ev_sound (fun o e s h => sound_hkM hN hev hz0 o e s h) (fun _ _ h => sound_close h) n
end
end Go.Proofs.YtfpmbneglnoojaaGreatDoor.Ab
/- Pieces of a run: what the tests say. -/
namespace Go.Proofs.YtfpmbneglnoojaaGreatDoor.Ab
open Go Go.Conc
set_option maxRecDepth 100000
noncomputable section
theorem cond_and {a b : Bool} (h : cond a b false = true) : a = true ∧ b = true := by cases a <;> simp_all
theorem sameVL_ok {a b : List Value} (h : sameVL a b = true) : a = b := sameL_ok (sameV_ok 8) a b h
theorem sameNL_ok : ∀ {a b : List Nat}, sameNL a b = true → a = b
  | [], [], _ => rfl
  | [], _ :: _, h => by cases h
  | _ :: _, [], h => by cases h
  | x :: a, y :: b, h => by
    have h' : cond (Nat.beq x y) (sameNL a b) false = true := h
    obtain ⟨h1, h2⟩ := cond_and h'
    rw [Nat.eq_of_beq_eq_true h1, sameNL_ok h2]
theorem sameON_ok {a b : Option Nat} (h : sameON a b = true) : a = b := by
  cases a <;> cases b <;> first | rfl | (cases h; done) | skip
  rw [Nat.eq_of_beq_eq_true h]
theorem sameEn_ok {a b : MapEntry} (h : sameEn a b = true) : a = b := by
  obtain ⟨h1, h2⟩ := cond_and h
  obtain ⟨h2, h3⟩ := cond_and h2
  obtain ⟨k, v, n⟩ := a
  obtain ⟨k', v', n'⟩ := b
  obtain rfl := sameV_ok 8 _ _ h1
  obtain rfl := sameV_ok 8 _ _ h2
  obtain rfl := Nat.eq_of_beq_eq_true h3
  rfl
theorem sameEs_ok : ∀ {a b : List MapEntry}, sameEs a b = true → a = b
  | [], [], _ => rfl
  | [], _ :: _, h => by cases h
  | _ :: _, [], h => by cases h
  | x :: a, y :: b, h => by
    have h' : cond (sameEn x y) (sameEs a b) false = true := h
    obtain ⟨h1, h2⟩ := cond_and h'
    rw [sameEn_ok h1, sameEs_ok h2]
theorem sameO_ok {a b : AObj} (h : sameO a b = true) : a = b := by
  cases a <;> cases b <;> first | rfl | (cases h; done) | skip
  · obtain ⟨h1, h2⟩ := cond_and h
    rw [Nat.eq_of_beq_eq_true h1, sameVL_ok h2]
  · obtain ⟨h1, h2⟩ := cond_and h
    rw [Nat.eq_of_beq_eq_true h1, sameEs_ok h2]
  · obtain ⟨h1, h2⟩ := cond_and h
    obtain ⟨h2, h3⟩ := cond_and h2
    obtain ⟨h3, h4⟩ := cond_and h3
    rw [sameON_ok h1, Nat.eq_of_beq_eq_true h2, sameNL_ok h3, Nat.eq_of_beq_eq_true h4]
theorem sameOO_ok {a b : Option AObj} (h : sameOO a b = true) : a = b := by
  cases a <;> cases b <;> first | rfl | (cases h; done) | skip
  rw [sameO_ok h]
theorem sameE_ok : ∀ {a b : Env}, sameE a b = true → a = b
  | .nil, .nil, _ => rfl
  | .nil, .cons _ _ _, h => by cases h
  | .cons _ _ _, .nil, h => by cases h
  | .cons t v a, .cons u w b, h => by
    have h' : cond (Nat.beq t u) (cond (sameV 8 v w) (sameE a b) false) false = true := h
    obtain ⟨h1, h2⟩ := cond_and h'
    obtain ⟨h2, h3⟩ := cond_and h2
    rw [Nat.eq_of_beq_eq_true h1, sameV_ok 8 _ _ h2, sameE_ok h3]
theorem chkV_ok {v : Option (Option AObj)} {x : Option AObj} (h : chkV v x = true) (t : Tr AObj) (ht : vlu t = x) : skv v t = x := by
  cases v with
  | none => exact ht
  | some y => exact (sameOO_ok (a := x) (b := y) h).symm
theorem chkM_ok : ∀ (m : Mk) (t : Tr AObj), chkM m t = true → ske m t = t
  | .any, _, _ => rfl
  | .leaf, .leaf, _ => rfl
  | .leaf, .node _ _ _, h => by cases h
  | .node _ _ _, .leaf, h => by cases h
  | .node l v r, .node a x b, h => by
    have h' : cond (chkV v x) (cond (chkM l a) (chkM r b) false) false = true := h
    obtain ⟨h1, h2⟩ := cond_and h'
    obtain ⟨h2, h3⟩ := cond_and h2
    show Tr.node (ske l a) (skv v (.node a x b)) (ske r b) = _
    rw [chkM_ok l a h2, chkM_ok r b h3, chkV_ok h1 _ rfl]
theorem ske_exM : ∀ (h t : Tr AObj), ske (exM h) t = h
  | .leaf, _ => rfl
  | .node a x b, t => by
    show Tr.node (ske (exM a) (lft t)) x (ske (exM b) (rgt t)) = _
    rw [ske_exM a, ske_exM b]
theorem emp_ok {α : Type} {l : List α} (h : emp l = true) : l = [] := by cases l <;> first | rfl | cases h
theorem non_ok {α : Type} {o : Option α} (h : non o = true) : o = none := by cases o <;> first | rfl | cases h
theorem chkS_ok {n : Nat} {m : Mk} {s : St} (h : chkS n m s = true) : s = stOf n m s.h := by
  obtain ⟨h1, h2⟩ := cond_and h
  obtain ⟨h2, h3⟩ := cond_and h2
  obtain ⟨h3, h4⟩ := cond_and h3
  obtain ⟨n', h', d, rk⟩ := s
  obtain rfl := Nat.eq_of_beq_eq_true h1
  obtain rfl : d = [] := emp_ok h3
  obtain rfl : rk = none := non_ok h4
  simp only [stOf, chkM_ok m h' h2]
theorem chkK1 {k : Nat} {e e' : Env} {n : Nat} {m : Mk} {s : St} (h : chkK k e n m (.norm e' s) = true) : k = 0 ∧ Out.norm e' s = .norm e (stOf n m s.h) := by
  have h' : cond (Nat.beq k 0) (cond (sameE e e') (chkS n m s) false) false = true := h
  obtain ⟨h0, h⟩ := cond_and h'
  obtain ⟨h1, h2⟩ := cond_and h
  exact ⟨Nat.eq_of_beq_eq_true h0, by rw [← sameE_ok h1, ← chkS_ok h2]⟩
theorem chkK2 {k : Nat} {e e' : Env} {n : Nat} {m : Mk} {s : St} (h : chkK k e n m (.ret e' s) = true) : k = 1 ∧ Out.ret e' s = .ret e (stOf n m s.h) := by
  have h' : cond (Nat.beq k 1) (cond (sameE e e') (chkS n m s) false) false = true := h
  obtain ⟨h0, h⟩ := cond_and h'
  obtain ⟨h1, h2⟩ := cond_and h
  exact ⟨Nat.eq_of_beq_eq_true h0, by rw [← sameE_ok h1, ← chkS_ok h2]⟩
theorem chkK3 {k i : Nat} {e e' : Env} {n : Nat} {m : Mk} {s : St} (h : chkK k e n m (.exit i e' s) = true) : k = i + 2 ∧ Out.exit i e' s = .exit i e (stOf n m s.h) := by
  have h' : cond (Nat.beq k (i + 2)) (cond (sameE e e') (chkS n m s) false) false = true := h
  obtain ⟨h0, h⟩ := cond_and h'
  obtain ⟨h1, h2⟩ := cond_and h
  exact ⟨Nat.eq_of_beq_eq_true h0, by rw [← sameE_ok h1, ← chkS_ok h2]⟩
theorem chkK_norm {e : Env} {n : Nat} {m : Mk} {o : Out} (h : chkK 0 e n m o = true) : ∃ t, o = .norm e (stOf n m t) := by
  cases o with
  | norm e' s => exact ⟨s.h, (chkK1 h).2⟩
  | ret e' s => have := (chkK2 h).1; omega
  | exit i e' s => have := (chkK3 h).1; omega
  | _ => cases h
theorem chkK_ret {e : Env} {n : Nat} {m : Mk} {o : Out} (h : chkK 1 e n m o = true) : ∃ t, o = .ret e (stOf n m t) := by
  cases o with
  | norm e' s => have := (chkK1 h).1; omega
  | ret e' s => exact ⟨s.h, (chkK2 h).2⟩
  | exit i e' s => have := (chkK3 h).1; omega
  | _ => cases h
theorem chkK_exit {i : Nat} {e : Env} {n : Nat} {m : Mk} {o : Out} (h : chkK (i + 2) e n m o = true) : ∃ t, o = .exit i e (stOf n m t) := by
  cases o with
  | norm e' s => have := (chkK1 h).1; omega
  | ret e' s => have := (chkK2 h).1; omega
  | exit j e' s =>
    obtain ⟨h1, h2⟩ := chkK3 h
    obtain rfl : i = j := by omega
    exact ⟨s.h, h2⟩
  | _ => cases h
theorem weakE_ok : ∀ {e e' : Env}, weakE e e' = true → ∀ t v, e.get t = some v → e'.get t = some v
  | .nil, _, _ => fun _ _ h => by cases h
  | .cons t v e, e', h => by
    have h' : cond (match e'.get t with | some w => sameV 8 v w | none => false) (weakE e e') false = true := h
    obtain ⟨h1, h2⟩ := cond_and h'
    intro u x hx
    rw [Env.get_cons] at hx
    by_cases hb : t = u
    · subst hb
      rw [if_pos rfl] at hx
      cases hx
      cases hg : e'.get t with
      | none => rw [hg] at h1; cases h1
      | some w => rw [hg] at h1; rw [sameV_ok 8 _ _ h1]
    · rw [if_neg hb] at hx
      exact weakE_ok h2 u x hx
theorem chkW_ok {e : Env} {n : Nat} {m : Mk} {o : Out} (h : chkW e n m o = true) : ∃ e' t, o = .norm e' (stOf n m t) ∧ ∀ t v, e.get t = some v → e'.get t = some v := by
  cases o with
  | norm e' s =>
    obtain ⟨h1, h2⟩ := cond_and h
    exact ⟨e', s.h, by rw [← chkS_ok h2], weakE_ok h1⟩
  | _ => cases h
theorem chkR_ok {v : Value} {n : Nat} {m : Mk} {o : Out} (h : chkR v n m o = true) : ∃ t, o = .val v (stOf n m t) := by
  cases o with
  | val w s =>
    obtain ⟨h1, h2⟩ := cond_and h
    exact ⟨s.h, by rw [sameV_ok 8 _ _ h1, ← chkS_ok h2]⟩
  | _ => cases h
variable {Z : Phs}
/-- less is known ahead of it -/
theorem SoundC.weak {fn : FuncId} {c : Code} {e e' : Env} {s : St} {out : Out} (hw : ∀ t v, e'.get t = some v → e.get t = some v) (h : SoundC Z fn c e' s out) : SoundC Z fn c e s out := by
  obtain ⟨N, h⟩ := h
  exact ⟨N, fun p ρ w b a cs k m hb ha hc => h p ρ w b a cs k m hb (ha.weak hw) hc⟩
/-- a piece, by its run -/
theorem SoundI.piece {ih : Req → Out} (hi : SoundI Z ih) {fn : FuncId} {c : Code} {e : Env} {s : St} {out : Out} (h : ih (.code fn c e s) = out) (hn : ¬ isFail out) : SoundC Z fn c e s out := by
  subst h
  exact (hi _ hn).1
theorem nf_norm {e : Env} {s : St} : ¬ isFail (.norm e s) := by rintro ⟨w, h⟩; cases h
theorem nf_ret {e : Env} {s : St} : ¬ isFail (.ret e s) := by rintro ⟨w, h⟩; cases h
theorem nf_exit {i : Nat} {e : Env} {s : St} : ¬ isFail (.exit i e s) := by rintro ⟨w, h⟩; cases h
theorem nf_val {v : Value} {s : St} : ¬ isFail (.val v s) := by rintro ⟨w, h⟩; cases h
/-- one round of a loop -/
theorem SoundL.next {fn : FuncId} {c : Code} {e e0 e1 : Env} {s s1 : St} {out : Out} (he : ∀ t v, e0.get t = some v → e.get t = some v) (h1 : SoundC Z fn c e0 s (.norm e1 s1)) (h2 : SoundL Z fn c e1 s1 out) : SoundL Z fn c e s out :=
  sound_loop he h1 (fun _ _ h => by cases h; exact h2) fun h => absurd rfl (h _ _)
theorem SoundL.last {fn : FuncId} {c : Code} {e e0 : Env} {s : St} {out : Out} (he : ∀ t v, e0.get t = some v → e.get t = some v) (h1 : SoundC Z fn c e0 s out) (hn : ∀ e1 s1, out ≠ .norm e1 s1) : SoundL Z fn c e s out :=
  sound_loop he h1 (fun _ _ h => absurd h (hn _ _)) fun _ => rfl
theorem SoundC.next {fn : FuncId} {x y : Code} {e e1 : Env} {s s1 : St} {out : Out} (h1 : SoundC Z fn x e s (.norm e1 s1)) (h2 : SoundC Z fn y e1 s1 out) : SoundC Z fn (.seq x y) e s out :=
  sound_seq h1 (fun _ _ h => by cases h; exact h2) fun h => absurd rfl (h _ _)
theorem SoundC.out {fn : FuncId} {x y : Code} {e : Env} {s : St} {out : Out} (h1 : SoundC Z fn x e s out) (hn : ∀ e1 s1, out ≠ .norm e1 s1) : SoundC Z fn (.seq x y) e s out :=
  sound_seq h1 (fun _ _ h => absurd h (hn _ _)) fun _ => rfl
theorem SoundC.blockN {fn : FuncId} {id : Nat} {c : Code} {e e1 : Env} {s s1 : St} (h : SoundC Z fn c e s (.exit id e1 s1)) : SoundC Z fn (.block id c) e s (.norm e1 s1) := by
  have := sound_block (id := id) h
  simpa [xBlock] using this
/-- a function's body is known: so is a call of it -/
theorem call_of_body {ih : Req → Out} (hi : SoundI Z ih) {f : FuncId} {fn : Func} {c : Code} {args : List Value} {s s1 s2 : St} {e1 : Env} {v : Value} (hf : PG.funcs[f]? = some fn) (hb : fn.body = some c) (hc : SoundC Z f c (entry args) s (.ret e1 s1)) (hloop : ∀ c', c ≠ .loop c')
    (hu : ih (.unwind fn e1 s1.d none s1) = .val v s2) : SoundCall Z f args s (.val v s2) := by
  classical
  let ih' : Req → Out := fun q => if q = .code f c (entry args) s then .ret e1 s1 else ih q
  have hi' : SoundI Z ih' := by
    intro q hnf
    by_cases hq : q = .code f c (entry args) s
    · have e : ih' q = .ret e1 s1 := if_pos hq
      rw [e]
      subst hq
      exact ⟨hc, fun c' h => absurd h (hloop c')⟩
    · have e : ih' q = ih q := if_neg hq
      rw [e] at hnf ⊢
      exact hi q hnf
  have e0 : ih' (.code f c (entry args) s) = .ret e1 s1 := if_pos rfl
  have e2 : ih' (.unwind fn e1 s1.d none s1) = .val v s2 := (if_neg (by simp)).trans hu
  have e3 : xCall ih' f args s = .val v s2 := by
    unfold xCall
    simp only [hf]
    unfold xFunc
    simp only [hb, e0, xBody, e2]
  have := sound_call hi' (f := f) (args := args) (s := s) (by rw [e3]; exact nf_val)
  rwa [e3] at this
/-- calls that are known are looked up -/
theorem evT_sound {tab : Req → Option Out} {hk : Oper → Env → St → Out} {hd : Deferred → St → Out} (ht : ∀ q o, tab q = some o → Sound Z q o) (hsp : ∀ o e s, ¬ isFail (hk o e s) → SoundSp Z o e s (hk o e s)) (hspd : ∀ d s, ¬ isFail (hd d s) → SoundSpd Z d s (hd d s)) : ∀ n, SoundI Z (evT tab hk hd n)
  | 0 => fun q h => absurd ⟨_, rfl⟩ h
  | n + 1 => by
    have hi := evT_sound ht hsp hspd n
    intro q hnf
    have hx : evT tab hk hd (n + 1) q = evT1 hk hd (evT tab hk hd n) q (tab q) := rfl
    rw [hx] at hnf ⊢
    cases hq : tab q with
    | some o => exact ht q o hq
    | none =>
      rw [hq] at hnf
      have hx' : evT1 hk hd (evT tab hk hd n) q none = step hk hd (evT tab hk hd n) q := rfl
      rw [hx'] at hnf ⊢
      cases q with
      | code fn c e s => exact sound_code (drawOk hi) hi hnf
      | call f args s => exact sound_call hi hnf
      | value f args s => exact sound_val hi hnf
      | unwind fn e ds p s => exact sound_unwind hi hnf
      | sp o e s => exact hsp o e s hnf
      | spd d s => exact hspd d s hnf
/-- what is said of a call that is known -/
def EntOk (Z : Phs) (e : Ent) (h : Tr AObj → Tr AObj) : Prop := ∀ t, SoundCall Z e.f e.args (stOf e.n0 e.m0 t) (.val e.v (stOf e.n1 e.m1 (h t)))
theorem tabT_sound {H : Nat → Tr AObj → Tr AObj} : ∀ {l : List Ent}, (∀ e ∈ l, EntOk Z e (H e.ix)) → ∀ q o, tabT H l q = some o → Sound Z q o := by
  intro l hl q o hq
  cases q with
  | call f args s =>
    have hq' : lookE H f args s l = some o := hq
    induction l with
    | nil => cases hq'
    | cons e l ih =>
      have hq2 : cond (Nat.beq s.n e.n0) (cond (Nat.beq f e.f) (entHit (H e.ix) e args s) (lookE H f args s l)) (lookE H f args s l) = some o := hq'
      cases h1 : Nat.beq s.n e.n0 with
      | false => rw [h1] at hq2; exact ih (fun x hx => hl x (List.mem_cons_of_mem _ hx)) hq2 hq2
      | true =>
        rw [h1, cond_true] at hq2
        cases h2 : Nat.beq f e.f with
        | false => rw [h2] at hq2; exact ih (fun x hx => hl x (List.mem_cons_of_mem _ hx)) hq2 hq2
        | true =>
          rw [h2, cond_true] at hq2
          have hq3 : cond (sameVL args e.args) (cond (chkS e.n0 e.m0 s) (some (Out.val e.v { n := e.n1, h := ske e.m1 (H e.ix s.h), d := [], rk := none })) none) none = some o := hq2
          cases h3 : sameVL args e.args with
          | false => rw [h3] at hq3; cases hq3
          | true =>
            rw [h3, cond_true] at hq3
            cases h4 : chkS e.n0 e.m0 s with
            | false => rw [h4] at hq3; cases hq3
            | true =>
              rw [h4, cond_true] at hq3
              cases hq3
              obtain rfl := Nat.eq_of_beq_eq_true h2
              obtain rfl := sameVL_ok h3
              have e9 := chkS_ok h4
              have := hl e List.mem_cons_self s.h
              rw [← e9] at this
              exact this
  | _ => cases hq
/-- a call, by its run -/
theorem ent_run {ih : Req → Out} (hi : SoundI Z ih) {e : Ent} (h : ∀ t, chkR e.v e.n1 e.m1 (ih (.call e.f e.args (stOf e.n0 e.m0 t))) = true) : ∃ k, EntOk Z e k := by
  have key : ∀ t, ∃ u, SoundCall Z e.f e.args (stOf e.n0 e.m0 t) (.val e.v (stOf e.n1 e.m1 u)) := fun t => by
    obtain ⟨u, hu⟩ := chkR_ok (h t)
    refine ⟨u, ?_⟩
    have := hi (.call e.f e.args (stOf e.n0 e.m0 t)) (by rw [hu]; exact nf_val)
    rw [hu] at this
    exact this
  obtain ⟨k, hk⟩ := Classical.axiomOfChoice key
  exact ⟨k, hk⟩
end
end Go.Proofs.YtfpmbneglnoojaaGreatDoor.Ab
/- Goroutine 0's own function: its return is the run's end. -/
namespace Go.Proofs.YtfpmbneglnoojaaGreatDoor.Ab
open Go Go.Conc Go.RowKit
set_option maxRecDepth 100000
noncomputable section
variable {L : Nat} {Tk : List Value} {Z0 : Value} {Post : Value → World → Prop} {W : World}
theorem g_last {cx : Cx} {b : Frame} {a : Act} {todo : List Item} {w : World} {F : Func} {v : Value} (hF : ∀ b, cx.F b → b < w.heap.size) (hf : PG.funcs[b.fn]? = some F) (hin : PG.inits.idxOf? b.fn = none) (hd : a.defers = []) (hk : b.kind = .normal) (hs : wpS PG cx NoP (Go.results F a.tmps) w fun x w' => x = v ∧ w' = w) :
    ∃ es, stepG PG true (G { b.atR a todo with mode := .returning } []) w = .ended (.done v) w es ∧ ∀ e ∈ es, ∀ m, e.loc = .mark m → Neutral m := by
  obtain ⟨es', N, h1, h2⟩ := wpS_sound hF #[] hs
  have h3 : ∀ e ∈ seen PG b.fn es', EvOK cx N e := seen_ok fun e he => (h1 e he).resolve_left (by simp)
  rcases h2 with ⟨x, w', h4, ⟨rfl, rfl⟩, h6, rfl⟩ | ⟨x, w', h4, h5, h6, rfl⟩
  · refine ⟨seen PG b.fn es', ?_, fun e he => (h3 e he).neutral⟩
    first
      | (simp [G, stepG, unwind, Frame.atR, hd, hf, h4, hin, doReturn, hk, GStep.after, -Sem.runT_eq]; done)
      | (simp at hin; simp [G, stepG, unwind, Frame.atR, hd, hf, h4, hin, doReturn, hk, GStep.after, -Sem.runT_eq])
  · exact h5.elim
/-- the run of a function that is called from nowhere -/
theorem sound_bottom {f : FuncId} {F : Func} {c : Code} {args : List Value} {n0 : Nat} {h0 : Tr AObj} {e1 : Env} {s1 : St} {v : Value} {ρ : Rho} {bc bq j : Nat} (hf : PG.funcs[f]? = some F) (hbody : F.body = some c) (hin : PG.inits.idxOf? f = none)
    (hC : SoundC (ZM W L Tk Z0 Post) f c (entry args) { n := n0, h := h0, d := [], rk := none } (.ret e1 s1)) (hd : s1.d = []) (hg : s1.h.get GK = some (.iter none j [bc, bq] 2)) (hres : results F e1 s1 = .val v s1) (hv : closedV v)
    (hwr : WR (cxA L) ρ n0 h0 W) (hgl : Glob ρ) (hok : ∀ v ∈ args, okV ρ v) (hL : L ≤ W.heap.size) (hPost : ∀ w, Below L W w → Post v w) :
    ∃ n, Goes PG true Eq D0 (AtGo2 PG L Post) n (G (Frame.enter PG f (args.map (tV ρ)).toArray .normal) []) W := by
  obtain ⟨N, h⟩ := hC
  refine ⟨N + 1, ?_⟩
  rw [enter_eq hf hbody]
  refine h .A ρ W _ _ [] [] 1 rfl ⟨hwr, fun t u hu => ?_, hgl, ?_, ⟨by simp, rfl⟩, fun _ fr _ => by simp [tryRecover], .inl rfl⟩ ?_ ⟨Below.refl _ _, Nat.le_refl _, hL⟩
  · rw [entry_get] at hu
    have hlt := (List.getElem?_eq_some_iff.1 hu).1
    refine ⟨hok u (List.mem_of_getElem? hu), ?_⟩
    rw [Array.getElem?_append_left (by simpa using hlt)]
    simp [hu]
  · rw [ntOf_eq hf]
    simp
    omega
  · intro p' ρ' w' a' cs' hp hq hat k'
    obtain ⟨c1, qu, own, rfl⟩ := phase_E hat.wr hg
    have hcs : cs' = [] := by
      rcases hq.rk with ⟨_, rfl⟩ | ⟨⟨_, h⟩, _⟩
      · rfl
      · cases h
    subst hcs
    intro hlo
    have hdr := hat.dr
    have hdef : a'.defers = [] := by
      have := hdr.2
      rw [hd] at this
      exact this
    refine .step rfl fun w1 hw1 => ?_
    rw [g_ret rfl]
    refine ⟨fun e he => by simp at he, .stop fun w2 hw2 => ?_⟩
    have hlo2 := (hlo.aside hw1).aside hw2
    have hwr2 : WR (cxB L 2 bc bq c1 qu own) ρ' s1.n s1.h w2 := aside_wr (cx := cxB L 2 _ _ _ _ _) rfl hw2 (aside_wr (cx := cxB L 2 _ _ _ _ _) rfl hw1 hat.wr)
    obtain ⟨v', r1, _, r3⟩ := results_ok hwr2 hat.er (F := F) (by rw [hres]; exact nf_val)
    rw [hres] at r1
    cases r1
    rw [(hv ρ').2] at r3
    obtain ⟨es, k1, k2⟩ := g_last (cx := cxB L 2 bc bq c1 qu own) (b := { fn := f, tmps := #[], todo := [], defers := [], mode := .run, kind := .normal }) (a := a') (todo := .code .ret :: k') (w := w2) hwr2.deep hf hin hdef rfl (r3 ⟨rfl, rfl⟩)
    exact ⟨rfl, v, es, k1, k2, hPost w2 hlo2.1⟩
end
end Go.Proofs.YtfpmbneglnoojaaGreatDoor.Ab
/- Pieces put together. -/
namespace Go.Proofs.YtfpmbneglnoojaaGreatDoor.Ab
open Go Go.Conc
set_option maxRecDepth 100000
noncomputable section
theorem allN_ok {p : Nat → Bool} : ∀ {n : Nat}, allN p n = true → ∀ i, i < n → p i = true
  | 0, _, i, hi => absurd hi (Nat.not_lt_zero i)
  | n + 1, h, i, hi => by
    have h' : cond (p n) (allN p n) false = true := h
    obtain ⟨h1, h2⟩ := cond_and h'
    by_cases e : i = n
    · subst e; exact h1
    · exact allN_ok h2 i (by omega)
theorem scanT1_ok {len : Nat} {s : St} (h : scanT1 len s = true) : ∃ ts ty cst, s.d = [⟨.builtin .close ts ty cst, #[.chan (some 33)]⟩] ∧ count (s.h.get GK) = some len := by
  unfold scanT1 at h
  split at h
  · rename_i d hd
    split at h
    · rename_i b ts ty cst ht
      obtain ⟨h1, h2⟩ := cond_and h
      have hb : b = .close := isClose_ok h1
      subst hb
      unfold scanT2 at h2
      split at h2
      · rename_i l x hl
        obtain ⟨h3, h4⟩ := cond_and h2
        obtain rfl := Nat.eq_of_beq_eq_true h3
        refine ⟨ts, ty, cst, ?_, ?_⟩
        · obtain ⟨tg, args⟩ := d
          simp only [] at ht hl
          subst ht
          rw [hd]
          have : args = #[.chan (some 33)] := Array.ext' (by simpa using hl)
          rw [this]
        · have h4' : (match count (s.h.get GK) with | some k => Nat.beq k len | none => false) = true := h4
          cases hc : count (s.h.get GK) with
          | none => rw [hc] at h4'; cases h4'
          | some k =>
            rw [hc] at h4'
            rw [Nat.eq_of_beq_eq_true h4']
      · cases h2
    · cases h
  · cases h
theorem scanT_ok {len : Nat} {o : Out} (h : scanT len o = true) : scanEnds len o := by
  cases o with
  | norm e s =>
    obtain ⟨ts, ty, cst, h1, h2⟩ := scanT1_ok h
    exact ⟨e, s, ts, ty, cst, .inl rfl, h1, h2⟩
  | ret e s =>
    obtain ⟨ts, ty, cst, h1, h2⟩ := scanT1_ok h
    exact ⟨e, s, ts, ty, cst, .inr rfl, h1, h2⟩
  | _ => cases h
variable {Z : Phs}
theorem nx {fn : FuncId} {c x y : Code} {e e1 : Env} {s s1 : St} {out : Out} (hc : c = .seq x y) (h1 : SoundC Z fn x e s (.norm e1 s1)) (h2 : SoundC Z fn y e1 s1 out) : SoundC Z fn c e s out := by
  subst hc
  exact h1.next h2
theorem bk {fn : FuncId} {c x : Code} {id : Nat} {e e1 : Env} {s s1 : St} (hc : c = .block id x) (h : SoundC Z fn x e s (.exit id e1 s1)) : SoundC Z fn c e s (.norm e1 s1) := by
  subst hc
  exact h.blockN
theorem lp {fn : FuncId} {c x : Code} {e : Env} {s : St} {out : Out} (hc : c = .loop x) (h : SoundL Z fn x e s out) : SoundC Z fn c e s out := by
  subst hc
  exact h.code
theorem ln {fn : FuncId} {c : Code} {e e1 : Env} {s s1 : St} {out : Out} (h1 : SoundC Z fn c (prune fn e) s (.norm e1 s1)) (h2 : SoundL Z fn c e1 s1 out) : SoundL Z fn c e s out :=
  SoundL.next (fun _ _ h => prune_get h) h1 h2
theorem lx {fn : FuncId} {c : Code} {e e1 : Env} {s s1 : St} {id : Nat} (h1 : SoundC Z fn c (prune fn e) s (.exit id e1 s1)) : SoundL Z fn c e s (.exit id e1 s1) :=
  SoundL.last (fun _ _ h => prune_get h) h1 fun _ _ h => by cases h
/-- the i-th of them -/
def hlist (l : List (Tr AObj → Tr AObj)) (i : Nat) : Tr AObj → Tr AObj := l.getD i id
theorem stOf_ex (n : Nat) (h t u : Tr AObj) : stOf n (exM h) t = stOf n (exM h) u := by
  unfold stOf
  rw [ske_exM, ske_exM]
theorem bodyOf_ok {f : FuncId} {fn : Func} {c : Code} (hf : PG.funcs[f]? = some fn) (hb : fn.body = some c) : bodyOf f = c := by
  unfold bodyOf
  simp only [hf, hb]
end
end Go.Proofs.YtfpmbneglnoojaaGreatDoor.Ab
