import Derived.Test.YtcfponnkfhkbdaaDoorYwa
import Derived.WalkSpells
/- The law of a loop over an iterator. -/
namespace Go.Proofs.YtcfponnkfhkbdaaDoor
set_option linter.unusedSimpArgs false
set_option linter.unusedVariables false
open Go Go.RowKit
def rBody {α : Type} (P : Program) (l : Nat) (body : Code) (Inv : List α → List Res → Prop) (Ix : Code → List α → List Res → Prop) (w0 : World) (Z M : Nat → Prop) (ds : List Dat) (s : List α) (W : World) (m1 : List Res) (a1 : Act) (W1 : World) : Prop :=
 ∃ (m2 : List Res) (ds2 : List Dat) (i : Nat), St w0 Z M W1 m2 ds2 ∧ ds2[i]? = some (dAg W (imm Z w0 m1 W)) ∧ (∀ k, M k → ownB m1 k) ∧ (∀ k, M k → ownB m2 k) ∧
  ∀ W2, St w0 Z M W2 m2 (ds ++ [dAg W2 (imm Z w0 m2 W2)]) → body.wpIn (rI l) 0 P (rPost Inv Ix w0 Z M s W2 m2) a1 W2
theorem loop_ne {r : Loop} : ∀ cs t fz, (Obj.loop r) ≠ .cells cs t fz := fun _ _ _ h => by cases h
theorem def_ne {r : Option (List Deferred)} : ∀ cs t fz, (Obj.deferred r) ≠ .cells cs t fz := fun _ _ _ h => by cases h
section
variable {P : Program}
theorem w_range {α : Type} {g : Operand} {ps : Array Tmp} {assign body : Code} {Q : Exit → Act → World → Prop} {a : Act} {w w0 : World} {Z M Zd : Nat → Prop} {m : List Res} {ds : List Dat} {gf : Nat} {lb : Array Value} {encs : α → Array Value} {xs : List α}
  (hg : a.eval g = .func (.func gf) #[] lb) (hok : FOK P gf) (hseq : Yields P gf lb encs xs Zd w) (hps : ∀ x, (encs x).size = ps.size)
  (hS : St w0 Z M w m ds) (hZd : ∀ k, Zd k → imm Z w0 m w k) (Inv : List α → List Res → Prop) (Ix : Code → List α → List Res → Prop) (h0 : Inv [] m)
  (hround : ∀ (l : Nat) (pre : List α) (x : α) (W : World) (m1 : List Res), pre ++ [x] <+: xs → Inv pre m1 → St w0 Z M W m1 (ds ++ [dAg W (imm Z w0 m1 W)]) →
   assign.wpIn (rI l) 0 P (Exit.then (rBody P l body Inv Ix w0 Z M ds (pre ++ [x]) W m1) (fun _ _ _ => False)) { tmps := (ps.zip (encs x)).foldl (fun t (p, v) => t.setIfInBounds p v) a.tmps, defers := [] } W)
  (hdone : ∀ (D : Nat) (m' : List Res) (W : World), Inv xs m' → St w0 Z M W m' (ds ++ [dMark w0.heap.size D]) → Q .normal { a with defers := mark D :: a.defers } W)
  (hstop : ∀ (D : Nat) (c : Code) (pre : List α) (m' : List Res) (W : World), pre <+: xs → Ix c pre m' → St w0 Z M W m' (ds ++ [dMark w0.heap.size D]) → c.wp P Q { a with defers := mark D :: a.defers } W) :
  (Code.rangeFunc g ps assign body).wp P Q a w := by
 refine (wpIn_wide (n := 0)).1 (wpIn_rangeFunc ?_)
 intro fn _
 obtain ⟨rec, hrec⟩ : ∃ rec : LoopState → Option Code → Loop, rec = fun st pe => { state := st, pending := pe, fn, tmps := a.tmps, params := ps, assign, body, defers := w.heap.size } := ⟨_, rfl⟩
 obtain ⟨W1, hW1⟩ : ∃ W1, (w.alloc (.deferred (some []))).alloc (.loop (rec .ready none)) = W1 := ⟨_, rfl⟩
 have hsz1 : W1.heap.size = w.heap.size + 2 := by rw [← hW1]; simp
 have hL1 : W1.heap[w.heap.size + 1]? = some (.loop (rec .ready none)) := by
  rw [← hW1]; have := World.alloc_heap_new (w.alloc (.deferred (some []))) (.loop (rec .ready none)); rwa [World.size_alloc] at this
 have hK1 : W1.heap[w.heap.size]? = some (.deferred (some [])) := by
  rw [← hW1]; exact (Below.heap_alloc _ _ _ (by simp)).trans (World.alloc_heap_new w _)
 have hb1 : Below w.heap.size w W1 := by
  rw [← hW1]; exact (((Below.refl _ w).alloc (Nat.le_refl _) _).alloc (by simp) _)
 have hold1 : ∀ k, k < w.heap.size → W1.heap[k]? = w.heap[k]? := fun k hk => hb1.block k hk
 have hc0 := hS.cst
 have hso1 : SameOs w W1 := ⟨hb1.os, hb1.tape, hb1.output⟩
 have hc1 : CSt w0 M (imm Z w0 m w) w m W1 m ds := hc0.keep (by omega) (fun k hk => hk.1) hold1 (fun k ⟨r, hr, e⟩ => hold1 k (hS.own r hr k e).1)
 refine ⟨w.heap.size + 1, [mark w.heap.size], W1, { target := .fn (.func gf) lb, args := #[.func (.yield (w.heap.size + 1)) #[] #[]] }, W1, gf,
  #[.func (.yield (w.heap.size + 1)) #[] #[]] ++ lb, W1, ?_, ?_, (fun _ _ => trivial), ?_, (fun h => by cases h), ?_⟩
 · rw [← hW1, hrec]; exact run_enterLoop_outer _ _ _ _ _
 ·
  simp only [resolve, hg]
  simp [go_sem]
 · simp [invoke, go_sem, hok _ _]
 ·
  refine (hseq (w.heap.size + 1) (rJ (fun (_ : Unit) => Inv) w0 Z M w m ds (w.heap.size + 1) w.heap.size (fun _ => .loop (rec .ready none)))
   (rJ Ix w0 Z M w m ds (w.heap.size + 1) w.heap.size (fun c => .loop (rec .done (some c)))) W1 _ _ (by omega) ?_ ?_ ⟨(), m, h0, hc1, by omega, hL1, hK1, rfl, rfl⟩ ?_).mono ?_
  ·
   intro k hk
   exact hold1 k (hZd k hk).1
  ·
   intro k hk
   have hi := hZd k hk
   have hlt : k < w.heap.size := hi.1
   refine ⟨by omega, ?_⟩
   rintro (⟨r, hr, e⟩ | rfl)
   · exact hi.2.2 r hr e
   · omega
  ·
   -- one round
   rintro pre x W C1 M1 ⟨⟨⟩, m1, hinv, hcst, hlz, hl, hk, rfl, rfl⟩ hso hp
   have hy := run_yield (P := P) (args := encs x) hl (by rw [hrec]; exact hps x)
   rw [hrec] at hy
   have hnl : ¬ ownB m1 (w.heap.size + 1) := own_ne hcst.hold hl loop_ne
   have hnd : ¬ ownB m1 w.heap.size := own_ne hcst.hold hk def_ne
   have hso' : SameOs w W := ⟨hso.1.trans hso1.1, hso.2.1.trans hso1.2.1, hso.2.2.trans hso1.2.2⟩
   have hS1 := hcst.st hS hso' hlz
   refine ⟨fn, _, assign, body, hy, roundIn_of_wpIn trivial (wpIn_mono (hround (w.heap.size + 1) pre x W m1 hp hinv hS1) ?_)⟩
   rintro e a1 Wa he
   cases e with
   | normal =>
    obtain ⟨m2, ds2, i2, hSa, hi2, hM1, hM2, hbody⟩ := he
    obtain ⟨q1, q2, q3⟩ := CSt.chg hS1 hSa hi2 hM1
    have hla : Wa.heap[w.heap.size + 1]? = some (.loop (rec .ready none)) := (q1 _ (Array.getElem?_eq_some_iff.1 hl).1 hnl).trans hl
    have hka : Wa.heap[w.heap.size]? = some (.deferred (some [])) := (q1 _ (Array.getElem?_eq_some_iff.1 hk).1 hnd).trans hk
    have hlt : w.heap.size + 1 < Wa.heap.size := (Array.getElem?_eq_some_iff.1 hla).1
    refine ⟨_, run_beginRound hla (by rw [hrec]), ?_⟩
    have hca := hcst.back hSa hlz q1 q2 q3
    have hnl2 : ¬ ownB m2 (w.heap.size + 1) := own_ne hca.hold hla loop_ne
    have hnd2 : ¬ ownB m2 w.heap.size := own_ne hca.hold hka def_ne
    have hput : ∀ k, k ≠ w.heap.size + 1 → (Wa.putObj (w.heap.size + 1) (.loop { rec .ready none with state := .busy })).heap[k]? = Wa.heap[k]? := fun k h => World.putObj_heap_other h
    have hcb : CSt w0 M (imm Z w0 m w) w m (Wa.putObj (w.heap.size + 1) (.loop { rec .ready none with state := .busy })) m2 ds :=
     hca.keep (by rw [World.putObj_size]; omega) (fun k hk => hk.1) (fun k hk => hput k (by omega)) (fun k hk => hput k (fun e => hnl2 (e ▸ hk)))
    have hsa : SameOs w (Wa.putObj (w.heap.size + 1) (.loop { rec .ready none with state := .busy })) := ⟨hSa.os.trans hS.os.symm, hSa.tape.trans hS.tape.symm, hSa.output.trans hS.output.symm⟩
    have hS2 := hcb.st hS hsa (by rw [World.putObj_size]; omega)
    refine wpIn_mono (hbody _ hS2) ?_
    have hl2 : (Wa.putObj (w.heap.size + 1) (.loop { rec .ready none with state := .busy })).heap[w.heap.size + 1]? = some (.loop { rec .ready none with state := .busy }) := World.putObj_heap_same hlt
    have hk2 : (Wa.putObj (w.heap.size + 1) (.loop { rec .ready none with state := .busy })).heap[w.heap.size]? = some (.deferred (some [])) := (hput _ (by omega)).trans hka
    have fin : ∀ (jump : Option Code) (W3 : World) (m3 : List Res) (ds3 : List Dat) (i3 : Nat), St w0 Z M W3 m3 ds3 → ds3[i3]? = some (dAg (Wa.putObj (w.heap.size + 1) (.loop { rec .ready none with state := .busy })) (imm Z w0 m2 (Wa.putObj (w.heap.size + 1) (.loop { rec .ready none with state := .busy })))) →
      (Instr.endRound (w.heap.size + 1) jump).run P W3 = .ok (.bool jump.isNone) (W3.putObj (w.heap.size + 1) (.loop (rec (if jump.isNone then .ready else .done) jump))) ∧
      CSt w0 M (imm Z w0 m w) w m (W3.putObj (w.heap.size + 1) (.loop (rec (if jump.isNone then .ready else .done) jump))) m3 ds ∧
      w.heap.size ≤ (W3.putObj (w.heap.size + 1) (.loop (rec (if jump.isNone then .ready else .done) jump))).heap.size ∧
      (W3.putObj (w.heap.size + 1) (.loop (rec (if jump.isNone then .ready else .done) jump))).heap[w.heap.size + 1]? = some (.loop (rec (if jump.isNone then .ready else .done) jump)) ∧
      (W3.putObj (w.heap.size + 1) (.loop (rec (if jump.isNone then .ready else .done) jump))).heap[w.heap.size]? = some (.deferred (some [])) ∧
      Chg (fun k => k < w.heap.size ∨ ownB m1 k ∨ k = w.heap.size + 1 ∨ k = w.heap.size) (fun k => ownB m1 k ∨ k = w.heap.size + 1) W (W3.putObj (w.heap.size + 1) (.loop (rec (if jump.isNone then .ready else .done) jump)))
       (fun k => k < w.heap.size ∨ ownB m3 k ∨ k = w.heap.size + 1 ∨ k = w.heap.size) (fun k => ownB m3 k ∨ k = w.heap.size + 1) := fun jump W3 m3 ds3 i3 hS3 hi3 => by
     obtain ⟨p1, p2, p3⟩ := CSt.chg hS2 hS3 hi3 hM2
     rw [World.putObj_size] at p3
     have hl3 : W3.heap[w.heap.size + 1]? = some (.loop { rec .ready none with state := .busy }) := (p1 _ (by simpa using hlt) hnl2).trans hl2
     have hk3 : W3.heap[w.heap.size]? = some (.deferred (some [])) := (p1 _ (Array.getElem?_eq_some_iff.1 hk2).1 hnd2).trans hk2
     have hr := run_endRound (P := P) jump hl3
     have hlt3 := (Array.getElem?_eq_some_iff.1 hl3).1
     have hc3 := hcb.back hS3 (by rw [World.putObj_size]; omega) p1 p2 (by rw [World.putObj_size]; exact p3)
     have hnl3 : ¬ ownB m3 (w.heap.size + 1) := own_ne hc3.hold hl3 loop_ne
     have hput3 : ∀ k, k ≠ w.heap.size + 1 → (W3.putObj (w.heap.size + 1) (.loop (rec (if jump.isNone then .ready else .done) jump))).heap[k]? = W3.heap[k]? := fun k h => World.putObj_heap_other h
     have hown3 : ∀ k, ownB m3 k → ownB m1 k ∨ W.heap.size ≤ k := fun k q => by
      rcases p2 k q with q | q
      · exact q2 k q
      ·
       rw [World.putObj_size] at q
       right; omega
     refine ⟨by rw [hrec] at hr ⊢; exact hr, hc3.keep (by rw [World.putObj_size]; omega) (fun k hk => hk.1) (fun k hk => hput3 k (by omega)) (fun k hk => hput3 k (fun e => hnl3 (e ▸ hk))), by rw [World.putObj_size]; omega, World.putObj_heap_same hlt3, (hput3 _ (by omega)).trans hk3, ?_⟩
     refine ⟨hS3.os.trans hS1.os.symm, hS3.tape.trans hS1.tape.symm, hS3.output.trans hS1.output.symm, by rw [World.putObj_size]; omega, fun k hk hM => ?_, fun k q => ?_, fun k q => ?_⟩
     ·
      have hkl : k ≠ w.heap.size + 1 := fun e => hM (.inr e)
      have hk1 : ¬ ownB m1 k := fun e => hM (.inl e)
      have hka' : k < Wa.heap.size := Nat.lt_of_lt_of_le hk q3
      have hn2 : ¬ ownB m2 k := fun q => by
       rcases q2 k q with q | q
       · exact hk1 q
       · omega
      rw [hput3 k hkl, p1 k (by rw [World.putObj_size]; exact hka') hn2, hput k hkl]
      exact q1 k hk hk1
     ·
      rcases q with q | q | q
      · exact .inl (.inl q)
      ·
       rcases hown3 k q with q | q
       · exact .inl (.inr (.inl q))
       · exact .inr q
      · exact .inl (.inr (.inr q))
     ·
      rcases q with q | q
      ·
       rcases hown3 k q with q | q
       · exact .inl (.inl q)
       · exact .inr q
      · exact .inl (.inr q)
    rintro e a3 W3 hp3
    cases e with
    | normal =>
     obtain ⟨m3, ds3, i3, hS3, hi3, hv3⟩ := hp3
     obtain ⟨hr, hc3, hz3, hl4, hk4, hch⟩ := fin none W3 m3 ds3 i3 hS3 hi3
     exact ⟨_, _, hr, _, _, hch, .inl ⟨rfl, (), m3, hv3, hc3, hz3, hl4, hk4, rfl, rfl⟩⟩
    | ret =>
     obtain ⟨m3, ds3, i3, hS3, hi3, hv3⟩ := hp3
     obtain ⟨hr, hc3, hz3, hl4, hk4, hch⟩ := fin (some .ret) W3 m3 ds3 i3 hS3 hi3
     exact ⟨_, _, hr, _, _, hch, .inr ⟨rfl, .ret, m3, hv3, hc3, hz3, hl4, hk4, rfl, rfl⟩⟩
    | exit id =>
     obtain ⟨m3, ds3, i3, hS3, hi3, hv3⟩ := hp3
     obtain ⟨hr, hc3, hz3, hl4, hk4, hch⟩ := fin (some (.exit id)) W3 m3 ds3 i3 hS3 hi3
     exact ⟨_, _, hr, _, _, hch, .inr ⟨rfl, .exit id, m3, hv3, hc3, hz3, hl4, hk4, rfl, rfl⟩⟩
    | goto t =>
     obtain ⟨m3, ds3, i3, hS3, hi3, hv3⟩ := hp3
     obtain ⟨hr, hc3, hz3, hl4, hk4, hch⟩ := fin (some (.goto t)) W3 m3 ds3 i3 hS3 hi3
     exact ⟨_, _, hr, _, _, hch, .inr ⟨rfl, .goto t, m3, hv3, hc3, hz3, hl4, hk4, rfl, rfl⟩⟩
    | panic ch => exact hp3.elim
    | outgrown => exact hp3.elim
   | _ => exact he.elim
  ·
   -- behind the iterator
   have after : ∀ (rc : Loop) (m' : List Res) (W' : World) (C' M' : Nat → Prop), CSt w0 M (imm Z w0 m w) w m W' m' ds → W'.heap[w.heap.size + 1]? = some (.loop rc) → W'.heap[w.heap.size]? = some (.deferred (some [])) →
     (∀ k, ownB m' k → C' k) → Chg (fun k => k < w.heap.size ∨ ownB m k ∨ k = w.heap.size + 1 ∨ k = w.heap.size) (fun k => ownB m k ∨ k = w.heap.size + 1) W1 W' C' M' →
     St w0 Z M (W'.putObj (w.heap.size + 1) (.loop { rc with state := .exhausted })) m' (ds ++ [dMark w0.heap.size w.heap.size]) := fun rc m' W' C' M' hc hl hk hC hch => by
    have hnl : ¬ ownB m' (w.heap.size + 1) := own_ne hc.hold hl loop_ne
    have hnd : ¬ ownB m' w.heap.size := own_ne hc.hold hk def_ne
    have hput : ∀ k, k ≠ w.heap.size + 1 → (W'.putObj (w.heap.size + 1) (.loop { rc with state := .exhausted })).heap[k]? = W'.heap[k]? := fun k h => World.putObj_heap_other h
    have hsz := hch.size
    have hS' : St w0 Z M (W'.putObj (w.heap.size + 1) (.loop { rc with state := .exhausted })) m' ds := by
     refine hS.step (hch.os.trans hb1.os) (hch.tape.trans hb1.tape) (hch.output.trans hb1.output) (by rw [World.putObj_size]; omega) (fun k hk hne => ?_)
      (fun r hr => Res.holds_keep (hc.hold r hr) (fun k e => hput k (fun e' => hnl (e' ▸ ⟨r, hr, e⟩)))) (fun r hr k e => ⟨by rw [World.putObj_size]; exact (hc.own r hr k e).1, ?_⟩) hc.apart
     ·
      rw [hput k (by omega), hch.old k (by omega) (by rintro (⟨r, hr, e⟩ | rfl); exact hne r hr e; omega)]
      exact hold1 k hk
     · exact (hc.own r hr k e).2.2.2.imp (fun ⟨r', hr', e'⟩ => ⟨r', hr', e'⟩) id
    refine hS'.data _ ⟨hS.size, ⟨?_, fun hlt => ?_, fun r hr e => hnd ⟨r, hr, e⟩⟩, (hput _ (by omega)).trans hk⟩
    · rw [World.putObj_size]; exact (Array.getElem?_eq_some_iff.1 hk).1
    ·
     have := hS.size
     omega
   rintro e W' ⟨⟨v, rfl⟩, C', M', hch, ⟨⟨⟩, m', hinv, hc, _, hl, hk, rfl, rfl⟩ | ⟨pre, hpre, c, m', hix, hc, _, hl, hk, rfl, rfl⟩⟩
   ·
    have he := run_endLoop (P := P) hl (by rw [hrec]; simp)
    rw [hrec] at he
    refine ⟨none, _, he, hdone _ m' _ hinv ?_⟩
    have := after _ m' W' _ _ hc hl hk (fun k q => .inr (.inl q)) hch
    rw [hrec] at this
    exact this
   ·
    have he := run_endLoop (P := P) hl (by rw [hrec]; simp)
    rw [hrec] at he
    refine ⟨some c, _, he, wpIn_wide.2 (hstop _ c pre m' _ hpre hix ?_)⟩
    have := after _ m' W' _ _ hc hl hk (fun k q => .inr (.inl q)) hch
    rw [hrec] at this
    exact this
end
end Go.Proofs.YtcfponnkfhkbdaaDoor
/- Iterators' walks: how they begin and end; functions that hold a loop over a function. -/
namespace Go.Proofs.YtcfponnkfhkbdaaDoor
set_option linter.unusedSimpArgs false
set_option linter.unusedVariables false
open Go Go.RowKit
section
variable {α : Type} {P : Program} {jf jx : JF α} {W w w' w0 : World} {C Mc C0 M0 Zd Z M : Nat → Prop} {m : List Res} {ds ds0 : List Dat} {xs s : List α} {N : Nat} {l : List (Nat × Value)} {a : Act}
theorem it_start (hj : jf.J [] W C Mc) (hds : ∀ d ∈ ds0, d.φ W Zd) (hz : ∀ k, Zd k → k < W.heap.size ∧ ¬ Mc k) : St W (oldB W) Mc W [] (dJ jf [] C Mc W.heap.size :: ds0) := by
 refine St.start W _ _ _ fun d hd => ?_
 rcases List.mem_cons.1 hd with rfl | hd
 · exact ⟨C, Mc, hj, fun k hC => ⟨(jf.sub _ _ _ _ hj).2 k hC, fun h => h, fun _ h => by cases h⟩, fun _ h => .inl h, fun _ h => .inl h⟩
 · exact d.mono _ _ _ _ (Nat.le_refl _) (hds d hd) fun k hk => ⟨⟨(hz k hk).1, fun h => h, fun _ h => by cases h⟩, rfl⟩
def itPost (jf jx : JF α) (xs : List α) (C0 M0 : Nat → Prop) (w0 : World) (e : Ending) (W' : World) : Prop :=
 (∃ v, e = .returned v) ∧ ∃ C' M', Chg C0 M0 w0 W' C' M' ∧ (jf.J xs W' C' M' ∨ ∃ pre, pre <+: xs ∧ jx.J pre W' C' M')
theorem it_chg {jf : JF α} {i : Nat} (hS : St w0 (oldB w0) M0 w m ds) (hi : ds[i]? = some (dJ jf s C0 M0 w0.heap.size)) : ∃ C' M', Chg C0 M0 w0 w C' M' ∧ jf.J s w C' M' := by
 obtain ⟨C', M', h1, h2, h3, h4⟩ := hS.get hi
 exact ⟨C', M', ⟨hS.os, hS.tape, hS.output, hS.size, hS.old, h3, h4⟩, h1⟩
theorem it_all {v : Value} {i : Nat} (hS : St w0 (oldB w0) M0 w m ds) (hi : ds[i]? = some (dJ jf s C0 M0 w0.heap.size)) (h : s = xs) : itPost jf jx xs C0 M0 w0 (.returned v) w := by
 subst h
 obtain ⟨C', M', h1, h2⟩ := it_chg hS hi
 exact ⟨⟨v, rfl⟩, C', M', h1, .inl h2⟩
theorem it_stop {v : Value} {i : Nat} (hS : St w0 (oldB w0) M0 w m ds) (hi : ds[i]? = some (dJ jx s C0 M0 w0.heap.size)) (h : s <+: xs) : itPost jf jx xs C0 M0 w0 (.returned v) w := by
 obtain ⟨C', M', h1, h2⟩ := it_chg hS hi
 exact ⟨⟨v, rfl⟩, C', M', h1, .inr ⟨s, h, h2⟩⟩
theorem yields_of {g : Nat} {fn : Func} {c : Code} {lb : List Value} {encs : α → Array Value} {W0 : World} (hf : P.funcs[g]? = some fn) (hb : fn.body = some c) (hN : fn.ntmps = N) (hsz : decide (lb.length + 1 ≤ N ∧ N ≤ 1000000) = true)
  (ds0 : List Dat) (hds : ∀ d ∈ ds0, d.φ W0 Zd)
  (h : ∀ (lp : Nat) (jf jx : JF α) (w0 : World) (C0 M0 : Nat → Prop), Ys P lp encs xs jf jx w0 C0 M0 Zd → (∀ d ∈ ds0, d.φ w0 Zd) → ∀ a, Reg a N ((1000000, .bool false) :: idx 0 (.func (.yield lp) #[] #[] :: lb)) →
   St w0 (oldB w0) M0 w0 [] (dJ jf [] C0 M0 w0.heap.size :: ds0) → c.wp P (bodyPost P fn (itPost jf jx xs C0 M0 w0)) a w0) : Yields P g lb.toArray encs xs Zd W0 := by
 intro lp jf jx W C Mc hs hag hz hj hY
 have hds' : ∀ d ∈ ds0, d.φ W Zd := fun d hd => d.mono _ _ _ _ hs (hds d hd) fun k hk => ⟨hk, hag k hk⟩
 have h1 : (#[.func (.yield lp) #[] #[]] ++ lb.toArray : Array Value) = (Value.func (.yield lp) #[] #[] :: lb).toArray := by simp
 rw [h1]
 refine callsIn_wide.2 (c_enter hf hb hN (by simpa using hsz) fun a hR => ?_)
 exact h lp jf jx W C Mc ⟨hz, (jf.sub _ _ _ _ hj).2, hY⟩ hds' a hR (it_start hj hds' hz)
end
section
variable {P : Program} {ops : Array Oper} {Q : Exit → Act → World → Prop} {a : Act} {w : World} {rest : List Oper} {o : Oper} {ro : Option Nat}
theorem cy_region {id : Nat} {ls : List Oper} (h : wpListIn (wf none) 0 P ls.toArray Q ls a w) : (Code.region id ls.toArray false).wp P Q a w :=
 (wpIn_wide (n := 0)).1 (wpIn_region_lit h)
theorem li_nil {F : Fence} {n : Nat} (h : Q .normal a w) : wpListIn F n P ops Q [] a w := h
theorem st_listIn (hg : o.guard = none) (hnd : notDefer o = true) : Ste P (wpListIn (wf ro) 0 P ops Q (o :: rest) a w) (wpListIn (wf ro) 0 P ops Q rest) o a w :=
 st_listIn_w (notDefer_ne hnd) (by simp [Region.wanted, hg])
theorem st_listInV (hg : o.guard = none) (hnd : notDefer o = true) : SteV P (wpListIn (wf ro) 0 P ops Q (o :: rest) a w) (wpListIn (wf ro) 0 P ops Q rest) o a w := (st_listIn hg hnd).toSteV
end
section
variable {P : Program} {fn : Func} {R : Ending → World → Prop} {N : Nat} {l : List (Nat × Value)} {a : Act} {w : World}
def bodyM (P : Program) (fn : Func) (R : Ending → World → Prop) : Exit → Act → World → Prop
 | .panic _, _, _ => False
 | .outgrown, _, _ => False
 | e, a, w => bodyPostM Fence.wide 0 P fn R e a w
theorem bodyM_le {e : Exit} (h : bodyM P fn R e a w) : bodyPostM Fence.wide 0 P fn R e a w := by
 cases e with
 | panic _ => exact h.elim
 | outgrown => exact h.elim
 | _ => exact h
theorem c_enterM {f : FuncId} {c : Code} {vs : List Value} (hf : P.funcs[f]? = some fn) (hb : fn.body = some c) (hN : fn.ntmps = N) (hsz : (decide (vs.length ≤ N ∧ N ≤ 1000000)) = true)
  (h : ∀ a, Reg a N ((1000000, .bool false) :: idx 0 vs) → c.wp P (bodyM P fn R) a w) : Calls P f vs.toArray w R := by
 subst hN
 have hsz0 := of_decide_eq_true hsz
 refine (callsIn_wide (n := 0)).1 (callsIn_of_wp_marks hf hb trivial (wpIn_wide.2 (wp_mono (h _ (Reg.start vs.toArray fn.ntmps (by simpa using hsz0.1) hsz0.2 _ fun i v hv => ?_)) (fun _ _ _ h => bodyM_le h))))
 obtain ⟨_, h2⟩ := idx_get vs 0 i v hv
 have h3 : vs[i]? = some v := by simpa using h2
 obtain ⟨hlt, h4⟩ := List.getElem?_eq_some_iff.1 h3
 simp [Array.getElem?_append, hlt, h4]
abbrev shut (w : World) (D : Nat) : World := w.putObj D (.deferred none)
theorem m_none {v : Value} {how : Exit} (hhow : how = .ret ∨ how = .normal) (hR : Reg a N l) (h0 : l.lookup 1000000 = some (.bool false)) (hr : (results fn a.tmps).run P w = .ok v w) (h : R (.returned v) w) : bodyM P fn R how a w := by
 have h1 : LeavesInM Fence.wide 0 P fn a.tmps R a.defers .returning w := by
  rw [hR.dfr h0]
  exact ⟨v, hr, h⟩
 rcases hhow with rfl | rfl <;> exact h1
theorem m_mark {v : Value} {D : Nat} {how : Exit} (hhow : how = .ret ∨ how = .normal) (hR : Reg a N l) (h0 : l.lookup 1000000 = some (.int .i64 (D : Int))) (hD : w.heap[D]? = some (.deferred (some []))) (hr : (results fn a.tmps).run P (shut w D) = .ok v (shut w D)) (h : R (.returned v) (shut w D)) : bodyM P fn R how a w := by
 have h1 : LeavesInM Fence.wide 0 P fn a.tmps R a.defers .returning w := by
  rw [hR.dfr1 D h0]
  exact ⟨by simp, .inl ⟨D, _, rfl, run_takeDeferred hD, v, hr, h⟩⟩
 rcases hhow with rfl | rfl <;> exact h1
theorem res2 {t u : Nat} {v v' : Value} (hR : Reg a N l) (hr : fn.results = #[.tmp t, .tmp u]) (hv : ev l (.tmp t) = some v) (hv' : ev l (.tmp u) = some v') (w : World) : (results fn a.tmps).run P w = .ok (.tuple #[v, v']) w := by
 have h1 : a.tmps.getD t undef = v := hR.ev hv
 have h2 : a.tmps.getD u undef = v' := hR.ev hv'
 rw [results_tmp2 hr, h1, h2]
def IsCells (w : World) (k : Nat) : Prop := ∃ (cs : Array Value) (t : TypeId) (fz : Nat × Nat), w.heap[k]? = some (.cells cs t fz)
def DatC (d : Dat) : Prop := ∀ (w w' : World) (I : Nat → Prop), d.φ w I → (∀ k, IsCells w k → w'.heap[k]? = w.heap[k]?) → d.φ w' I
theorem rowI_c {w w' : World} {I : Nat → Prop} {size : Nat} {A : Option Addr} {n : Nat} {xs : List Value} (h : RowI w I size A n xs) (hs : size ≠ 0) (hk : ∀ k, IsCells w k → w'.heap[k]? = w.heap[k]?) : RowI w' I size A n xs :=
 ⟨h.1, fun hn => by
  obtain ⟨ad, rfl, hI, hc⟩ := h.2 hn
  refine ⟨ad, rfl, hI, hc.keep (hk _ ?_)⟩
  have hlen : 0 < xs.length := by rw [h.1]; exact Nat.mul_pos hn (Nat.pos_of_ne_zero hs)
  have h0 := hc 0 xs[0] (List.getElem?_eq_getElem hlen)
  rw [add_zero_addr] at h0
  unfold World.cell? at h0
  cases ho : w.heap[ad.block]? with
  | none => simp [ho] at h0
  | some o =>
   cases o with
   | cells cs t fz => exact ⟨cs, t, fz, ho⟩
   | _ => simp [ho] at h0⟩
theorem datC_row {size : Nat} (hs : size ≠ 0) (A : Option Addr) (n cap : Nat) (xs : List Value) : DatC (dRow size A n cap xs) := fun _ _ _ h hk => ⟨h.1, rowI_c h.2 hs hk⟩
theorem datC_all (t : List Sl) : DatC (dAll t) := fun _ _ _ h hk s hs => ⟨(h s hs).1, rowI_c (h s hs).2 (by decide) hk⟩
theorem St.shut {w0 w : World} {Z M : Nat → Prop} {m : List Res} {ds : List Dat} {D i : Nat} (h : St w0 Z M w m ds) (hi : ds[i]? = some (dMark w0.heap.size D)) (ds' : List Dat) (hd : ∀ d ∈ ds', d ∈ ds ∧ DatC d) : w.heap[D]? = some (.deferred (some [])) ∧ St w0 Z M (shut w D) m ds' := by
 obtain ⟨hB, hI, hD⟩ := h.get hi
 have hne : ∀ k, IsCells w k → (YtcfponnkfhkbdaaDoor.shut w D).heap[k]? = w.heap[k]? := fun k ⟨cs, t, fz, hk⟩ => World.putObj_heap_other (fun e => by
  subst e
  rw [hD] at hk
  cases hk)
 have hblk : ∀ r ∈ m, ∀ k, r.blk = some k → (YtcfponnkfhkbdaaDoor.shut w D).heap[k]? = w.heap[k]? := fun r hr k e => hne k (Res.cells_at (h.hold r hr) e)
 refine ⟨hD, h.os, h.tape, h.output, by rw [World.putObj_size]; exact h.size, fun k hk hM => (World.putObj_heap_other (by omega)).trans (h.old k hk hM), fun r hr => Res.holds_keep (h.hold r hr) (hblk r hr),
  fun r hr k e => ⟨by rw [World.putObj_size]; exact (h.own r hr k e).1, (h.own r hr k e).2⟩, h.apart, fun d hdm => ?_⟩
 have h1 := (hd d hdm).2 w (YtcfponnkfhkbdaaDoor.shut w D) _ (h.dat d (hd d hdm).1) hne
 have himm : imm Z w0 m (YtcfponnkfhkbdaaDoor.shut w D) = imm Z w0 m w := by
  funext k
  unfold imm
  rw [World.putObj_size]
 rw [himm]
 exact h1
end
end Go.Proofs.YtcfponnkfhkbdaaDoor
/- Slices held against nil; rows that a call hands over. -/
namespace Go.Proofs.YtcfponnkfhkbdaaDoor
set_option linter.unusedSimpArgs false
set_option linter.unusedVariables false
open Go Go.RowKit
section
variable {P : Program} {X : Prop} {Next : Act → World → Prop} {o : Oper} {a : Act} {w w' w0 : World} {N : Nat} {l : List (Nat × Value)} {d : Nat} {Z M : Nat → Prop} {m : List Res} {ds : List Dat}
theorem run_slc {op : BinOp} {t u : TypeId} {x y : Operand} {v : Value} {A A2 : Option Addr} {n c n2 c2 : Nat} (hR : Reg a N l) (ho : o.op = .binOp op t x y u) (hx : ev l x = some (.slice A n c)) (hy : ev l y = some (.slice A2 n2 c2))
  (h : (binOp op t (.slice A n c) (.slice A2 n2 c2)).run P w = .ok v w) : (execOp a.eval o).run P w = .ok (.value v) w := by
 have hg : (eqGuard op t x y (.slice A n c) (.slice A2 n2 c2)).run P w = .ok () w := by
  unfold eqGuard
  cases op <;> rfl
 unfold execOp
 rw [ho]
 simp only [hR.ev hx, hR.ev hy, Sem.run_bind, hg, Result.andThen_ok, h, Sem.run_pure]
theorem r_eqlNil {t u e : TypeId} {x y : Operand} {A : Option Addr} {n c n2 c2 : Nat} (hs : SteV P X Next o a w) (hR : Reg a N l) (hd : o.dst = some d) (ho : o.op = .binOp .eql t x y u) (hx : ev l x = some (.slice A n c)) (hy : ev l y = some (.slice none n2 c2))
  (ht : P.underlying t = some (.slice e)) (hdN : d < N) (k : ∀ a', Reg a' N ((d, .bool A.isNone) :: l) → Next a' w) : X :=
 r_pure hs hR hd hdN (run_slc hR ho hx hy (Lib.run_eql_slice_nil w t e A n c n2 c2 ht)) k
theorem nil_len {I : Nat → Prop} {size : Nat} {A : Option Addr} {n cap : Nat} {xs : List Value} (h : (dRow size A n cap xs).φ w I) (hA : A.isNone = true) : n = 0 := by
 refine Nat.eq_zero_of_not_pos fun hn => ?_
 obtain ⟨ad, rfl, _⟩ := h.2.2 hn
 cases hA
theorem St.callO (h : St w0 Z M w m ds) {r : Res} (hf : Fr none_ w w') (hr : r.holds w') (hfr : ∀ k, r.blk = some k → w.heap.size ≤ k) : St w0 Z M w' (m ++ [r]) ds := by
 have hb := hf.below
 refine h.step hf.os hf.tape hf.output hf.size (fun k hk _ => hb.block k hk) ?_ ?_ ?_
 ·
  intro s hs
  rcases List.mem_append.1 hs with hs | hs
  · exact Res.holds_below (h.hold s hs) hb (fun k e => (h.own s hs k e).1)
  ·
   rw [List.mem_singleton] at hs
   subst hs
   exact hr
 ·
  intro s hs k e
  rcases List.mem_append.1 hs with hs | hs
  · exact ⟨Nat.lt_of_lt_of_le (h.own s hs k e).1 hf.size, .inl ⟨s, hs, e⟩⟩
  ·
   rw [List.mem_singleton] at hs
   subst hs
   obtain ⟨cs, t, fz, hc⟩ := Res.cells_at hr e
   exact ⟨(Array.getElem?_eq_some_iff.1 hc).1, .inr (hfr k e)⟩
 ·
  rw [List.pairwise_append]
  refine ⟨h.apart, by simp, fun s hs t ht k e e' => ?_⟩
  rw [List.mem_singleton] at ht
  subst ht
  have := (h.own s hs k e).1
  have := hfr k e'
  omega
theorem St.fresh {i : Nat} {r : Res} (h : St w0 Z none_ w m ds) (hi : m[i]? = some r) (k : Nat) (hk : r.blk = some k) : w0.heap.size ≤ k :=
 ((h.own r (List.mem_of_getElem? hi) k hk).2).resolve_right (fun x => x)
theorem Reg.round2n {p q : Nat} {v0 u v : Value} {l' : List (Nat × Value)} (h : Reg a N ((1000000, v0) :: l')) (hp : p < N) (hq : q < N) (hk : l'.lookup 1000000 = none) :
  Reg { tmps := (#[p, q].zip #[u, v]).foldl (fun t (p, v) => t.setIfInBounds p v) a.tmps, defers := [] } N ((q, v) :: (p, u) :: (1000000, .bool false) :: l') :=
 h.round2 hp hq u v (fun i w hi hw => by rw [lookup_ne hi]; exact hw) hk
theorem Reg.marked {l' : List (Nat × Value)} (h : Reg a N ((1000000, .bool false) :: l')) (D : Nat) : Reg { a with defers := mark D :: a.defers } N ((1000000, .int .i64 (D : Int)) :: l') := by
 refine ⟨fun q => ?_, fun D' q => ?_, h.top, h.size, fun i v hi hv => h.get i v hi (by rw [lookup_ne hi] at hv ⊢; exact hv)⟩
 ·
  rw [lookup_eq] at q
  cases q
 ·
  rw [lookup_eq] at q
  have : D = D' := by
   injection q with q
   injection q with _ q
   omega
  subst this
  show mark D :: a.defers = _
  rw [h.dfr lookup_eq]
theorem nil_row1 {w : World} {e size : Nat} : (Res.row none 0 0 e size []).holds w := ⟨by simp, .inl ⟨rfl, rfl⟩⟩
theorem nil_row2 {w0 : World} {e size : Nat} : ∀ k, (Res.row none 0 0 e size []).blk = some k → w0.heap.size ≤ k := fun k hk => by cases hk
end
end Go.Proofs.YtcfponnkfhkbdaaDoor
/- Regions that draw their order and, last of all, change what they have read. -/
namespace Go.Proofs.YtcfponnkfhkbdaaDoor
set_option linter.unusedSimpArgs false
set_option linter.unusedVariables false
open Go Go.RowKit
section
variable {P : Program} {ops : Array Oper} {Q : Exit → Act → World → Prop} {S : World → Prop} {late : List Nat} {a : Act} {w w0 : World} {N : Nat} {l : List (Nat × Value)} {d : Nat} {Z M : Nat → Prop} {m : List Res} {ds : List Dat} {oi : Oper} {i fuel : Nat} {listed : Array Bool}
def wpAnyL (P : Program) (ops : Array Oper) (Q : Exit → Act → World → Prop) (S : World → Prop) (late : List Nat) : Nat → Array Bool → Act → World → Prop
 | 0, listed, a, w => Region.ready .any ops listed = [] ∧ Q .normal a w
 | fuel + 1, listed, a, w => (Region.ready .any ops listed = [] → Q .normal a w) ∧
   ∀ j ∈ Region.ready .any ops listed, wpOp P ops Q j (fun a' w' => (late.contains j = false → S w → S w') ∧ wpAnyL P ops Q S late fuel (listed.setIfInBounds j true) a' w') a w
theorem wpAny_of_late : ∀ (fuel : Nat) (listed : Array Bool) (a : Act) (w : World), wpAnyL P ops Q S late fuel listed a w → wpAny P .any ops Q fuel listed a w
 | 0, _, _, _, h => h
 | fuel + 1, _, _, _, h => ⟨h.1, fun i hi => wpOp_mono (fun _ _ h' => wpAny_of_late fuel _ _ _ h'.2) (h.2 i hi)⟩
def waits (ops : Array Oper) (late : List Nat) (i : Nat) : Bool := late.all fun j => match ops[j]? with
 | some oj => oj.after.toList.any fun e => Region.binds .any e && e.on == i
 | none => true
theorem waits_not {j : Nat} {oj : Oper} (hl : waits ops late i = true) (hj : late.contains j = true) (ho : ops[j]? = some oj) : ¬ ∀ e ∈ oj.after, Region.binds .any e = true → e.on ≠ i := by
 unfold waits at hl
 rw [List.all_eq_true] at hl
 have h1 := hl j (by simpa using hj)
 simp only [ho] at h1
 intro hall
 obtain ⟨e, he, hb⟩ := List.any_eq_true.1 h1
 rw [Bool.and_eq_true, beq_iff_eq] at hb
 exact hall e (by simpa using he) hb.1 hb.2
theorem late_first {v : Value} (hi : ops[i]? = some oi) (hsel : ∀ (j : Nat) (o : Oper) cs b, ops[j]? = some o → o.op ≠ .select cs b) (hl : waits ops late i = true)
  (hQ : ∀ c a w, Q (.panic c) (a.put oi.dst v) w → Q (.panic c) a w) : ∀ (fuel : Nat) (listed : Array Bool) (a : Act) (w : World),
   (∀ j oj, ops[j]? = some oj → j ≠ i → listed.getD j true = false → (∀ e ∈ oj.after, Region.binds .any e = true → e.on ≠ i) → oi.apart ops oj = true) →
   i ∈ Region.ready .any ops listed → YieldsIf P ops S oi v a → S w →
   wpAnyL P ops Q S late fuel (listed.setIfInBounds i true) (a.put oi.dst v) w → wpAnyL P ops Q S late (fuel + 1) listed a w
 | 0, listed, a, w, _, hr, hy, hS, H => by
  refine ⟨fun h => (by rw [h] at hr; cases hr), fun j hj => ?_⟩
  by_cases hji : j = i
  · subst hji; exact hy.wpOp hi hS ⟨fun _ h => h, H⟩
  ·
   have := ready_mono hj hji
   rw [H.1] at this
   cases this
 | fuel + 1, listed, a, w, hfree, hr, hy, hS, H => by
  refine ⟨fun h => (by rw [h] at hr; cases hr), fun j hj => ?_⟩
  by_cases hji : j = i
  · subst hji; exact hy.wpOp hi hS ⟨fun _ h => h, H⟩
  ·
   obtain ⟨hjun, oj, hoj, hall⟩ := mem_ready.1 hj
   have hnot : ∀ e ∈ oj.after, Region.binds .any e = true → e.on ≠ i := fun e he hb heq => by
    have h1 := hall e he hb
    have h0 := (mem_ready.1 hr).1
    rw [heq] at h1
    rcases Nat.lt_or_ge i listed.size with h' | h'
    · simp [h'] at h0 h1; rw [h0] at h1; cases h1
    · simp [Array.getElem?_eq_none h'] at h1
   have hnl : late.contains j = false := by
    cases hc : late.contains j with
    | false => rfl
    | true => exact absurd hnot (waits_not hl hc hoj)
   refine wpOp_mono (fun a' w' h3 => ⟨h3.2.1, late_first hi hsel hl hQ fuel (listed.setIfInBounds j true) a' w' (fun k ok hk hki hun hno => hfree k ok hk hki ?_ hno) (ready_mono hr (Ne.symm hji)) h3.1 (h3.2.1 hnl hS) ?_⟩)
    (wpOp_putIf hoj (hfree j oj hoj hji hjun hnot) (fun cs b => hsel i oi cs b hi) (fun cs b => hsel j oj cs b hoj) hQ hy (H.2 j (ready_mono hj hji)))
   ·
    by_cases hjk : j = k
    · subst hjk; exact hjun
    · rw [getD_set_ne true hjk] at hun; exact hun
   ·
    rw [Array.setIfInBounds_comm _ _ hji]
    exact h3.2.2
theorem late_any {v : Value} (hi : ops[i]? = some oi) (hsel : ∀ (j : Nat) (o : Oper) cs b, ops[j]? = some o → o.op ≠ .select cs b)
  (hQ : ∀ c a w, Q (.panic c) (a.put oi.dst v) w → Q (.panic c) a w) : ∀ (fuel : Nat) (listed : Array Bool) (a : Act) (w : World),
   (∀ j oj, ops[j]? = some oj → j ≠ i → listed.getD j true = false → (∀ e ∈ oj.after, Region.binds .any e = true → e.on ≠ i) → oi.apart ops oj = true) →
   i ∈ Region.ready .any ops listed → YieldsIf P ops (fun _ => True) oi v a →
   wpAnyL P ops Q S late fuel (listed.setIfInBounds i true) (a.put oi.dst v) w → wpAnyL P ops Q S late (fuel + 1) listed a w
 | 0, listed, a, w, _, hr, hy, H => by
  refine ⟨fun h => (by rw [h] at hr; cases hr), fun j hj => ?_⟩
  by_cases hji : j = i
  · subst hji; exact hy.wpOp hi trivial ⟨fun _ h => h, H⟩
  ·
   have := ready_mono hj hji
   rw [H.1] at this
   cases this
 | fuel + 1, listed, a, w, hfree, hr, hy, H => by
  refine ⟨fun h => (by rw [h] at hr; cases hr), fun j hj => ?_⟩
  by_cases hji : j = i
  · subst hji; exact hy.wpOp hi trivial ⟨fun _ h => h, H⟩
  ·
   obtain ⟨hjun, oj, hoj, hall⟩ := mem_ready.1 hj
   have hnot : ∀ e ∈ oj.after, Region.binds .any e = true → e.on ≠ i := fun e he hb heq => by
    have h1 := hall e he hb
    have h0 := (mem_ready.1 hr).1
    rw [heq] at h1
    rcases Nat.lt_or_ge i listed.size with h' | h'
    · simp [h'] at h0 h1; rw [h0] at h1; cases h1
    · simp [Array.getElem?_eq_none h'] at h1
   refine wpOp_mono (fun a' w' h3 => ⟨h3.2.1, late_any hi hsel hQ fuel (listed.setIfInBounds j true) a' w' (fun k ok hk hki hun hno => hfree k ok hk hki ?_ hno) (ready_mono hr (Ne.symm hji)) h3.1 ?_⟩)
    (wpOp_putIf hoj (hfree j oj hoj hji hjun hnot) (fun cs b => hsel i oi cs b hi) (fun cs b => hsel j oj cs b hoj) hQ hy (H.2 j (ready_mono hj hji)))
   ·
    by_cases hjk : j = k
    · subst hjk; exact hjun
    · rw [getD_set_ne true hjk] at hun; exact hun
   ·
    rw [Array.setIfInBounds_comm _ _ hji]
    exact h3.2.2
theorem dl_takeA {v : Value} (hi : ops[i]? = some oi) (hs : Region.noSelect ops = true) (hf : Region.free .any ops listed i = true) (hr : (Region.ready .any ops listed).contains i = true)
  (hQ : ∀ c a w, Q (.panic c) (a.put oi.dst v) w → Q (.panic c) a w) (hd : oi.dst = some d) (hdN : d < N) (hR : Reg a N l) (hw : Region.wanted oi (yielded ops a.tmps) = true) (hy : ∀ x, (execOp a.eval oi).run P x = .ok (.value v) x)
  (h : ∀ a', Reg a' N ((d, v) :: l) → wpAnyL P ops Q S late fuel (listed.setIfInBounds i true) a' w) : wpAnyL P ops Q S late (fuel + 1) listed a w :=
 late_any hi (Region.noSelect_spec hs) hQ fuel listed a w (Region.free_spec hi hf) (by simpa using hr) (.inl ⟨hw, fun x _ => hy x⟩) (by rw [hd]; exact h _ (hR.put hdN v))
theorem dli_region2 {l n k id : Nat} (late : List Nat) (hm : P.follows .mixedOrders = true) (hn : ops.size = k) (hnd : ops.all notDefer = true) (hS : St w0 Z M w m ds) (hp : PanOK Q) (hQ : NoOut Q)
  (h : ∀ (Q' : Exit → Act → World → Prop), PanOK Q' → (∀ a w, Q .normal a w → Q' .normal a w) → ∀ w', St w0 Z M w' m ds → wpAnyL P ops Q' S late k (Array.replicate k false) a w') : (Code.region id ops true).wpIn (rI l) n P Q a w := by
 refine wpIn_region_draw fun t => ops_in hnd hQ _ _ _ ?_
 simp only [Region.schedule, hm, Bool.true_or, if_true]
 refine wpAny_sound ops.size t _ a _ (wpAny_of_late (S := S) (late := late) _ _ _ _ ?_)
 subst hn
 exact h Q hp (fun _ _ h => h) _ hS.drew
theorem dl_take {v : Value} (hi : ops[i]? = some oi) (hs : Region.noSelect ops = true) (hf : Region.free .any ops listed i = true) (hr : (Region.ready .any ops listed).contains i = true) (hl : waits ops late i = true)
  (hQ : ∀ c a w, Q (.panic c) (a.put oi.dst v) w → Q (.panic c) a w) (hd : oi.dst = some d) (hdN : d < N) (hR : Reg a N l) (hw : Region.wanted oi (yielded ops a.tmps) = true) (hy : ∀ x, S x → (execOp a.eval oi).run P x = .ok (.value v) x) (hS : S w)
  (h : ∀ a', Reg a' N ((d, v) :: l) → wpAnyL P ops Q S late fuel (listed.setIfInBounds i true) a' w) : wpAnyL P ops Q S late (fuel + 1) listed a w :=
 late_first hi (Region.noSelect_spec hs) hl hQ fuel listed a w (Region.free_spec hi hf) (by simpa using hr) (.inl ⟨hw, hy⟩) hS (by rw [hd]; exact h _ (hR.put hdN v))
theorem dl_all {rs : List Nat} (hr : Region.ready .any ops listed = rs) (hne : rs ≠ [])
  (h : ∀ i ∈ rs, wpOp P ops Q i (fun a' w' => (late.contains i = false → S w → S w') ∧ wpAnyL P ops Q S late fuel (listed.setIfInBounds i true) a' w') a w) : wpAnyL P ops Q S late (fuel + 1) listed a w :=
 ⟨fun h0 => absurd (hr ▸ h0) hne, hr ▸ h⟩
theorem dl_one (hr : Region.ready .any ops listed = [i]) (h : wpOp P ops Q i (fun a' w' => (late.contains i = false → S w → S w') ∧ wpAnyL P ops Q S late fuel (listed.setIfInBounds i true) a' w') a w) : wpAnyL P ops Q S late (fuel + 1) listed a w :=
 dl_all hr (by simp) (fun j hj => by rw [List.mem_singleton] at hj; subst hj; exact h)
theorem dl_done (hr : Region.ready .any ops listed = []) (h : Q .normal a w) : ∀ fuel, wpAnyL P ops Q S late fuel listed a w
 | 0 => ⟨hr, h⟩
 | _ + 1 => ⟨fun _ => h, by rw [hr]; simp⟩
end
end Go.Proofs.YtcfponnkfhkbdaaDoor
/- Rows changed in place; a row of the caller's that a call changes. -/
namespace Go.Proofs.YtcfponnkfhkbdaaDoor
set_option linter.unusedSimpArgs false
set_option linter.unusedVariables false
open Go Go.RowKit
section
variable {P : Program} {X : Prop} {Next : Act → World → Prop} {op : Oper} {a : Act} {w w' w0 : World} {N : Nat} {l : List (Nat × Value)} {d : Nat} {Z M : Nat → Prop} {m : List Res} {ds : List Dat}
theorem over_list {α : Type} (xs rest vs : List α) (o : Nat) (h : o + vs.length ≤ xs.length) : (((xs ++ rest).take o ++ vs ++ (xs ++ rest).drop (o + vs.length)).take xs.length = xs.take o ++ vs ++ xs.drop (o + vs.length)) ∧
  ((xs ++ rest).take o ++ vs ++ (xs ++ rest).drop (o + vs.length)).length = (xs ++ rest).length := by
 have h1 : (xs ++ rest).take o = xs.take o := List.take_append_of_le_length (by omega)
 have h2 : (xs ++ rest).drop (o + vs.length) = xs.drop (o + vs.length) ++ rest := List.drop_append_of_le_length h
 rw [h1, h2, ← List.append_assoc]
 have h3 : (xs.take o ++ vs ++ xs.drop (o + vs.length)).length = xs.length := by simp; omega
 refine ⟨?_, by rw [List.length_append, h3, List.length_append]⟩
 rw [← h3, List.take_left']
 rfl
theorem addr0 (g o : Nat) : (⟨g, 0, none⟩ : Addr).add o = ⟨g, o, none⟩ := by unfold Addr.add; split <;> simp_all
theorem St.over (hS : St w0 Z M w m ds) {i : Nat} {A : Option Addr} {n cap e size : Nat} {xs : List Value} {ad : Addr} (hi : m[i]? = some (.row A n cap e size xs)) (hA : A = some ad) (o : Nat) (vs : List Value) (hfit : o + vs.length ≤ xs.length)
  (h1 : ∀ v ∈ vs, v.oneCell' = true) : ∃ w', (storeCells (ad.add o) vs).run P w = .ok () w' ∧ St w0 Z M w' (m.set i (.row A n cap e size (xs.take o ++ vs ++ xs.drop (o + vs.length)))) ds := by
 have hr : w.ownsRow 0 e size (.slice A n cap) n xs := hS.res hi
 rcases hr.2 with ⟨h2, h3⟩ | ⟨g, cap', cur, hv, h2, h3, h4, h5, h6, h7⟩
 ·
  injection h2 with ha
  rw [ha] at hA
  cases hA
 ·
  injection hv with ha hb hc
  subst hc
  rw [ha] at hA
  obtain rfl := Option.some.inj hA
  have hcur : cur.toList = xs ++ cur.toList.drop (n * size) := by rw [← h7, List.take_append_drop]
  have hlen : xs.length = n * size := hr.1
  have hl2 : xs.length + (cur.toList.drop (n * size)).length = cur.size := by
   have := congrArg List.length hcur
   simpa using this.symm
  obtain ⟨ho1, ho2⟩ := over_list xs (cur.toList.drop (n * size)) vs o hfit
  rw [← hcur] at ho1 ho2
  have hadd : (⟨g, 0, none⟩ : Addr).add o = ⟨g, o, none⟩ := addr0 g o
  refine ⟨_, by rw [hadd]; exact run_storeCells_at P g o e vs 0 cur w h3 (by omega) h1, ?_⟩
  simp only [Nat.add_zero]
  refine hS.turn hi rfl rfl rfl (by simp) (fun k hk hne => setRow_other w g k _ (fun e' => hne (by rw [e', ha]; rfl))) ⟨?_, .inr ⟨g, cap, _, by rw [ha], Nat.zero_le _, setRow_heap w g _ _ e (0, 0) h3, h4, h5, ?_, ?_⟩⟩ (fun k hk => ?_)
  · simp; omega
  · simpa [h6] using ho2
  ·
   rw [← hlen]
   simpa using ho1
  ·
   have hk' : (Res.row A n cap e size xs).blk = some k := hk
   exact ⟨by simpa using (hS.own _ (List.mem_of_getElem? hi) k hk').1, .inl hk'⟩
theorem St.overF {α : Type} {f : α → List Value} (hS : St w0 Z M w m ds) {i cap e size : Nat} {A : Option Addr} {L : List α} {ad : Addr} (hi : m[i]? = some (.row A L.length cap e size (L.flatMap f))) (hA : A = some ad) (hf : ∀ x, (f x).length = size)
  (hone : ∀ x, ∀ v ∈ f x, v.oneCell' = true) (k : Nat) (K : List α) (hfit : k + K.length ≤ L.length) (L' : List α) (hL : L.take k ++ K ++ L.drop (k + K.length) = L') :
  ∃ w', (storeCells (ad.add (k * size)) (K.flatMap f)).run P w = .ok () w' ∧ St w0 Z M w' (m.set i (.row A L'.length cap e size (L'.flatMap f))) ds := by
 subst hL
 have hK : (K.flatMap f).length = K.length * size := enc_length hf K
 obtain ⟨w', h1, h2⟩ := St.over (P := P) hS hi hA (k * size) (K.flatMap f) (by rw [hK, enc_length hf, ← Nat.add_mul]; exact Nat.mul_le_mul_right _ hfit) (fun v hv => by
  obtain ⟨x, _, hx⟩ := List.mem_flatMap.1 hv
  exact hone x v hx)
 refine ⟨w', h1, ?_⟩
 rw [hK, ← Nat.add_mul, enc_take hf, enc_drop hf] at h2
 have hl : (L.take k ++ K ++ L.drop (k + K.length)).length = L.length := by simp; omega
 rw [hl, List.flatMap_append, List.flatMap_append]
 exact h2
theorem row_some (hS : St w0 Z M w m ds) {i n cap e size : Nat} {A : Option Addr} {xs : List Value} (hi : m[i]? = some (.row A n cap e size xs)) (hn : 0 < n) : ∃ ad, A = some ad := by
 have hr : w.ownsRow 0 e size (.slice A n cap) n xs := hS.res hi
 obtain ⟨g, rfl⟩ := own_some hr hn
 exact ⟨_, rfl⟩
theorem m_storeE {α : Type} {f : α → List Value} {t : TypeId} {x y : Operand} {A : Option Addr} {L : List α} {i j k cap e size : Nat} {v : Value} {z : α} (hs : Ste P X Next op a w) (hR : Reg a N l) (hS : St w0 Z M w m ds) (hd : op.dst = none) (ho : op.op = .store t x y)
  (hx : ev l x = some (.pointer (eP A j))) (hy : ev l y = some v) (hi : m[i]? = some (.row A L.length cap e size (L.flatMap f))) (hj : j = k * size) (hk : k < L.length) (hf : ∀ x, (f x).length = size) (hone : ∀ x, ∀ v ∈ f x, v.oneCell' = true)
  (hv : v.cells.toList = f z) (hsz : (P.info? t).map (·.size) = some size)
  (kk : ∀ a' w', Reg a' N l → St w0 Z M w' (m.set i (.row A (L.set k z).length cap e size ((L.set k z).flatMap f))) ds → Next a' w') : X := by
 subst hj
 obtain ⟨ad, rfl⟩ := row_some hS hi (by omega)
 obtain ⟨w', h1, h2⟩ := St.overF (P := P) hS hi rfl hf hone k [z] (by rw [List.length_singleton]; omega) (L.set k z) (by rw [List.set_eq_take_append_cons_drop, if_pos hk]; simp)
 cases hq : P.info? t with
 | none => simp [hq] at hsz
 | some inf =>
  have hii : inf.size = size := by simpa [hq] using hsz
  have hvs : v.cells.size = inf.size := by
   have := congrArg List.length hv
   rw [hf] at this
   simpa [hii] using this
  have h3 : (storeVar t (ad.add (k * size)) v).run P w = .ok () w' := by
   rw [List.flatMap_cons, List.flatMap_nil, List.append_nil, ← hv] at h1
   simp [storeVar, Sem.run_bind, sizeOf, typeInfo, hq, hvs, h1]
  refine hs.skip w' ?_ ?_
  ·
   unfold execOp; rw [ho]
   simp only [hR.ev hx, hR.ev hy, eP, Option.map_some, Instr.storeAt, Instr.sureAddr, Sem.run_bind, Sem.run_pure, Result.andThen_ok, h3]
  ·
   rw [hd]
   exact kk _ _ (hR.put_none _) h2
end
end Go.Proofs.YtcfponnkfhkbdaaDoor
/- copy and clear on rows of the call's own. -/
namespace Go.Proofs.YtcfponnkfhkbdaaDoor
set_option linter.unusedSimpArgs false
set_option linter.unusedVariables false
open Go Go.RowKit
section
variable {P : Program} {X : Prop} {Next : Act → World → Prop} {op : Oper} {a : Act} {w w' w0 : World} {N : Nat} {l : List (Nat × Value)} {d : Nat} {Z M : Nat → Prop} {m : List Res} {ds : List Dat}
theorem one1 {α : Type} {f : α → List Value} (h : ∀ l : List α, ∀ u ∈ l.flatMap f, u.oneCell' = true) (x : α) : ∀ v ∈ f x, v.oneCell' = true := fun v hv => h [x] v (by simpa using hv)
theorem ret_s {A : Option Addr} {n n' c : Nat} (h : n = n') : Value.slice A n c = .slice A n' c := by rw [h]
end
end Go.Proofs.YtcfponnkfhkbdaaDoor
/- Plain laws of levels, names and fields. -/
namespace Go.Proofs.YtcfponnkfhkbdaaDoor
set_option linter.unusedSimpArgs false
set_option linter.unusedVariables false
def lvIndex : List Int → Int
 | [] => -1
 | n :: t => if 0 ≤ n ∧ n ≤ 9 then (let r := lvIndex t; if r < 0 then r else r + 1) else 0
def lvChk (n : Int) : Int := if 0 ≤ n ∧ n ≤ 9 then 0 else 1
theorem drop_nthI {t : List Int} {k : Nat} (hk : k < t.length) : t.drop k = nthI t k :: t.drop (k + 1) := by
 rw [List.drop_eq_getElem_cons hk]
 simp [nthI, hk]
theorem lvIndex_step {t : List Int} {k : Nat} (hi : lvIndex t = (let r := lvIndex (t.drop k); if r < 0 then r else r + (k : Int))) (hk : k < t.length) (h : 0 ≤ nthI t k ∧ nthI t k ≤ 9) :
  lvIndex t = (let r := lvIndex (t.drop (k + 1)); if r < 0 then r else r + ((k + 1 : Nat) : Int)) := by
 rw [drop_nthI hk] at hi
 simp only [lvIndex, if_pos h] at hi
 rw [hi]
 simp only
 generalize lvIndex (t.drop (k + 1)) = r
 by_cases h0 : r < 0
 · simp [h0]
 ·
  simp [h0, show ¬ (r + 1 < 0) by omega]
  omega
theorem lvIndex_here {t : List Int} {k : Nat} (hi : lvIndex t = (let r := lvIndex (t.drop k); if r < 0 then r else r + (k : Int))) (hk : k < t.length) (h : 0 ≤ nthI t k → 9 < nthI t k) : lvIndex t = (k : Int) := by
 rw [drop_nthI hk] at hi
 simp only [lvIndex, if_neg (show ¬ (0 ≤ nthI t k ∧ nthI t k ≤ 9) by omega)] at hi
 rw [hi]
 simp
theorem lvIndex_none {t : List Int} {k : Nat} (hi : lvIndex t = (let r := lvIndex (t.drop k); if r < 0 then r else r + (k : Int))) (hk : t.length ≤ k) : lvIndex t = -1 := by
 rw [List.drop_eq_nil_of_le hk] at hi
 rw [hi]
 simp [lvIndex]
theorem lvChk_bad {n : Int} (h : 0 ≤ lvIndex [n]) : lvChk n = 1 := by
 unfold lvChk
 simp only [lvIndex] at h
 split <;> simp_all
theorem lvChk_good {n : Int} (h : lvIndex [n] < 0) : lvChk n = 0 := by
 unfold lvChk
 simp only [lvIndex] at h
 split <;> simp_all
def okC (c i : Nat) : Prop := (97 ≤ orB c 32 ∧ orB c 32 ≤ 122) ∨ c = 95 ∨ (i ≠ 0 ∧ 48 ≤ c ∧ c ≤ 57)
def nameTo (s : ByteArray) (k : Nat) : Prop := ∀ i, i < k → okC (byteAt s i) i
theorem nameTo_zero (s : ByteArray) : nameTo s 0 := fun i h => by omega
theorem nameTo_step {s : ByteArray} {k : Nat} (hi : nameTo s k) (h : okC (byteAt s k) k) : nameTo s (k + 1) := fun i hk => by
 by_cases hik : i = k
 · subst hik; exact h
 · exact hi i (by omega)
set_option maxRecDepth 100000 in
theorem okC_iff (c : UInt8) (i : Nat) : okC c.toNat i ↔ (letter c = true ∨ (i ≠ 0 ∧ digit c = true)) := by
 have h := letter_or ⟨c.toNat, UInt8.toNat_lt c⟩
 simp only [UInt8.ofNat_toNat] at h
 have hd : digit c = true ↔ 48 ≤ c.toNat ∧ c.toNat ≤ 57 := by
  unfold digit
  simp [UInt8.le_iff_toNat_le]
 unfold okC
 rw [← h, hd]
 omega
theorem byteAt_eq {s : ByteArray} {i : Nat} {c : UInt8} (h : s.data.toList[i]? = some c) : byteAt s i = c.toNat := by
 obtain ⟨hlt, h2⟩ := List.getElem?_eq_some_iff.1 h
 have hl : i < s.size := by rw [Array.length_toList] at hlt; exact hlt
 unfold byteAt
 rw [dif_pos hl]
 congr 1
theorem name_iff (s : ByteArray) : nameOk s = true ↔ 0 < s.size ∧ s.size ≤ 16 ∧ nameTo s s.size := by
 have hsz : s.size = s.data.toList.length := by rw [Array.length_toList]; rfl
 unfold nameOk
 cases hl : s.data.toList with
 | nil =>
  rw [hl] at hsz
  simp at hsz
  simp [hsz]
 | cons c r =>
  have h0 : byteAt s 0 = c.toNat := byteAt_eq (by rw [hl]; rfl)
  rw [hl] at hsz
  have hsz' : s.size = r.length + 1 := hsz
  clear hsz
  simp only [Bool.and_eq_true, decide_eq_true_eq, List.all_eq_true, Bool.or_eq_true]
  constructor
  ·
   rintro ⟨⟨h1, h2⟩, h3⟩
   refine ⟨by omega, h1, fun i hi => ?_⟩
   cases i with
   | zero => rw [h0, okC_iff]; exact .inl h2
   | succ i =>
    have hlt : i < r.length := by omega
    rw [byteAt_eq (c := r[i]) (by rw [hl]; simp [hlt]), okC_iff]
    rcases h3 _ (List.getElem_mem hlt) with h | h
    · exact .inl h
    · exact .inr ⟨by omega, h⟩
  ·
   rintro ⟨h1, h2, h3⟩
   refine ⟨⟨h2, ?_⟩, fun x hx => ?_⟩
   ·
    have := h3 0 h1
    rw [h0, okC_iff] at this
    rcases this with h | h
    · exact h
    · exact absurd rfl h.1
   ·
    obtain ⟨i, hlt, rfl⟩ := List.mem_iff_getElem.1 hx
    have := h3 (i + 1) (by omega)
    rw [byteAt_eq (c := r[i]) (by rw [hl]; simp [hlt]), okC_iff] at this
    rcases this with h | h
    · exact .inl h
    · exact .inr h.2
theorem name_bad {s : ByteArray} {k : Nat} (hk : k < s.size) (h : ¬ okC (byteAt s k) k) : nameOk s = false := by
 rw [Bool.eq_false_iff]
 intro e
 exact h ((name_iff s).1 e |>.2.2 k hk)
theorem size_nil {s : ByteArray} : s = (⟨#[]⟩ : ByteArray) ↔ s.size = 0 := by
 constructor
 · rintro rfl; rfl
 ·
  intro h
  cases s with
  | mk d =>
   have h' : d.size = 0 := h
   rw [Array.size_eq_zero_iff.1 h']
theorem name_end {s : ByteArray} {k : Nat} (hi : nameTo s k) (hk : s.size ≤ k) : nameOk s = ((!decide (s = (⟨#[]⟩ : ByteArray))) && decide (((s.size : Nat) : Int) ≤ 16)) := by
 rw [Bool.eq_iff_iff, name_iff]
 simp only [Bool.and_eq_true, Bool.not_eq_true', decide_eq_true_eq, decide_eq_false_iff_not, size_nil]
 constructor
 · rintro ⟨h1, h2, _⟩; omega
 · rintro ⟨h1, h2⟩; exact ⟨by omega, by omega, fun i h => hi i (by omega)⟩
def letN (c : Nat) : Bool := ((decide ((97 : Int) ≤ c) && decide ((c : Int) ≤ 122)) || (decide ((65 : Int) ≤ c) && decide ((c : Int) ≤ 90))) || decide ((c : Int) = 95)
def plainB (n : Nd) : Bool := decide (n.N = 0) && decide (n.M = 0) && decide (n.S = (⟨#[]⟩ : ByteArray))
set_option maxRecDepth 100000 in
theorem letN_or : ∀ c : Fin 256, letN c.val = true ↔ ((97 ≤ orB c.val 32 ∧ orB c.val 32 ≤ 122) ∨ c.val = 95) := by decide
theorem okC_of {c i : Nat} (hc : c < 256) : okC c i ↔ (letN c = true ∨ (i ≠ 0 ∧ 48 ≤ c ∧ c ≤ 57)) := by
 have h := letN_or ⟨c, hc⟩
 simp only at h
 unfold okC
 rw [h]
 omega
def bindL (n : Nd) : List Int := if n.K = 26 ∨ n.K = 27 then (if right n then binds n else []) else if 0 ≤ n.K ∧ n.K < 30 then (shp n.K.toNat).b else []
theorem bindL_right {n : Nd} (h : right n = true) : bindL n = binds n := by
 have := right_K h
 unfold bindL binds
 by_cases h1 : n.K = 26
 · simp [h1, h, binds]
 ·
  by_cases h2 : n.K = 27
  · simp [h2, h, binds]
  · simp [h1, h2, this]
def fieldsBad (n : Nd) : Bool :=
 (((!((shp (((n.K)).toNat)).n)) && (!(decide ((n.N) = 0)))) || (((!((shp (((n.K)).toNat)).m)) && (!(decide ((n.M) = 0)))) || (((!((shp (((n.K)).toNat)).s)) && (!(decide (n.S = (⟨#[]⟩ : ByteArray))))) || ((shp (((n.K)).toNat)).s && (!(nameOk n.S))))))
theorem right_split (n : Nd) : right n = true ↔ (0 ≤ n.K ∧ n.K < 30) ∧ fieldsBad n = false ∧ ((shp n.K.toNat).n = true → 0 ≤ n.N ∧ n.N ≤ if n.K = 2 then 9 else most n.K) ∧ ((shp n.K.toNat).m = true → 0 ≤ n.M ∧ n.M ≤ 6) := by
 unfold right fieldsBad
 have hS : n.S = (⟨#[]⟩ : ByteArray) ↔ n.S.size = 0 := size_nil
 simp only [Bool.and_eq_true, decide_eq_true_eq]
 rw [and_assoc, and_assoc, ← and_assoc (a := 0 ≤ n.K)]
 refine and_congr_right fun _ => ?_
 cases h1 : (shp n.K.toNat).n <;> cases h2 : (shp n.K.toNat).m <;> cases h3 : (shp n.K.toNat).s <;> simp [hS] <;> try (constructor <;> (rintro ⟨h4, h5, h6⟩; simp_all))
theorem shp_m (k : Nat) : (shp k).m = true ↔ k = 26 ∨ k = 27 := by
 unfold shp
 split <;> simp_all
theorem right_bad {n : Nd} (h : n.K < 0 ∨ 30 ≤ n.K) : right n = false := by
 rw [Bool.eq_false_iff]
 intro e
 have := ((right_split n).1 e).1
 omega
theorem right_big {n : Nd} (h : fieldsBad n = true) : right n = false := by
 rw [Bool.eq_false_iff]
 intro e
 have := ((right_split n).1 e).2.1
 rw [h] at this
 cases this
theorem right_sort {n : Nd} (h : fieldsBad n = false) (hk : n.K = 2) : right n = decide (lvChk n.N = 0) := by
 rw [Bool.eq_iff_iff, right_split]
 simp [h, hk, shp, lvChk]
theorem right_con' {n : Nd} (h : fieldsBad n = false) (hk : n.K = 26) : right n = decide (0 ≤ n.N ∧ n.N ≤ most n.K ∧ 0 ≤ n.M ∧ n.M ≤ 6) := by
 rw [Bool.eq_iff_iff, right_split]
 simp [h, hk, shp]
 omega
theorem right_elim' {n : Nd} (h : fieldsBad n = false) (hk : n.K = 27) : right n = decide (0 ≤ n.M ∧ n.M ≤ 6) := by
 rw [Bool.eq_iff_iff, right_split]
 simp [h, hk, shp]
theorem right_oth {n : Nd} (h : fieldsBad n = false) (h0 : 0 ≤ n.K) (h1 : n.K < 30) (hk : ¬ n.K = 2) (hk1 : ¬ n.K = 26) (hk2 : ¬ n.K = 27) : right n = (!(shp n.K.toNat).n || decide (0 ≤ n.N ∧ n.N ≤ most n.K)) := by
 have hm : (shp n.K.toNat).m = false := by
  rw [Bool.eq_false_iff]
  intro e
  rw [shp_m] at e
  omega
 rw [Bool.eq_iff_iff, right_split]
 simp only [h, hk, hm, h0, h1]
 cases (shp n.K.toNat).n <;> simp
theorem rname_step {s : ByteArray} {k : Nat} (h0 : letN (byteAt s 0) = true) (h : letN (byteAt s k) = true ∨ (48 ≤ byteAt s k ∧ byteAt s k ≤ 57)) : okC (byteAt s k) k := by
 rw [okC_of (byteAt_lt _ _)]
 by_cases hk : k = 0
 · subst hk; exact .inl h0
 ·
  rcases h with h | h
  · exact .inl h
  · exact .inr ⟨hk, h⟩
theorem rname_bad {s : ByteArray} {k : Nat} (hk : k < s.size) (h1 : letN (byteAt s k) = false) (h2 : byteAt s k < 48 ∨ 57 < byteAt s k) : nameOk s = false := by
 refine name_bad hk ?_
 rw [okC_of (byteAt_lt _ _), h1]
 simp
 omega
theorem rname_bad0 {s : ByteArray} (h : (s.size < 1 ∨ 16 < s.size) ∨ letN (byteAt s 0) = false) : nameOk s = false := by
 rw [Bool.eq_false_iff]
 intro e
 obtain ⟨h1, h2, h3⟩ := (name_iff s).1 e
 rcases h with h | h
 · omega
 ·
  have := (okC_of (byteAt_lt s 0)).1 (h3 0 h1)
  rw [h] at this
  simp at this
theorem rname_end {s : ByteArray} {k : Nat} (hi : nameTo s k) (hk : s.size ≤ k) (h1 : 1 ≤ s.size) (h2 : s.size ≤ 16) : nameOk s = true :=
 (name_iff s).2 ⟨by omega, h2, fun i h => hi i (by omega)⟩
theorem right_var {n : Nd} (h : n.K = 0) : right n = decide (0 ≤ n.N ∧ n.N ≤ 99 ∧ n.M = 0 ∧ n.S = (⟨#[]⟩ : ByteArray)) := by
 rw [Bool.eq_iff_iff]; simp [right, h, shp, most, size_nil, and_assoc]
theorem right_str {n : Nd} (h : n.K = 1 ∨ n.K = 25) : right n = decide (n.N = 0 ∧ n.M = 0 ∧ nameOk n.S = true) := by
 rw [Bool.eq_iff_iff]; rcases h with h | h <;> simp [right, h, shp, and_assoc]
theorem right_sortR {n : Nd} (h : n.K = 2) : right n = decide (lvChk n.N = 0 ∧ n.M = 0 ∧ n.S = (⟨#[]⟩ : ByteArray)) := by
 rw [Bool.eq_iff_iff]; simp [right, h, shp, lvChk, size_nil, and_assoc]
theorem right_pi {n : Nd} (h : n.K = 3 ∨ n.K = 6) : right n = decide (0 ≤ n.N ∧ n.N ≤ 3 ∧ n.M = 0 ∧ n.S = (⟨#[]⟩ : ByteArray)) := by
 rw [Bool.eq_iff_iff]; rcases h with h | h <;> simp [right, h, shp, most, size_nil, and_assoc]
theorem right_con2 {n : Nd} (h : n.K = 26) : right n = decide (nameOk n.S = true ∧ 0 ≤ n.N ∧ n.N < 6 ∧ 0 ≤ n.M ∧ n.M ≤ 6) := by
 rw [Bool.eq_iff_iff]
 simp [right, h, shp, most]
 constructor
 · rintro ⟨⟨⟨h1, h2⟩, h3, h4⟩, h5⟩; exact ⟨h5, h1, by omega, h3, h4⟩
 · rintro ⟨h5, h1, h2, h3, h4⟩; exact ⟨⟨⟨h1, by omega⟩, h3, h4⟩, h5⟩
theorem right_elim2 {n : Nd} (h : n.K = 27) : right n = decide (nameOk n.S = true ∧ n.N = 0 ∧ 0 ≤ n.M ∧ n.M ≤ 6) := by
 rw [Bool.eq_iff_iff]
 simp [right, h, shp]
 constructor
 · rintro ⟨⟨h1, h3, h4⟩, h5⟩; exact ⟨h5, h1, h3, h4⟩
 · rintro ⟨h5, h1, h3, h4⟩; exact ⟨⟨h1, h3, h4⟩, h5⟩
theorem shp_plain (k : Nat) (h : k ≠ 0 ∧ k ≠ 1 ∧ k ≠ 2 ∧ k ≠ 3 ∧ k ≠ 6 ∧ k ≠ 25 ∧ k ≠ 26 ∧ k ≠ 27) : (shp k).n = false ∧ (shp k).m = false ∧ (shp k).s = false := by
 unfold shp
 split <;> simp_all
theorem right_plain {n : Nd} (h1 : 0 ≤ n.K) (h2 : n.K < 30) (h : n.K ≠ 0 ∧ n.K ≠ 1 ∧ n.K ≠ 2 ∧ n.K ≠ 3 ∧ n.K ≠ 6 ∧ n.K ≠ 25 ∧ n.K ≠ 26 ∧ n.K ≠ 27) : right n = plainB n := by
 obtain ⟨h3, h4, h5⟩ := shp_plain n.K.toNat (by omega)
 rw [Bool.eq_iff_iff]
 simp [right, plainB, h1, h2, h3, h4, h5, size_nil]
theorem bindL_none {n : Nd} (h : n.K < 0 ∨ 30 ≤ n.K) : bindL n = [] := by
 unfold bindL
 rw [if_neg (by omega), if_neg (by omega)]
theorem bindL_bad {n : Nd} (h : n.K = 26 ∨ n.K = 27) (hr : right n = false) : bindL n = [] := by
 unfold bindL
 rw [if_pos h, if_neg (by simp [hr])]
theorem bindL_con {n : Nd} (h : n.K = 26) (hr : right n = true) : bindL n = List.replicate n.M.toNat 0 := by
 unfold bindL
 rw [if_pos (.inl h), if_pos hr]
 simp [binds, h]
theorem bindL_elim {n : Nd} (h : n.K = 27) (hr : right n = true) : bindL n = [1] ++ List.replicate (n.M.toNat + 1) 0 := by
 unfold bindL
 rw [if_pos (.inr h), if_pos hr]
 simp [binds, h]
end Go.Proofs.YtcfponnkfhkbdaaDoor
/- Plain laws of measures: where each node's term begins, and how deep it is. -/
namespace Go.Proofs.YtcfponnkfhkbdaaDoor
set_option linter.unusedSimpArgs false
set_option linter.unusedVariables false
def meas (o : Int) : List T → List (Int × Int)
 | [] => []
 | t :: l => (o, (t.deep : Int)) :: meas (o + t.flat.length) l
mutual
def allT (o : Int) : T → List (Int × Int)
 | .mk _ l => allTs o l ++ [(o, ((T.deeps l + 1 : Nat) : Int))]
def allTs (o : Int) : List T → List (Int × Int)
 | [] => []
 | t :: l => allT o t ++ allTs (o + t.flat.length) l
end
theorem meas_length (o : Int) (l : List T) : (meas o l).length = l.length := by
 induction l generalizing o with
 | nil => rfl
 | cons t l ih => simp [meas, ih]
theorem meas_append (o : Int) (a b : List T) : meas o (a ++ b) = meas o a ++ meas (o + (T.flats a).length) b := by
 induction a generalizing o with
 | nil => simp [meas, T.flats_nil]
 | cons t a ih => simp [meas, ih, T.flats_cons, Int.add_assoc]
theorem allTs_append (o : Int) (a b : List T) : allTs o (a ++ b) = allTs o a ++ allTs (o + (T.flats a).length) b := by
 induction a generalizing o with
 | nil => simp [allTs, T.flats_nil]
 | cons t a ih => simp [allTs, ih, T.flats_cons, Int.add_assoc]
mutual
theorem allT_length (o : Int) : ∀ t : T, (allT o t).length = t.flat.length
 | .mk n l => by
  simp only [allT, T.flat_mk, List.length_append, allTs_length o l]
  rfl
theorem allTs_length (o : Int) : ∀ l : List T, (allTs o l).length = (T.flats l).length
 | [] => by simp [allTs, T.flats_nil]
 | t :: l => by simp only [allTs, T.flats_cons, List.length_append, allT_length o t, allTs_length _ l]
end
theorem deep_mk (n : Nd) (l : List T) : (T.mk n l).deep = T.deeps l + 1 := by simp [T.deep]
theorem deeps_le {t : T} {l : List T} (h : t ∈ l) : t.deep ≤ T.deeps l := by
 induction l with
 | nil => cases h
 | cons u l ih =>
  simp only [T.deeps]
  rcases List.mem_cons.1 h with rfl | h
  · omega
  · have := ih h; omega
mutual
theorem deep_flat : ∀ t : T, t.deep ≤ t.flat.length
 | .mk n l => by
  have := deeps_flat l
  simp only [T.deep, T.flat_mk, List.length_append, List.length_singleton]
  omega
theorem deeps_flat : ∀ l : List T, T.deeps l ≤ (T.flats l).length
 | [] => by simp [T.deeps]
 | t :: l => by
  have h1 := deep_flat t
  have h2 := deeps_flat l
  simp only [T.deeps, T.flats_cons, List.length_append]
  omega
end
def fromQ (k : Nat) (L : List (Int × Int)) (b q : Nat) : Int := if q = 0 then k else (nthM L b).1
def deepQ (L : List (Int × Int)) (b : Nat) : Nat → Int
 | 0 => 1
 | q + 1 => max (deepQ L b q) ((nthM L (b + q)).2 + 1)
theorem nthM_meas {st : List T} {i : Nat} (h : i < st.length) : ∃ o, nthM (meas 0 st) i = (o, (st[i].deep : Int)) ∧ o = ((T.flats (st.take i)).length : Int) := by
 have h1 : meas 0 st = meas 0 (st.take i) ++ meas (0 + (T.flats (st.take i)).length) (st.drop i) := by
  rw [← meas_append, List.take_append_drop]
 have h2 : st.drop i = st[i] :: st.drop (i + 1) := List.drop_eq_getElem_cons h
 have hl : (meas 0 (st.take i)).length = i := by rw [meas_length, List.length_take]; omega
 refine ⟨_, ?_, rfl⟩
 rw [nthM, h1, h2, meas, List.getD_eq_getElem?_getD, List.getElem?_append_right (by omega), hl]
 simp
theorem meas_deep_le {st : List T} {i : Nat} : 0 ≤ (nthM (meas 0 st) i).2 ∧ (nthM (meas 0 st) i).2 ≤ (T.flats st).length := by
 by_cases h : i < st.length
 ·
  obtain ⟨o, h1, _⟩ := nthM_meas h
  rw [h1]
  have h2 := deeps_le (List.getElem_mem h)
  have h3 := deeps_flat st
  constructor
  · simp
  ·
   simp only
   omega
 ·
  have : nthM (meas 0 st) i = (0, 0) := by
   rw [nthM, List.getD_eq_getElem?_getD, List.getElem?_eq_none (by rw [meas_length]; omega)]
   rfl
  rw [this]
  simp
theorem deepQ_le {st : List T} {b q : Nat} : 1 ≤ deepQ (meas 0 st) b q ∧ deepQ (meas 0 st) b q ≤ (T.flats st).length + 1 := by
 induction q with
 | zero => simp only [deepQ]; omega
 | succ q ih =>
  have := meas_deep_le (st := st) (i := b + q)
  simp only [deepQ]
  omega
theorem deepQ_drop {st : List T} {b : Nat} : ∀ {q : Nat}, b + q ≤ st.length → deepQ (meas 0 st) b q = ((T.deeps ((st.drop b).take q) + 1 : Nat) : Int)
 | 0, _ => by simp [deepQ, T.deeps]
 | q + 1, h => by
  have ih := deepQ_drop (st := st) (b := b) (q := q) (by omega)
  obtain ⟨o, h1, _⟩ := nthM_meas (st := st) (i := b + q) (by omega)
  have ht : (st.drop b).take (q + 1) = (st.drop b).take q ++ [st[b + q]] := by
   rw [List.take_add_one, List.getElem?_drop, List.getElem?_eq_getElem (by omega)]
   rfl
  have hd : ∀ a b : List T, T.deeps (a ++ b) = max (T.deeps a) (T.deeps b) := by
   intro a b
   induction a with
   | nil => simp [T.deeps]
   | cons t a ih => simp [T.deeps, ih, Nat.max_assoc]
  simp only [deepQ, ih, h1, ht, hd, T.deeps]
  omega
theorem push_meas {st st' : List T} {n : Nd} {k : Nat} (h : pushT st n = some st') (hk : (T.flats st).length = k) :
  meas 0 st' = (meas 0 st).take (st.length - many n) ++ [(fromQ k (meas 0 st) (st.length - many n) (many n), deepQ (meas 0 st) (st.length - many n) (many n))] ∧
  allTs 0 st' = allTs 0 st ++ [(fromQ k (meas 0 st) (st.length - many n) (many n), deepQ (meas 0 st) (st.length - many n) (many n))] := by
 unfold pushT at h
 split at h
 ·
  rename_i hc
  simp only [Bool.and_eq_true, decide_eq_true_eq] at hc
  obtain rfl := Option.some.inj h
  have hb : st.length - many n + many n ≤ st.length := by omega
  have hd := deepQ_drop hb
  rw [List.take_of_length_le (by rw [List.length_drop]; omega)] at hd
  rw [hd]
  have hf : fromQ k (meas 0 st) (st.length - many n) (many n) = 0 + ((T.flats (st.take (st.length - many n))).length : Int) := by
   unfold fromQ
   split
   ·
    rename_i h0
    rw [h0, Nat.sub_zero, List.take_length, hk]
    omega
   ·
    obtain ⟨o, h1, h2⟩ := nthM_meas (st := st) (i := st.length - many n) (by omega)
    rw [h1, h2]
    omega
  have e1 : (meas 0 st).take (st.length - many n) = meas 0 (st.take (st.length - many n)) := by
   have hm : meas 0 st = meas 0 (st.take (st.length - many n)) ++ meas (0 + (T.flats (st.take (st.length - many n))).length) (st.drop (st.length - many n)) := by
    rw [← meas_append, List.take_append_drop]
   rw [hm, List.take_left' (by rw [meas_length, List.length_take]; omega)]
  have e2 : allTs 0 st = allTs 0 (st.take (st.length - many n)) ++ allTs (0 + (T.flats (st.take (st.length - many n))).length) (st.drop (st.length - many n)) := by
   rw [← allTs_append, List.take_append_drop]
  constructor
  ·
   rw [meas_append, hf, e1]
   simp [meas, deep_mk]
  ·
   rw [allTs_append, hf, e2, List.append_assoc]
   simp [allTs, allT]
 · cases h
def measL (t : List Nd) : List (Int × Int) := match scanT [] t with
 | some st => allTs 0 st
 | none => []
def measB (t : List Nd) : Bool := match scanT [] t with
 | some [_] => true
 | _ => false
theorem take_nth {t : List Nd} {k : Nat} (h : k < t.length) : t.take (k + 1) = t.take k ++ [nth t k] := by
 rw [List.take_add_one, List.getElem?_eq_getElem h]
 simp [nth, h]
theorem scan_step {t : List Nd} {k : Nat} {st : List T} (h : scanT [] (t.take k) = some st) (hk : k < t.length) : scanT [] (t.take (k + 1)) = pushT st (nth t k) := by
 rw [take_nth hk, scanT_append, h]
 simp only [Option.bind_some, scanT]
 cases pushT st (nth t k) <;> rfl
theorem scan_none {t : List Nd} {k : Nat} {st : List T} (h : scanT [] (t.take k) = some st) (hk : k < t.length) (hp : pushT st (nth t k) = none) : scanT [] t = none := by
 have : t = t.take (k + 1) ++ t.drop (k + 1) := (List.take_append_drop _ _).symm
 rw [this, scanT_append, scan_step h hk, hp]
 rfl
theorem scan_flats {t : List Nd} {k : Nat} {st : List T} (h : scanT [] (t.take k) = some st) (hk : k ≤ t.length) : (T.flats st).length = k := by
 rw [(scanT_flat h (by simp [T.wfs])).1]
 simp [T.flats_nil, hk]
theorem push_none {st : List T} {n : Nd} (h : right n = false ∨ st.length < many n) : pushT st n = none := by
 unfold pushT
 rw [if_neg]
 simp only [Bool.and_eq_true, decide_eq_true_eq]
 rintro ⟨h1, h2⟩
 rcases h with h | h
 · rw [h1] at h; cases h
 · omega
theorem push_some {st : List T} {n : Nd} (h : right n = true) (h2 : many n ≤ st.length) : ∃ st', pushT st n = some st' ∧ st'.length = st.length - many n + 1 := by
 unfold pushT
 rw [if_pos (by simp [h, h2])]
 exact ⟨_, rfl, by simp⟩
def sml (t : List Nd) : Prop := ∀ k, k < t.length → (nth t k).S.size < 1000000
theorem measL_end {t : List Nd} {st : List T} (h : scanT [] t = some st) : measL t = allTs 0 st := by
 unfold measL
 rw [h]
theorem measB_end {t : List Nd} {st : List T} (h : scanT [] t = some st) : measB t = decide (((st.length : Nat) : Int) = 1) := by
 unfold measB
 rw [h]
 cases st with
 | nil => rfl
 | cons a l => cases l with
  | nil => simp
  | cons b l => simp; omega
theorem meas_bad {t : List Nd} (h : scanT [] t = none) : measL t = [] ∧ measB t = false := by
 unfold measL measB
 rw [h]
 exact ⟨rfl, rfl⟩
theorem measB_tree {t : List Nd} (h : measB t = true) : ∃ x : T, scanT [] t = some [x] ∧ measL t = allT 0 x ∧ x.wf = true ∧ x.flat = t := by
 unfold measB at h
 split at h
 ·
  rename_i x hs
  have := scanT_flat hs (by simp [T.wfs])
  simp [T.flats, T.wfs] at this
  exact ⟨x, hs, by unfold measL; rw [hs]; simp [allTs], this.2, this.1⟩
 · cases h
theorem allT_last (x : T) : nthM (allT 0 x) ((allT 0 x).length - 1) = (0, (x.deep : Int)) ∧ 0 < (allT 0 x).length := by
 cases x with
 | mk n l =>
  simp only [allT, deep_mk]
  constructor
  · simp [nthM]
  · simp
theorem measL_pos {t : List Nd} (h : measB t = true) : 0 < (measL t).length := by
 obtain ⟨x, _, h2, _⟩ := measB_tree h
 rw [h2]
 exact (allT_last x).2
theorem measL_length {t : List Nd} (h : measB t = true) : (measL t).length = t.length := by
 obtain ⟨x, _, h2, _, h4⟩ := measB_tree h
 rw [h2, allT_length, h4]
theorem chk_form {t : List Nd} (hl : t.length ≤ 4000) (h : measB t = false) : chk t = 20 := by
 unfold chk
 rw [if_neg (by omega)]
 unfold measB at h
 rcases hs : scanT [] t with _ | _ | ⟨x, _ | ⟨y, l⟩⟩
 · rfl
 · rfl
 · rw [hs] at h; cases h
 · rfl
theorem chk_deep {t : List Nd} (hl : t.length ≤ 4000) (h : measB t = true) (hd : 60 < (nthM (measL t) ((measL t).length - 1)).2) : chk t = 22 := by
 obtain ⟨x, hs, h2, _⟩ := measB_tree h
 rw [h2, (allT_last x).1] at hd
 unfold chk
 rw [if_neg (by omega), hs]
 simp only
 rw [if_pos]
 simp only at hd
 omega
theorem chk_good {t : List Nd} (hl : t.length ≤ 4000) (h : measB t = true) (hd : ¬ 60 < (nthM (measL t) ((measL t).length - 1)).2) : chk t = 0 := by
 obtain ⟨x, hs, h2, _⟩ := measB_tree h
 rw [h2, (allT_last x).1] at hd
 unfold chk
 rw [if_neg (by omega), hs]
 simp only
 rw [if_neg]
 simp only at hd
 omega
theorem chk_size {t : List Nd} (hl : 4000 < t.length) : chk t = 21 := by
 unfold chk
 rw [if_pos (by omega)]
def lookL (t : List Nd) : List (Int × Int) := if chk t = 0 then measL t else []
theorem lookL_bad {t : List Nd} (h : ¬ chk t = 0) : lookL t = [] := by unfold lookL; rw [if_neg h]
theorem lookL_good {t : List Nd} (h : chk t = 0) : lookL t = measL t := by unfold lookL; rw [if_pos h]
theorem chk_pos {t : List Nd} (h : chk t = 0) : 0 < t.length := by
 obtain ⟨x, _, rfl, _⟩ := chk_ok.1 h
 exact T.flat_pos x
end Go.Proofs.YtcfponnkfhkbdaaDoor
/- Plain laws of the document's check. -/
namespace Go.Proofs.YtcfponnkfhkbdaaDoor
set_option linter.unusedSimpArgs false
set_option linter.unusedVariables false
theorem bindL_many {n : Nd} (h : right n = true) : (bindL n).length = many n := by
 rw [bindL_right h]
 rfl
theorem measB_at {t : List Nd} {k : Nat} {st : List T} (hb : measB t = true) (h : scanT [] (t.take k) = some st) (hk : k < t.length) : right (nth t k) = true ∧ many (nth t k) ≤ st.length := by
 obtain ⟨x, hs, _⟩ := measB_tree hb
 cases hp : pushT st (nth t k) with
 | none => rw [scan_none h hk hp] at hs; cases hs
 | some s =>
  unfold pushT at hp
  split at hp
  ·
   rename_i hc
   simp only [Bool.and_eq_true, decide_eq_true_eq] at hc
   exact hc
  · cases hp
theorem same_step {t u : List Nd} {k : Nat} (hi : t.take k = u.take k) (hk : k < t.length) (hu : k < u.length) (h : nth t k = nth u k) : t.take (k + 1) = u.take (k + 1) := by
 rw [take_nth hk, take_nth hu, hi, h]
theorem same_len {t u : List Nd} (h : ¬ t.length = u.length) : decide (t = u) = false := by
 rw [decide_eq_false_iff_not]
 rintro rfl
 exact h rfl
theorem same_no {t u : List Nd} {k : Nat} (hk : k < t.length) (hu : k < u.length) (h : ¬ nth t k = nth u k) : decide (t = u) = false := by
 rw [decide_eq_false_iff_not]
 rintro rfl
 exact h rfl
theorem same_end {t u : List Nd} {k : Nat} (hi : t.take k = u.take k) (hk : t.length ≤ k) (hu : u.length ≤ k) : decide (t = u) = true := by
 rw [List.take_of_length_le hk, List.take_of_length_le hu] at hi
 simpa using hi
theorem nth_mem {t : List Nd} {k : Nat} (h : k < t.length) : nth t k ∈ t := by
 have : nth t k = t[k] := by simp [nth, h]
 rw [this]
 exact List.getElem_mem h
theorem flat_step {p : List Sl} {k : Nat} (h : k < p.length) : (lsts (p.take (k + 1))).flatten = (lsts (p.take k)).flatten ++ (nthS p k).2.2 := by
 have e : p.take (k + 1) = p.take k ++ [nthS p k] := by
  rw [List.take_add_one, List.getElem?_eq_getElem h]
  simp [nthS, h]
 rw [e]
 simp only [lsts, List.map_append, List.flatten_append, List.map_cons, List.map_nil, List.flatten_cons, List.flatten_nil, List.append_nil]
theorem flat_le {p : List Sl} {k b : Nat} (hb : ∀ s ∈ p, s.2.2.length ≤ b) (h : k ≤ p.length) : (lsts (p.take k)).flatten.length ≤ k * b ∧ (nthS p k).2.2.length ≤ b := by
 constructor
 ·
  induction k with
  | zero => simp [lsts]
  | succ k ih =>
   rw [flat_step (by omega), List.length_append, Nat.add_mul]
   have := ih (by omega)
   have := hb _ (nthS_mem (t := p) (k := k) (by omega))
   omega
 ·
  by_cases hk : k < p.length
  · exact hb _ (nthS_mem hk)
  ·
   have : nthS p k = slz := by simp [nthS, List.getD_eq_getElem?_getD, List.getElem?_eq_none (by omega : p.length ≤ k)]
   rw [this]
   simp [slz]
end Go.Proofs.YtcfponnkfhkbdaaDoor
/- What iterators hand over: plain lists. -/
namespace Go.Proofs.YtcfponnkfhkbdaaDoor
set_option linter.unusedSimpArgs false
set_option linter.unusedVariables false
mutual
def visT (o u : Int) : T → List (Int × Int)
 | .mk n l => (o + (T.flats l).length, u) :: visTs o l ((binds n).map (u + ·))
def visTs (o : Int) : List T → List Int → List (Int × Int)
 | [], _ => []
 | _ :: _, [] => []
 | t :: l, u :: us => visTs (o + t.flat.length) l us ++ visT o u t
end
theorem visTs_append (o : Int) (A B : List T) (us vs : List Int) (h : A.length = us.length) : visTs o (A ++ B) (us ++ vs) = visTs (o + (T.flats A).length) B vs ++ visTs o A us := by
 induction A generalizing o us with
 | nil =>
  cases us with
  | nil => simp [visTs, T.flats_nil]
  | cons _ _ => simp at h
 | cons t A ih =>
  cases us with
  | nil => simp at h
  | cons u us =>
   simp only [List.cons_append, visTs, ih (o + t.flat.length) us (by simpa using h), T.flats_cons, List.length_append, List.append_assoc]
   congr 2
   omega
theorem visTs_one (o u : Int) (t : T) : visTs o [t] [u] = visT o u t := by simp [visTs]
def treeOf (t : List Nd) : T := match scanT [] t with
 | some [x] => x
 | _ => .mk ndz []
theorem treeOf_flat {x : T} (h : x.wf = true) : treeOf x.flat = x := by
 unfold treeOf
 rw [scanT_tree [] x h]
 rfl
theorem treeOf_ok {t : List Nd} (h : chk t = 0) : (treeOf t).wf = true ∧ (treeOf t).flat = t ∧ (treeOf t).deep ≤ 60 ∧ t.length ≤ 4000 := by
 obtain ⟨x, hw, rfl, hl, hd⟩ := chk_ok.1 h
 rw [treeOf_flat hw]
 exact ⟨hw, rfl, hd, hl⟩
def nodesL (t : List Nd) : List (Int × Int) := visT 0 0 (treeOf t)
structure VInv (t : List Nd) (k : Nat) (A : List T) (us : List Int) : Prop where
 len : A.length = us.length
 flat : T.flats A = t.take (t.length - k)
 wfs : T.wfs A = true
 rest : nodesL t = (nodesL t).take k ++ visTs 0 A us
 klen : ((nodesL t).take k).length = k
 bd : ∀ u ∈ us, 0 ≤ u ∧ u ≤ 2 * (k : Int)
theorem VInv.zero {t : List Nd} (h : chk t = 0) : VInv t 0 [treeOf t] [0] := by
 obtain ⟨h1, h2, _, _⟩ := treeOf_ok h
 refine ⟨rfl, by rw [T.flats_one, h2]; simp, by simp [T.wfs, h1], by rw [visTs_one]; rfl, rfl, fun u hu => ?_⟩
 rw [List.mem_singleton] at hu
 subst hu
 simp
theorem shp_b (k : Nat) : ∀ b ∈ (shp k).b, 0 ≤ b ∧ b ≤ 2 := by
 unfold shp
 split <;> simp
theorem binds_b (n : Nd) : ∀ b ∈ binds n, 0 ≤ b ∧ b ≤ 2 := by
 intro b hb
 unfold binds at hb
 split at hb
 ·
  have := List.eq_of_mem_replicate hb
  omega
 ·
  split at hb
  ·
   rcases List.mem_cons.1 hb with rfl | hb
   · omega
   ·
    have := List.eq_of_mem_replicate hb
    omega
  · exact shp_b _ _ hb
theorem snoc_last {α : Type} {L : List α} (h : 0 < L.length) : ∃ p x, L = p ++ [x] := by
 rcases List.eq_nil_or_concat L with rfl | ⟨p, x, rfl⟩
 · simp at h
 · exact ⟨p, x, by simp⟩
theorem take_cons_at {α : Type} {Y X R : List α} {e : α} {k : Nat} (h : Y = X ++ e :: R) (hk : X.length = k) : Y.take (k + 1) = X ++ [e] := by
 subst hk
 rw [h, List.take_append, List.take_of_length_le (by omega)]
 simp
def bindsR (n : Nd) : List Int := if right n = true then binds n else []
theorem bindsR_eq {n : Nd} (h : right n = true) : bindsR n = binds n := if_pos h
theorem VInv.step {t : List Nd} {k : Nat} {A : List T} {us : List Int} (h : VInv t k A us) (hk : k < t.length) :
  right (nth t (t.length - (k + 1))) = true ∧ 0 < us.length ∧ us.length ≤ t.length ∧ (0 ≤ nthI us (us.length - 1) ∧ nthI us (us.length - 1) ≤ 2 * (k : Int)) ∧
  (nodesL t).take k ++ [((t.length : Int) - (k : Int) - 1, nthI us (us.length - 1))] = (nodesL t).take (k + 1) ∧
  ∃ A', VInv t (k + 1) A' (us.take (us.length - 1) ++ (bindsR (nth t (t.length - (k + 1)))).map (nthI us (us.length - 1) + ·)) := by
 have hfl : (T.flats A).length = t.length - k := by rw [h.flat, List.length_take]; omega
 have hA : 0 < A.length := by
  cases A with
  | nil => simp [T.flats_nil] at hfl; omega
  | cons _ _ => simp
 obtain ⟨Ap, ⟨n, l⟩, rfl⟩ := snoc_last hA
 have hu : 0 < us.length := by rw [← h.len]; exact hA
 obtain ⟨up, u, rfl⟩ := snoc_last hu
 have hlen : Ap.length = up.length := by have := h.len; simpa using this
 have hlast : nthI (up ++ [u]) ((up ++ [u]).length - 1) = u := by simp [nthI]
 have htk : (up ++ [u]).take ((up ++ [u]).length - 1) = up := by simp
 have hf2 : T.flats Ap ++ (T.flats l ++ [n]) = t.take (t.length - k) := by
  have := h.flat
  rwa [T.flats_append, T.flats_one, T.flat_mk] at this
 have hf3 : (T.flats (Ap ++ l)) ++ [n] = t.take (t.length - k) := by rw [T.flats_append, List.append_assoc]; exact hf2
 have hl3 : (T.flats (Ap ++ l)).length = t.length - (k + 1) := by
  have := congrArg List.length hf3
  rw [List.length_append, List.length_take, List.length_singleton] at this
  omega
 have hn : nth t (t.length - (k + 1)) = n := by
  have h1 : (t.take (t.length - k))[t.length - (k + 1)]? = some n := by
   rw [← hf3, ← hl3]
   simp
  rw [List.getElem?_take_of_lt (by omega)] at h1
  simp [nth, h1]
 have hf4 : T.flats (Ap ++ l) = t.take (t.length - (k + 1)) := by
  have h1 := congrArg (List.take (t.length - (k + 1))) hf3
  rw [List.take_append_of_le_length (by omega), List.take_of_length_le (by omega), List.take_take] at h1
  rw [h1]
  congr 1
  omega
 have hw := h.wfs
 rw [T.wfs_append, Bool.and_eq_true] at hw
 have hw2 : (T.mk n l).wf = true := by simpa [T.wfs] using hw.2
 rw [T.wf_mk] at hw2
 simp only [Bool.and_eq_true, beq_iff_eq] at hw2
 have hv : visTs 0 (Ap ++ [T.mk n l]) (up ++ [u]) = ((t.length : Int) - (k : Int) - 1, u) :: visTs 0 (Ap ++ l) (up ++ (binds n).map (u + ·)) := by
  rw [visTs_append _ _ _ _ _ hlen, visTs_append _ _ _ _ _ hlen, visTs_one, visT]
  simp only [List.cons_append, List.cons.injEq, Prod.mk.injEq, and_true]
  rw [T.flats_append, List.length_append] at hl3
  omega
 have hr := h.rest
 rw [hv] at hr
 have htake : (nodesL t).take (k + 1) = (nodesL t).take k ++ [((t.length : Int) - (k : Int) - 1, u)] := by
  exact take_cons_at hr h.klen
 have hbu := h.bd u (by simp)
 rw [hn, hlast, htk, bindsR_eq hw2.1.1]
 refine ⟨hw2.1.1, by simp, ?_, hbu, htake.symm, Ap ++ l, ⟨?_, hf4, ?_, ?_, ?_, ?_⟩⟩
 ·
  have h1 := flats_len_ge (Ap ++ [T.mk n l])
  rw [hfl, h.len] at h1
  omega
 ·
  rw [List.length_append, List.length_append, List.length_map, hlen]
  have : (binds n).length = l.length := hw2.1.2
  omega
 · rw [T.wfs_append, hw.1, hw2.2]; rfl
 ·
  rw [htake, List.append_assoc]
  exact hr
 · rw [htake, List.length_append, h.klen]; rfl
 ·
  intro v hvm
  rcases List.mem_append.1 hvm with hvm | hvm
  ·
   have := h.bd v (List.mem_append_left _ hvm)
   omega
  ·
   obtain ⟨b, hb, rfl⟩ := List.mem_map.1 hvm
   have := binds_b n b hb
   omega
theorem VInv.all {t : List Nd} {k : Nat} {A : List T} {us : List Int} (h : VInv t k A us) (hk : t.length ≤ k) : (nodesL t).take k = nodesL t := by
 have hfl := h.flat
 rw [show t.length - k = 0 by omega, List.take_zero] at hfl
 cases A with
 | nil =>
  have := h.rest
  simpa [visTs] using this.symm
 | cons x A =>
  rw [T.flats_cons] at hfl
  have := T.flat_ne x
  simp_all
end Go.Proofs.YtcfponnkfhkbdaaDoor
/- Conversions of integers, remainders, truths compared. -/
namespace Go.Proofs.YtcfponnkfhkbdaaDoor
set_option linter.unusedSimpArgs false
set_option linter.unusedVariables false
open Go Go.RowKit
section
variable {P : Program} {X : Prop} {Next : Act → World → Prop} {o : Oper} {a : Act} {w w0 : World} {N : Nat} {l : List (Nat × Value)} {d : Nat}
theorem r_conv {x : Operand} {t u : TypeId} {ki : IntKind} {p : Int} {tk : IntKind} (hs : SteV P X Next o a w) (hR : Reg a N l) (hd : o.dst = some d) (ho : o.op = .convert t u x) (hx : ev l x = some (.int ki p)) (ht : P.underlying t = some (.int tk)) (hu : P.underlying u = some (.int .i64)) (hdN : d < N)
  (h1 : -1000000000000000 ≤ p) (h2 : p ≤ 1000000000000000) (k : ∀ a', Reg a' N ((d, .int .i64 p) :: l) → Next a' w) : X :=
 r_pure hs hR hd hdN (by
  unfold execOp; rw [ho]
  simp only [hR.ev hx, convert, Sem.run_bind, run_underlying ht, run_underlying hu, Result.andThen_ok, Conv.intToInt, Sem.run_pure, wrap_ok rfl h1 h2]) k
theorem r_rem {x y : Operand} {t u : TypeId} {p q z : Int} (hs : SteV P X Next o a w) (hR : Reg a N l) (hd : o.dst = some d) (ho : o.op = .binOp .rem t x y u) (hx : ev l x = some (.int .i64 p)) (hy : ev l y = some (.int .i64 q)) (hdN : d < N)
  (hz : p.tmod q = z) (hq : q ≠ 0) (k : ∀ a', Reg a' N ((d, .int .i64 z) :: l) → Next a' w) : X :=
 r_pure hs hR hd hdN (run_int hR ho hx hy (by simp [binOp, Op.intDiv, hq, hz])) k
theorem tmod_nat (p q : Nat) : ((p : Nat) : Int).tmod ((q : Nat) : Int) = ((p % q : Nat) : Int) := rfl
end
end Go.Proofs.YtcfponnkfhkbdaaDoor
/- Rows of nodes that are kept from round to round: a tail of the resources. -/
namespace Go.Proofs.YtcfponnkfhkbdaaDoor
set_option linter.unusedSimpArgs false
set_option linter.unusedVariables false
open Go Go.RowKit
section
variable {w w' w0 : World} {Z M : Nat → Prop} {m m' : List Res} {ds : List Dat}
theorem St.perm (h : St w0 Z M w m ds) (hp : m.Perm m') : St w0 Z M w m' ds := by
 have hmem : ∀ r, r ∈ m' ↔ r ∈ m := fun r => hp.symm.mem_iff
 have himm : imm Z w0 m' w = imm Z w0 m w := by
  funext k
  unfold imm
  refine propext ⟨fun q => ⟨q.1, q.2.1, fun r hr => q.2.2 r ((hmem r).2 hr)⟩, fun q => ⟨q.1, q.2.1, fun r hr => q.2.2 r ((hmem r).1 hr)⟩⟩
 refine ⟨h.os, h.tape, h.output, h.size, h.old, fun r hr => h.hold r ((hmem r).1 hr), fun r hr => h.own r ((hmem r).1 hr), ?_, fun d hd => by rw [himm]; exact h.dat d hd⟩
 refine (hp.pairwise_iff ?_).1 h.apart
 intro r s hrs k e e'
 exact hrs k e' e
theorem St.rot {A T : List Res} {r : Res} (h : St w0 Z M w ((A ++ T) ++ [r]) ds) : St w0 Z M w ((A ++ [r]) ++ T) ds :=
 h.perm (by
  rw [List.append_assoc, List.append_assoc]
  exact List.Perm.append_left A List.perm_append_comm)
def rowOf (e : Nat) (s : Sl) : Res := .row s.1 s.2.2.length s.2.1 e 4 (encNs s.2.2)
theorem St.absorb {e : Nat} {A : List Res} {Ls : List Sl} {B : Option Addr} {c : Nat} {L : List Nd} (h : St w0 Z M w ((A ++ [.row B L.length c e 4 (encNs L)]) ++ Ls.map (rowOf e)) ds) : St w0 Z M w (A ++ (Ls ++ [((B, c, L) : Sl)]).map (rowOf e)) ds :=
 h.perm (by
  rw [List.map_append, List.append_assoc]
  exact List.Perm.append_left A List.perm_append_comm)
theorem St.tail_data {e : Nat} {A : List Res} {Ls : List Sl} (h : St w0 Z M w (A ++ Ls.map (rowOf e)) ds) (hM : ∀ k, ¬ M k) : St w0 Z M w A (ds ++ [dAll Ls]) := by
 have h1 : St w0 Z M w A ds := h.drop A (List.sublist_append_left _ _)
 refine h1.data _ fun s hs => ?_
 have hmem : rowOf e s ∈ A ++ Ls.map (rowOf e) := List.mem_append_right _ (List.mem_map_of_mem hs)
 have hr : w.ownsRow 0 e 4 (.slice s.1 s.2.2.length s.2.1) s.2.2.length (encNs s.2.2) := h.hold _ hmem
 refine ⟨own_cap hr, hr.1, fun hn => ?_⟩
 obtain ⟨g, hg⟩ := own_some hr hn
 have hblk : (rowOf e s).blk = some g := by show s.1.map (·.block) = some g; rw [hg]; rfl
 have hown := h.own _ hmem g hblk
 refine ⟨_, hg, ⟨hown.1, fun hlt => ?_, fun r hr' e' => ?_⟩, fun j u hu => hr.cells (g := g) (by rw [hg]; rfl) j u hu⟩
 ·
  have hlt' : g < w0.heap.size := hlt
  rcases hown.2 with q | q
  · omega
  · exact absurd q (hM g)
 ·
  have hap := h.apart
  rw [List.pairwise_append] at hap
  exact hap.2.2 r hr' _ (List.mem_map_of_mem hs) g e' hblk
theorem cut_row {α : Type} {f : α → List Value} {size k q cap : Nat} {A : Option Addr} {L : List α} {I : Nat → Prop} (h : (dRow size A L.length cap (L.flatMap f)).φ w I) (hf : ∀ x, (f x).length = size) (hkq : k + q ≤ L.length) :
  (dRow size (if cap = k then A else A.map (·.add (k * size))) ((L.drop k).take q).length (cap - k) (((L.drop k).take q).flatMap f)).φ w I := by
 have hq : ((L.drop k).take q).length = q := by rw [List.length_take, List.length_drop]; omega
 rw [hq, ← enc_take hf, ← enc_drop hf]
 have hc : L.length ≤ cap := h.1
 exact ⟨by omega, (h.2.from_ (k := k) (by omega) hc).take (k := q) (by omega)⟩
end
end Go.Proofs.YtcfponnkfhkbdaaDoor
/- A row turned round in place. -/
namespace Go.Proofs.YtcfponnkfhkbdaaDoor
set_option linter.unusedSimpArgs false
set_option linter.unusedVariables false
structure RevTo (t R : List Sl) (k : Nat) : Prop where
 len : R.length = t.length
 at_ : ∀ i, i < t.length → nthS R i = if i < k ∨ t.length - k ≤ i then nthS t (t.length - 1 - i) else nthS t i
theorem nthS_set {R : List Sl} {i j : Nat} {u : Sl} (hi : i < R.length) : nthS (R.set i u) j = if i = j then u else nthS R j := by
 unfold nthS
 rw [List.getD_eq_getElem?_getD, List.getElem?_set, List.getD_eq_getElem?_getD]
 split
 · simp [*]
 · rfl
theorem RevTo.zero (t : List Sl) : RevTo t t 0 := ⟨rfl, fun i hi => by rw [if_neg (by omega)]⟩
theorem RevTo.step {t R : List Sl} {k j : Nat} {u v : Sl} (h : RevTo t R k) (hk : 2 * k + 1 < t.length) (hj : j = t.length - 1 - k) (hu : u = nthS R j) (hv : v = nthS R k) : RevTo t ((R.set k u).set j v) (k + 1) := by
 subst hj
 obtain ⟨h1, h2⟩ := h
 refine ⟨by simp [h1], fun i hi => ?_⟩
 rw [nthS_set (by rw [List.length_set]; omega), nthS_set (by omega), hu, hv, h2 _ (by omega), h2 _ (by omega), h2 i hi]
 by_cases e1 : t.length - 1 - k = i
 ·
  subst e1
  rw [if_pos rfl, if_neg (by omega), if_pos (by omega)]
  congr 1
  omega
 ·
  rw [if_neg e1]
  by_cases e2 : k = i
  ·
   subst e2
   rw [if_pos rfl, if_neg (by omega), if_pos (by omega)]
  ·
   rw [if_neg e2]
   by_cases e3 : i < k ∨ t.length - k ≤ i
   · rw [if_pos e3, if_pos (by omega)]
   · rw [if_neg e3, if_neg (by omega)]
theorem RevTo.done {t R : List Sl} {k : Nat} (h : RevTo t R k) (hk : t.length ≤ 2 * k + 1) : R = t.reverse := by
 obtain ⟨h1, h2⟩ := h
 apply List.ext_getElem
 · simp [h1]
 ·
  intro i hi hi'
  have h3 := h2 i (by omega)
  have h4 : nthS R i = R[i] := by simp [nthS, hi]
  have h5 : nthS t (t.length - 1 - i) = t[t.length - 1 - i] := by
   have : t.length - 1 - i < t.length := by omega
   simp [nthS, this]
  rw [List.getElem_reverse, ← h4, h3, ← h5]
  split
  · rfl
  ·
   congr 1
   omega
theorem all_rev {w : World} {I : Nat → Prop} {t : List Sl} (h : (dAll t).φ w I) : (dAll t.reverse).φ w I := fun s hs => h s (List.mem_reverse.1 hs)
end Go.Proofs.YtcfponnkfhkbdaaDoor
/- What is erased, stripped, and the proofs: trees. -/
namespace Go.Proofs.YtcfponnkfhkbdaaDoor
set_option linter.unusedSimpArgs false
set_option linter.unusedVariables false
theorem wf_cons {t : T} {l : List T} (h : T.wfs (t :: l) = true) : t.wf = true ∧ T.wfs l = true := by simpa [T.wfs] using h
theorem wf_parts {n : Nd} {l : List T} (h : (T.mk n l).wf = true) : right n = true ∧ many n = l.length ∧ T.wfs l = true := by
 rw [T.wf_mk] at h
 simp only [Bool.and_eq_true, beq_iff_eq] at h
 exact ⟨h.1.1, h.1.2, h.2⟩
end Go.Proofs.YtcfponnkfhkbdaaDoor
/- Where terms begin, and the parts of one: plain lists. -/
namespace Go.Proofs.YtcfponnkfhkbdaaDoor
set_option linter.unusedSimpArgs false
set_option linter.unusedVariables false
def frL (t : List Nd) (e : Nat) : Nat := match scanT [] (t.take (e + 1)) with
 | some st => (T.flats st.dropLast).length
 | none => 0
def posL (t : List Nd) (e j : Nat) : Nat := match scanT [] (t.take e) with
 | some st => (T.flats (st.take (st.length - j))).length
 | none => 0
theorem scan_take {t : List Nd} {st : List T} (h : scanT [] t = some st) (k : Nat) : ∃ s, scanT [] (t.take k) = some s := by
 have h1 := h
 rw [← List.take_append_drop k t, scanT_append] at h1
 cases hs : scanT [] (t.take k) with
 | none => rw [hs] at h1; cases h1
 | some s => exact ⟨s, rfl⟩
theorem meas_scan {t : List Nd} (h : measB t = true) (k : Nat) : ∃ s, scanT [] (t.take k) = some s := by
 obtain ⟨x, hs, _⟩ := measB_tree h
 exact scan_take hs k
theorem treeOf_meas {t : List Nd} (h : measB t = true) : (treeOf t).wf = true ∧ (treeOf t).flat = t := by
 obtain ⟨x, _, _, hw, hf⟩ := measB_tree h
 rw [← hf, treeOf_flat hw]
 exact ⟨hw, rfl⟩
theorem meas_flat {x : T} (h : x.wf = true) : measB x.flat = true := by
 unfold measB
 rw [scanT_tree [] x h]
 rfl
theorem meas_chk {t : List Nd} (h : chk t = 0) : measB t = true := by
 obtain ⟨x, hw, rfl, _⟩ := chk_ok.1 h
 exact meas_flat hw
theorem meas_pos {t : List Nd} (h : measB t = true) : 0 < t.length := by
 obtain ⟨x, _, _, _, rfl⟩ := measB_tree h
 exact T.flat_pos x
theorem scan_prefix {st : List T} (hw : T.wfs st = true) (m : Nat) : scanT [] (T.flats (st.take m)) = some (st.take m) := by
 have h2 : T.wfs (st.take m) = true := (T.wfs_iff _).2 fun x hx => (T.wfs_iff _).1 hw x (List.mem_of_mem_take hx)
 simpa using scanT_trees [] _ h2
theorem flats_take_pre (st : List T) (m : Nat) : T.flats st = T.flats (st.take m) ++ T.flats (st.drop m) := by rw [← T.flats_append, List.take_append_drop]
theorem posL_zero {t : List Nd} {e : Nat} (h : measB t = true) (he : e ≤ t.length) : posL t e 0 = e := by
 obtain ⟨st, hs⟩ := meas_scan h e
 unfold posL
 rw [hs]
 simp only [Nat.sub_zero, List.take_length]
 rw [(scanT_flat hs (by simp [T.wfs])).1]
 simp [T.flats_nil, he]
theorem meas_at {t : List Nd} {e : Nat} {st : List T} (h : measB t = true) (he : e < t.length) (hs : scanT [] (t.take e) = some st) : right (nth t e) = true ∧ many (nth t e) ≤ st.length :=
 measB_at h hs he
theorem right_at {t : List Nd} {e : Nat} (h : measB t = true) (he : e < t.length) : right (nth t e) = true := by
 obtain ⟨st, hs⟩ := meas_scan h e
 exact (meas_at h he hs).1
theorem posL_step {t : List Nd} {e j : Nat} (h : measB t = true) (he : e < t.length) (hj : j < many (nth t e)) : 0 < posL t e j ∧ posL t e j ≤ e ∧ frL t (posL t e j - 1) = posL t e (j + 1) ∧ posL t e (j + 1) < posL t e j := by
 obtain ⟨st, hs⟩ := meas_scan h e
 obtain ⟨_, hm⟩ := meas_at h he hs
 obtain ⟨hf, hw⟩ := scanT_flat hs (by simp [T.wfs])
 simp only [T.flats_nil, List.nil_append] at hf
 have hp : ∀ i, posL t e i = (T.flats (st.take (st.length - i))).length := fun i => by unfold posL; rw [hs]
 have hle : ∀ i, (T.flats (st.take i)).length ≤ e := fun i => by
  have h1 := congrArg List.length (flats_take_pre st i)
  rw [hf, List.length_take, List.length_append] at h1
  omega
 have hsnoc : st.take (st.length - j) = st.take (st.length - (j + 1)) ++ [st[st.length - (j + 1)]'(by omega)] := by
  rw [show st.length - j = st.length - (j + 1) + 1 by omega, List.take_add_one, List.getElem?_eq_getElem (by omega)]
  rfl
 have hlen : posL t e j = posL t e (j + 1) + (st[st.length - (j + 1)]'(by omega)).flat.length := by
  rw [hp, hp, hsnoc, T.flats_append, T.flats_one, List.length_append]
 have hpos := T.flat_pos (st[st.length - (j + 1)]'(by omega))
 refine ⟨by omega, by rw [hp]; exact hle _, ?_, by omega⟩
 unfold frL
 have htk : t.take (posL t e j - 1 + 1) = T.flats (st.take (st.length - j)) := by
  rw [show posL t e j - 1 + 1 = posL t e j by omega, hp]
  have h2 := flats_take_pre st (st.length - j)
  rw [hf] at h2
  have h3 := congrArg (List.take (T.flats (st.take (st.length - j))).length) h2
  rw [List.take_take, List.take_left' rfl, Nat.min_eq_left (hle _)] at h3
  exact h3
 rw [htk, scan_prefix hw, hsnoc]
 simp only [List.dropLast_concat]
 rw [hp]
theorem posL_end {t : List Nd} {e : Nat} (h : measB t = true) (he : e < t.length) : posL t e (many (nth t e)) = frL t e := by
 obtain ⟨st, hs⟩ := meas_scan h e
 obtain ⟨hr, hm⟩ := meas_at h he hs
 have h1 := scan_step hs he
 unfold posL frL
 rw [hs, h1]
 unfold pushT
 rw [if_pos (by simp [hr, hm])]
 simp
def ptL (t : List Nd) : List (List Nd) := (treeOf t).args.map T.flat
theorem tree_parts {t : List Nd} (h : measB t = true) : ∃ n l, treeOf t = .mk n l ∧ right n = true ∧ many n = l.length ∧ T.wfs l = true ∧ t = T.flats l ++ [n] ∧ nth t (t.length - 1) = n ∧ (T.flats l).length = t.length - 1 ∧ scanT [] (t.take (t.length - 1)) = some l := by
 obtain ⟨hw, hf⟩ := treeOf_meas h
 rcases hx : treeOf t with ⟨n, l⟩
 rw [hx] at hw hf
 obtain ⟨h1, h2, h3⟩ := wf_parts hw
 rw [T.flat_mk] at hf
 have hl : (T.flats l).length = t.length - 1 := by rw [← hf]; simp
 refine ⟨n, l, rfl, h1, h2, h3, hf.symm, ?_, hl, ?_⟩
 ·
  rw [← hl, ← hf]
  simp [nth]
 ·
  rw [← hl, ← hf, List.take_left' rfl]
  simpa using scanT_trees [] l h3
theorem posL_root {t : List Nd} (h : measB t = true) (j : Nat) : posL t (t.length - 1) j = (T.flats ((treeOf t).args.take ((treeOf t).args.length - j))).length := by
 obtain ⟨n, l, hx, _, _, _, _, _, _, hs⟩ := tree_parts h
 unfold posL
 rw [hs, hx]
 rfl
theorem root_many {t : List Nd} (h : measB t = true) : many (nth t (t.length - 1)) = (treeOf t).args.length := by
 obtain ⟨n, l, hx, _, h2, _, _, h4, _, _⟩ := tree_parts h
 rw [h4, h2, hx]
 rfl
def ptD (t : List Nd) (j : Nat) : List (List Nd) := ((treeOf t).args.drop ((treeOf t).args.length - j)).map T.flat
theorem ptD_zero (t : List Nd) : ptD t 0 = [] := by simp [ptD]
theorem ptD_length {t : List Nd} {j : Nat} (h : measB t = true) (hj : j ≤ many (nth t (t.length - 1))) : (ptD t j).length = j := by
 rw [root_many h] at hj
 simp [ptD]
 omega
theorem ptD_all {t : List Nd} (h : measB t = true) : ptD t (many (nth t (t.length - 1))) = ptL t := by
 rw [root_many h]
 simp [ptD, ptL]
theorem ptD_step {t : List Nd} {j a b : Nat} (h : measB t = true) (hj : j < many (nth t (t.length - 1))) (ha : a = posL t (t.length - 1) (j + 1)) (hb : b = posL t (t.length - 1) j) : (t.drop a).take (b - a) :: ptD t j = ptD t (j + 1) := by
 have hm := root_many h
 obtain ⟨n, l, hx, _, h2, _, h4, _, _, _⟩ := tree_parts h
 rw [posL_root h] at ha hb
 rw [hm, hx] at hj
 unfold ptD
 rw [hx] at ha hb ⊢
 simp only [T.args] at ha hb hj ⊢
 have h1 : l.length - (j + 1) < l.length := by omega
 have hd : l.drop (l.length - (j + 1)) = l[l.length - (j + 1)] :: l.drop (l.length - j) := by
  rw [List.drop_eq_getElem_cons h1, show l.length - (j + 1) + 1 = l.length - j by omega]
 have hsnoc : l.take (l.length - j) = l.take (l.length - (j + 1)) ++ [l[l.length - (j + 1)]] := by
  rw [show l.length - j = l.length - (j + 1) + 1 by omega, List.take_add_one, List.getElem?_eq_getElem h1]
  rfl
 have hall : T.flats l = T.flats (l.take (l.length - (j + 1))) ++ (l[l.length - (j + 1)].flat ++ T.flats (l.drop (l.length - j))) := by
  rw [flats_take_pre l (l.length - (j + 1)), hd, T.flats_cons]
 rw [hd, List.map_cons]
 congr 1
 have hb' : b - a = l[l.length - (j + 1)].flat.length := by
  rw [ha, hb, hsnoc, T.flats_append, T.flats_one, List.length_append]
  omega
 rw [hb', ha, h4, hall, List.append_assoc, List.drop_left' rfl, List.append_assoc, List.take_left' rfl]
theorem ptL_mem {t p : List Nd} (h : measB t = true) (hp : p ∈ ptL t) : measB p = true ∧ p.length < t.length ∧ (∀ n ∈ p, n ∈ t) := by
 obtain ⟨n, l, hx, _, h2, h3, h4, _, h6, _⟩ := tree_parts h
 unfold ptL at hp
 rw [hx] at hp
 obtain ⟨y, hy, rfl⟩ := List.mem_map.1 hp
 simp only [T.args] at hy
 have hw := (T.wfs_iff l).1 h3 y hy
 obtain ⟨a, b, rfl⟩ := List.append_of_mem hy
 refine ⟨meas_flat hw, ?_, fun m hm => ?_⟩
 ·
  have := meas_pos h
  rw [T.flats_append, T.flats_cons] at h6
  simp only [List.length_append] at h6
  omega
 ·
  rw [h4, T.flats_append, T.flats_cons]
  simp [hm]
theorem ptL_length {t : List Nd} (h : measB t = true) : (ptL t).length = many (nth t (t.length - 1)) := by rw [root_many h]; simp [ptL]
theorem sml_sub {t p : List Nd} (h : sml t) (hp : ∀ n ∈ p, n ∈ t) : sml p := fun k hk => by
 have h1 := hp _ (nth_mem hk)
 obtain ⟨i, hi, he⟩ := List.getElem_of_mem h1
 have h2 := h i hi
 have : nth t i = t[i] := by simp [nth, hi]
 rw [this, he] at h2
 exact h2
end Go.Proofs.YtcfponnkfhkbdaaDoor
/- The document's own words of terms: parts, what is made of them; plain lists. -/
namespace Go.Proofs.YtcfponnkfhkbdaaDoor
set_option linter.unusedSimpArgs false
set_option linter.unusedVariables false
section
variable {w0 w : World} {Z M : Nat → Prop} {m : List Res} {ds ds' : List Dat}
theorem St.sub (h : St w0 Z M w m ds) (hd : ∀ d ∈ ds', d ∈ ds) : St w0 Z M w m ds' := ⟨h.os, h.tape, h.output, h.size, h.old, h.hold, h.own, h.apart, fun d hx => h.dat d (hd d hx)⟩
theorem sub_nil : ∀ d ∈ ([] : List Dat), d ∈ ds := fun _ h => by cases h
theorem sub_cons {d : Dat} {l : List Dat} {i : Nat} (h : ds[i]? = some d) (hl : ∀ x ∈ l, x ∈ ds) : ∀ x ∈ d :: l, x ∈ ds := fun x hx => by
 rcases List.mem_cons.1 hx with rfl | hx
 · exact List.mem_of_getElem? h
 · exact hl x hx
end
def nthL (l : List (List Nd)) (k : Nat) : List Nd := l.getD k []
theorem lsts_app (a b : List Sl) : lsts (a ++ b) = lsts a ++ lsts b := by simp [lsts]
theorem lsts_one {A : Option Addr} {c : Nat} {L : List Nd} : lsts [((A, c, L) : Sl)] = [L] := rfl
theorem lsts_len (a : List Sl) : (lsts a).length = a.length := by simp [lsts]
theorem lsts_nth (a : List Sl) (k : Nat) : (nthS a k).2.2 = nthL (lsts a) k := by
 unfold nthS nthL lsts
 rw [List.getD_eq_getElem?_getD, List.getD_eq_getElem?_getD, List.getElem?_map]
 cases a[k]? <;> rfl
theorem nthL_mem {l : List (List Nd)} {k : Nat} (h : k < l.length) : nthL l k ∈ l := by
 have : nthL l k = l[k] := by simp [nthL, h]
 rw [this]
 exact List.getElem_mem h
theorem parts_step {t : List Nd} {Ls : List Sl} {A : Option Addr} {c k a b : Nat} (hb : measB t = true) (hL : lsts Ls = ptD t k) (hk : k < many (nth t (t.length - 1))) (ha : a = posL t (t.length - 1) (k + 1)) (hbb : b = posL t (t.length - 1) k) :
  lsts ([((A, c, (t.drop a).take (b - a)) : Sl)] ++ Ls) = ptD t (k + 1) := by
 rw [lsts_app, lsts_one, hL, ← ptD_step hb hk ha hbb]
 rfl
theorem flats_flatten (l : List T) : (l.map T.flat).flatten = T.flats l := by
 induction l with
 | nil => simp [T.flats_nil]
 | cons t l ih => simp [T.flats_cons, ih]
end Go.Proofs.YtcfponnkfhkbdaaDoor
/- What is erased, stripped, and the proofs, of terms: lists. -/
namespace Go.Proofs.YtcfponnkfhkbdaaDoor
set_option linter.unusedSimpArgs false
set_option linter.unusedVariables false
theorem sml_mem {t : List Nd} : sml t ↔ ∀ n ∈ t, n.S.size < 1000000 := by
 constructor
 ·
  intro h n hn
  obtain ⟨i, hi, rfl⟩ := List.getElem_of_mem hn
  have := h i hi
  simpa [nth, hi] using this
 ·
  intro h k hk
  exact h _ (nth_mem hk)
theorem chk_flat {x : T} (hw : x.wf = true) (hd : x.deep ≤ 60) (hl : x.flat.length ≤ 4000) : chk x.flat = 0 := chk_ok.2 ⟨x, hw, rfl, hl, hd⟩
end Go.Proofs.YtcfponnkfhkbdaaDoor
/- Parts of terms that are checked, and their places in what is made of all parts; terms that differ in their proofs. -/
namespace Go.Proofs.YtcfponnkfhkbdaaDoor
set_option linter.unusedSimpArgs false
set_option linter.unusedVariables false
theorem ptL_chk {t p : List Nd} (h : chk t = 0) (hp : p ∈ ptL t) : chk p = 0 := by
 obtain ⟨hw, hf, hd, hl⟩ := treeOf_ok h
 obtain ⟨n, l, hx, _, _, h3, _, _, _, _⟩ := tree_parts (meas_chk h)
 have h4 := (ptL_mem (meas_chk h) hp).2.1
 unfold ptL at hp
 rw [hx] at hp hd
 obtain ⟨y, hy, rfl⟩ := List.mem_map.1 hp
 simp only [T.args] at hy
 have h5 := deeps_le hy
 rw [deep_mk] at hd
 exact chk_flat ((T.wfs_iff l).1 h3 y hy) (by omega) (by omega)
def marks (t : List Nd) : Nat := t.countP fun n => decide (n.K = 28)
end Go.Proofs.YtcfponnkfhkbdaaDoor
/- Terms in which variables give way to something, under binders: shifts and substitutions; trees and lists. -/
namespace Go.Proofs.YtcfponnkfhkbdaaDoor
set_option linter.unusedSimpArgs false
set_option linter.unusedVariables false
abbrev VR := Nd → Int → Int × T
mutual
def trE (V : VR) (u : Int) : T → Int
 | .mk n l => if n.K = 0 then (V n u).1 else trEs V l ((binds n).map (u + ·))
def trEs (V : VR) : List T → List Int → Int
 | [], _ => 0
 | _ :: _, [] => 0
 | t :: l, u :: us => if trE V u t = 0 then trEs V l us else trE V u t
end
mutual
def trT (V : VR) (u : Int) : T → T
 | .mk n l => if n.K = 0 then (V n u).2 else .mk n (trTs V l ((binds n).map (u + ·)))
def trTs (V : VR) : List T → List Int → List T
 | [], _ => []
 | _ :: _, [] => []
 | t :: l, u :: us => trT V u t :: trTs V l us
end
def trEL (V : VR) (t : List Nd) (u : Int) : Int := trE V u (treeOf t)
def trL (V : VR) (t : List Nd) (u : Int) : List Nd := if trEL V t u = 0 then (trT V u (treeOf t)).flat else []
abbrev vN (m : Int) : Nd := ⟨0, m, 0, ⟨#[]⟩⟩
def shV (by_ fr : Int) : VR := fun n u => if fr ≤ n.N - u then (if n.N + by_ - u < fr then (30, .mk n []) else if 99 < n.N + by_ then (2, .mk n []) else (0, .mk (vN (n.N + by_)) [])) else (0, .mk n [])
def clamp (n : Int) : Int := max (-1000) (min n 1000)
def sfE (t : List Nd) (by_ fr : Int) : Int := if chk t = 0 then trEL (shV (clamp by_) (max 0 (clamp fr))) t 0 else chk t
def sfA (t : List Nd) (by_ fr : Int) : List Nd := if chk t = 0 then trL (shV (clamp by_) (max 0 (clamp fr))) t 0 else []
def nthLs (l : List (List Nd)) (i : Int) : List Nd := nthL l i.toNat
def puV (k : Int) (l : List (List Nd)) : VR := fun n u =>
 if n.N - u < k then (0, .mk n []) else if n.N - u < k + l.length then (sfE (nthLs l (n.N - u - k)) (u + k) 0, treeOf (sfA (nthLs l (n.N - u - k)) (u + k) 0)) else (0, .mk (vN (n.N - l.length)) [])
section
variable {t : List Nd} {u : Int} (h : measB t = true) (hk : (nth t (t.length - 1)).K = 0)
include h hk
end
end Go.Proofs.YtcfponnkfhkbdaaDoor
/- A term shifted in place, node by node from the root on: plain lists. -/
namespace Go.Proofs.YtcfponnkfhkbdaaDoor
set_option linter.unusedSimpArgs false
set_option linter.unusedVariables false
theorem nth_mid {u v : List Nd} {n : Nd} : nth (u ++ [n] ++ v) u.length = n := by simp [nth]
theorem nth_set (L : List Nd) (i k : Nat) (z : Nd) : nth (L.set i z) k = if i = k ∧ i < L.length then z else nth L k := by
 unfold nth
 rw [List.getD_eq_getElem?_getD, List.getElem?_set, List.getD_eq_getElem?_getD]
 by_cases h : i = k
 ·
  subst h
  by_cases h2 : i < L.length
  · simp [h2]
  · simp [h2]
 · simp [h]
mutual
theorem vis_len : ∀ (x : T) (o k : Int), x.wf = true → (visT o k x).length = x.flat.length
 | .mk n l, o, k, hw => by
  obtain ⟨_, h2, h3⟩ := wf_parts hw
  simp only [visT, List.length_cons, T.flat_mk, List.length_append, List.length_nil]
  rw [vis_lens l o _ h3 (by simp [← h2, many])]
theorem vis_lens : ∀ (l : List T) (o : Int) (ks : List Int), T.wfs l = true → l.length = ks.length → (visTs o l ks).length = (T.flats l).length
 | [], _, _, _, _ => by simp [visTs, T.flats_nil]
 | _ :: _, _, [], _, h => by simp at h
 | x :: l, o, v :: ks, hw, h => by
  obtain ⟨h1, h2⟩ := wf_cons hw
  simp only [visTs, List.length_append, T.flats_cons]
  rw [vis_lens l _ ks h2 (by simpa using h), vis_len x o v h1]
  omega
end
theorem nodesL_len {t : List Nd} (hc : chk t = 0) : (nodesL t).length = t.length := by
 obtain ⟨hw, hf, _⟩ := treeOf_ok hc
 have := vis_len (treeOf t) 0 0 hw
 rw [hf] at this
 exact this
end Go.Proofs.YtcfponnkfhkbdaaDoor
/- The nodes of a term from its root on, each with how many binders it is under: as subst.nodes hands them over. -/
namespace Go.Proofs.YtcfponnkfhkbdaaDoor
set_option linter.unusedSimpArgs false
set_option linter.unusedVariables false
def nodesN (t : List Nd) : List (Nd × Int) := (nodesL t).map fun x => (nth t x.1.toNat, x.2)
end Go.Proofs.YtcfponnkfhkbdaaDoor
/- Results that lie in cells. -/
namespace Go.Proofs.YtcfponnkfhkbdaaDoor
set_option linter.unusedSimpArgs false
set_option linter.unusedVariables false
open Go Go.RowKit
section
variable {P : Program} {fn : Func} {N : Nat} {l : List (Nat × Value)} {a : Act} {w w0 : World} {Z M : Nat → Prop} {m : List Res} {ds : List Dat} {R : Ending → World → Prop}
theorem St.cast {m' : List Res} (h : St w0 Z M w m ds) (e : m = m') : St w0 Z M w m' ds := e ▸ h
end
end Go.Proofs.YtcfponnkfhkbdaaDoor
/- Terms put into one, node by node from the root on: plain lists. -/
namespace Go.Proofs.YtcfponnkfhkbdaaDoor
set_option linter.unusedSimpArgs false
set_option linter.unusedVariables false
structure RevN (t R : List Nd) (k : Nat) : Prop where
 len : R.length = t.length
 at_ : ∀ i, i < t.length → nth R i = if i < k ∨ t.length - k ≤ i then nth t (t.length - 1 - i) else nth t i
theorem RevN.zero (t : List Nd) : RevN t t 0 := ⟨rfl, fun i hi => by rw [if_neg (by omega)]⟩
theorem RevN.step {t R : List Nd} {k j : Nat} {u v : Nd} (h : RevN t R k) (hk : 2 * k + 1 < t.length) (hj : j = t.length - 1 - k) (hu : u = nth R j) (hv : v = nth R k) : RevN t ((R.set k u).set j v) (k + 1) := by
 subst hj
 obtain ⟨h1, h2⟩ := h
 refine ⟨by simp [h1], fun i hi => ?_⟩
 rw [nth_set, nth_set, hu, hv, h2 _ (by omega), h2 _ (by omega), h2 i hi]
 simp only [List.length_set]
 by_cases e1 : t.length - 1 - k = i
 ·
  subst e1
  rw [if_pos ⟨rfl, by omega⟩, if_neg (by omega), if_pos (by omega)]
  congr 1
  omega
 ·
  rw [if_neg (by omega)]
  by_cases e2 : k = i
  ·
   subst e2
   rw [if_pos ⟨rfl, by omega⟩, if_neg (by omega), if_pos (by omega)]
  ·
   rw [if_neg (by omega)]
   by_cases e3 : i < k ∨ t.length - k ≤ i
   · rw [if_pos e3, if_pos (by omega)]
   · rw [if_neg e3, if_neg (by omega)]
theorem RevN.done {t R : List Nd} {k : Nat} (h : RevN t R k) (hk : t.length ≤ 2 * k + 1) : R = t.reverse := by
 obtain ⟨h1, h2⟩ := h
 apply List.ext_getElem
 · simp [h1]
 ·
  intro i hi hi'
  have h3 := h2 i (by omega)
  have h4 : nth R i = R[i] := by simp [nth, hi]
  have h5 : nth t (t.length - 1 - i) = t[t.length - 1 - i] := by
   have : t.length - 1 - i < t.length := by omega
   simp [nth, this]
  rw [List.getElem_reverse, ← h4, h3, ← h5]
  split
  · rfl
  ·
   congr 1
   omega
def reE (l : List (List Nd)) (x : Nd × Int) : Int := if x.1.K = 0 then (puV 0 l x.1 x.2).1 else 0
def reL (l : List (List Nd)) (x : Nd × Int) : List Nd := if x.1.K = 0 then (puV 0 l x.1 x.2).2.flat else [x.1]
def reR (l : List (List Nd)) (pre : List (Nd × Int)) : List Nd := pre.flatMap fun x => (reL l x).reverse
theorem reR_snoc (l : List (List Nd)) (pre : List (Nd × Int)) (x : Nd × Int) : reR l (pre ++ [x]) = reR l pre ++ (reL l x).reverse := by simp [reR]
theorem reR_append (l : List (List Nd)) (p q : List (Nd × Int)) : reR l (p ++ q) = reR l p ++ reR l q := by simp [reR]
mutual
def visN (u : Int) : T → List (Nd × Int)
 | .mk n l => (n, u) :: visNs l ((binds n).map (u + ·))
def visNs : List T → List Int → List (Nd × Int)
 | [], _ => []
 | _ :: _, [] => []
 | t :: l, u :: us => visNs l us ++ visN u t
end
mutual
theorem vis_N (B : List Nd) : ∀ (x : T) (A : List Nd) (u : Int) (C : List Nd), B = A ++ x.flat ++ C → (visT A.length u x).map (fun y => (nth B y.1.toNat, y.2)) = visN u x
 | .mk n l, A, u, C, h => by
  have e : ((A.length : Int) + ((T.flats l).length : Int)).toNat = (A ++ T.flats l).length := by rw [List.length_append]; omega
  have hB : B = (A ++ T.flats l) ++ [n] ++ C := by rw [h, T.flat_mk]; simp
  simp only [visT, List.map_cons, visN]
  rw [e]
  have hn : nth B (A ++ T.flats l).length = n := by rw [hB, nth_mid]
  rw [hn, vis_Ns B l A ((binds n).map (u + ·)) ([n] ++ C) (by rw [hB]; simp)]
theorem vis_Ns (B : List Nd) : ∀ (l : List T) (A : List Nd) (us : List Int) (C : List Nd), B = A ++ T.flats l ++ C → (visTs A.length l us).map (fun y => (nth B y.1.toNat, y.2)) = visNs l us
 | [], _, _, _, _ => by simp [visTs, visNs]
 | _ :: _, _, [], _, _ => by simp [visTs, visNs]
 | x :: l, A, u :: us, C, h => by
  have h1 := vis_Ns B l (A ++ x.flat) us C (by rw [h, T.flats_cons]; simp)
  have h2 := vis_N B x A u (T.flats l ++ C) (by rw [h, T.flats_cons]; simp)
  simp only [visTs, List.map_append, visNs]
  rw [List.length_append] at h1
  rw [← h1, ← h2]
  simp
end
theorem nodesN_vis {t : List Nd} (hc : chk t = 0) : nodesN t = visN 0 (treeOf t) := by
 obtain ⟨_, hf, _⟩ := treeOf_ok hc
 have := vis_N t (treeOf t) [] 0 [] (by simp [hf])
 exact this
mutual
theorem re_T (l : List (List Nd)) : ∀ (x : T) (u : Int), x.wf = true → ((trE (puV 0 l) u x = 0 ↔ ∀ y ∈ visN u x, reE l y = 0) ∧ reR l (visN u x) = (trT (puV 0 l) u x).flat.reverse)
 | .mk n ps, u, hw => by
  obtain ⟨h1, h2, h3⟩ := wf_parts hw
  by_cases hk : n.K = 0
  ·
   have hl : ps = [] := List.eq_nil_of_length_eq_zero (by rw [← h2]; simp [many, binds, hk, shp])
   subst hl
   simp [visN, visNs, trE, trT, hk, reE, reR, reL]
  ·
   obtain ⟨a1, a2⟩ := re_Ts l ps ((binds n).map (u + ·)) h3
   simp only [visN, trE, trT, hk, if_false, List.mem_cons, forall_eq_or_imp, T.flat_mk, List.reverse_append]
   constructor
   ·
    rw [a1]
    have : reE l (n, u) = 0 := by simp [reE, hk]
    simp [this]
   ·
    have : reR l ((n, u) :: visNs ps ((binds n).map (u + ·))) = (reL l (n, u)).reverse ++ reR l (visNs ps ((binds n).map (u + ·))) := by simp [reR]
    rw [this, a2]
    simp [reL, hk]
theorem re_Ts (l : List (List Nd)) : ∀ (ps : List T) (us : List Int), T.wfs ps = true → ((trEs (puV 0 l) ps us = 0 ↔ ∀ y ∈ visNs ps us, reE l y = 0) ∧ reR l (visNs ps us) = (T.flats (trTs (puV 0 l) ps us)).reverse)
 | [], _, _ => by simp [visNs, trEs, trTs, T.flats_nil, reR]
 | _ :: _, [], _ => by simp [visNs, trEs, trTs, T.flats_nil, reR]
 | x :: ps, u :: us, hw => by
  obtain ⟨h1, h2⟩ := wf_cons hw
  obtain ⟨a1, a2⟩ := re_T l x u h1
  obtain ⟨b1, b2⟩ := re_Ts l ps us h2
  simp only [visNs, trEs, trTs, List.mem_append, T.flats_cons, List.reverse_append, reR_append]
  constructor
  ·
   by_cases he : trE (puV 0 l) u x = 0
   ·
    rw [if_pos he, b1]
    constructor
    ·
     intro h y hy
     rcases hy with hy | hy
     · exact h y hy
     · exact a1.1 he y hy
    ·
     intro h y hy
     exact h y (.inl hy)
   ·
    rw [if_neg he]
    constructor
    · intro h; exact absurd h he
    · intro h; exact absurd (a1.2 fun y hy => h y (.inr hy)) he
  · rw [a2, b2]
end
structure OutI (l : List (List Nd)) (pre : List (Nd × Int)) (O : List Nd) : Prop where
 er : ∀ y ∈ pre, reE l y = 0
 out : O = reR l pre ∨ (8000 ≤ O.length ∧ 8000 < (reR l pre).length)
 bd : O.length ≤ 16000 + pre.length
theorem OutI.nil (l : List (List Nd)) : OutI l [] [] := ⟨(fun _ h => by cases h), .inl rfl, by simp⟩
theorem er_snoc {l : List (List Nd)} {pre : List (Nd × Int)} {x : Nd × Int} (h : ∀ y ∈ pre, reE l y = 0) (hx : reE l x = 0) : ∀ y ∈ pre ++ [x], reE l y = 0 := by
 intro y hy
 rcases List.mem_append.1 hy with hy | hy
 · exact h y hy
 · rw [List.mem_singleton] at hy; subst hy; exact hx
theorem OutI.step {l : List (List Nd)} {pre : List (Nd × Int)} {O S : List Nd} {x : Nd × Int} (h : OutI l pre O) (hx : reE l x = 0) (hS : S = (reL l x).reverse) (hn : (O ++ S).length ≤ 16000 ∨ S.length = 1) : OutI l (pre ++ [x]) (O ++ S) := by
 have hb := h.bd
 refine ⟨er_snoc h.er hx, ?_, ?_⟩
 ·
  rw [reR_snoc, ← hS]
  rcases h.out with q1 | ⟨q1, q3⟩
  · exact .inl (by rw [q1])
  ·
   right
   rw [List.length_append, List.length_append]
   omega
 ·
  rw [List.length_append] at hn
  rw [List.length_append, List.length_append, List.length_singleton]
  omega
theorem OutI.len {l : List (List Nd)} {t O : List Nd} {pre : List (Nd × Int)} (h : OutI l pre O) (hc : chk t = 0) (hp : pre <+: nodesN t) : O.length ≤ 20000 := by
 have h1 := h.bd
 have h2 := hp.length_le
 have h3 : (nodesN t).length = t.length := by unfold nodesN; rw [List.length_map, nodesL_len hc]
 have h4 := (treeOf_ok hc).2.2.2
 omega
theorem OutI.all {l : List (List Nd)} {t O : List Nd} (hc : chk t = 0) (h : OutI l (nodesN t) O) :
  trEL (puV 0 l) t 0 = 0 ∧ (4000 < O.length → 4000 < (trL (puV 0 l) t 0).length) ∧ (O.length ≤ 4000 → O.reverse = trL (puV 0 l) t 0) := by
 obtain ⟨hw, _, _, _⟩ := treeOf_ok hc
 obtain ⟨h1, h2⟩ := re_T l (treeOf t) 0 hw
 rw [← nodesN_vis hc] at h1 h2
 have h3 : trEL (puV 0 l) t 0 = 0 := h1.2 h.er
 have h4 : trL (puV 0 l) t 0 = (trT (puV 0 l) 0 (treeOf t)).flat := by unfold trL; rw [if_pos h3]
 have h5 : (reR l (nodesN t)).length = (trL (puV 0 l) t 0).length := by rw [h2, h4, List.length_reverse]
 refine ⟨h3, fun hl => ?_, fun hl => ?_⟩
 ·
  rw [← h5]
  rcases h.out with q1 | ⟨_, q3⟩
  · rw [← q1]; exact hl
  · omega
 ·
  rcases h.out with q1 | ⟨q1, _⟩
  · rw [q1, h2, List.reverse_reverse, h4]
  · omega
end Go.Proofs.YtcfponnkfhkbdaaDoor
/- Contracts of functions, one theorem each: what the call returns, and that nothing old is changed. Printed by gen.py. -/
namespace Go.Proofs.YtcfponnkfhkbdaaDoor
open Go Go.RowKit
set_option linter.unusedSimpArgs false
set_option linter.unusedVariables false
set_option maxRecDepth 100000 in
set_option maxHeartbeats 1000000 in
theorem lv_calls (w0 : World) (Z : Nat → Prop) (hZ : ∀ k, Z k → k < w0.heap.size) (n : Int)  :
    Calls Tryd.prog 135 [.int .i64 n].toArray w0 (fun e w' => e = .returned (.bool (!decide (0 ≤ n ∧ n ≤ 9))) ∧ Fr none_ w0 w') := by
 have b0 := s0 (M := none_) hZ zn
 refine c_enter Tryd.func135 rfl Tryd.ntmps135 rfl (fun c0 d0 => ?_)
 refine wsc (fun c0 f0 => ?_)
 refine asg d0 (fun c0 h0 => ?_)
 refine wpList_nil (x_then_n (f0 _ _ ?_))
 refine wsc (fun f0 c0 => ?_)
 refine mv h0 (fun f0 d0 => ?_)
 refine r_lss sv d0 rfl rfl rfl rfl (by decide) (fun f0 h0 => ?_)
 refine mv h0 (fun f0 d0 => ?_)
 refine l_join (fun ga gw => Reg ga 9 [(2, .bool false), (8, .bool ((decide ((n) < 0)) || (decide (9 < (n))))), (1000000, .bool false)] ∧ St w0 Z none_ gw [] []) 3 ?_ ?_
 ·
  rcases Decidable.em ((n) < 0) with f0 | f0
  ·
   have h0 := d0.setb (d := 5) (b := true) rfl (decide_eq_true f0)
   refine sps h0 (wff h0) (fun i0 j0 => ?_)
   refine sps j0 (wff j0) (fun i0 h0 => ?_)
   refine r_pick_t sv h0 rfl rfl rfl rfl (by decide) (fun i0 j0 => ?_)
   refine wpList_nil ?_
   exact x_then_n ⟨(j0.sub (rc rfl (rc (rb rfl (by first | rfl | (simp only [decide_eq_true f0, if_pos f0, bl]; done) | (simp [f0]; done) | (simp [f0]; omega))) (rc rfl rnl)))), b0⟩
  ·
   have j0 := d0.setb (d := 5) (b := false) rfl (decide_eq_false f0)
   refine r_move (st_listV_w (wt j0)) j0 rfl rfl rfl (by decide) (fun d0 i0 => ?_)
   refine r_gtr (st_listV_w (wt i0)) i0 rfl rfl rfl rfl (by decide) (fun d0 j0 => ?_)
   refine r_pick_f sv j0 rfl rfl rfl rfl (by decide) (fun d0 i0 => ?_)
   refine wpList_nil ?_
   exact x_then_n ⟨(i0.sub (rc rfl (rc (rb rfl (by first | rfl | (simp only [decide_eq_false f0, if_neg f0, bl]; done) | (simp [f0]; done) | (simp [f0]; omega))) (rc rfl rnl)))), b0⟩
 rintro i0 f0 ⟨b0, d0⟩
 refine asg b0 (fun f0 i0 => ?_)
 refine wpList_nil (x_then_n (c0 _ _ ?_))
 refine wp_ret ?_
 refine e_ret1 i0 rfl rfl rfl ?_
 refine ⟨?_, d0.fr⟩
 exact congrArg Ending.returned (ret_b (by first | rfl | omega | assumption | exact decide_eq_true (by assumption) | ( omega) | (simp []; done) | (simp [] at *; done) | (simp [] <;> omega) | (rw [Bool.eq_iff_iff]; simp [] <;> omega) | (rw [Bool.eq_iff_iff]; simp [] at * <;> omega)))
set_option maxRecDepth 100000 in
set_option maxHeartbeats 1000000 in
theorem lvIndex_calls (w0 : World) (Z : Nat → Prop) (hZ : ∀ k, Z k → k < w0.heap.size) (tA : Option Addr) (tc : Nat) (t : List Int) (ht : (dRow 1 tA t.length tc (encIs t)).φ w0 Z) (hl : t.length ≤ 1000000 := by first | assumption | omega | (simp; done) | (simp; omega)) :
    Calls Tryd.prog 137 [.slice tA t.length tc, .func (.func 135) #[] #[]].toArray w0 (fun e w' => e = .returned (.int .i64 (lvIndex t)) ∧ Fr none_ w0 w') := by
 have b0 := s0 (M := none_) hZ (zc ht zn)
 refine c_enter Tryd.func137 rfl Tryd.ntmps137 rfl (fun c0 d0 => ?_)
 refine wsc (fun c0 f0 => ?_)
 refine asg d0 (fun c0 i0 => ?_)
 refine wpList_nil (x_then_n (f0 _ _ ?_))
 refine wp_seq_k (fun f0 c0 => ?_)
 refine wsc (fun f0 d0 => ?_)
 refine mv i0 (fun f0 j0 => ?_)
 refine r_len sv j0 rfl rfl rfl rfl Tryd.underlying79 (by decide) (fun f0 i0 => ?_)
 refine mv i0 (fun f0 j0 => ?_)
 refine wpList_nil (x_then_n (d0 _ _ ?_))
 refine wp_block ?_
 refine wp_loop_ghost (fun gn ga gw => ∃ k : Nat, (Reg ga 19 [(1000000, .bool false), (0, .slice tA t.length tc), (1, .func (.func 135) #[] #[]), (7, .int .i64 ((t.length : Nat) : Int)), (8, .int .i64 ((k : Nat) : Int))]) ∧ (St w0 Z none_ gw [] [dRow 1 tA t.length tc (encIs t)]) ∧ (k ≤ t.length) ∧ (lvIndex t = (let r := lvIndex (t.drop k); if r < 0 then r else r + (k : Int))) ∧ (t.length - k) = gn) _ ⟨0, (j0.sub (rc rfl (rc rfl (rc rfl (rc rfl (rc rfl rnl)))))), b0, by omega, by simp, rfl⟩ ?_
 rintro j0 b0 d0 ⟨k, f0, i0, hk, hi, k0⟩
 refine wsc (fun k0 d0 => ?_)
 refine r_lss sv f0 rfl rfl rfl rfl (by decide) (fun k0 b0 => ?_)
 refine wpList_nil (x_then_n (d0 _ _ ?_))
 refine wp_seq_k (fun d0 k0 => ?_)
 rcases Decidable.em (((k : Nat) : Int) < ((t.length : Nat) : Int)) with d0 | d0
 ·
  have f0 := b0.setb (d := 9) (b := true) rfl (decide_eq_true d0)
  refine wp_cond_true (f0.ev rfl) ?_
  refine wp_skip ?_
  refine x_then_n (k0 _ _ ?_)
  refine wp_seq_k (fun k0 j0 => ?_)
  refine wp_block ?_
  refine wsc (fun k0 m0 => ?_)
  refine mv f0 (fun k0 n0 => ?_)
  refine asg n0 (fun k0 f0 => ?_)
  refine wpList_nil (x_then_n (m0 _ _ ?_))
  refine wsc (fun m0 k0 => ?_)
  refine mv f0 (fun m0 n0 => ?_)
  refine mv n0 (fun m0 f0 => ?_)
  refine mv f0 (fun m0 n0 => ?_)
  refine m_index (i := k) (j := k * 1) sv n0 rfl rfl rfl rfl Tryd.underlying79 sz3 (by omega) (by omega) (ints_elem (t := t) (k := k) (i0.row (i := 0) rfl).2 (by omega)).some_ rfl (by decide) (fun m0 f0 => ?_)
  refine m_loadE sv f0 rfl rfl rfl 0 (k * 1) (ints_elem (t := t) (k := k) (i0.row (i := 0) rfl).2 (by omega)) rfl rfl Tryd.underlying3 rfl (by decide) (fun m0 n0 => ?_)
  have m0 := i0.nf
  refine k_callV (xs := [.tmp 15]) se n0 rfl rfl rfl rfl (by decide) ok135 (lv_calls _ _ m0.il ((nthI t k))) ?_
  rintro n0 f0 ⟨rfl, o0⟩
  have f0 := m0.below o0.below
  refine ⟨_, rfl, fun o0 m0 => ?_⟩
  refine wpList_nil (x_then_n (k0 _ _ ?_))
  rcases Bool.eq_false_or_eq_true (!decide (0 ≤ ((nthI t k)) ∧ ((nthI t k)) ≤ 9)) with k0 | k0
  ·
   have o0 := not_t k0
   have n0 := of_decide_eq_false o0
   have o0 := m0.setb (d := 16) (b := true) rfl k0
   refine wp_cond_true (o0.ev rfl) ?_
   refine wsc (fun p0 q0 => ?_)
   refine mv o0 (fun p0 t0 => ?_)
   refine asg t0 (fun p0 o0 => ?_)
   refine wpList_nil (x_then_n (q0 _ _ ?_))
   refine wp_ret ?_
   refine x_block_r ?_
   refine x_then_r ?_
   refine x_then_r ?_
   refine x_block_r ?_
   refine x_then_r ?_
   refine e_ret1 o0 rfl rfl rfl ?_
   refine ⟨?_, f0.fr⟩
   exact congrArg Ending.returned (ret_i (by first | exact (lvIndex_here (k := k) hi (by omega) (by intro o0; have q := n0; simp at q; omega)).symm | exact (lvIndex_none hi (by omega)).symm))
  ·
   have n0 := not_f k0
   have q0 := of_decide_eq_true n0
   have n0 := m0.setb (d := 16) (b := false) rfl k0
   refine wp_cond_false (n0.ev rfl) ?_
   refine wp_skip ?_
   refine x_block_n ?_
   refine x_then_n (j0 _ _ ?_)
   refine c_region ?_
   refine r_add (z := ((k + 1 : Nat) : Int)) sv n0 rfl rfl rfl rfl (by decide) (by omega) (by omega) (by omega) (fun j0 k0 => ?_)
   refine mv k0 (fun j0 n0 => ?_)
   refine wpList_nil ?_
   exact ⟨_, by omega, k + 1, (n0.sub (rc rfl (rc rfl (rc rfl (rc rfl (rc rfl rnl)))))), f0, by omega, lvIndex_step hi (by omega) (by have q := q0; simpa using q), rfl⟩
 ·
  have n0 := b0.setb (d := 9) (b := false) rfl (decide_eq_false d0)
  refine wp_cond_false (n0.ev rfl) ?_
  refine wp_exit ?_
  refine x_then_e ?_
  refine x_then_e ?_
  refine x_block_eq ?_
  refine x_then_n (c0 _ _ ?_)
  refine wsc (fun c0 b0 => ?_)
  refine asg n0 (fun c0 q0 => ?_)
  refine wpList_nil (x_then_n (b0 _ _ ?_))
  refine wp_ret ?_
  refine e_ret1 q0 rfl rfl rfl ?_
  refine ⟨?_, i0.fr⟩
  exact congrArg Ending.returned (ret_i (by first | exact (lvIndex_here (k := k) hi (by omega) (by intro o0; have q := d0; simp at q; omega)).symm | exact (lvIndex_none hi (by omega)).symm))
set_option maxRecDepth 100000 in
set_option maxHeartbeats 1000000 in
theorem lvContains_calls (w0 : World) (Z : Nat → Prop) (hZ : ∀ k, Z k → k < w0.heap.size) (tA : Option Addr) (tc : Nat) (t : List Int) (ht : (dRow 1 tA t.length tc (encIs t)).φ w0 Z) (hl : t.length ≤ 1000000 := by first | assumption | omega | (simp; done) | (simp; omega)) :
    Calls Tryd.prog 134 [.slice tA t.length tc, .func (.func 135) #[] #[]].toArray w0 (fun e w' => e = .returned (.bool (decide (0 ≤ lvIndex t))) ∧ Fr none_ w0 w') := by
 have b0 := s0 (M := none_) hZ (zc ht zn)
 refine c_enter Tryd.func134 rfl Tryd.ntmps134 rfl (fun c0 d0 => ?_)
 refine wsc (fun c0 f0 => ?_)
 refine asg d0 (fun c0 h0 => ?_)
 refine wpList_nil (x_then_n (f0 _ _ ?_))
 refine wsc (fun f0 c0 => ?_)
 refine mv h0 (fun f0 d0 => ?_)
 refine mv d0 (fun f0 h0 => ?_)
 have f0 := b0.nf
 refine k_call (xs := [.tmp 5, .tmp 6]) se h0 rfl rfl rfl (by decide) ok137 (lvIndex_calls _ _ f0.il _ _ _ (f0.g 0)) ?_
 rintro h0 b0 ⟨rfl, d0⟩
 have b0 := f0.below d0.below
 refine ⟨_, rfl, fun d0 f0 => ?_⟩
 refine r_geq sv f0 rfl rfl rfl rfl (by decide) (fun d0 h0 => ?_)
 refine asg h0 (fun d0 f0 => ?_)
 refine wpList_nil (x_then_n (c0 _ _ ?_))
 refine wp_ret ?_
 refine e_ret1 f0 rfl rfl rfl ?_
 refine ⟨?_, b0.fr⟩
 exact congrArg Ending.returned (ret_b (by first | rfl | omega | assumption | exact decide_eq_true (by assumption) | ( omega) | (simp []; done) | (simp [] at *; done) | (simp [] <;> omega) | (rw [Bool.eq_iff_iff]; simp [] <;> omega) | (rw [Bool.eq_iff_iff]; simp [] at * <;> omega)))
set_option maxRecDepth 100000 in
set_option maxHeartbeats 1000000 in
theorem lvAll_calls (w0 : World) (Z : Nat → Prop) (hZ : ∀ k, Z k → k < w0.heap.size) (tA : Option Addr) (tc : Nat) (t : List Int) (ht : (dRow 1 tA t.length tc (encIs t)).φ w0 Z) (hl : t.length ≤ 1000000 := by first | assumption | omega | (simp; done) | (simp; omega)) :
    Calls Tryd.prog 130 [.slice tA t.length tc].toArray w0 (fun e w' => e = .returned (.bool (!decide (0 ≤ lvIndex t))) ∧ Fr none_ w0 w') := by
 have b0 := s0 (M := none_) hZ (zc ht zn)
 refine c_enter Tryd.func130 rfl Tryd.ntmps130 rfl (fun c0 d0 => ?_)
 refine wsc (fun c0 f0 => ?_)
 refine asg d0 (fun c0 h0 => ?_)
 refine wpList_nil (x_then_n (f0 _ _ ?_))
 refine wsc (fun f0 c0 => ?_)
 refine mv h0 (fun f0 d0 => ?_)
 have f0 := b0.nf
 refine k_call (xs := [.tmp 3, .func 135]) se d0 rfl rfl rfl (by decide) ok134 (lvContains_calls _ _ f0.il _ _ _ (f0.g 0)) ?_
 rintro d0 b0 ⟨rfl, h0⟩
 have b0 := f0.below h0.below
 refine ⟨_, rfl, fun h0 f0 => ?_⟩
 refine r_not sv f0 rfl rfl rfl (by decide) (fun h0 d0 => ?_)
 refine asg d0 (fun h0 f0 => ?_)
 refine wpList_nil (x_then_n (c0 _ _ ?_))
 refine wp_ret ?_
 refine e_ret1 f0 rfl rfl rfl ?_
 refine ⟨?_, b0.fr⟩
 exact congrArg Ending.returned (ret_b (by first | rfl | omega | assumption | exact decide_eq_true (by assumption) | ( omega) | (simp []; done) | (simp [] at *; done) | (simp [] <;> omega) | (rw [Bool.eq_iff_iff]; simp [] <;> omega) | (rw [Bool.eq_iff_iff]; simp [] at * <;> omega)))
set_option maxRecDepth 100000 in
set_option maxHeartbeats 1000000 in
theorem lvCheck_calls (w0 : World) (Z : Nat → Prop) (hZ : ∀ k, Z k → k < w0.heap.size) (n : Int)  :
    Calls Tryd.prog 123 [.int .i64 n].toArray w0 (fun e w' => e = .returned (.int .i64 (lvChk n)) ∧ Fr none_ w0 w') := by
 have b0 := s0 (M := none_) hZ zn
 refine c_enter Tryd.func123 rfl Tryd.ntmps123 rfl (fun c0 d0 => ?_)
 refine wsc (fun c0 f0 => ?_)
 refine asg d0 (fun c0 h0 => ?_)
 refine wpList_nil (x_then_n (f0 _ _ ?_))
 refine wp_seq_k (fun f0 c0 => ?_)
 refine wsc (fun f0 d0 => ?_)
 refine mv h0 (fun f0 i0 => ?_)
 refine mbs [(0, .tmp 3)] [.int .i64 (n)] sv i0 b0 Tryd.underlying79 zi3 (fun f0 h0 j0 k0 m0 => ?_)
 have h0 := m0.nf
 have m0 := own_cap (h0.res (i := 0) rfl)
 obtain ⟨f0, i0⟩ := h0.row_data (i := 0) rfl (fun _ h => h)
 have h0 := f0.data (dRow 1 (some ⟨j0, 0, none⟩) 1 1 (encIs ([(n)]))) ⟨m0, i0⟩
 refine k_call (xs := [.tmp 4]) se k0 rfl rfl rfl (by decide) ok130 (lvAll_calls _ _ h0.il _ _ ([(n)]) (h0.g 0)) ?_
 rintro k0 i0 ⟨rfl, f0⟩
 have i0 := h0.below f0.below
 refine ⟨_, rfl, fun f0 h0 => ?_⟩
 refine r_not sv h0 rfl rfl rfl (by decide) (fun f0 k0 => ?_)
 refine wpList_nil (x_then_n (d0 _ _ ?_))
 rcases Bool.eq_false_or_eq_true (!decide (0 ≤ lvIndex ([(n)]))) with d0 | d0
 ·
  have f0 := not_t d0
  have h0 := of_decide_eq_false f0
  have f0 := k0.setb (d := 6) (b := false) rfl (by rw [d0]; rfl)
  refine wp_cond_false (f0.ev rfl) ?_
  refine wp_skip ?_
  refine x_then_n (c0 _ _ ?_)
  refine wsc (fun c0 m0 => ?_)
  refine asg f0 (fun c0 j0 => ?_)
  refine wpList_nil (x_then_n (m0 _ _ ?_))
  refine wp_ret ?_
  refine e_ret1 j0 rfl rfl rfl ?_
  refine ⟨?_, i0.fr⟩
  exact congrArg Ending.returned (ret_i (by exact (lvChk_good (by have q := h0; simpa using q)).symm))
 ·
  have h0 := not_f d0
  have j0 := of_decide_eq_true h0
  have h0 := k0.setb (d := 6) (b := true) rfl (by rw [d0]; rfl)
  refine wp_cond_true (h0.ev rfl) ?_
  refine wsc (fun d0 k0 => ?_)
  refine asg h0 (fun d0 m0 => ?_)
  refine wpList_nil (x_then_n (k0 _ _ ?_))
  refine wp_ret ?_
  refine x_then_r ?_
  refine e_ret1 m0 rfl rfl rfl ?_
  refine ⟨?_, i0.fr⟩
  exact congrArg Ending.returned (ret_i (by exact (lvChk_bad (by have q := j0; simpa using q)).symm))
set_option maxRecDepth 100000 in
set_option maxHeartbeats 1000000 in
theorem most_calls (w0 : World) (Z : Nat → Prop) (hZ : ∀ k, Z k → k < w0.heap.size) (k : Int)  :
    Calls Tryd.prog 124 [.int .i64 k].toArray w0 (fun e w' => e = .returned (.int .i64 (most k)) ∧ Fr none_ w0 w') := by
 have b0 := s0 (M := none_) hZ zn
 refine c_enter Tryd.func124 rfl Tryd.ntmps124 rfl (fun c0 d0 => ?_)
 refine wsc (fun c0 f0 => ?_)
 refine asg d0 (fun c0 h0 => ?_)
 refine wpList_nil (x_then_n (f0 _ _ ?_))
 refine wp_seq_k (fun f0 c0 => ?_)
 refine wsc (fun f0 d0 => ?_)
 refine mv h0 (fun f0 i0 => ?_)
 refine wpList_nil (x_then_n (d0 _ _ ?_))
 refine wp_block ?_
 refine wsc (fun d0 f0 => ?_)
 refine r_eql sv i0 rfl rfl rfl rfl (by decide) (fun d0 h0 => ?_)
 refine asg h0 (fun d0 i0 => ?_)
 refine wpList_nil (x_then_n (f0 _ _ ?_))
 rcases Decidable.em ((k) = 0) with f0 | f0
 ·
  have d0 := i0.setb (d := 4) (b := true) rfl (decide_eq_true f0)
  refine wp_cond_true (d0.ev rfl) ?_
  refine wsc (fun h0 j0 => ?_)
  refine asg d0 (fun h0 k0 => ?_)
  refine wpList_nil (x_then_n (j0 _ _ ?_))
  refine wp_ret ?_
  refine x_block_r ?_
  refine x_then_r ?_
  refine e_ret1 k0 rfl rfl rfl ?_
  refine ⟨?_, b0.fr⟩
  exact congrArg Ending.returned (ret_i (by have k0 := f0; (try simp at k0);  unfold most; (repeat' split) <;> omega))
 ·
  have j0 := i0.setb (d := 4) (b := false) rfl (decide_eq_false f0)
  refine wp_cond_false (j0.ev rfl) ?_
  refine c_join (fun ga gw => Reg ga 9 [(2, .int .i64 0), (6, .bool ((decide ((k) = 3)) || (decide ((k) = 6)))), (1000000, .bool false)] ∧ St w0 Z none_ gw [] []) ?_ ?_
  ·
   refine wsc (fun i0 h0 => ?_)
   refine r_eql sv j0 rfl rfl rfl rfl (by decide) (fun i0 d0 => ?_)
   refine asg d0 (fun i0 j0 => ?_)
   refine wpList_nil (x_then_n (h0 _ _ ?_))
   rcases Decidable.em ((k) = 3) with h0 | h0
   ·
    have i0 := j0.setb (d := 6) (b := true) rfl (decide_eq_true h0)
    refine wp_cond_true (i0.ev rfl) ?_
    refine wp_skip ?_
    exact x_then_n ⟨(i0.sub (rc rfl (rc (rb rfl (by first | rfl | (simp only [decide_eq_true h0, if_pos h0, bl]; done) | (simp [h0]; done) | (simp [h0]; omega))) (rc rfl rnl)))), b0⟩
   ·
    have i0 := j0.setb (d := 6) (b := false) rfl (decide_eq_false h0)
    refine wp_cond_false (i0.ev rfl) ?_
    refine c_region ?_
    refine r_eql sv i0 rfl rfl rfl rfl (by decide) (fun j0 d0 => ?_)
    refine asg d0 (fun j0 i0 => ?_)
    refine wpList_nil ?_
    exact x_then_n ⟨(i0.sub (rc rfl (rc (rb rfl (by first | rfl | (simp only [decide_eq_false h0, if_neg h0, bl]; done) | (simp [h0]; done) | (simp [h0]; omega))) (rc rfl rnl)))), b0⟩
  rintro i0 h0 ⟨b0, j0⟩
  rcases Bool.eq_false_or_eq_true (((decide ((k) = 3)) || (decide ((k) = 6)))) with h0 | h0
  ·
   have i0 := h0
   try simp only [Bool.or_eq_true, Bool.and_eq_true, Bool.not_eq_true', Bool.not_eq_false', decide_eq_true_eq, decide_eq_false_iff_not, Bool.or_eq_false_iff, Bool.and_eq_false_iff] at i0
   have i0 := b0.setb (d := 6) (b := true) rfl h0
   refine wp_cond_true (i0.ev rfl) ?_
   refine wsc (fun d0 m0 => ?_)
   refine asg i0 (fun d0 n0 => ?_)
   refine wpList_nil (x_then_n (m0 _ _ ?_))
   refine wp_ret ?_
   refine x_block_r ?_
   refine x_then_r ?_
   refine e_ret1 n0 rfl rfl rfl ?_
   refine ⟨?_, j0.fr⟩
   exact congrArg Ending.returned (ret_i (by have k0 := f0; (try simp at k0); have n0 := h0; (try simp at n0);  unfold most; (repeat' split) <;> omega))
  ·
   have m0 := or_fl h0
   have d0 := of_decide_eq_false m0
   have m0 := or_fr h0
   have i0 := of_decide_eq_false m0
   have m0 := b0.setb (d := 6) (b := false) rfl h0
   refine wp_cond_false (m0.ev rfl) ?_
   refine wp_skip ?_
   refine x_block_n ?_
   refine x_then_n (c0 _ _ ?_)
   refine wsc (fun c0 b0 => ?_)
   refine asg m0 (fun c0 o0 => ?_)
   refine wpList_nil (x_then_n (b0 _ _ ?_))
   refine wp_ret ?_
   refine e_ret1 o0 rfl rfl rfl ?_
   refine ⟨?_, j0.fr⟩
   exact congrArg Ending.returned (ret_i (by have k0 := f0; (try simp at k0); have n0 := h0; (try simp at n0); have j0 := d0; (try simp at j0); have o0 := i0; (try simp at o0);  unfold most; (repeat' split) <;> omega))
set_option maxRecDepth 100000 in
set_option maxHeartbeats 1000000 in
theorem many_calls (w0 : World) (Z : Nat → Prop) (hZ : ∀ k, Z k → k < w0.heap.size) (n : Nd) (hShp : Shapes w0 Z) (hr : right n = true := by first | assumption | omega | (simp; done) | (simp; omega)) :
    Calls Tryd.prog 58 [.agg #[.int .i64 (n.K), .int .i64 (n.N), .int .i64 (n.M), .string n.S]].toArray w0 (fun e w' => e = .returned (.int .i64 ((many n : Nat) : Int)) ∧ Fr none_ w0 w') := by
 have b0 := s0 (M := none_) hZ (zc (d := dShapes) hShp zn)
 obtain ⟨c0, d0⟩ := right_K hr
 refine c_enter Tryd.func58 rfl Tryd.ntmps58 rfl (fun d0 c0 => ?_)
 refine wsc (fun d0 f0 => ?_)
 refine m_box (cs := [.int .i64 (n.K), .int .i64 (n.N), .int .i64 (n.M), .string n.S]) sv c0 b0 rfl rfl rfl rfl (by decide) (fun d0 h0 i0 j0 k0 => ?_)
 refine asg j0 (fun i0 h0 => ?_)
 refine wpList_nil (x_then_n (f0 _ _ ?_))
 refine wp_seq_k (fun f0 i0 => ?_)
 refine wsc (fun f0 j0 => ?_)
 refine m_field (j' := 0) sv h0 rfl rfl rfl Tryd.underlying39 rfl sz3 rfl rfl (by decide) (fun f0 d0 => ?_)
 refine m_load (i := 0) sv d0 k0 rfl rfl rfl rfl rfl Tryd.underlying3 rfl (by decide) (fun f0 h0 => ?_)
 refine wpList_nil (x_then_n (j0 _ _ ?_))
 refine wp_block ?_
 refine wsc (fun j0 f0 => ?_)
 refine r_eql sv h0 rfl rfl rfl rfl (by decide) (fun j0 d0 => ?_)
 refine asg d0 (fun j0 h0 => ?_)
 refine wpList_nil (x_then_n (f0 _ _ ?_))
 rcases Decidable.em ((n.K) = 26) with f0 | f0
 ·
  have j0 := h0.setb (d := 5) (b := true) rfl (decide_eq_true f0)
  refine wp_cond_true (j0.ev rfl) ?_
  refine wsc (fun d0 c0 => ?_)
  refine m_field (j' := 2) sv j0 rfl rfl rfl Tryd.underlying39 rfl sz3 rfl rfl (by decide) (fun d0 b0 => ?_)
  refine m_load (i := 0) sv b0 k0 rfl rfl rfl rfl rfl Tryd.underlying3 rfl (by decide) (fun d0 j0 => ?_)
  refine asg j0 (fun d0 b0 => ?_)
  refine wpList_nil (x_then_n (c0 _ _ ?_))
  refine wp_ret ?_
  refine x_block_r ?_
  refine x_then_r ?_
  refine e_ret1 b0 rfl rfl rfl ?_
  refine ⟨?_, k0.fr⟩
  exact congrArg Ending.returned (ret_i (by first | exact many_con hr (by omega) | exact many_elim hr (by omega) | exact many_oth (by omega) (by omega)))
 ·
  have b0 := h0.setb (d := 5) (b := false) rfl (decide_eq_false f0)
  refine wp_cond_false (b0.ev rfl) ?_
  refine wsc (fun f0 h0 => ?_)
  refine r_eql sv b0 rfl rfl rfl rfl (by decide) (fun f0 c0 => ?_)
  refine asg c0 (fun f0 b0 => ?_)
  refine wpList_nil (x_then_n (h0 _ _ ?_))
  rcases Decidable.em ((n.K) = 27) with h0 | h0
  ·
   obtain ⟨f0, c0⟩ := right_elim hr h0
   have c0 := b0.setb (d := 9) (b := true) rfl (decide_eq_true h0)
   refine wp_cond_true (c0.ev rfl) ?_
   refine wsc (fun f0 d0 => ?_)
   refine m_field (j' := 2) sv c0 rfl rfl rfl Tryd.underlying39 rfl sz3 rfl rfl (by decide) (fun f0 j0 => ?_)
   refine m_load (i := 0) sv j0 k0 rfl rfl rfl rfl rfl Tryd.underlying3 rfl (by decide) (fun f0 c0 => ?_)
   refine r_add (z := (n.M + 2)) sv c0 rfl rfl rfl rfl (by decide) (by omega) (by omega) (by omega) (fun f0 j0 => ?_)
   refine asg j0 (fun f0 c0 => ?_)
   refine wpList_nil (x_then_n (d0 _ _ ?_))
   refine wp_ret ?_
   refine x_block_r ?_
   refine x_then_r ?_
   refine e_ret1 c0 rfl rfl rfl ?_
   refine ⟨?_, k0.fr⟩
   exact congrArg Ending.returned (ret_i (by first | exact many_con hr (by omega) | exact many_elim hr (by omega) | exact many_oth (by omega) (by omega)))
  ·
   have c0 := b0.setb (d := 9) (b := false) rfl (decide_eq_false h0)
   refine wp_cond_false (c0.ev rfl) ?_
   refine wp_skip ?_
   refine x_block_n ?_
   refine x_then_n (i0 _ _ ?_)
   refine wsc (fun i0 h0 => ?_)
   refine m_field (j' := 0) sv c0 rfl rfl rfl Tryd.underlying39 rfl sz3 rfl rfl (by decide) (fun i0 b0 => ?_)
   refine m_load (i := 0) sv b0 k0 rfl rfl rfl rfl rfl Tryd.underlying3 rfl (by decide) (fun i0 c0 => ?_)
   refine m_indexA (i := ((n.K)).toNat) (j := (((n.K)).toNat) * 4) sv c0 rfl rfl rfl rfl Tryd.underlying114 sz113 (by omega) (by omega) rfl (by decide) (fun i0 b0 => ?_)
   refine m_fieldE (j' := (((n.K)).toNat) * 4) sv b0 rfl rfl rfl rfl Tryd.underlying113 rfl sz79 rfl rfl (by decide) (fun i0 c0 => ?_)
   obtain ⟨i0, b0, d0, f0⟩ := shapes_at (k0.get (i := 0) rfl) (((n.K)).toNat) (by omega)
   have j0 := k0.data (dRow 1 i0 (shp (((n.K)).toNat)).b.length b0 (encIs (shp (((n.K)).toNat)).b)) d0
   refine m_loadE sv c0 rfl rfl rfl 0 ((((n.K)).toNat) * 4) f0 rfl rfl Tryd.underlying79 rfl (by decide) (fun d0 b0 => ?_)
   refine r_len sv b0 rfl rfl rfl rfl Tryd.underlying79 (by decide) (fun d0 f0 => ?_)
   refine asg f0 (fun d0 b0 => ?_)
   refine wpList_nil (x_then_n (h0 _ _ ?_))
   refine wp_ret ?_
   refine e_ret1 b0 rfl rfl rfl ?_
   refine ⟨?_, j0.fr⟩
   exact congrArg Ending.returned (ret_i (by first | exact many_con hr (by omega) | exact many_elim hr (by omega) | exact many_oth (by omega) (by omega)))
set_option maxRecDepth 100000 in
set_option maxHeartbeats 1000000 in
theorem name_calls (w0 : World) (Z : Nat → Prop) (hZ : ∀ k, Z k → k < w0.heap.size) (s : ByteArray) (hs : s.size < 1000000 := by first | assumption | omega | (simp; done) | (simp; omega)) :
    Calls Tryd.prog 122 [.string s].toArray w0 (fun e w' => e = .returned (.bool (nameOk s)) ∧ Fr none_ w0 w') := by
 have b0 := s0 (M := none_) hZ zn
 refine c_enter Tryd.func122 rfl Tryd.ntmps122 rfl (fun c0 d0 => ?_)
 refine wsc (fun c0 f0 => ?_)
 refine asg d0 (fun c0 h0 => ?_)
 refine wpList_nil (x_then_n (f0 _ _ ?_))
 refine wp_seq_k (fun f0 c0 => ?_)
 refine wsc (fun f0 d0 => ?_)
 refine mv h0 (fun f0 i0 => ?_)
 refine r_lenS sv i0 rfl rfl rfl rfl Tryd.underlying9 (by decide) (fun f0 h0 => ?_)
 refine mv h0 (fun f0 i0 => ?_)
 refine wpList_nil (x_then_n (d0 _ _ ?_))
 refine wp_block ?_
 refine wp_loop_ghost (fun gn ga gw => ∃ k : Nat, (Reg ga 48 [(1000000, .bool false), (0, .string s), (7, .int .i64 ((s.size : Nat) : Int)), (8, .int .i64 ((k : Nat) : Int))]) ∧ (St w0 Z none_ gw [] []) ∧ (k ≤ s.size) ∧ (nameTo s k) ∧ (s.size - k) = gn) _ ⟨0, (i0.sub (rc rfl (rc rfl (rc rfl (rc rfl rnl))))), b0, by omega, nameTo_zero s, rfl⟩ ?_
 rintro i0 b0 d0 ⟨k, f0, h0, hk, hi, j0⟩
 refine wsc (fun j0 d0 => ?_)
 refine r_lss sv f0 rfl rfl rfl rfl (by decide) (fun j0 b0 => ?_)
 refine wpList_nil (x_then_n (d0 _ _ ?_))
 refine wp_seq_k (fun d0 j0 => ?_)
 rcases Decidable.em (((k : Nat) : Int) < ((s.size : Nat) : Int)) with d0 | d0
 ·
  have f0 := b0.setb (d := 9) (b := true) rfl (decide_eq_true d0)
  refine wp_cond_true (f0.ev rfl) ?_
  refine wp_skip ?_
  refine x_then_n (j0 _ _ ?_)
  refine wp_seq_k (fun j0 i0 => ?_)
  refine wp_block ?_
  refine wsc (fun j0 k0 => ?_)
  refine mv f0 (fun j0 m0 => ?_)
  refine asg m0 (fun j0 f0 => ?_)
  refine wpList_nil (x_then_n (k0 _ _ ?_))
  refine wsc (fun k0 j0 => ?_)
  refine mv f0 (fun k0 m0 => ?_)
  refine mv m0 (fun k0 f0 => ?_)
  refine r_byte (i := k) sv f0 rfl rfl rfl rfl Tryd.underlying9 (by omega) (by omega) (by decide) (fun k0 m0 => ?_)
  refine asg m0 (fun k0 f0 => ?_)
  refine wpList_nil (x_then_n (j0 _ _ ?_))
  refine wsc (fun j0 k0 => ?_)
  refine mv f0 (fun j0 m0 => ?_)
  refine r_int (v := .int .u8 ((orB (byteAt s k) 32 : Nat) : Int)) sv m0 rfl rfl rfl rfl (by decide) (run_or8 (a := byteAt s k) (b := 32) (by first | exact byteAt_lt _ _ | omega) (by first | exact byteAt_lt _ _ | omega)) (fun j0 f0 => ?_)
  refine r_geq sv f0 rfl rfl rfl rfl (by decide) (fun j0 m0 => ?_)
  refine mv m0 (fun j0 f0 => ?_)
  refine l_join (fun ga gw => Reg ga 48 [(0, .string s), (3, .int .i64 ((k : Nat) : Int)), (4, .int .u8 ((byteAt s k : Nat) : Int)), (7, .int .i64 ((s.size : Nat) : Int)), (8, .int .i64 ((k : Nat) : Int)), (21, .bool ((decide (97 ≤ ((orB (byteAt s k) 32 : Nat) : Int))) && (decide (((orB (byteAt s k) 32 : Nat) : Int) ≤ 122)))), (1000000, .bool false)] ∧ St w0 Z none_ gw [] []) 4 ?_ ?_
  ·
   rcases Decidable.em (97 ≤ ((orB (byteAt s k) 32 : Nat) : Int)) with j0 | j0
   ·
    have m0 := f0.setb (d := 17) (b := true) rfl (decide_eq_true j0)
    refine r_move (st_listV_w (wt m0)) m0 rfl rfl rfl (by decide) (fun n0 o0 => ?_)
    refine r_int (v := .int .u8 ((orB (byteAt s k) 32 : Nat) : Int)) (st_listV_w (wt o0)) o0 rfl rfl rfl rfl (by decide) (run_or8 (a := byteAt s k) (b := 32) (by first | exact byteAt_lt _ _ | omega) (by first | exact byteAt_lt _ _ | omega)) (fun n0 m0 => ?_)
    refine r_leq (st_listV_w (wt m0)) m0 rfl rfl rfl rfl (by decide) (fun n0 o0 => ?_)
    refine r_pick_t sv o0 rfl rfl rfl rfl (by decide) (fun n0 m0 => ?_)
    refine wpList_nil ?_
    exact x_then_n ⟨(m0.sub (rc rfl (rc rfl (rc rfl (rc rfl (rc rfl (rc (rb rfl (by first | rfl | (simp only [decide_eq_true j0, if_pos j0, bl]; done) | (simp [j0]; done) | (simp [j0]; omega))) (rc rfl rnl)))))))), h0⟩
   ·
    have m0 := f0.setb (d := 17) (b := false) rfl (decide_eq_false j0)
    refine sps m0 (wff m0) (fun f0 n0 => ?_)
    refine sps n0 (wff n0) (fun f0 m0 => ?_)
    refine sps m0 (wff m0) (fun f0 n0 => ?_)
    refine r_pick_f sv n0 rfl rfl rfl rfl (by decide) (fun f0 m0 => ?_)
    refine wpList_nil ?_
    exact x_then_n ⟨(m0.sub (rc rfl (rc rfl (rc rfl (rc rfl (rc rfl (rc (rb rfl (by first | rfl | (simp only [decide_eq_false j0, if_neg j0, bl]; done) | (simp [j0]; done) | (simp [j0]; omega))) (rc rfl rnl)))))))), h0⟩
  rintro m0 j0 ⟨f0, n0⟩
  refine mv f0 (fun j0 m0 => ?_)
  refine l_join (fun ga gw => Reg ga 48 [(0, .string s), (3, .int .i64 ((k : Nat) : Int)), (4, .int .u8 ((byteAt s k : Nat) : Int)), (7, .int .i64 ((s.size : Nat) : Int)), (8, .int .i64 ((k : Nat) : Int)), (25, .bool (((decide (97 ≤ ((orB (byteAt s k) 32 : Nat) : Int))) && (decide (((orB (byteAt s k) 32 : Nat) : Int) ≤ 122))) || (decide (((byteAt s k : Nat) : Int) = 95)))), (1000000, .bool false)] ∧ St w0 Z none_ gw [] []) 3 ?_ ?_
  ·
   rcases Bool.eq_false_or_eq_true (((decide (97 ≤ ((orB (byteAt s k) 32 : Nat) : Int))) && (decide (((orB (byteAt s k) 32 : Nat) : Int) ≤ 122)))) with j0 | j0
   ·
    have f0 := and_tl j0
    have o0 := of_decide_eq_true f0
    have o0 := and_tr j0
    have f0 := of_decide_eq_true o0
    have f0 := m0.setb (d := 22) (b := true) rfl j0
    refine sps f0 (wff f0) (fun o0 p0 => ?_)
    refine sps p0 (wff p0) (fun o0 f0 => ?_)
    refine r_pick_t sv f0 rfl rfl rfl rfl (by decide) (fun o0 p0 => ?_)
    refine wpList_nil ?_
    exact x_then_n ⟨(p0.sub (rc rfl (rc rfl (rc rfl (rc rfl (rc rfl (rc (rb rfl (by first | rfl | (simp only [j0, bl]; done) | (simp [j0]; done) | (simp [j0]; omega))) (rc rfl rnl)))))))), n0⟩
   ·
    have p0 := j0
    try simp only [Bool.or_eq_true, Bool.and_eq_true, Bool.not_eq_true', Bool.not_eq_false', decide_eq_true_eq, decide_eq_false_iff_not, Bool.or_eq_false_iff, Bool.and_eq_false_iff] at p0
    have p0 := m0.setb (d := 22) (b := false) rfl j0
    refine r_move (st_listV_w (wt p0)) p0 rfl rfl rfl (by decide) (fun m0 o0 => ?_)
    refine r_eql (st_listV_w (wt o0)) o0 rfl rfl rfl rfl (by decide) (fun m0 p0 => ?_)
    refine r_pick_f sv p0 rfl rfl rfl rfl (by decide) (fun m0 o0 => ?_)
    refine wpList_nil ?_
    exact x_then_n ⟨(o0.sub (rc rfl (rc rfl (rc rfl (rc rfl (rc rfl (rc (rb rfl (by first | rfl | (simp only [j0, bl]; done) | (simp [j0]; done) | (simp [j0]; omega))) (rc rfl rnl)))))))), n0⟩
  rintro o0 j0 ⟨n0, m0⟩
  refine asg n0 (fun j0 o0 => ?_)
  refine wpList_nil (x_then_n (k0 _ _ ?_))
  refine wsc (fun k0 j0 => ?_)
  refine mv o0 (fun k0 n0 => ?_)
  refine r_not sv n0 rfl rfl rfl (by decide) (fun k0 o0 => ?_)
  refine mv o0 (fun k0 n0 => ?_)
  refine l_join (fun ga gw => Reg ga 48 [(0, .string s), (7, .int .i64 ((s.size : Nat) : Int)), (8, .int .i64 ((k : Nat) : Int)), (39, .bool ((!(((decide (97 ≤ ((orB (byteAt s k) 32 : Nat) : Int))) && (decide (((orB (byteAt s k) 32 : Nat) : Int) ≤ 122))) || (decide (((byteAt s k : Nat) : Int) = 95)))) && ((decide (((k : Nat) : Int) = 0)) || ((decide (((byteAt s k : Nat) : Int) < 48)) || (decide (57 < ((byteAt s k : Nat) : Int))))))), (1000000, .bool false)] ∧ St w0 Z none_ gw [] []) 11 ?_ ?_
  ·
   rcases Bool.eq_false_or_eq_true ((((decide (97 ≤ ((orB (byteAt s k) 32 : Nat) : Int))) && (decide (((orB (byteAt s k) 32 : Nat) : Int) ≤ 122))) || (decide (((byteAt s k : Nat) : Int) = 95)))) with k0 | k0
   ·
    have o0 := k0
    try simp only [Bool.or_eq_true, Bool.and_eq_true, Bool.not_eq_true', Bool.not_eq_false', decide_eq_true_eq, decide_eq_false_iff_not, Bool.or_eq_false_iff, Bool.and_eq_false_iff] at o0
    have o0 := n0.setb (d := 28) (b := false) rfl (by rw [k0]; rfl)
    refine sps o0 (wff o0) (fun p0 f0 => ?_)
    refine sps f0 (wff f0) (fun p0 o0 => ?_)
    refine sps o0 (wff o0) (fun p0 f0 => ?_)
    refine sps f0 (wu f0) (fun p0 o0 => ?_)
    refine sps o0 (wu o0) (fun p0 f0 => ?_)
    refine sps f0 (wff f0) (fun p0 o0 => ?_)
    refine sps o0 (wff o0) (fun p0 f0 => ?_)
    refine sps f0 (wu f0) (fun p0 o0 => ?_)
    refine sps o0 (wu o0) (fun p0 f0 => ?_)
    refine sps f0 (wff f0) (fun p0 o0 => ?_)
    refine r_pick_f sv o0 rfl rfl rfl rfl (by decide) (fun p0 f0 => ?_)
    refine wpList_nil ?_
    exact x_then_n ⟨(f0.sub (rc rfl (rc rfl (rc rfl (rc (rb rfl (by first | rfl | (simp only [k0, bl]; done) | (simp [k0]; done) | (simp [k0]; omega))) (rc rfl rnl)))))), m0⟩
   ·
    have f0 := or_fl k0
    have p0 := f0
    try simp only [Bool.or_eq_true, Bool.and_eq_true, Bool.not_eq_true', Bool.not_eq_false', decide_eq_true_eq, decide_eq_false_iff_not, Bool.or_eq_false_iff, Bool.and_eq_false_iff] at p0
    have p0 := or_fr k0
    have f0 := of_decide_eq_false p0
    have f0 := n0.setb (d := 28) (b := true) rfl (by rw [k0]; rfl)
    refine r_move (st_listV_w (wt f0)) f0 rfl rfl rfl (by decide) (fun n0 p0 => ?_)
    refine r_eql (st_listV_w (wt p0)) p0 rfl rfl rfl rfl (by decide) (fun n0 f0 => ?_)
    refine r_move (st_listV_w (wt f0)) f0 rfl rfl rfl (by decide) (fun n0 p0 => ?_)
    rcases Decidable.em (((k : Nat) : Int) = 0) with n0 | n0
    ·
     have f0 := p0.setb (d := 31) (b := true) rfl (decide_eq_true n0)
     refine sps f0 (wff f0) (fun o0 t0 => ?_)
     refine sps t0 (wff t0) (fun o0 f0 => ?_)
     refine r_pick_t (st_listV_w (wt f0)) f0 rfl rfl rfl rfl (by decide) (fun o0 t0 => ?_)
     refine r_move (st_listV_w (wt t0)) t0 rfl rfl rfl (by decide) (fun o0 f0 => ?_)
     refine sps f0 (wff f0) (fun o0 t0 => ?_)
     refine sps t0 (wff t0) (fun o0 f0 => ?_)
     refine r_pick_t (st_listV_w (wt f0)) f0 rfl rfl rfl rfl (by decide) (fun o0 t0 => ?_)
     refine r_pick_t sv t0 rfl rfl rfl rfl (by decide) (fun o0 f0 => ?_)
     refine wpList_nil ?_
     exact x_then_n ⟨(f0.sub (rc rfl (rc rfl (rc rfl (rc (rb rfl (by first | rfl | (simp only [k0, decide_eq_true n0, if_pos n0, bl]; done) | (simp [k0, n0]; done) | (simp [k0, n0]; omega))) (rc rfl rnl)))))), m0⟩
    ·
     have f0 := p0.setb (d := 31) (b := false) rfl (decide_eq_false n0)
     refine r_move (st_listV_w (wt f0)) f0 rfl rfl rfl (by decide) (fun p0 o0 => ?_)
     refine r_lss (st_listV_w (wt o0)) o0 rfl rfl rfl rfl (by decide) (fun p0 f0 => ?_)
     refine r_pick_f (st_listV_w (wt f0)) f0 rfl rfl rfl rfl (by decide) (fun p0 o0 => ?_)
     refine r_move (st_listV_w (wt o0)) o0 rfl rfl rfl (by decide) (fun p0 f0 => ?_)
     rcases Decidable.em (((byteAt s k : Nat) : Int) < 48) with p0 | p0
     ·
      have o0 := f0.setb (d := 35) (b := true) rfl (decide_eq_true p0)
      refine sps o0 (wff o0) (fun t0 u0 => ?_)
      refine sps u0 (wff u0) (fun t0 o0 => ?_)
      refine r_pick_t (st_listV_w (wt o0)) o0 rfl rfl rfl rfl (by decide) (fun t0 u0 => ?_)
      refine r_pick_t sv u0 rfl rfl rfl rfl (by decide) (fun t0 o0 => ?_)
      refine wpList_nil ?_
      exact x_then_n ⟨(o0.sub (rc rfl (rc rfl (rc rfl (rc (rb rfl (by first | rfl | (simp only [k0, decide_eq_false n0, if_neg n0, decide_eq_true p0, if_pos p0, bl]; done) | (simp [k0, n0, p0]; done) | (simp [k0, n0, p0]; omega))) (rc rfl rnl)))))), m0⟩
     ·
      have o0 := f0.setb (d := 35) (b := false) rfl (decide_eq_false p0)
      refine r_move (st_listV_w (wt o0)) o0 rfl rfl rfl (by decide) (fun f0 t0 => ?_)
      refine r_gtr (st_listV_w (wt t0)) t0 rfl rfl rfl rfl (by decide) (fun f0 o0 => ?_)
      refine r_pick_f (st_listV_w (wt o0)) o0 rfl rfl rfl rfl (by decide) (fun f0 t0 => ?_)
      refine r_pick_t sv t0 rfl rfl rfl rfl (by decide) (fun f0 o0 => ?_)
      refine wpList_nil ?_
      exact x_then_n ⟨(o0.sub (rc rfl (rc rfl (rc rfl (rc (rb rfl (by first | rfl | (simp only [k0, decide_eq_false n0, if_neg n0, decide_eq_false p0, if_neg p0, bl]; done) | (simp [k0, n0, p0]; done) | (simp [k0, n0, p0]; omega))) (rc rfl rnl)))))), m0⟩
  rintro o0 p0 ⟨n0, k0⟩
  refine wpList_nil (x_then_n (j0 _ _ ?_))
  rcases Bool.eq_false_or_eq_true (((!(((decide (97 ≤ ((orB (byteAt s k) 32 : Nat) : Int))) && (decide (((orB (byteAt s k) 32 : Nat) : Int) ≤ 122))) || (decide (((byteAt s k : Nat) : Int) = 95)))) && ((decide (((k : Nat) : Int) = 0)) || ((decide (((byteAt s k : Nat) : Int) < 48)) || (decide (57 < ((byteAt s k : Nat) : Int))))))) with j0 | j0
  ·
   have p0 := and_tl j0
   have o0 := not_t p0
   have p0 := or_fl o0
   have m0 := p0
   try simp only [Bool.or_eq_true, Bool.and_eq_true, Bool.not_eq_true', Bool.not_eq_false', decide_eq_true_eq, decide_eq_false_iff_not, Bool.or_eq_false_iff, Bool.and_eq_false_iff] at m0
   have m0 := or_fr o0
   have o0 := of_decide_eq_false m0
   have m0 := and_tr j0
   have p0 := m0
   try simp only [Bool.or_eq_true, Bool.and_eq_true, Bool.not_eq_true', Bool.not_eq_false', decide_eq_true_eq, decide_eq_false_iff_not, Bool.or_eq_false_iff, Bool.and_eq_false_iff] at p0
   have p0 := n0.setb (d := 39) (b := true) rfl j0
   refine wp_cond_true (p0.ev rfl) ?_
   refine wsc (fun m0 f0 => ?_)
   refine asg p0 (fun m0 t0 => ?_)
   refine wpList_nil (x_then_n (f0 _ _ ?_))
   refine wp_ret ?_
   refine x_block_r ?_
   refine x_then_r ?_
   refine x_then_r ?_
   refine x_block_r ?_
   refine x_then_r ?_
   refine e_ret1 t0 rfl rfl rfl ?_
   refine ⟨?_, k0.fr⟩
   exact congrArg Ending.returned (ret_b (by first | exact (name_bad (k := k) (by omega) (by have t0 := d0; (try simp at t0); have f0 := j0; (try simp at f0); have m0 := o0; (try simp at m0);  unfold okC; omega)).symm | (rw [name_end hi (by omega)]; done) | (rw [name_end hi (by omega)]; simp [d0, j0, o0])))
  ·
   have m0 := j0
   try simp only [Bool.or_eq_true, Bool.and_eq_true, Bool.not_eq_true', Bool.not_eq_false', decide_eq_true_eq, decide_eq_false_iff_not, Bool.or_eq_false_iff, Bool.and_eq_false_iff] at m0
   have m0 := n0.setb (d := 39) (b := false) rfl j0
   refine wp_cond_false (m0.ev rfl) ?_
   refine wp_skip ?_
   refine x_block_n ?_
   refine x_then_n (i0 _ _ ?_)
   refine c_region ?_
   refine r_add (z := ((k + 1 : Nat) : Int)) sv m0 rfl rfl rfl rfl (by decide) (by omega) (by omega) (by omega) (fun i0 n0 => ?_)
   refine mv n0 (fun i0 m0 => ?_)
   refine wpList_nil ?_
   exact ⟨_, by omega, k + 1, (m0.sub (rc rfl (rc rfl (rc rfl (rc rfl rnl))))), k0, by omega, nameTo_step hi (by have t0 := d0; (try simp at t0); have f0 := j0; (try simp at f0);  unfold okC; omega), rfl⟩
 ·
  have m0 := b0.setb (d := 9) (b := false) rfl (decide_eq_false d0)
  refine wp_cond_false (m0.ev rfl) ?_
  refine wp_exit ?_
  refine x_then_e ?_
  refine x_then_e ?_
  refine x_block_eq ?_
  refine x_then_n (c0 _ _ ?_)
  refine wsc (fun c0 b0 => ?_)
  refine mv m0 (fun c0 f0 => ?_)
  refine r_neqS sv f0 rfl rfl rfl rfl (by decide) (fun c0 m0 => ?_)
  refine mv m0 (fun c0 f0 => ?_)
  refine l_join (fun ga gw => Reg ga 48 [(47, .bool ((!(decide (s = (⟨#[]⟩ : ByteArray)))) && (decide (((s.size : Nat) : Int) ≤ 16)))), (1000000, .bool false)] ∧ St w0 Z none_ gw [] []) 4 ?_ ?_
  ·
   rcases Decidable.em (s = (⟨#[]⟩ : ByteArray)) with c0 | c0
   ·
    have m0 := f0.setb (d := 43) (b := false) rfl (by rw [(decide_eq_true c0)]; rfl)
    refine sps m0 (wff m0) (fun j0 k0 => ?_)
    refine sps k0 (wff k0) (fun j0 m0 => ?_)
    refine sps m0 (wff m0) (fun j0 k0 => ?_)
    refine r_pick_f sv k0 rfl rfl rfl rfl (by decide) (fun j0 m0 => ?_)
    refine wpList_nil ?_
    exact x_then_n ⟨(m0.sub (rc (rb rfl (by first | rfl | (simp only [decide_eq_true c0, if_pos c0, bl]; done) | (simp [c0]; done) | (simp [c0]; omega))) (rc rfl rnl))), h0⟩
   ·
    have m0 := f0.setb (d := 43) (b := true) rfl (by rw [(decide_eq_false c0)]; rfl)
    refine r_move (st_listV_w (wt m0)) m0 rfl rfl rfl (by decide) (fun f0 j0 => ?_)
    refine r_lenS (st_listV_w (wt j0)) j0 rfl rfl rfl rfl Tryd.underlying9 (by decide) (fun f0 m0 => ?_)
    refine r_leq (st_listV_w (wt m0)) m0 rfl rfl rfl rfl (by decide) (fun f0 j0 => ?_)
    refine r_pick_t sv j0 rfl rfl rfl rfl (by decide) (fun f0 m0 => ?_)
    refine wpList_nil ?_
    exact x_then_n ⟨(m0.sub (rc (rb rfl (by first | rfl | (simp only [decide_eq_false c0, if_neg c0, bl]; done) | (simp [c0]; done) | (simp [c0]; omega))) (rc rfl rnl))), h0⟩
  rintro m0 c0 ⟨h0, f0⟩
  refine asg h0 (fun c0 m0 => ?_)
  refine wpList_nil (x_then_n (b0 _ _ ?_))
  refine wp_ret ?_
  refine e_ret1 m0 rfl rfl rfl ?_
  refine ⟨?_, f0.fr⟩
  exact congrArg Ending.returned (ret_b (by first | exact (name_bad (k := k) (by omega) (by have t0 := d0; (try simp at t0);  unfold okC; omega)).symm | (rw [name_end hi (by omega)]; done) | (rw [name_end hi (by omega)]; simp [d0])))
end Go.Proofs.YtcfponnkfhkbdaaDoor
