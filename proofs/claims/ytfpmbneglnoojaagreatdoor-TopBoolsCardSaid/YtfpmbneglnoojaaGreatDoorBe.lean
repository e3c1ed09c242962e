/- The evaluator is sound: control, regions that draw; every request. -/
import Derived.Test.YtfpmbneglnoojaaGreatDoorBd
import Derived.Orders
import Derived.Conc.CompanyDraw
import Derived.KernelRfl
set_option linter.all false
/- Calls: what is asked behind them; an operation is what the evaluator says. -/
namespace Go.Proofs.YtfpmbneglnoojaaGreatDoor.Ab
open Go Go.Conc
set_option maxRecDepth 100000
noncomputable section
variable {mn : Bool}
variable {Z : Phs}
/-- a caller behind a deferred call -/
def settle (c : Frame) : Frame := match c.mode with
  | .panicking ({ recovered := true, .. } :: older) => match older.dropWhile (!·.goexit) with
    | [] => { c with mode := .returning }
    | rest => { c with mode := .panicking rest }
  | _ => c
def back (kind : CallKind) (cs : List Frame) (v : Value) : Goroutine := match cs with
  | c :: r => G (match kind with | .normal => c.finish v | _ => settle c) r
  | [] => G default []
def backP (cs : List Frame) (v : Value) : Goroutine := match cs with
  | c :: r => G (c.raise [{ v, recovered := false }]) r
  | [] => G default []
/-- what is asked behind a call -/
def ContV (Z : Phs) (p : Z.T) (ρ : Rho) (s : St) (kind : CallKind) (cs : List Frame) (m : Nat) (out : Out) : Prop :=
  ∀ (p' : Z.T) (ρ' : Rho) (w' : World) (cs' : List Frame), Z.le p p' → match out with
    | .val v s' => Pst ρ s cs ρ' s' cs' → WR (Z.cx p') ρ' s'.n s'.h w' → okV ρ' v → Z.fam p' m (back kind cs' (tV ρ' v)) w'
    | .pan v _ s' => Pst ρ s cs ρ' s' cs' → WR (Z.cx p') ρ' s'.n s'.h w' → okV ρ' v → Z.fam p' m (backP cs' (tV ρ' v)) w'
    | _ => True
theorem ContV.shift {p p1 : Z.T} {ρ ρ1 : Rho} {s s1 : St} {kind : CallKind} {cs cs1 : List Frame} {m : Nat} {out : Out} (h : ContV Z p ρ s kind cs m out) (hp : Z.le p p1) (hs : Pst ρ s cs ρ1 s1 cs1) : ContV Z p1 ρ1 s1 kind cs1 m out := by
  intro p' ρ' w' cs' hp'
  have := h p' ρ' w' cs' (Z.trans hp hp')
  cases out with
  | val v s' => exact fun hq hc => this (hs.trans hq) hc
  | pan v e' s' => exact fun hq hc => this (hs.trans hq) hc
  | _ => trivial
theorem ContV.le {p : Z.T} {ρ : Rho} {s : St} {kind : CallKind} {cs : List Frame} {m m' : Nat} {out : Out} (h : ContV Z p ρ s kind cs m out) (hm : m ≤ m') : ContV Z p ρ s kind cs m' out := by
  intro p' ρ' w' cs' hp'
  have := h p' ρ' w' cs' hp'
  cases out with
  | val v s' => exact fun hq hc hv => Z.up p' (this hq hc hv) hm
  | pan v e' s' => exact fun hq hc hv => Z.up p' (this hq hc hv) hm
  | _ => trivial
/-- a Go function's call, from its first step on -/
def SoundF (Z : Phs) (f : FuncId) (args : List Value) (s : St) (out : Out) : Prop :=
  ∃ N, ∀ (p : Z.T) (ρ : Rho) (w : World) (kind : CallKind) (cs : List Frame) (m : Nat), (kind = .normal ∨ kind = .deferred) → cs ≠ [] → WR (Z.cx p) ρ s.n s.h w → Glob ρ → (∀ v ∈ args, okV ρ v) → RK ρ s.rk kind none cs →
    ContV Z p ρ s kind cs m out → Z.fam p (N + m) (G (Frame.enter PG f (args.map (tV ρ)).toArray kind) cs) w
/-- a call of a function without a Go body -/
def SoundX (f : FuncId) (args : List Value) (s : St) (out : Out) : Prop :=
  ∃ v s', out = .val v s' ∧ s'.rk = s.rk ∧ ∀ (cx : Cx) (ρ : Rho) (w : World), WR cx ρ s.n s.h w → (∀ v ∈ args, okV ρ v) → wpS PG cx NoP (callFunc f (args.map (tV ρ)).toArray) w fun nx w' => ∃ x, nx = .value x ∧ Done cx ρ s.n s.h v s'.n s'.h x w'
def SoundCall (Z : Phs) (f : FuncId) (args : List Value) (s : St) (out : Out) : Prop :=
  if hasBody f then s.d = [] → SoundF Z f args s out else SoundX f args s out
/-- a call of a function value: the step that makes it -/
def SoundV (Z : Phs) (fv : Value) (args : List Value) (s : St) (out : Out) : Prop :=
  s.d = [] → s.rk = none → ∃ fn first cap, fv = .func fn first cap ∧ ∃ N, ∀ (p : Z.T) (ρ : Rho) (w : World) (fr : Frame) (cs : List Frame) (m : Nat), (fr.kind = .normal ∨ fr.kind = .deferred) → plainTodo fr → WR (Z.cx p) ρ s.n s.h w → Glob ρ → okV ρ fv → (∀ v ∈ args, okV ρ v) →
    ContV Z p ρ s .normal (fr :: cs) m out →
    (stepG.apply PG true fr cs none (invoke (.fn (tFn ρ fn) (cap.map (tV ρ))) (first.map (tV ρ) ++ (args.map (tV ρ)).toArray)) w).goes fun g' w' es => Gw (Z.cx p) w w' ∧ (∀ e ∈ es, EvOK (Z.cx p) w'.heap.size e) ∧ Z.fam p (N + m) g' w'
/-- the way out of a function: its deferred calls, its results -/
def modeOf (ρ : Rho) (p : Option Value) : FrameMode := match p with | none => .returning | some v => .panicking [{ v := tV ρ v, recovered := false }]
def SoundU (Z : Phs) (fn : Func) (e : Env) (ds : List Deferred) (pv : Option Value) (s : St) (out : Out) : Prop :=
  ∃ N, ∀ (p : Z.T) (ρ : Rho) (w : World) (b : Frame) (a : Act) (cs : List Frame) (todo : List Item) (m : Nat), PG.funcs[b.fn]? = some fn → b.roundOf = none → (b.kind = .normal ∨ b.kind = .deferred) → cs ≠ [] →
    WR (Z.cx p) ρ s.n s.h w → ER ρ e a.tmps → Glob ρ → (∀ x ∈ ds, okD BASE ρ x) → a.defers = ds.map (tD ρ) → (∀ v, pv = some v → okV ρ v) →
    ContV Z p ρ s b.kind cs m out → Z.fam p (N + m) (G { b.atR a todo with mode := modeOf ρ pv } cs) w
/-- what is asked behind an operation -/
def ContO (Z : Phs) (p : Z.T) (ρ : Rho) (s : St) (b : Frame) (a : Act) (cs : List Frame) (dst : Option Tmp) (ops : Array Oper) (rest : List Nat) (k : List Item) (m : Nat) (r : OpR) : Prop :=
  ∀ (p' : Z.T) (ρ' : Rho) (w' : World) (cs' : List Frame) (df : List Deferred), Z.le p p' → match r with
    | .val v s' => Pst ρ s cs ρ' s' cs' → WR (Z.cx p') ρ' s'.n s'.h w' → okV ρ' v → DR ρ' s'.d b.roundOf df → RK ρ' s'.rk b.kind b.roundOf cs' →
        Z.fam p' m (G (b.atR { tmps := (a.put dst (tV ρ' v)).tmps, defers := df } (.inRegion ops rest :: k)) cs') w'
    | .pan v s' => Pst ρ s cs ρ' s' cs' → WR (Z.cx p') ρ' s'.n s'.h w' → okV ρ' v → DR ρ' s'.d b.roundOf df → RK ρ' s'.rk b.kind b.roundOf cs' →
        ∀ todo, noCall todo → Z.fam p' m (G { b.atR { tmps := a.tmps, defers := df } todo with mode := .panicking [{ v := tV ρ' v, recovered := false }] } cs') w'
    | .fail _ => True
theorem ContO.shift {p p1 : Z.T} {ρ ρ1 : Rho} {s s1 : St} {b : Frame} {a : Act} {cs cs1 : List Frame} {dst : Option Tmp} {ops : Array Oper} {rest : List Nat} {k : List Item} {m : Nat} {r : OpR} (h : ContO Z p ρ s b a cs dst ops rest k m r) (hp : Z.le p p1) (hs : Pst ρ s cs ρ1 s1 cs1) : ContO Z p1 ρ1 s1 b a cs1 dst ops rest k m r := by
  intro p' ρ' w' cs' df hp'
  have := h p' ρ' w' cs' df (Z.trans hp hp')
  cases r with
  | val v s' => exact fun hq => this (hs.trans hq)
  | pan v s' => exact fun hq => this (hs.trans hq)
  | fail w => trivial
def SoundO (Z : Phs) (ops : Array Oper) (i : Nat) (o : Oper) (fn : FuncId) (e : Env) (s : St) (r : OpR) : Prop :=
  ∃ N, ∀ (p : Z.T) (ρ : Rho) (w : World) (b : Frame) (a : Act) (cs : List Frame) (rest : List Nat) (k : List Item) (m : Nat), b.fn = fn → AtC Z p ρ w e s b a cs →
    ContO Z p ρ s b a cs o.dst ops rest k m r → Z.fam p (N + m) (G (b.atR a (.inRegion ops (i :: rest) :: k)) cs) w
/-- what goes out of the goroutine -/
def SoundSp (Z : Phs) (o : Oper) (e : Env) (s : St) (out : Out) : Prop := ∀ (ops : Array Oper) (i : Nat) (fn : FuncId), ops[i]? = some o → guardOk ops o.guard e = some true → isSp o.op = true → SoundO Z ops i o fn e s (rSp out)
/-- a deferred call of a builtin -/
def SoundSpd (Z : Phs) (d : Deferred) (s : St) (out : Out) : Prop :=
  ∃ v s', out = .val v s' ∧ ∃ N, ∀ (p : Z.T) (ρ : Rho) (w : World) (b : Frame) (a : Act) (cs : List Frame) (todo : List Item) (mode : FrameMode) (ds : List Deferred) (m : Nat), mode ≠ .run → (b.kind = .normal ∨ b.kind = .deferred) → WR (Z.cx p) ρ s.n s.h w → Glob ρ → okD BASE ρ d → a.defers = tD ρ d :: ds →
    (∀ (p' : Z.T) (ρ' : Rho) (w' : World), Z.le p p' → Pst ρ s cs ρ' { n := s'.n, h := s'.h, d := s.d, rk := s.rk } cs → WR (Z.cx p') ρ' s'.n s'.h w' → Z.fam p' m (G { b.atR { tmps := a.tmps, defers := ds } todo with mode := mode } cs) w') →
    Z.fam p (N + m) (G { b.atR a todo with mode := mode } cs) w
/-- all requests -/
def Sound (Z : Phs) (q : Req) (out : Out) : Prop := match q with
  | .code fn c e s => SoundC Z fn c e s out ∧ ∀ c', c = .loop c' → SoundL Z fn c' e s out
  | .call f args s => SoundCall Z f args s out
  | .value fv args s => SoundV Z fv args s out
  | .unwind fn e ds p s => SoundU Z fn e ds p s out
  | .sp o e s => SoundSp Z o e s out
  | .spd d s => SoundSpd Z d s out
def isFail (out : Out) : Prop := ∃ w, out = .fail w
/-- what a request comes to is sound -/
def SoundI (Z : Phs) (ih : Req → Out) : Prop := ∀ q, ¬ isFail (ih q) → Sound Z q (ih q)
theorem opnd_ok {ρ : Rho} {e : Env} {a : Act} (hr : ER ρ e a.tmps) (hg : Glob ρ) : Ev ρ (opnd e) a.eval := by
  intro x v hx
  cases x with
  | tmp t =>
    obtain ⟨h1, h2⟩ := hr t v hx
    exact ⟨h1, by simp [Act.eval, Array.getD_eq_getD_getElem?, h2]⟩
  | const u =>
    have hx' : cond (closedB 4 u) (some u) none = some v := hx
    cases hc : closedB 4 u with
    | false => rw [hc] at hx'; cases hx'
    | true =>
      rw [hc] at hx'
      have := closedB_ok 4 u hc ρ
      cases hx'
      exact ⟨this.1, this.2.symm⟩
  | global g =>
    have hx' : cond (Nat.blt g NG) (some (.pointer (some ⟨g, 0, none⟩))) none = some v := hx
    cases hc : Nat.blt g NG with
    | false => rw [hc] at hx'; cases hx'
    | true =>
      rw [hc] at hx'
      cases hx'
      obtain ⟨i, h1, h2, h3⟩ := hg g (by simpa using hc)
      exact ⟨by simp [okV, okA, h1], by simp [Act.eval, tV, tA, h1, h2, h3]⟩
  | func f =>
    cases hx
    have := closed_func f ρ
    exact ⟨this.1, this.2.symm⟩
/-- the mark of a block that is done: a Pst -/
theorem Done.pst {cx : Cx} {ρ : Rho} {s : St} {v : Value} {n : Nat} {h : Tr AObj} {x : Value} {w' : World} {cs : List Frame} (hd : Done cx ρ s.n s.h v n h x w') : ∃ ρ', Pst ρ s cs ρ' { n := n, h := h, d := s.d, rk := s.rk } cs ∧ x = tV ρ' v ∧ okV ρ' v ∧ WR cx ρ' n h w' := by
  obtain ⟨ρ', h1, h2, h3, h4, h5, h6⟩ := hd
  exact ⟨ρ', ⟨h1, h5, fun b _ => h6 b, CS.refl _ _⟩, h2, h3, h4⟩
theorem wanted_ok {ρ : Rho} {e : Env} {ops : Array Oper} {o : Oper} {tmps : Array Value} {t : Bool} (hr : ER ρ e tmps) (hg : guardOk ops o.guard e = some t) : Region.wanted o (yielded ops tmps) = t := by
  unfold Region.wanted
  unfold guardOk at hg
  cases hq : o.guard with
  | none =>
    rw [hq] at hg
    cases hg
    rfl
  | some jw =>
    obtain ⟨j, want⟩ := jw
    rw [hq] at hg
    simp only [] at hg ⊢
    unfold guardIs at hg
    unfold yielded
    have hdst : dstOf ops j = (ops[j]?).bind (·.dst) := rfl
    rw [← hdst]
    cases hd : dstOf ops j with
    | none =>
      rw [hd] at hg
      cases hg
      rfl
    | some tt =>
      rw [hd] at hg
      simp only [] at hg
      cases hv : e.get tt with
      | none => rw [hv] at hg; cases hg
      | some v =>
        rw [hv] at hg
        simp only [Option.some.injEq] at hg
        obtain ⟨h1, h2⟩ := hr tt v hv
        simp only [Option.bind, h2]
        subst hg
        cases v with
        | bool x => cases x <;> cases want <;> simp [tV]
        | slice a l c =>
          obtain ⟨a', c', he⟩ := slice_len_form ρ a l c h1
          rw [he]
          simp
        | _ => simp [tV]
end
end Go.Proofs.YtfpmbneglnoojaaGreatDoor.Ab
/- An operation is what the evaluator says. -/
namespace Go.Proofs.YtfpmbneglnoojaaGreatDoor.Ab
open Go Go.Conc
set_option maxRecDepth 100000
noncomputable section
variable {Z : Phs} {ih : Req → Out}
variable {ops : Array Oper} {i : Nat} {o : Oper} {fn : FuncId} {e : Env} {s : St}
theorem put_defers (a : Act) (d : Option Tmp) (x : Value) : a.put d x = { tmps := (a.put d x).tmps, defers := a.defers } := by cases d <;> rfl
theorem fin_atR {b : Frame} {a : Act} {rest : List Nat} {k : List Item} (ho : ops[i]? = some o) (x : Value) : (b.atR a (.inRegion ops (i :: rest) :: k)).finish x = b.atR { tmps := (a.put o.dst x).tmps, defers := a.defers } (.inRegion ops rest :: k) := by
  rw [Frame.finish_atR, ho, ← put_defers]
  rfl
/-- an operation that the evaluator lets be -/
theorem sound_unwanted (ho : ops[i]? = some o) (hg : guardOk ops o.guard e = some false) : SoundO Z ops i o fn e s (.val (.tuple #[]) s) := by
  refine ⟨1, fun p ρ w b a cs rest k m hb ha hc => ?_⟩
  rw [Nat.add_comm]
  refine Z.go p rfl fun p w1 hw => have hc := hc.shift (Z.mv_le hw) (Pst.refl _ _ _); ⟨_, g_unwanted ho (wanted_ok ha.er hg), ?_⟩
  have ha1 := ha.rel hw
  have := hc p ρ w1 cs a.defers (Z.refl p) (Pst.refl _ _ _) ha1.wr (by simp [okV]) ha.dr ha.rk
  have e1 : tV ρ (.tuple #[]) = undef := by simp [tV, undef]
  rw [e1, ← put_defers] at this
  exact this
/-- an operation with a value -/
theorem sound_opd {v : Value} {n : Nat} {h : Tr AObj} (ho : ops[i]? = some o) (hg : guardOk ops o.guard e = some true) (hnd : ∀ c, o.op ≠ .defer c)
    (hO : ∀ (p : Z.T) (ρ : Rho) (w : World) (a : Act), WR (Z.cx p) ρ s.n s.h w → Ev ρ (opnd e) a.eval → Opd (Z.cx p) ρ s v n h w (execOp a.eval o)) : SoundO Z ops i o fn e s (.val v { n := n, h := h, d := s.d, rk := s.rk }) := by
  refine ⟨1, fun p ρ w b a cs rest k m hb ha hc => ?_⟩
  rw [Nat.add_comm]
  refine Z.step p _ _ _ rfl fun p w1 hw => ?_
  replace hc := hc.shift (Z.mv_le hw) (Pst.refl _ _ _)
  have ha1 := ha.rel hw
  rw [g_oper ho (wanted_ok ha.er hg) (.inr hnd)]
  refine apply_go ha1.wr.deep ha.kind (by simp [plainTodo, Frame.atR]) (hO p ρ w1 a ha1.wr (opnd_ok ha.er ha.glob)) (fun nx w' es ⟨x, hx, hD⟩ hG hE => ?_) fun v w' es hf => hf.elim
  obtain ⟨ρ', hP, hxv, hvok, hr'⟩ := hD.pst (cs := cs)
  have hK : Z.fam p m (G ((b.atR a (.inRegion ops (i :: rest) :: k)).finish x) cs) w' := by
    rw [fin_atR ho, hxv]
    exact hc p ρ' w' cs a.defers (Z.refl p) hP hr' hvok (ha.dr.mono hP.le) (ha.rk.mono hP.le)
  rcases hx with rfl | ⟨rfl, rfl⟩
  · exact ⟨hG, hE, hK⟩
  · exact ⟨hG, hE, hK⟩
theorem clean_none {ρ : Rho} {ro : Option Nat} {defers : List Deferred} (hd : DR ρ s.d ro defers) (hc : clean s.d = true) : ro = none := by
  cases ro with
  | none => rfl
  | some r =>
    obtain ⟨l, i, h1, _⟩ := hd
    rw [h1] at hc
    cases hc
theorem callOf_eq {op : Op} {c : Call} (h : callOf op = some c) : op = .call c := by cases op <;> simp [callOf] at h; rw [h]
theorem deferOf_eq {op : Op} {c : Call} (h : deferOf op = some c) : op = .defer c := by cases op <;> simp [deferOf] at h; rw [h]
theorem panicOf_eq {op : Op} {c : Operand} (h : panicOf op = some c) : op = .panic c := by cases op <;> simp [panicOf] at h; rw [h]
/-- recover -/
theorem sound_recover {c : Call} (ho : ops[i]? = some o) (hg : guardOk ops o.guard e = some true) (hop : o.op = .call c) (hcal : c.callee = .builtin .recover) (hnf : ∀ w, rRecover s ≠ .fail w) : SoundO Z ops i o fn e s (rRecover s) := by
  have hcl : clean s.d = true := by
    cases hq : clean s.d with
    | true => rfl
    | false => exact absurd (by unfold rRecover; rw [hq]; rfl) (hnf "recover in a round")
  have hR : rRecover s = (match s.rk with
    | some v => .val v { n := s.n, h := s.h, d := s.d, rk := none }
    | none => .val .nilIface s) := by unfold rRecover; rw [hcl]; rfl
  rw [hR]
  refine ⟨1, fun p ρ w b a cs rest k m hb ha hc => ?_⟩
  rw [Nat.add_comm]
  refine Z.step p _ _ _ rfl fun p w1 hw => ?_
  replace hc := hc.shift (Z.mv_le hw) (Pst.refl _ _ _)
  have ha1 := ha.rel hw
  have hro := clean_none ha.dr hcl
  rw [g_oper ho (wanted_ok ha.er hg) (.inl hro)]
  have hx : execOp a.eval o = pure .recover := by
    unfold execOp
    rw [hop]
    simp only [resolve, hcal]
    rfl
  rw [hx]
  refine apply_go (cx := (Z.cx p)) (E := NoP) (Q := fun nx w' => nx = .recover ∧ w' = w1) ha1.wr.deep ha.kind (by simp [plainTodo, Frame.atR]) ⟨rfl, rfl⟩ (fun nx w' es hq hG hE => ?_) fun v w' es hf => hf.elim
  obtain ⟨rfl, rfl⟩ := hq
  refine ⟨by simp [Frame.atR, hro], ?_⟩
  have hrk := ha.rk
  cases hk : s.rk with
  | none =>
    rw [hk] at hrk hc
    simp only [] at hc
    have ht : tryRecover (b.atR a (.inRegion ops (i :: rest) :: k)) cs = none := hrk hro _ rfl
    rw [ht]
    refine ⟨hG, hE, ?_⟩
    rw [fin_atR ho]
    have := hc p ρ w' cs a.defers (Z.refl p) (Pst.refl _ _ _) ha1.wr (by simp [okV]) ha.dr (by rw [hk]; exact hrk)
    have e1 : tV ρ .nilIface = .nilIface := by simp [tV]
    rw [e1] at this
    exact this
  | some v =>
    rw [hk] at hrk hc
    simp only [] at hc
    obtain ⟨h1, h2, h3, c', r, rfl, h5⟩ := hrk
    have ht : tryRecover (b.atR a (.inRegion ops (i :: rest) :: k)) (c' :: r) = some (tV ρ v, recd c' :: r) := by
      unfold tryRecover recd
      simp only [Frame.atR, h1, h5]
    rw [ht]
    refine ⟨hG, hE, ?_⟩
    rw [fin_atR ho]
    refine hc p ρ w' (recd c' :: r) a.defers (Z.refl p) ⟨ρ.le_refl, Nat.le_refl _, fun _ _ _ h => ⟨h, rfl⟩, .inr ⟨⟨v, hk⟩, rfl, c', r, rfl, rfl⟩⟩ ha1.wr h3 ha.dr fun _ fr hfr => ?_
    unfold tryRecover
    rw [hfr, h1]
    simp only [recd, h5]
/-- a call of a function value -/
theorem sound_value {c : Call} {f : Operand} {fv : Value} {args : List Value} (hi : SoundI Z ih) (ho : ops[i]? = some o) (hg : guardOk ops o.guard e = some true) (hop : o.op = .call c) (hcal : c.callee = .value f) (hf : opnd e f = some fv) (ha0 : mapG (opnd e) c.args.toList = some args)
    (hnf : ∀ w, rOut s (ih (.value fv args { n := s.n, h := s.h, d := [], rk := none })) ≠ .fail w) : SoundO Z ops i o fn e s (rOut s (ih (.value fv args { n := s.n, h := s.h, d := [], rk := none }))) := by
  have hs := hi (.value fv args { n := s.n, h := s.h, d := [], rk := none }) (fun ⟨w, h⟩ => hnf w (by rw [h]; rfl))
  obtain ⟨fn', first, cap, rfl, N, hN⟩ := hs rfl rfl
  generalize ih (.value (.func fn' first cap) args { n := s.n, h := s.h, d := [], rk := none }) = out at hN hnf ⊢
  refine ⟨N + 1, fun p ρ w b a cs rest k m hb ha hc => ?_⟩
  have e0 : N + 1 + m = (N + m) + 1 := by omega
  rw [e0]
  refine Z.step p _ _ _ rfl fun p w1 hw => ?_
  replace hc := hc.shift (Z.mv_le hw) (Pst.refl _ _ _)
  have ha1 := ha.rel hw
  have hE := opnd_ok ha.er ha.glob
  rw [g_oper ho (wanted_ok ha.er hg) (.inr (by rw [hop]; simp))]
  obtain ⟨k1, k2⟩ := hE f _ hf
  obtain ⟨k3, k4⟩ := mapG_ok hE ha0
  have hx : execOp a.eval o = invoke (.fn (tFn ρ fn') (cap.map (tV ρ))) (first.map (tV ρ) ++ (args.map (tV ρ)).toArray) := by
    unfold execOp
    rw [hop]
    simp only [resolve, hcal, k2, tV]
    have e2 : c.args.map a.eval = (args.map (tV ρ)).toArray := by
      apply Array.ext'
      rw [Array.toList_map, k4]
    rw [e2]
    rfl
  rw [hx]
  refine hN p ρ w1 _ cs m ha.kind (by simp [plainTodo, Frame.atR]) ha1.wr ha.glob k1 k3 ?_
  intro p' ρ' w' cs' hp'
  cases out with
  | val v s' =>
    intro hq hr hv
    obtain ⟨q1, q2, q3, q4⟩ := hq
    rcases q4 with ⟨_, rfl⟩ | ⟨⟨u, hu⟩, _⟩
    · show Z.fam p' m (G ((b.atR a (.inRegion ops (i :: rest) :: k)).finish (tV ρ' v)) cs) w'
      rw [fin_atR ho]
      exact hc p' ρ' w' cs a.defers hp' ⟨q1, q2, q3, CS.refl _ _⟩ hr hv (ha.dr.mono q1) (ha.rk.mono q1)
    · cases hu
  | pan v e' s' =>
    intro hq hr hv
    obtain ⟨q1, q2, q3, q4⟩ := hq
    rcases q4 with ⟨_, rfl⟩ | ⟨⟨u, hu⟩, _⟩
    · show Z.fam p' m (G ((b.atR a (.inRegion ops (i :: rest) :: k)).raise [{ v := tV ρ' v, recovered := false }]) cs) w'
      rw [Frame.raise_atR]
      exact hc p' ρ' w' cs a.defers hp' ⟨q1, q2, q3, CS.refl _ _⟩ hr hv (ha.dr.mono q1) (ha.rk.mono q1) _ trivial
    · cases hu
  | _ => trivial
/-- a deferred call -/
theorem sound_defer {c : Call} {f : Operand} {args : List Value} (ho : ops[i]? = some o) (hg : guardOk ops o.guard e = some true) (hop : o.op = .defer c) (hcal : c.callee = .value f) (ha0 : mapG (opnd e) c.args.toList = some args)
    (hnf : ∀ w, rDefer1 (opnd e f) args s ≠ .fail w) : SoundO Z ops i o fn e s (rDefer1 (opnd e f) args s) := by
  cases hf : opnd e f with
  | none => rw [hf] at hnf; exact absurd rfl (hnf "defer")
  | some fv =>
    rw [hf] at hnf
    cases fv with
    | func fn' first cap =>
      have hcl : clean s.d = true := by
        cases hq : clean s.d with
        | true => rfl
        | false => exact absurd (by unfold rDefer1; simp only [hq]; rfl) (hnf "defer in a round")
      have hR : rDefer1 (some (.func fn' first cap)) args s = .val (.tuple #[]) { n := s.n, h := s.h, d := { target := .fn fn' cap, args := ⟨appL first.toList args⟩ } :: s.d, rk := s.rk } := by
        unfold rDefer1; simp only [hcl]; rfl
      rw [hR]
      refine ⟨1, fun p ρ w b a cs rest k m hb ha hc => ?_⟩
      rw [Nat.add_comm]
      refine Z.step p _ _ _ rfl fun p w1 hw => ?_
      replace hc := hc.shift (Z.mv_le hw) (Pst.refl _ _ _)
      have ha1 := ha.rel hw
      have hro := clean_none ha.dr hcl
      have hE := opnd_ok ha.er ha.glob
      rw [g_oper ho (wanted_ok ha.er hg) (.inl hro)]
      obtain ⟨k1, k2⟩ := hE f _ hf
      obtain ⟨k3, k4⟩ := mapG_ok hE ha0
      have hx : execOp a.eval o = pure (.defer (tD ρ { target := .fn fn' cap, args := ⟨appL first.toList args⟩ })) := by
        unfold execOp
        rw [hop]
        simp only [resolve, hcal, k2, tV]
        have e2 : first.map (tV ρ) ++ c.args.map a.eval = (⟨appL first.toList args⟩ : Array Value).map (tV ρ) := by
          apply Array.ext'
          rw [appL_eq]
          simp [k4]
        simp only [Deferred.ofValue, e2]
        rfl
      rw [hx]
      refine apply_go (cx := (Z.cx p)) (E := NoP) (Q := fun nx w' => nx = .defer (tD ρ { target := .fn fn' cap, args := ⟨appL first.toList args⟩ }) ∧ w' = w1) ha1.wr.deep ha.kind (by simp [plainTodo, Frame.atR]) ⟨rfl, rfl⟩ (fun nx w' es hq hG hE => ?_) fun v w' es hf => hf.elim
      obtain ⟨rfl, rfl⟩ := hq
      refine ⟨hG, hE, ?_⟩
      have hfr : ({ b.atR a (.inRegion ops (i :: rest) :: k) with defers := tD ρ { target := .fn fn' cap, args := ⟨appL first.toList args⟩ } :: (b.atR a (.inRegion ops (i :: rest) :: k)).defers } : Frame) = b.atR { a with defers := tD ρ { target := .fn fn' cap, args := ⟨appL first.toList args⟩ } :: a.defers } (.inRegion ops (i :: rest) :: k) := rfl
      rw [hfr, fin_atR ho]
      have hdr := ha.dr
      rw [hro] at hdr
      have hput : ∀ (x : Value), (Act.put { a with defers := tD ρ { target := .fn fn' cap, args := ⟨appL first.toList args⟩ } :: a.defers } o.dst x).tmps = (a.put o.dst x).tmps := fun x => by cases o.dst <;> rfl
      rw [hput]
      have := hc p ρ w' cs (tD ρ { target := .fn fn' cap, args := ⟨appL first.toList args⟩ } :: a.defers) (Z.refl p) ⟨ρ.le_refl, Nat.le_refl _, fun _ _ _ h => ⟨h, rfl⟩, CS.refl _ _⟩ ha1.wr (by simp [okV]) (by
        rw [hro]
        refine ⟨fun x hx => ?_, by simp [hdr.2]⟩
        rcases List.mem_cons.1 hx with rfl | hx
        · simp only [okV] at k1
          refine ⟨fun v hv => ?_, k1.1, k1.2.2⟩
          have hv' : v ∈ appL first.toList args := by simpa using hv
          rw [appL_eq] at hv'
          rcases List.mem_append.1 hv' with h | h
          · exact k1.2.1 v (by simpa using h)
          · exact k3 v h
        · exact hdr.1 x hx) ha.rk
      have e1 : tV ρ (.tuple #[]) = undef := by simp [tV, undef]
      rw [e1] at this
      exact this
    | _ => exact absurd rfl (hnf "defer")
/-- a panic -/
theorem sound_panic {x : Operand} (ho : ops[i]? = some o) (hg : guardOk ops o.guard e = some true) (hop : o.op = .panic x) (hnf : ∀ w, rPanic (opnd e x) s ≠ .fail w) : SoundO Z ops i o fn e s (rPanic (opnd e x) s) := by
  cases hf : opnd e x with
  | none => rw [hf] at hnf; exact absurd rfl (hnf "panic")
  | some u =>
    rw [hf] at hnf
    cases u with
    | iface t u =>
      refine ⟨1, fun p ρ w b a cs rest k m hb ha hc => ?_⟩
      rw [Nat.add_comm]
      refine Z.step p _ _ _ rfl fun p w1 hw => ?_
      replace hc := hc.shift (Z.mv_le hw) (Pst.refl _ _ _)
      have ha1 := ha.rel hw
      have hE := opnd_ok ha.er ha.glob
      rw [g_oper ho (wanted_ok ha.er hg) (.inr (by rw [hop]; simp))]
      obtain ⟨k1, k2⟩ := hE x _ hf
      have hx : wpS PG (Z.cx p) (fun v w' => v = tV ρ (.iface t u) ∧ w' = w1) (execOp a.eval o) w1 (fun _ _ => False) := by
        unfold execOp
        rw [hop]
        simp only [k2, tV, Instr.panic, w_bind, w_goPanic]
        exact ⟨trivial, trivial⟩
      refine apply_go ha1.wr.deep ha.kind (by simp [plainTodo, Frame.atR]) hx (fun nx w' es hq => hq.elim) fun v w' es hv hG hE => ?_
      obtain ⟨rfl, rfl⟩ := hv
      refine ⟨hG, hE, ?_⟩
      rw [Frame.raise_atR]
      exact hc p ρ w' cs a.defers (Z.refl p) (Pst.refl _ _ _) ha1.wr k1 ha.dr ha.rk _ trivial
    | _ => exact absurd rfl (hnf "panic of nil")
theorem sound_step (hi : SoundI Z ih) {nt : Nat} (ho : ops[i]? = some o) (hok : okOp nt o = true) (hnf : ∀ w, rStep ih ops o e s ≠ .fail w) : SoundO Z ops i o fn e s (rStep ih ops o e s) := by
  unfold rStep at hnf ⊢
  cases hg : guardOk ops o.guard e with
  | none => rw [hg] at hnf; exact absurd rfl (hnf "guard")
  | some t =>
    rw [hg] at hnf
    cases t with
    | false => exact sound_unwanted ho hg
    | true =>
      simp only [] at hnf ⊢
      cases hsp : isSp o.op with
      | true =>
        rw [hsp, cond_true] at hnf
        rw [cond_true]
        exact hi (.sp o e s) (fun ⟨w, h⟩ => hnf w (by rw [h]; rfl)) ops i fn ho hg hsp
      | false =>
      rw [hsp, cond_false] at hnf
      rw [cond_false]
      unfold rOp at hnf ⊢
      cases hcall : callOf o.op with
      | some c =>
        have hop := callOf_eq hcall
        simp only [hcall] at hnf ⊢
        cases hargs : mapG (opnd e) c.args.toList with
        | none => simp only [hargs] at hnf; exact absurd rfl (hnf "call args")
        | some args =>
          simp only [hargs] at hnf ⊢
          unfold rCall1 at hnf ⊢
          cases hcal : c.callee with
          | builtin bb =>
            simp only [hcal] at hnf ⊢
            by_cases hrec : bb = .recover
            · subst hrec
              exact sound_recover ho hg hop hcal hnf
            · have h1 := rBuiltin_eq hrec c args s
              rw [h1] at hnf ⊢
              cases hb : builtinOp bb c.argTypes args s with
              | fail w => rw [hb] at hnf; exact absurd rfl (hnf w)
              | val v n h =>
                refine sound_opd ho hg (by rw [hop]; simp) fun p ρ w a hr hE => ?_
                obtain ⟨k3, k4⟩ := mapG_ok hE hargs
                have hx : execOp a.eval o = builtin bb c.argTypes o.type (c.args.map fun | .const _ => true | _ => false) (args.map (tV ρ)).toArray := by
                  unfold execOp
                  rw [hop]
                  simp only [resolve, hcal]
                  have e2 : c.args.map a.eval = (args.map (tV ρ)).toArray := by
                    apply Array.ext'
                    rw [Array.toList_map, k4]
                  rw [e2]
                  rfl
                rw [hx]
                refine builtin_ok (Z.base p) hr k3 ?_ hb
                unfold okOp at hok
                rw [hop, Bool.and_eq_true] at hok
                have := hok.2
                simp only [hcal] at this
                exact this
          | value f =>
            simp only [hcal] at hnf ⊢
            cases hf : opnd e f with
            | none => simp only [hf] at hnf; exact absurd rfl (hnf "callee")
            | some fv =>
              simp only [hf] at hnf ⊢
              exact sound_value hi ho hg hop hcal hf hargs hnf
          | invoke r n => simp only [hcal] at hnf; exact absurd rfl (hnf "invoke")
      | none =>
        simp only [hcall] at hnf ⊢
        cases hdef : deferOf o.op with
        | some c =>
          have hop := deferOf_eq hdef
          simp only [hdef] at hnf ⊢
          cases hargs : mapG (opnd e) c.args.toList with
          | none => simp only [hargs] at hnf; exact absurd rfl (hnf "defer args")
          | some args =>
            simp only [hargs] at hnf ⊢
            cases hcal : c.callee with
            | value f =>
              simp only [hcal] at hnf ⊢
              exact sound_defer ho hg hop hcal hargs hnf
            | _ => simp only [hcal] at hnf; exact absurd rfl (hnf "defer")
        | none =>
          simp only [hdef] at hnf ⊢
          cases hpan : panicOf o.op with
          | some x =>
            simp only [hpan] at hnf ⊢
            exact sound_panic ho hg (panicOf_eq hpan) hnf
          | none =>
            simp only [hpan] at hnf ⊢
            cases h1 : op1 o.op (opnd e) s with
            | fail w => rw [h1] at hnf; exact absurd rfl (hnf w)
            | val v n h =>
              refine sound_opd ho hg (fun c hc => ?_) fun p ρ w a hr hE => op1_ok (Z.base p) hE hr hok h1
              rw [hc] at hdef
              cases hdef
end
end Go.Proofs.YtfpmbneglnoojaaGreatDoor.Ab
/- Regions in the text's order; Go functions, called. -/
namespace Go.Proofs.YtfpmbneglnoojaaGreatDoor.Ab
open Go Go.Conc
set_option maxRecDepth 100000
noncomputable section
variable {mn : Bool}
variable {Z : Phs} {ih : Req → Out}
variable {ops : Array Oper} {fn : FuncId} {e : Env} {s : St}
theorem ER.put {ρ : Rho} {e : Env} {a : Act} {d : Option Tmp} {v : Value} (h : ER ρ e a.tmps) (hv : okV ρ v) (hd : ∀ t, d = some t → t < a.tmps.size) : ER ρ (put d v e) (a.put d (tV ρ v)).tmps := by
  cases d with
  | none => exact h
  | some t =>
    intro t' u hu
    have hu' : (Env.cons t v e).get t' = some u := hu
    rw [Env.get_cons] at hu'
    show okV ρ u ∧ (a.tmps.setIfInBounds t (tV ρ v))[t']? = some (tV ρ u)
    by_cases ht : t = t'
    · subst ht
      rw [if_pos rfl] at hu'
      cases hu'
      exact ⟨hv, by simp [hd t rfl]⟩
    · rw [if_neg ht] at hu'
      obtain ⟨h1, h2⟩ := h t' u hu'
      exact ⟨h1, by rw [Array.getElem?_setIfInBounds_ne ht]; exact h2⟩
theorem put_size (a : Act) (d : Option Tmp) (x : Value) : (a.put d x).tmps.size = a.tmps.size := by cases d <;> simp [Act.put]
theorem okOp_dst {nt : Nat} {o : Oper} (h : okOp nt o = true) : ∀ t, o.dst = some t → t < nt := by
  intro t ht
  unfold okOp at h
  rw [Bool.and_eq_true] at h
  have := h.1
  rw [ht] at this
  simpa using this
theorem not_fail {out : Out} (h : ¬ isFail out) : ∀ w, out ≠ .fail w := fun w hw => h ⟨w, hw⟩
theorem range_drop (n i : Nat) (h : i < n) : (List.range n).drop i = i :: (List.range n).drop (i + 1) := by
  rw [List.drop_eq_getElem_cons (by simpa using h)]
  simp
/-- the operations of a region, one behind the other -/
theorem sound_ops (hi : SoundI Z ih) (hok : ∀ o ∈ ops.toList, okOp (ntOf fn) o = true) : ∀ (l : List Oper) (i : Nat) (e : Env) (s : St), ops.toList.drop i = l → ¬ isFail (opsRun ih ops l e s) →
    ∃ N, ∀ (p : Z.T) (ρ : Rho) (w : World) (b : Frame) (a : Act) (cs : List Frame) (k : List Item) (m : Nat), b.fn = fn → AtC Z p ρ w e s b a cs → Cont Z p ρ s b cs k m (opsRun ih ops l e s) → Z.fam p (N + m) (G (b.atR a (.inRegion ops ((List.range ops.size).drop i) :: k)) cs) w
  | [], i, e, s, hl, _ => by
    have hi' : ops.size ≤ i := by
      have := List.drop_eq_nil_iff.1 hl
      simpa using this
    have hr : (List.range ops.size).drop i = [] := List.drop_eq_nil_iff.2 (by simpa using hi')
    rw [hr]
    refine ⟨1, fun p ρ w b a cs k m hb ha hc => ?_⟩
    rw [Nat.add_comm]
    exact Z.go p rfl fun p w1 hw => have hc := hc.shift (Z.mv_le hw) (Pst.refl _ _ _); ⟨_, g_region_end, hc p ρ w1 a cs (Z.refl p) (Pst.refl _ _ _) (ha.rel hw)⟩
  | o :: l, i, e, s, hl, hnf => by
    have hlt : i < ops.size := by
      rcases Nat.lt_or_ge i ops.size with h | h
      · exact h
      · rw [List.drop_eq_nil_iff.2 (by simpa using h)] at hl
        cases hl
    have hcons := List.drop_eq_getElem_cons (l := ops.toList) (i := i) (by simpa using hlt)
    rw [hl] at hcons
    obtain ⟨ho1, ho2⟩ := List.cons.inj hcons
    have ho : ops[i]? = some o := by
      rw [ho1]
      simp [hlt]
    have hmem : o ∈ ops.toList := by
      rw [ho1]
      exact List.getElem_mem _
    have hokd := okOp_dst (hok o hmem)
    have hrun : opsRun ih ops (o :: l) e s = (rStep ih ops o e s).out o.dst (opsRun ih ops l) e := opStep_eq ih ops o (opsRun ih ops l) e s
    rw [hrun] at hnf
    rw [range_drop _ _ hlt]
    cases hst : rStep ih ops o e s with
    | fail w => rw [hst] at hnf; exact absurd ⟨w, rfl⟩ hnf
    | val v s' =>
      rw [hst] at hnf
      obtain ⟨N1, h1⟩ := sound_step (fn := fn) hi ho (hok o hmem) (e := e) (s := s) (fun w hw => by rw [hst] at hw; cases hw)
      obtain ⟨N2, h2⟩ := sound_ops hi hok l (i + 1) (put o.dst v e) s' ho2.symm hnf
      refine ⟨N1 + N2, fun p ρ w b a cs k m hb ha hc => ?_⟩
      rw [hrun, hst] at hc
      rw [Nat.add_assoc]
      refine h1 p ρ w b a cs _ k (N2 + m) hb ha ?_
      rw [hst]
      intro p' ρ' w' cs' df hp hq hr hv hdr hrk
      refine h2 p' ρ' w' b _ cs' k m hb ⟨hr, ?_, ha.glob.mono hq.le, ?_, hdr, hrk, ha.kind⟩ (hc.shift hp hq)
      · exact (ER_mono hq.le ha.er).put hv fun t ht => Nat.lt_of_lt_of_le (hokd t ht) (hb ▸ ha.nt)
      · rw [put_size]; exact ha.nt
    | pan v s' =>
      obtain ⟨N1, h1⟩ := sound_step (fn := fn) hi ho (hok o hmem) (e := e) (s := s) (fun w hw => by rw [hst] at hw; cases hw)
      refine ⟨N1, fun p ρ w b a cs k m hb ha hc => ?_⟩
      rw [hrun, hst] at hc
      refine h1 p ρ w b a cs _ k m hb ha ?_
      rw [hst]
      intro p' ρ' w' cs' df hp hq hr hv hdr hrk
      exact hc p' ρ' w' { tmps := a.tmps, defers := df } cs' hp hq ⟨hr, ER_mono hq.le ha.er, ha.glob.mono hq.le, ha.nt, hdr, hrk, ha.kind⟩ hv
theorem sound_region (hi : SoundI Z ih) {id : Nat} (hok : okRegion fn ops = true) (hnf : ¬ isFail (opsRun ih ops ops.toList e s)) : SoundC Z fn (.region id ops false) e s (opsRun ih ops ops.toList e s) := by
  obtain ⟨N, h⟩ := sound_ops (fn := fn) hi (fun o ho => List.all_eq_true.1 hok o ho) ops.toList 0 e s rfl hnf
  refine ⟨N + 1, fun p ρ w b a cs k m hb ha hc => ?_⟩
  have e0 : N + 1 + m = (N + m) + 1 := by omega
  rw [e0]
  exact Z.go p rfl fun p w1 hw => have hc := hc.shift (Z.mv_le hw) (Pst.refl _ _ _); ⟨_, g_region, h p ρ w1 b a cs k m hb (ha.rel hw) hc⟩
/-! Go functions -/
theorem g_end {b : Frame} {a : Act} {cs : List Frame} {w : World} (hb : b.roundOf = none) : stepG PG mn (G (b.atR a []) cs) w = .go (G { b.atR a [] with mode := .returning } cs) w := by simp [G, stepG, stepG.exec, Frame.atR, hb]
theorem g_ret {b : Frame} {a : Act} {cs : List Frame} {k : List Item} {w : World} (hb : b.roundOf = none) : stepG PG mn (G (b.atR a (.code .ret :: k)) cs) w = .go (G { b.atR a (.code .ret :: k) with mode := .returning } cs) w := by simp [G, stepG, stepG.exec, Frame.atR, hb]
theorem entry_from (args : List Value) : ∀ (i t : Nat), (List.rec (motive := fun _ => Nat → Env) (fun _ => .nil) (fun a _ ih i => match i with | 0 => .cons 0 a (ih 1) | m + 1 => .cons (Nat.succ m) a (ih (Nat.succ (Nat.succ m)))) args i : Env).get t = if i ≤ t then args[t - i]? else none := by
  induction args with
  | nil => intro i t; simp; rfl
  | cons a l ih =>
    intro i t
    have h1 : (List.rec (motive := fun _ => Nat → Env) (fun _ => .nil) (fun a _ ih i => match i with | 0 => .cons 0 a (ih 1) | m + 1 => .cons (Nat.succ m) a (ih (Nat.succ (Nat.succ m)))) (a :: l) i : Env) = .cons i a (List.rec (motive := fun _ => Nat → Env) (fun _ => .nil) (fun a _ ih i => match i with | 0 => .cons 0 a (ih 1) | m + 1 => .cons (Nat.succ m) a (ih (Nat.succ (Nat.succ m)))) l (i + 1)) := by
      cases i <;> rfl
    rw [h1, Env.get_cons, ih]
    by_cases h2 : i = t
    · subst h2
      simp
    · rw [if_neg h2]
      by_cases h3 : i ≤ t
      · rw [if_pos h3, if_pos (by omega)]
        have : t - i = (t - (i + 1)) + 1 := by omega
        rw [this, List.getElem?_cons_succ]
      · rw [if_neg h3, if_neg (by omega)]
theorem entry_get (args : List Value) (t : Nat) : (entry args).get t = args[t]? := by
  have := entry_from args 0 t
  rw [if_pos (Nat.zero_le _), Nat.sub_zero] at this
  exact this
theorem ntOf_eq {f : FuncId} {F : Func} (hf : PG.funcs[f]? = some F) : ntOf f = F.ntmps := by unfold ntOf; rw [hf]
theorem enter_eq {f : FuncId} {F : Func} {c : Code} {args : Array Value} {kind : CallKind} (hf : PG.funcs[f]? = some F) (hc : F.body = some c) :
    Frame.enter PG f args kind = Frame.atR { fn := f, tmps := #[], todo := [], defers := [], mode := .run, kind := kind } { tmps := args ++ Array.replicate (F.ntmps - args.size) undef, defers := [] } [.code c] := by
  simp [Frame.enter, Frame.atR, hf, hc]
theorem sound_body (hi : SoundI Z ih) {f : FuncId} {F : Func} {c : Code} {args : List Value} (hf : PG.funcs[f]? = some F) (hc : F.body = some c) (hs : s.d = []) (hnf : ¬ isFail (xBody ih F (ih (.code f c (entry args) s)))) :
    SoundF Z f args s (xBody ih F (ih (.code f c (entry args) s))) := by
  have hr := hi (.code f c (entry args) s)
  generalize ih (.code f c (entry args) s) = r at hr hnf ⊢
  have hcode : ¬ isFail r → SoundC Z f c (entry args) s r := fun h => (hr h).1
  have start : ∀ {N1 M : Nat} {p : Z.T} {ρ : Rho} {w : World} {kind : CallKind} {cs : List Frame}, (∀ (b : Frame) (a : Act), b.fn = f → b.roundOf = none → b.kind = kind → AtC Z p ρ w (entry args) s b a cs → Z.fam p M (G (b.atR a [.code c]) cs) w) → (kind = .normal ∨ kind = .deferred) → WR (Z.cx p) ρ s.n s.h w → Glob ρ → (∀ v ∈ args, okV ρ v) → RK ρ s.rk kind none cs → Z.fam p M (G (Frame.enter PG f (args.map (tV ρ)).toArray kind) cs) w := by
    intro N1 M p ρ w kind cs h hk hw hg ha hrk
    rw [enter_eq hf hc]
    refine h _ _ rfl rfl rfl ⟨hw, fun t v hv => ?_, hg, ?_, ?_, hrk, hk⟩
    · rw [entry_get] at hv
      have hlt := (List.getElem?_eq_some_iff.1 hv).1
      refine ⟨ha v (List.mem_of_getElem? hv), ?_⟩
      rw [Array.getElem?_append_left (by simpa using hlt)]
      simp [hv]
    · rw [ntOf_eq hf]
      simp
      omega
    · exact ⟨by rw [hs]; simp, by rw [hs]; rfl⟩
  cases r with
  | norm e1 s1 =>
    obtain ⟨N1, h1⟩ := hcode (fun ⟨w, h⟩ => by cases h)
    obtain ⟨N2, h2⟩ := hi (.unwind F e1 s1.d none s1) hnf
    refine ⟨N1 + (1 + N2), fun p ρ w kind cs m hk hcs hw hg ha hrk hcont => start (N1 := 0) (fun b a hb hro hkind hat => ?_) hk hw hg ha hrk⟩
    rw [Nat.add_assoc]
    refine h1 p ρ w b a cs [] _ hb hat fun p' ρ' w' a' cs' hp hq hat' => ?_
    have e0 : 1 + N2 + m = (N2 + m) + 1 := by omega
    rw [e0]
    have hcs' : cs' ≠ [] := by
      rcases hq.rk with ⟨_, rfl⟩ | ⟨_, _, c', r, _, rfl⟩
      · exact hcs
      · simp
    have hdr := hat'.dr
    rw [hro] at hdr
    refine Z.go p' rfl fun p' w1 hw1 => have hp := Z.trans hp (Z.mv_le hw1); ⟨_, g_end hro, ?_⟩
    exact h2 p' ρ' w1 b a' cs' [] m (by rw [hb]; exact hf) hro (hkind ▸ hk) hcs' (Z.mv_wr hw1 hat'.wr) hat'.er hat'.glob hdr.1 hdr.2 (by simp) (hkind ▸ hcont.shift hp hq)
  | ret e1 s1 =>
    obtain ⟨N1, h1⟩ := hcode (fun ⟨w, h⟩ => by cases h)
    obtain ⟨N2, h2⟩ := hi (.unwind F e1 s1.d none s1) hnf
    refine ⟨N1 + (1 + N2), fun p ρ w kind cs m hk hcs hw hg ha hrk hcont => start (N1 := 0) (fun b a hb hro hkind hat => ?_) hk hw hg ha hrk⟩
    rw [Nat.add_assoc]
    refine h1 p ρ w b a cs [] _ hb hat fun p' ρ' w' a' cs' hp hq hat' k' => ?_
    have e0 : 1 + N2 + m = (N2 + m) + 1 := by omega
    rw [e0]
    have hcs' : cs' ≠ [] := by
      rcases hq.rk with ⟨_, rfl⟩ | ⟨_, _, c', r, _, rfl⟩
      · exact hcs
      · simp
    have hdr := hat'.dr
    rw [hro] at hdr
    refine Z.go p' rfl fun p' w1 hw1 => have hp := Z.trans hp (Z.mv_le hw1); ⟨_, g_ret hro, ?_⟩
    exact h2 p' ρ' w1 b a' cs' _ m (by rw [hb]; exact hf) hro (hkind ▸ hk) hcs' (Z.mv_wr hw1 hat'.wr) hat'.er hat'.glob hdr.1 hdr.2 (by simp) (hkind ▸ hcont.shift hp hq)
  | pan v e1 s1 =>
    obtain ⟨N1, h1⟩ := hcode (fun ⟨w, h⟩ => by cases h)
    obtain ⟨N2, h2⟩ := hi (.unwind F e1 s1.d (some v) s1) hnf
    refine ⟨N1 + N2, fun p ρ w kind cs m hk hcs hw hg ha hrk hcont => start (N1 := 0) (fun b a hb hro hkind hat => ?_) hk hw hg ha hrk⟩
    rw [Nat.add_assoc]
    refine h1 p ρ w b a cs [] _ hb hat fun p' ρ' w' a' cs' hp hq hat' hv todo _ => ?_
    have hcs' : cs' ≠ [] := by
      rcases hq.rk with ⟨_, rfl⟩ | ⟨_, _, c', r, _, rfl⟩
      · exact hcs
      · simp
    have hdr := hat'.dr
    rw [hro] at hdr
    exact h2 p' ρ' w' b a' cs' todo m (by rw [hb]; exact hf) hro (hkind ▸ hk) hcs' hat'.wr hat'.er hat'.glob hdr.1 hdr.2 (fun u hu => by cases hu; exact hv) (hkind ▸ hcont.shift hp hq)
  | exit id e1 s1 => exact absurd ⟨_, rfl⟩ hnf
  | val v s1 => exact absurd ⟨_, rfl⟩ hnf
  | fail w => exact absurd ⟨_, rfl⟩ hnf
end
end Go.Proofs.YtfpmbneglnoojaaGreatDoor.Ab
/- The way out of a function: deferred calls, marks, results, a panic that goes on. -/
namespace Go.Proofs.YtfpmbneglnoojaaGreatDoor.Ab
open Go Go.Conc
set_option maxRecDepth 100000
noncomputable section
variable {mn : Bool}
variable {Z : Phs} {ih : Req → Out}
variable {F : Func} {e : Env} {s : St}
def resT (tmps : Array Value) : ResultVar → Sem Value
  | .tmp t => pure (tmps.getD t undef)
  | .cell a t => do loadVar t (← asAddr (tmps.getD a undef))
theorem result1_ok {cx : Cx} {ρ : Rho} {w : World} (hr : WR cx ρ s.n s.h w) {tmps : Array Value} (he : ER ρ e tmps) {r : ResultVar} {v : Value} (h : result1 r e s = some v) :
    okV ρ v ∧ ∀ {E : Value → World → Prop} {Q : Value → World → Prop}, Q (tV ρ v) w → wpS PG cx E (resT tmps r) w Q := by
  cases r with
  | tmp t =>
    unfold result1 at h
    simp only [] at h
    cases hg : e.get t with
    | none => rw [hg] at h; cases h
    | some u =>
      rw [hg] at h
      cases h
      obtain ⟨h1, h2⟩ := he t _ hg
      refine ⟨h1, fun {E Q} hQ => ?_⟩
      unfold resT
      simp only [w_pure, Array.getD_eq_getD_getElem?, h2, Option.getD_some]
      exact hQ
  | cell x t =>
    unfold result1 at h
    simp only [] at h
    cases hg : e.get x with
    | none => rw [hg] at h; cases h
    | some u =>
      rw [hg] at h
      cases u with
      | pointer ad =>
        cases ad with
        | none => cases h
        | some ad =>
          simp only [] at h
          cases hl : loadAt t ad s with
          | fail w => rw [hl] at h; cases h
          | val v' n' h' =>
            rw [hl] at h
            cases h
            obtain ⟨h1, h2⟩ := he x _ hg
            simp only [okV] at h1
            obtain ⟨k1, k2, k3, k4⟩ := s_loadAt hr (h1 ad rfl) hl
            refine ⟨k3, fun {E Q} hQ => ?_⟩
            have e1 : tV ρ (.pointer (some ad)) = .pointer (some (tA ρ ad)) := by simp [tV]
            unfold resT
            simp only [Array.getD_eq_getD_getElem?, h2, Option.getD_some, e1, w_bind]
            exact k4 hQ
      | _ => cases h
theorem results1_ok {cx : Cx} {ρ : Rho} {w : World} (hr : WR cx ρ s.n s.h w) {tmps : Array Value} (he : ER ρ e tmps) : ∀ (l : List ResultVar) (vs : List Value), results1 l e s = some vs →
    (∀ v ∈ vs, okV ρ v) ∧ ∀ {E : Value → World → Prop} {Q : List Value → World → Prop}, Q (vs.map (tV ρ)) w → wpS PG cx E (l.mapM (resT tmps)) w Q
  | [], vs, h => by
    cases h
    refine ⟨by simp, fun {E Q} hQ => ?_⟩
    rw [List.mapM_nil]
    exact hQ
  | r :: l, vs, h => by
    have h' : (match result1 r e s with | none => none | some v => match results1 l e s with | none => none | some x => some (v :: x)) = some vs := h
    cases h1 : result1 r e s with
    | none => rw [h1] at h'; cases h'
    | some v =>
      rw [h1] at h'
      cases h2 : results1 l e s with
      | none => rw [h2] at h'; cases h'
      | some x =>
        rw [h2] at h'
        cases h'
        obtain ⟨k1, k2⟩ := result1_ok hr he h1
        obtain ⟨k3, k4⟩ := results1_ok hr he l x h2
        refine ⟨fun u hu => ?_, fun {E Q} hQ => ?_⟩
        · rcases List.mem_cons.1 hu with rfl | hu
          · exact k1
          · exact k3 u hu
        · rw [List.mapM_cons, w_bind]
          refine k2 ?_
          rw [w_bind]
          exact k4 hQ
theorem results_ok {cx : Cx} {ρ : Rho} {w : World} (hr : WR cx ρ s.n s.h w) {tmps : Array Value} (he : ER ρ e tmps) (hnf : ¬ isFail (results F e s)) :
    ∃ v, results F e s = .val v s ∧ okV ρ v ∧ ∀ {E : Value → World → Prop} {Q : Value → World → Prop}, Q (tV ρ v) w → wpS PG cx E (Go.results F tmps) w Q := by
  unfold results at hnf ⊢
  cases h : results1 F.results.toList e s with
  | none => rw [h] at hnf; exact absurd ⟨_, rfl⟩ hnf
  | some vs =>
    obtain ⟨k1, k2⟩ := results1_ok hr he _ vs h
    have hgo : ∀ {E : Value → World → Prop} {Q : Value → World → Prop}, Q (if h : (vs.map (tV ρ)).toArray.size = 1 then (vs.map (tV ρ)).toArray[0] else .tuple (vs.map (tV ρ)).toArray) w → wpS PG cx E (Go.results F tmps) w Q := by
      intro E Q hQ
      have hf : Go.results F tmps = (do let vs ← F.results.mapM (resT tmps); pure (if h : vs.size = 1 then vs[0] else .tuple vs)) := by
        unfold Go.results
        congr 2
      rw [hf, w_bind, Array.mapM_eq_mapM_toList, w_map]
      refine k2 ?_
      rw [w_pure]
      exact hQ
    rcases vs with _ | ⟨v, _ | ⟨u, r⟩⟩
    · exact ⟨_, rfl, by simp [okV], fun {E Q} hQ => hgo (by simpa [tV] using hQ)⟩
    · exact ⟨v, rfl, k1 v (by simp), fun {E Q} hQ => hgo (by simpa using hQ)⟩
    · refine ⟨_, rfl, ?_, fun {E Q} hQ => hgo ?_⟩
      · simp only [okV]
        exact fun x hx => k1 x (by simpa using hx)
      · have : tV ρ (.tuple ⟨v :: u :: r⟩) = .tuple ((v :: u :: r).map (tV ρ)).toArray := by
          simp only [tV]
          rw [tV_arr]
        rw [this] at hQ
        simpa using hQ
section steps
variable {cx : Cx} {b : Frame} {a : Act} {cs : List Frame} {todo : List Item} {w : World} {K : Goroutine → World → Array Event → Prop}
theorem g_results (hF : ∀ b, cx.F b → b < w.heap.size) (hf : PG.funcs[b.fn]? = some F) (hd : a.defers = []) (hk : b.kind = .normal ∨ b.kind = .deferred) (hcs : cs ≠ []) {E : Value → World → Prop} {Q : Value → World → Prop} (hE : ∀ v w, ¬ E v w) (hs : wpS PG cx E (Go.results F a.tmps) w Q)
    (hK : ∀ v w' es, Q v w' → Gw cx w w' → (∀ e ∈ es, EvOK cx w'.heap.size e) → K (back b.kind cs v) w' es) : (stepG PG mn (G { b.atR a todo with mode := .returning } cs) w).goes K := by
  obtain ⟨es', N, h1, h2⟩ := wpS_sound hF #[] hs
  have h3 : ∀ e ∈ seen PG b.fn es', EvOK cx N e := seen_ok fun e he => (h1 e he).resolve_left (by simp)
  rcases h2 with ⟨v, w', h4, h5, h6, rfl⟩ | ⟨v, w', h4, h5, h6, rfl⟩
  · obtain ⟨c, r, rfl⟩ : ∃ c r, cs = c :: r := by
      cases cs with
      | nil => exact absurd rfl hcs
      | cons c r => exact ⟨c, r, rfl⟩
    have := hK v w' _ h5 h6 h3
    rcases hk with hk | hk
    · simpa [G, stepG, unwind, Frame.atR, hd, hf, h4, doReturn, hk, GStep.after, back, -Sem.runT_eq] using this
    · rw [hk] at this
      simp [G, stepG, unwind, Frame.atR, hd, hf, h4, doReturn, hk, GStep.after, -Sem.runT_eq]
      exact this
  · exact absurd h5 (hE _ _)
theorem g_panicOut (hf : PG.funcs[b.fn]? = some F) (hd : a.defers = []) {c : Frame} {chain : List PanicEntry} : stepG PG mn (G { b.atR a todo with mode := .panicking chain } (c :: cs)) w = .go (G (c.raise chain) cs) w := by
  simp [G, stepG, unwind, Frame.atR, hd, hf, Frame.catches]
theorem invoke_run {f : FuncId} {fn : Func} {c : Code} {cap args : Array Value} {w : World} (hf : PG.funcs[f]? = some fn) (hc : fn.body = some c) : (invoke (.fn (.func f) cap) args).runT PG w #[] = (.ok (.enter f (args ++ cap)) w, #[]) := by
  unfold invoke callFunc
  show (Sem.runT PG (match PG.funcs[f]? with
    | none => stuck _
    | some fn => _) w #[]) = _
  rw [hf]
  simp only [not_NG hf, hc]
  rfl
theorem g_deferred {f : FuncId} {cap args : Array Value} {ds : List Deferred} (hF : ∀ b, cx.F b → b < w.heap.size) (hb : hasBody f = true) (hd : a.defers = { target := .fn (.func f) cap, args := args } :: ds) {mode : FrameMode} (hm : mode ≠ .run)
    (hK : K (G (Frame.enter PG f (args ++ cap) .deferred) ({ b.atR { tmps := a.tmps, defers := ds } todo with mode := mode } :: cs)) w #[]) : (stepG PG mn (G { b.atR a todo with mode := mode } cs) w).goes K := by
  unfold hasBody at hb
  cases hf : PG.funcs[f]? with
  | none => rw [hf] at hb; cases hb
  | some fn =>
    rw [hf] at hb
    obtain ⟨c, hc⟩ := Option.isSome_iff_exists.1 hb
    have hrun : (invoke (.fn (.func f) cap) args).runT PG w #[] = (.ok (.enter f (args ++ cap)) w, #[]) := invoke_run hf hc
    have hseen : seen PG b.fn #[] = #[] := by simp [seen]
    cases mode with
    | run => exact absurd rfl hm
    | _ => simpa [G, stepG, unwind, Frame.atR, hd, callDeferred, hrun, GStep.after, hseen, -Sem.runT_eq] using hK
end steps
theorem mode_ne (ρ : Rho) (pv : Option Value) : modeOf ρ pv ≠ .run := by cases pv <;> simp [modeOf]
theorem sound_unwind (hi : SoundI Z ih) {ds : List Deferred} {pv : Option Value} (hnf : ¬ isFail (xUnwind ih F e ds pv s)) : SoundU Z F e ds pv s (xUnwind ih F e ds pv s) := by
  cases ds with
  | nil =>
    cases pv with
    | none =>
      have hx : xUnwind ih F e [] none s = results F e s := rfl
      rw [hx] at hnf ⊢
      refine ⟨1, fun p ρ w b a cs todo m hf hro hk hcs hr he hg hds had hpv hc => ?_⟩
      rw [Nat.add_comm]
      refine Z.step p _ _ _ rfl fun p w1 hw => ?_
      replace hc := hc.shift (Z.mv_le hw) (Pst.refl _ _ _)
      have hr1 := Z.mv_wr hw hr
      obtain ⟨v, h1, h2, h3⟩ := results_ok hr1 he hnf
      refine g_results (cx := (Z.cx p)) (E := NoP) (Q := fun x w' => x = tV ρ v ∧ w' = w1) hr1.deep hf had hk hcs (fun _ _ h => h) (h3 ⟨rfl, rfl⟩) fun x w' es hq hG hE => ?_
      obtain ⟨rfl, rfl⟩ := hq
      refine ⟨hG, hE, ?_⟩
      have := hc p ρ w' cs (Z.refl p)
      rw [h1] at this
      exact this (Pst.refl _ _ _) hr1 h2
    | some v =>
      have hx : xUnwind ih F e [] (some v) s = .pan v e s := rfl
      rw [hx] at hnf ⊢
      refine ⟨1, fun p ρ w b a cs todo m hf hro hk hcs hr he hg hds had hpv hc => ?_⟩
      rw [Nat.add_comm]
      obtain ⟨c, r, rfl⟩ : ∃ c r, cs = c :: r := by
        cases cs with
        | nil => exact absurd rfl hcs
        | cons c r => exact ⟨c, r, rfl⟩
      refine Z.go p rfl fun p w1 hw => have hc := hc.shift (Z.mv_le hw) (Pst.refl _ _ _); ⟨_, g_panicOut hf had, ?_⟩
      exact hc p ρ w1 (c :: r) (Z.refl p) (Pst.refl _ _ _) (Z.mv_wr hw hr) (hpv v rfl)
  | cons d rest =>
    obtain ⟨t, args⟩ := d
    cases t with
    | fn fn' cap =>
      cases fn' with
      | func f =>
        have hx : xUnwind ih F e ({ target := .fn (.func f) cap, args := args } :: rest) pv s = cond (hasBody f) (xDeferred ih F e rest s.rk (ih (.call f (appL args.toList cap.toList) { n := s.n, h := s.h, d := [], rk := pv }))) (.fail "a deferred call of no Go function") := rfl
        rw [hx] at hnf ⊢
        cases hb : hasBody f with
        | false => rw [hb] at hnf; exact absurd ⟨_, rfl⟩ hnf
        | true =>
          rw [hb, cond_true] at hnf
          rw [cond_true]
          have hcall := hi (.call f (appL args.toList cap.toList) { n := s.n, h := s.h, d := [], rk := pv })
          generalize ih (.call f (appL args.toList cap.toList) { n := s.n, h := s.h, d := [], rk := pv }) = r at hcall hnf ⊢
          cases r with
          | val u s1 =>
            obtain ⟨N1, h1⟩ : SoundF Z f (appL args.toList cap.toList) { n := s.n, h := s.h, d := [], rk := pv } (.val u s1) := by
              have := hcall (fun ⟨w, h⟩ => by cases h)
              simp only [Sound, SoundCall, hb, if_true] at this
              exact this trivial
            have hun : SoundU Z F e rest (match s1.rk with | none => none | some v => some v) { n := s1.n, h := s1.h, d := s1.d, rk := s.rk } (xDeferred ih F e rest s.rk (.val u s1)) := by
              unfold xDeferred at hnf ⊢
              cases hrk : s1.rk with
              | none => simp only [hrk] at hnf ⊢; exact hi _ hnf
              | some v => simp only [hrk] at hnf ⊢; exact hi _ hnf
            generalize xDeferred ih F e rest s.rk (.val u s1) = out at hun hnf ⊢
            obtain ⟨N2, h2⟩ := hun
            refine ⟨N1 + N2 + 1, fun p ρ w b a cs todo m hf hro hk hcs hr he hg hds had hpv hc => ?_⟩
            have e0 : N1 + N2 + 1 + m = (N1 + (N2 + m)) + 1 := by omega
            rw [e0]
            refine Z.step p _ _ _ rfl fun p w1 hw => ?_
            replace hc := hc.shift (Z.mv_le hw) (Pst.refl _ _ _)
            have hr1 := Z.mv_wr hw hr
            obtain ⟨hd1, hd2⟩ := hds _ (List.mem_cons_self ..)
            simp only [] at hd2
            have had' : a.defers = { target := .fn (.func f) (cap.map (tV ρ)), args := args.map (tV ρ) } :: rest.map (tD ρ) := by
              rw [had]; rfl
            refine g_deferred (cx := (Z.cx p)) hr1.deep hb had' (mode_ne ρ pv) ⟨Gw.refl _ _, by simp, ?_⟩
            have eargs : args.map (tV ρ) ++ cap.map (tV ρ) = ((appL args.toList cap.toList).map (tV ρ)).toArray := by
              apply Array.ext'
              rw [appL_eq]
              simp
            rw [eargs]
            refine h1 p ρ w1 .deferred _ _ (.inr rfl) (by simp) hr1 hg (fun v hv => ?_) ?_ ?_
            · rw [appL_eq] at hv
              rcases List.mem_append.1 hv with h | h
              · exact hd1 v (by simpa using h)
              · exact hd2.2 v (by simpa using h)
            · cases pv with
              | none =>
                intro _ fr hfr
                unfold tryRecover
                rw [hfr]
                rfl
              | some v => exact ⟨rfl, rfl, hpv v rfl, _, _, rfl, rfl⟩
            · intro p' ρ' w' cs' hp hq hw' hu
              obtain ⟨q1, q2, q3, q4⟩ := hq
              have fin : ∀ pv', (∀ v, pv' = some v → okV ρ' v) → (match s1.rk with | none => none | some v => some v) = pv' → Z.fam p' (N2 + m) (G { b.atR { tmps := a.tmps, defers := rest.map (tD ρ) } todo with mode := modeOf ρ' pv' } cs) w' := by
                intro pv' hpv' hrk
                rw [hrk] at h2
                refine h2 p' ρ' w' b { tmps := a.tmps, defers := rest.map (tD ρ) } cs todo m hf hro hk hcs hw' (ER_mono q1 he) (hg.mono q1) (fun x hx => (okD_mono q1 (hds x (List.mem_cons_of_mem _ hx))).1) ?_ hpv' (hc.shift hp ⟨q1, q2, q3, CS.refl _ _⟩)
                exact List.map_congr_left fun x hx => ((okD_mono q1 (hds x (List.mem_cons_of_mem _ hx))).2).symm
              rcases q4 with ⟨hk1, rfl⟩ | ⟨⟨v, hv⟩, hk1, c, r, hcr, rfl⟩
              · simp only [] at hk1
                show Z.fam p' (N2 + m) (G (settle { b.atR { tmps := a.tmps, defers := rest.map (tD ρ) } todo with mode := modeOf ρ pv }) cs) w'
                have hset : settle { b.atR { tmps := a.tmps, defers := rest.map (tD ρ) } todo with mode := modeOf ρ pv } = { b.atR { tmps := a.tmps, defers := rest.map (tD ρ) } todo with mode := modeOf ρ' pv } := by
                  cases pv with
                  | none => rfl
                  | some v =>
                    have := (okV_mono q1 v (hpv v rfl)).2
                    simp only [modeOf, settle, this]
                rw [hset]
                refine fin pv (fun v hv => (okV_mono q1 v (hpv v hv)).1) ?_
                rw [hk1]
                cases pv <;> rfl
              · simp only [] at hv
                subst hv
                obtain ⟨rfl, rfl⟩ := List.cons.inj hcr
                exact fin none (by simp) (by rw [hk1])
          | fail w => exact absurd ⟨_, rfl⟩ hnf
          | _ => exact absurd ⟨_, rfl⟩ hnf
      | _ => exact absurd ⟨_, rfl⟩ hnf
    | collected bl =>
      have hx : xUnwind ih F e ({ target := .collected bl, args := args } :: rest) pv s = (match s.h.get bl with | some .defd => ih (.unwind F e rest pv { n := s.n, h := Tr.set .dead 40 bl s.h, d := s.d, rk := s.rk }) | _ => .fail "a mark among the deferred calls") := rfl
      rw [hx] at hnf ⊢
      cases hgb : s.h.get bl with
      | none => rw [hgb] at hnf; exact absurd ⟨_, rfl⟩ hnf
      | some o =>
        cases o with
        | defd =>
          simp only [hgb] at hnf ⊢
          obtain ⟨N, h1⟩ := hi _ hnf
          refine ⟨N + 1, fun p ρ w b a cs todo m hf hro hk hcs hr he hg hds had hpv hc => ?_⟩
          have e0 : N + 1 + m = (N + m) + 1 := by omega
          rw [e0]
          refine Z.step p _ _ _ rfl fun p w1 hw => ?_
          replace hc := hc.shift (Z.mv_le hw) (Pst.refl _ _ _)
          have hr1 := Z.mv_wr hw hr
          obtain ⟨hd1, hd2⟩ := hds _ (List.mem_cons_self ..)
          simp only [] at hd2
          obtain ⟨hbase, i, hbi⟩ := hd2
          have hbase' : (Z.cx p).base ≤ bl := by rw [(Z.base p)]; exact hbase
          have hheap : w1.heap[i.blk]? = some (.deferred (some [])) := hr1.obj bl i _ hbi hgb
          have hlive : live s.h bl := ⟨_, hgb, by simp⟩
          have hnF := hr1.low bl i hbi hbase' hlive
          have hput := hr1.put hbi hbase' hlive .dead (.deferred none) trivial
          have hbn := (hr1.dom bl i hbi).1
          have hsm := hr1.small
          have hs : wpS PG (Z.cx p) NoP (Instr.takeDeferred i.blk) w1 fun x w' => x = [] ∧ w' = { w1 with heap := w1.heap.setIfInBounds i.blk (.deferred none) } := by
            unfold Instr.takeDeferred
            rw [w_bind, w_getObj]
            refine ⟨(hr1.dom bl i hbi).2.2 hlive, _, hheap, rfl, ?_⟩
            simp only [w_bind, w_setObj, w_pure]
            exact ⟨⟨_, hheap, rfl⟩, hnF, trivial, trivial⟩
          obtain ⟨es', N, h3, h4⟩ := wpS_sound hr1.deep #[] hs
          have h5 : ∀ e ∈ seen PG b.fn es', EvOK (Z.cx p) N e := seen_ok fun e he => (h3 e he).resolve_left (by simp)
          rcases h4 with ⟨x, w', h6, ⟨rfl, rfl⟩, h8, rfl⟩ | ⟨_, _, _, hf, _⟩
          · have had' : a.defers = { target := .collected i.blk, args := args.map (tV ρ) } :: rest.map (tD ρ) := by
              rw [had]
              simp [tD, tT, tB, hbi]
            have hfin := h1 p ρ _ b { tmps := a.tmps, defers := rest.map (tD ρ) } cs todo m hf hro hk hcs hput he hg (fun x hx => hds x (List.mem_cons_of_mem _ hx)) rfl hpv (hc.shift (Z.refl p) ⟨ρ.le_refl, Nat.le_refl _, fun b' _ hb' hn' => ⟨hn', set_other (by omega) hbi hn'⟩, CS.refl _ _⟩)
            have hm := mode_ne ρ pv
            generalize modeOf ρ pv = mode at hm hfin ⊢
            cases mode with
            | run => exact absurd rfl hm
            | _ =>
              simp only [Array.size_setIfInBounds] at h5
              simpa [G, stepG, unwind, Frame.atR, had', h6, GStep.after, -Sem.runT_eq] using ⟨h8, h5, hfin⟩
          · exact hf.elim
        | _ => rw [hgb] at hnf; exact absurd ⟨_, rfl⟩ hnf
    | builtin bb ts ty cst =>
      have hx : xUnwind ih F e ({ target := .builtin bb ts ty cst, args := args } :: rest) pv s = xSpd ih F e rest pv s (ih (.spd { target := .builtin bb ts ty cst, args := args } s)) := rfl
      rw [hx] at hnf ⊢
      have hsp := hi (.spd { target := .builtin bb ts ty cst, args := args } s)
      generalize ih (.spd { target := .builtin bb ts ty cst, args := args } s) = r at hsp hnf ⊢
      cases r with
      | val v0 s1 =>
        obtain ⟨v, s', hval, N1, h1⟩ := hsp (fun ⟨w, h⟩ => by cases h)
        cases hval
        obtain ⟨N2, h2⟩ := hi _ hnf
        refine ⟨N1 + N2, fun p ρ w b a cs todo m hf hro hk hcs hr he hg hds had hpv hc => ?_⟩
        rw [Nat.add_assoc]
        refine h1 p ρ w b a cs todo (modeOf ρ pv) (rest.map (tD ρ)) (N2 + m) (mode_ne ρ pv) hk hr hg (hds _ (List.mem_cons_self ..)) (by rw [had]; rfl) fun p' ρ' w' hp hq hw' => ?_
        have hmode : modeOf ρ pv = modeOf ρ' pv := by
          cases pv with
          | none => rfl
          | some v => simp only [modeOf, (okV_mono hq.le v (hpv v rfl)).2]
        rw [hmode]
        refine h2 p' ρ' w' b { tmps := a.tmps, defers := rest.map (tD ρ) } cs todo m hf hro hk hcs hw' (ER_mono hq.le he) (hg.mono hq.le) (fun x hx => (okD_mono hq.le (hds x (List.mem_cons_of_mem _ hx))).1) ?_ (fun v hv => (okV_mono hq.le v (hpv v hv)).1) (hc.shift hp hq)
        exact List.map_congr_left fun x hx => ((okD_mono hq.le (hds x (List.mem_cons_of_mem _ hx))).2).symm
      | fail w => exact absurd ⟨_, rfl⟩ hnf
      | _ => exact absurd ⟨_, rfl⟩ hnf
    | _ => exact absurd ⟨_, rfl⟩ hnf
end
end Go.Proofs.YtfpmbneglnoojaaGreatDoor.Ab
/- Function values, called: Go functions, functions without a body, the rounds of a loop over a function. -/
namespace Go.Proofs.YtfpmbneglnoojaaGreatDoor.Ab
open Go Go.Conc
set_option maxRecDepth 100000
noncomputable section
variable {mn : Bool}
variable {Z : Phs} {ih : Req → Out}
variable {s : St}
theorem wp_enter {cx : Cx} {w : World} {f : FuncId} (hb : hasBody f = true) {args : Array Value} {E : Value → World → Prop} : wpS PG cx E (callFunc f args) w fun nx w' => nx = .enter f args ∧ w' = w := by
  unfold hasBody at hb
  cases hf : PG.funcs[f]? with
  | none => rw [hf] at hb; cases hb
  | some fn =>
    rw [hf] at hb
    obtain ⟨c, hc⟩ := Option.isSome_iff_exists.1 hb
    unfold callFunc
    rw [w_bind, w_program, hf]
    simp only [not_NG hf, hc, Bool.false_eq_true, if_false, Option.isNone_some, w_pure]
    exact ⟨trivial, trivial⟩
theorem RK.normal (ρ : Rho) (ro : Option Nat) (cs : List Frame) : RK ρ none .normal ro cs := by
  intro _ fr hfr
  unfold tryRecover
  rw [hfr]
theorem sound_func (hi : SoundI Z ih) {f : FuncId} {first cap : Array Value} {args : List Value} (hnf : ¬ isFail (ih (.call f (appL first.toList (appL args cap.toList)) s))) :
    SoundV Z (.func (.func f) first cap) args s (ih (.call f (appL first.toList (appL args cap.toList)) s)) := by
  intro hd hk
  refine ⟨_, _, _, rfl, ?_⟩
  have hcall := hi _ hnf
  generalize ih (.call f (appL first.toList (appL args cap.toList)) s) = out at hcall hnf ⊢
  have hargs : ∀ ρ, first.map (tV ρ) ++ (args.map (tV ρ)).toArray ++ cap.map (tV ρ) = ((appL first.toList (appL args cap.toList)).map (tV ρ)).toArray := fun ρ => by
    apply Array.ext'
    rw [appL_eq, appL_eq]
    simp
  have hoks : ∀ ρ, okV ρ (.func (.func f) first cap) → (∀ v ∈ args, okV ρ v) → ∀ v ∈ appL first.toList (appL args cap.toList), okV ρ v := fun ρ h1 h2 v hv => by
    simp only [okV] at h1
    rw [appL_eq, appL_eq] at hv
    rcases List.mem_append.1 hv with h | h
    · exact h1.2.1 v (by simpa using h)
    · rcases List.mem_append.1 h with h | h
      · exact h2 v h
      · exact h1.2.2 v (by simpa using h)
  simp only [Sound, SoundCall] at hcall
  by_cases hb : hasBody f = true
  · rw [if_pos hb] at hcall
    obtain ⟨N, h1⟩ := hcall hd
    refine ⟨N, fun p ρ w fr cs m hkind ht hr hg hfv ha hc => ?_⟩
    have hinv : invoke (.fn (tFn ρ (.func f)) (cap.map (tV ρ))) (first.map (tV ρ) ++ (args.map (tV ρ)).toArray) = callFunc f (first.map (tV ρ) ++ (args.map (tV ρ)).toArray ++ cap.map (tV ρ)) := rfl
    rw [hinv, hargs]
    refine apply_go hr.deep hkind ht (wp_enter hb (E := NoP)) (fun nx w' es hq hG hE => ?_) fun v w' es hf => hf.elim
    obtain ⟨rfl, rfl⟩ := hq
    exact ⟨hG, hE, h1 p ρ w' .normal (fr :: cs) m (.inl rfl) (by simp) hr hg (hoks ρ hfv ha) (by rw [hk]; exact RK.normal _ _ _) hc⟩
  · rw [if_neg hb] at hcall
    obtain ⟨v, s', rfl, hrk, h1⟩ := hcall
    refine ⟨0, fun p ρ w fr cs m hkind ht hr hg hfv ha hc => ?_⟩
    have hinv : invoke (.fn (tFn ρ (.func f)) (cap.map (tV ρ))) (first.map (tV ρ) ++ (args.map (tV ρ)).toArray) = callFunc f (first.map (tV ρ) ++ (args.map (tV ρ)).toArray ++ cap.map (tV ρ)) := rfl
    rw [hinv, hargs]
    refine apply_go hr.deep hkind ht (h1 (Z.cx p) ρ w hr (hoks ρ hfv ha)) (fun nx w' es hq hG hE => ?_) fun v w' es hf => hf.elim
    obtain ⟨x, rfl, ρ', q1, rfl, q3, q4, q5, q6⟩ := hq
    refine ⟨hG, hE, ?_⟩
    rw [Nat.zero_add]
    exact hc p ρ' w' (fr :: cs) (Z.refl p) ⟨q1, q5, fun b _ => q6 b, by rw [hrk]; exact CS.refl _ _⟩ q4 q3
/-! the rounds of a loop over a function -/
theorem setParams_ok {ρ : Rho} : ∀ (ps : List Tmp) (args : List Value) (e e' : Env) (tmps : Array Value), setParams ps args e = some e' → ER ρ e tmps → (∀ v ∈ args, okV ρ v) → (∀ t ∈ ps, t < tmps.size) →
    args.length = ps.length ∧ ER ρ e' ((ps.zip (args.map (tV ρ))).foldl (fun tmps p => tmps.setIfInBounds p.1 p.2) tmps) ∧ ((ps.zip (args.map (tV ρ))).foldl (fun tmps p => tmps.setIfInBounds p.1 p.2) tmps).size = tmps.size
  | [], [], e, e', tmps, h, he, _, _ => by
    cases h
    exact ⟨rfl, he, rfl⟩
  | [], a :: l, e, e', tmps, h, _, _, _ => by cases h
  | p :: ps, [], e, e', tmps, h, _, _, _ => by cases h
  | p :: ps, a :: l, e, e', tmps, h, he, ha, hp => by
    have h' : setParams ps l (.cons p a e) = some e' := h
    have he' : ER ρ (.cons p a e) (tmps.setIfInBounds p (tV ρ a)) := by
      have := ER.put (d := some p) (a := { tmps := tmps, defers := [] }) he (ha a (by simp)) (fun t ht => by cases ht; exact hp p (by simp))
      exact this
    obtain ⟨h1, h2, h3⟩ := setParams_ok ps l _ e' (tmps.setIfInBounds p (tV ρ a)) h' he' (fun v hv => ha v (by simp [hv])) (fun t ht => by simpa using hp t (by simp [ht]))
    refine ⟨by simp [h1], h2, ?_⟩
    show ((ps.zip (l.map (tV ρ))).foldl _ (tmps.setIfInBounds p (tV ρ a))).size = _
    rw [h3]
    simp
theorem beginRound_fin {b : Frame} {a : Act} {k : List Item} (x : Value) : (b.atR a (.beginRound :: k)).finish x = b.atR a k := rfl
section
variable {b : Frame} {a : Act} {cs : List Frame} {w : World} {K : Goroutine → World → Array Event → Prop} {cx : Cx}
theorem g_beginRound {k : List Item} {L : Nat} (hb : b.roundOf = some L) : stepG PG mn (G (b.atR a (.beginRound :: k)) cs) w = stepG.apply PG true (b.atR a (.beginRound :: k)) cs none (do Instr.beginRound L; pure .skip) w := by
  simp [G, stepG, stepG.exec, Frame.atR, hb]
/-- the ends of a round -/
def roundEnd (todo : List Item) (jump : Option Code) : Prop := (todo = [] ∧ jump = none) ∨ (∃ k, todo = .code .ret :: k ∧ jump = some .ret) ∨ ∃ id k, todo = .code (.exit id) :: k ∧ exitTo id k = none ∧ jump = some (.exit id)
theorem g_endRound {todo : List Item} {jump : Option Code} {L : Nat} {c : Frame} (hF : ∀ b, cx.F b → b < w.heap.size) (ht : roundEnd todo jump) (hb : b.roundOf = some L) (hk : b.kind = .normal) {Q : Value → World → Prop} (hs : wpS PG cx NoP (Instr.endRound L jump) w Q)
    (hK : ∀ v w' es, Q v w' → Gw cx w w' → (∀ e ∈ es, EvOK cx w'.heap.size e) → K (G (c.finish v) cs) w' es) : (stepG PG mn (G (b.atR a todo) (c :: cs)) w).goes K := by
  obtain ⟨es', N, h1, h2⟩ := wpS_sound hF #[] hs
  have h3 : ∀ e ∈ seen PG b.fn es', EvOK cx N e := seen_ok fun e he => (h1 e he).resolve_left (by simp)
  rcases h2 with ⟨v, w', h4, h5, h6, rfl⟩ | ⟨v, w', h4, h5, h6, rfl⟩
  · have := hK v w' _ h5 h6 h3
    rcases ht with ⟨rfl, rfl⟩ | ⟨k, rfl, rfl⟩ | ⟨id, k, rfl, he, rfl⟩
    · simpa [G, stepG, stepG.exec, Frame.atR, hb, h4, doReturn, hk, GStep.after, -Sem.runT_eq] using this
    · simpa [G, stepG, stepG.exec, Frame.atR, hb, h4, doReturn, hk, GStep.after, -Sem.runT_eq] using this
    · simpa [G, stepG, stepG.exec, Frame.atR, hb, h4, doReturn, hk, GStep.after, he, -Sem.runT_eq] using this
  · exact h5.elim
theorem g_panicRound {chain : List PanicEntry} {c : Frame} {todo : List Item} (hn : noCall todo) (hd : a.defers = []) : stepG PG mn (G { b.atR a todo with mode := .panicking chain } (c :: cs)) w = .go (G (c.raise chain) cs) w := by
  have hc : Frame.catches PG { b.atR a todo with mode := .panicking chain } = false := by
    unfold Frame.catches
    split
    · rename_i h1 h2
      have h3 : todo = _ := h2
      rw [h3] at hn
      exact hn.elim
    · rfl
  simp only [Frame.atR, hd] at hc
  simp [G, stepG, unwind, Frame.atR, hd, hc]
end
/-- a loop's object is turned -/
theorem put_loop {cx : Cx} {ρ : Rho} {n : Nat} {h : Tr AObj} {w : World} (hbase : cx.base = BASE) (hr : WR cx ρ n h w) {l : Nat} {i : Img} (hl : ρ l = some i) (hb : BASE ≤ l) {st : LoopState} {pend : Option Code} {fn : FuncId} {env : Env} {params : Array Tmp} {assign body : Code}
    (hg : h.get l = some (.loop st pend fn env params assign body)) : ∃ r : Loop, w.heap[i.blk]? = some (.loop r) ∧ r.state = st ∧ r.pending = pend ∧ r.fn = fn ∧ r.params = params ∧ r.assign = assign ∧ r.body = body ∧ ER ρ env r.tmps ∧ ntOf fn ≤ r.tmps.size ∧ okParams fn params.toList = true ∧ ¬ cx.F i.blk ∧
      ∀ st' pend', WR cx ρ n (Tr.set (.loop st' pend' fn env params assign body) 40 l h) { w with heap := w.heap.setIfInBounds i.blk (.loop { r with state := st', pending := pend' }) } := by
  obtain ⟨tmps, d, h1, h2, h3, h4⟩ := hr.obj l i _ hl hg
  have hb' : cx.base ≤ l := by rw [hbase]; exact hb
  have hlt := (hr.dom l i hl).2.1
  refine ⟨_, h1, rfl, rfl, rfl, rfl, rfl, rfl, h2, h3, h4, hr.low l i hl hb' ⟨_, hg, by simp⟩, fun st' pend' => ?_⟩
  exact hr.put hl hb' ⟨_, hg, by simp⟩ _ _ ⟨tmps, d, by simp [hlt], h2, h3, h4⟩
theorem w_getLoop {cx : Cx} {w : World} {L : Nat} {r : Loop} (hC : ¬ cx.C L) (h : w.heap[L]? = some (.loop r)) {E : Value → World → Prop} {Q : Loop → World → Prop} (hQ : Q r w) : wpS PG cx E (Instr.getLoop L) w Q := by
  unfold Instr.getLoop
  rw [w_bind, w_getObj]
  exact ⟨hC, _, h, rfl, hQ⟩
/-- how a round ends: the evaluator's word -/
theorem xRound2_ok {l : Nat} {r : Out} (hnf : ¬ isFail (xRound2 l r)) : (∃ (st : LoopState) (jump : Option Code) (e : Env) (s' : St) (st0 : LoopState) (p0 : Option Code) (fn : FuncId) (env : Env) (params : Array Tmp) (assign body : Code),
      ((r = .norm e s' ∧ jump = none) ∨ (r = .ret e s' ∧ jump = some .ret) ∨ ∃ id, r = .exit id e s' ∧ jump = some (.exit id)) ∧ st = (if jump.isNone then .ready else .done) ∧ s'.h.get l = some (.loop st0 p0 fn env params assign body) ∧
      xRound2 l r = .val (.bool jump.isNone) (setLoop l (.loop st jump fn env params assign body) s')) ∨ ∃ v e s', r = .pan v e s' ∧ xRound2 l r = .pan v e s' := by
  have key : ∀ (bb : Bool) (st : LoopState) (jump : Option Code) (s' : St), ¬ isFail (xRound3 l bb st jump s' (s'.h.get l)) → ∃ (st0 : LoopState) (p0 : Option Code) (fn : FuncId) (env : Env) (params : Array Tmp) (assign body : Code), s'.h.get l = some (.loop st0 p0 fn env params assign body) ∧ xRound3 l bb st jump s' (s'.h.get l) = .val (.bool bb) (setLoop l (.loop st jump fn env params assign body) s') := by
    intro bb st jump s' h
    cases hg : s'.h.get l with
    | none => rw [hg] at h; exact absurd ⟨_, rfl⟩ h
    | some o =>
      cases o with
      | loop st0 p0 fn env params assign body => exact ⟨st0, p0, fn, env, params, assign, body, rfl, rfl⟩
      | _ => rw [hg] at h; exact absurd ⟨_, rfl⟩ h
  cases r with
  | norm e s' =>
    obtain ⟨st0, p0, fn, env, params, assign, body, h1, h2⟩ := key true .ready none s' hnf
    exact .inl ⟨.ready, none, e, s', st0, p0, fn, env, params, assign, body, .inl ⟨rfl, rfl⟩, rfl, h1, h2⟩
  | exit id e s' =>
    obtain ⟨st0, p0, fn, env, params, assign, body, h1, h2⟩ := key false .done (some (.exit id)) s' hnf
    exact .inl ⟨.done, some (.exit id), e, s', st0, p0, fn, env, params, assign, body, .inr (.inr ⟨id, rfl, rfl⟩), rfl, h1, h2⟩
  | ret e s' =>
    obtain ⟨st0, p0, fn, env, params, assign, body, h1, h2⟩ := key false .done (some .ret) s' hnf
    exact .inl ⟨.done, some .ret, e, s', st0, p0, fn, env, params, assign, body, .inr (.inl ⟨rfl, rfl⟩), rfl, h1, h2⟩
  | pan v e s' => exact .inr ⟨v, e, s', rfl, rfl⟩
  | val v s' => exact absurd ⟨_, rfl⟩ hnf
  | fail w => exact absurd ⟨_, rfl⟩ hnf
theorem CS.none {cs cs' : List Frame} {rk' : Option Value} (h : CS none cs rk' cs') : rk' = none ∧ cs' = cs := by
  rcases h with h | ⟨⟨v, hv⟩, _⟩
  · exact h
  · cases hv
theorem sound_yield (hi : SoundI Z ih) {l : Nat} {first cap : Array Value} {args : List Value} (hnf : ¬ isFail (xYield ih l (appL first.toList args) s (s.h.get l))) :
    SoundV Z (.func (.yield l) first cap) args s (xYield ih l (appL first.toList args) s (s.h.get l)) := by
  intro hd hk
  refine ⟨_, _, _, rfl, ?_⟩
  generalize hA : appL first.toList args = A at hnf ⊢
  cases hg : s.h.get l with
  | none => rw [hg] at hnf; exact absurd ⟨_, rfl⟩ hnf
  | some o =>
    rw [hg] at hnf
    cases o with
    | loop st0 pend0 fn env params assign body =>
      have hx : xYield ih l A s (some (.loop st0 pend0 fn env params assign body)) = cond (Nat.ble BASE l) (xYield1 ih l s fn assign body (setParams params.toList A env)) (.fail "yield") := rfl
      rw [hx] at hnf ⊢
      cases hbl : Nat.ble BASE l with
      | false => rw [hbl] at hnf; exact absurd ⟨_, rfl⟩ hnf
      | true =>
        rw [hbl, cond_true] at hnf
        rw [cond_true]
        have hbl' : BASE ≤ l := by simpa using hbl
        cases hsp : setParams params.toList A env with
        | none => rw [hsp] at hnf; exact absurd ⟨_, rfl⟩ hnf
        | some e0 =>
          rw [hsp] at hnf
          have hy : xYield1 ih l s fn assign body (some e0) = xRound1 ih l fn body (ih (.code fn assign e0 { n := s.n, h := s.h, d := [poison l], rk := none })) := rfl
          rw [hy] at hnf ⊢
          have hi1 := hi (.code fn assign e0 { n := s.n, h := s.h, d := [poison l], rk := none })
          generalize ih (.code fn assign e0 { n := s.n, h := s.h, d := [poison l], rk := none }) = r1 at hi1 hnf ⊢
          cases r1 with
          | norm e1 s1 =>
            obtain ⟨N1, h1⟩ := (hi1 (fun ⟨w, h⟩ => by cases h)).1
            have hz : xRound1 ih l fn body (.norm e1 s1) = (match s1.h.get l with
              | some (.loop .ready pend fn' env params assign body') => xRound2 l (ih (.code fn body e1 (setLoop l (.loop .busy pend fn' env params assign body') s1)))
              | _ => .fail "round") := rfl
            rw [hz] at hnf ⊢
            cases hg1 : s1.h.get l with
            | none => rw [hg1] at hnf; exact absurd ⟨_, rfl⟩ hnf
            | some o1 =>
              rw [hg1] at hnf
              cases o1 with
              | loop st1 pend1 fn1 env1 params1 assign1 body1 =>
                cases st1 with
                | ready =>
                  simp only [] at hnf ⊢
                  have hi2 := hi (.code fn body e1 (setLoop l (.loop .busy pend1 fn1 env1 params1 assign1 body1) s1))
                  generalize ih (.code fn body e1 (setLoop l (.loop .busy pend1 fn1 env1 params1 assign1 body1) s1)) = r2 at hi2 hnf ⊢
                  have hnf2 : ¬ isFail r2 := fun ⟨w, h⟩ => hnf ⟨w, by rw [h]; rfl⟩
                  obtain ⟨N2, h2⟩ := (hi2 hnf2).1
                  refine ⟨N1 + 1 + N2 + 1, fun p ρ w fr cs m hkind ht hr hgl hfv ha hc => ?_⟩
                  simp only [okV] at hfv
                  obtain ⟨i, hli⟩ := hfv.1 l rfl
                  obtain ⟨L0, j1, j2, j3, j4, j5, j6, j7, j8, j9, j10, j11, j12⟩ := put_loop (Z.base p) hr hli hbl' hg
                  have hAok : ∀ v ∈ A, okV ρ v := fun v hv => by
                    rw [← hA, appL_eq] at hv
                    rcases List.mem_append.1 hv with h | h
                    · exact hfv.2.1 v (by simpa using h)
                    · exact ha v h
                  have hps : ∀ t ∈ params.toList, t < L0.tmps.size := fun t htm => by
                    have := List.all_eq_true.1 j10 t htm
                    have : t < ntOf fn := by simpa using this
                    exact Nat.lt_of_lt_of_le this j9
                  obtain ⟨k1, k2, k3⟩ := setParams_ok params.toList A env e0 L0.tmps hsp j8 hAok hps
                  have hargs : first.map (tV ρ) ++ (args.map (tV ρ)).toArray = (A.map (tV ρ)).toArray := by
                    apply Array.ext'
                    rw [← hA, appL_eq]
                    simp
                  have hinv : invoke (.fn (tFn ρ (.yield l)) (cap.map (tV ρ))) (first.map (tV ρ) ++ (args.map (tV ρ)).toArray) = Instr.yield i.blk (first.map (tV ρ) ++ (args.map (tV ρ)).toArray) := by
                    simp [invoke, tFn, tB, hli]
                  rw [hinv, hargs]
                  have hwp : wpS PG (Z.cx p) NoP (Instr.yield i.blk (A.map (tV ρ)).toArray) w fun nx w' => nx = .round i.blk fn ((params.toList.zip (A.map (tV ρ))).foldl (fun tmps p => tmps.setIfInBounds p.1 p.2) L0.tmps) assign body ∧ w' = w := by
                    unfold Instr.yield
                    rw [w_bind]
                    refine w_getLoop (fun hc => j11 (Cx.sub _ _ hc)) j1 ?_
                    rw [if_neg (by rw [j5]; simpa using k1), w_pure]
                    refine ⟨?_, rfl⟩
                    rw [j4, j5, j6, j7]
                    congr 1
                    rw [← Array.foldl_toList]
                    simp
                  refine apply_go hr.deep hkind ht hwp (fun nx w' es hq hG hE => ?_) fun v w' es hf => hf.elim
                  obtain ⟨rfl, rfl⟩ := hq
                  refine ⟨hG, hE, ?_⟩
                  generalize (params.toList.zip (A.map (tV ρ))).foldl (fun tmps p => tmps.setIfInBounds p.1 p.2) L0.tmps = tm at k2 k3
                  have hfr : Frame.round i.blk fn tm assign body .normal = Frame.atR { fn := fn, tmps := #[], todo := [], defers := [], mode := .run, kind := .normal, roundOf := some i.blk } { tmps := tm, defers := [] } [.code assign, .beginRound, .code body] := rfl
                  rw [hfr]
                  generalize hbb : ({ fn := fn, tmps := #[], todo := [], defers := [], mode := .run, kind := .normal, roundOf := some i.blk } : Frame) = b
                  have hb1 : b.fn = fn := by rw [← hbb]
                  have hb2 : b.roundOf = some i.blk := by rw [← hbb]
                  have hb3 : b.kind = .normal := by rw [← hbb]
                  have e0' : N1 + 1 + N2 + 1 + m = N1 + ((N2 + (m + 1)) + 1) := by omega
                  rw [e0']
                  have hat : AtC Z p ρ w' e0 { n := s.n, h := s.h, d := [poison l], rk := none } b { tmps := tm, defers := [] } (fr :: cs) := by
                    refine ⟨hr, k2, hgl, by rw [hb1, k3]; exact j9, ?_, ?_, .inl hb3⟩
                    · rw [hb2]; exact ⟨l, i, rfl, hli, rfl, rfl⟩
                    · rw [hb3]; exact RK.normal _ _ _
                  refine h1 p ρ w' b _ (fr :: cs) _ _ hb1 hat ?_
                  intro p1 ρ1 w1 a1 cs1 hp1 hq1 hat1
                  obtain ⟨hrk1, rfl⟩ := CS.none hq1.rk
                  refine Z.step p1 _ _ _ rfl fun p1 w2 hw2 => ?_
                  replace hp1 := Z.trans hp1 (Z.mv_le hw2)
                  have hr2 := Z.mv_wr hw2 hat1.wr
                  have hli1 := hq1.le _ _ hli
                  obtain ⟨L1, q1, q2, q3, q4, q5, q6, q7, q8, q9, q10, q11, q12⟩ := put_loop (Z.base p1) hr2 hli1 hbl' hg1
                  rw [g_beginRound hb2]
                  have hwp2 : wpS PG (Z.cx p1) NoP (do Instr.beginRound i.blk; pure Next.skip) w2 fun nx w' => nx = .skip ∧ w' = { w2 with heap := w2.heap.setIfInBounds i.blk (.loop { L1 with state := .busy }) } := by
                    unfold Instr.beginRound
                    rw [w_bind, w_bind]
                    refine w_getLoop (fun hc => q11 (Cx.sub _ _ hc)) q1 ?_
                    rw [w_bind, w_setObj]
                    refine ⟨⟨_, q1, rfl⟩, q11, ?_⟩
                    rw [q2]
                    exact ⟨rfl, rfl⟩
                  refine apply_go hr2.deep (.inl hb3) (by simp [plainTodo, Frame.atR]) hwp2 (fun nx w' es hq hG hE => ?_) fun v w' es hf => hf.elim
                  obtain ⟨rfl, rfl⟩ := hq
                  refine ⟨hG, hE, ?_⟩
                  rw [beginRound_fin]
                  have hr3 := q12 .busy L1.pending
                  have hs1l : l < s1.n := (hr2.dom l i hli1).1
                  have hsm1 := hr2.small
                  have hP1 : Pst ρ1 s1 (fr :: cs) ρ1 (setLoop l (.loop .busy pend1 fn1 env1 params1 assign1 body1) s1) (fr :: cs) := ⟨ρ1.le_refl, Nat.le_refl _, fun b' _ hb' hn' => ⟨hn', set_other (by omega) hli1 hn'⟩, CS.refl _ _⟩
                  rw [q3] at hr3
                  have hat2 : AtC Z p1 ρ1 { w2 with heap := w2.heap.setIfInBounds i.blk (.loop { L1 with state := .busy }) } e1 (setLoop l (.loop .busy pend1 fn1 env1 params1 assign1 body1) s1) b a1 (fr :: cs) := by
                    refine ⟨?_, hat1.er, hat1.glob, hat1.nt, hat1.dr, hat1.rk, hat1.kind⟩
                    have : ({ L1 with state := .busy } : Loop) = { L1 with state := .busy, pending := pend1 } := by rw [← q3]
                    rw [this]
                    exact hr3
                  refine h2 p1 ρ1 _ b a1 (fr :: cs) [] (m + 1) hb1 hat2 ?_
                  have hQ01 : Pst ρ s (fr :: cs) ρ1 (setLoop l (.loop .busy pend1 fn1 env1 params1 assign1 body1) s1) (fr :: cs) := by
                    have h1 : Pst ρ s (fr :: cs) ρ1 s1 (fr :: cs) := ⟨hq1.le, hq1.n, hq1.keep, by rw [hrk1, hk]; exact CS.refl _ _⟩
                    exact h1.trans hP1
                  rcases xRound2_ok hnf with ⟨st, jump, e3, s3, st0', p0', fn3, env3, params3, assign3, body3, hcase, hst, hg3, hval⟩ | ⟨v, e3, s3, rfl, hval⟩
                  · rw [hval] at hc
                    have fin : ∀ (p3 : Z.T) (ρ3 : Rho) (w3 : World) (a3 : Act) (cs3 : List Frame) (todo : List Item), Z.le p1 p3 → Pst ρ1 (setLoop l (.loop .busy pend1 fn1 env1 params1 assign1 body1) s1) (fr :: cs) ρ3 s3 cs3 → AtC Z p3 ρ3 w3 e3 s3 b a3 cs3 → roundEnd todo jump → Z.fam p3 (m + 1) (G (b.atR a3 todo) cs3) w3 := by
                      intro p3 ρ3 w3 a3 cs3 todo hp3 hq3 hat3 hre
                      have hrk' : (setLoop l (.loop .busy pend1 fn1 env1 params1 assign1 body1) s1).rk = none := hrk1
                      have hcs3 := hq3.rk
                      rw [hrk'] at hcs3
                      obtain ⟨hrk3, rfl⟩ := CS.none hcs3
                      refine Z.step p3 _ _ _ rfl fun p3 w4 hw4 => ?_
                      replace hp3 := Z.trans hp3 (Z.mv_le hw4)
                      have hr4 := Z.mv_wr hw4 hat3.wr
                      have hli3 := hq3.le _ _ hli1
                      obtain ⟨L3, u1, u2, u3, u4, u5, u6, u7, u8, u9, u10, u11, u12⟩ := put_loop (Z.base p3) hr4 hli3 hbl' hg3
                      have hwp3 : wpS PG (Z.cx p3) NoP (Instr.endRound i.blk jump) w4 fun v w' => v = .bool jump.isNone ∧ w' = { w4 with heap := w4.heap.setIfInBounds i.blk (.loop { L3 with state := st, pending := jump }) } := by
                        unfold Instr.endRound
                        rw [w_bind]
                        refine w_getLoop (fun hc => u11 (Cx.sub _ _ hc)) u1 ?_
                        rw [w_bind, w_setObj]
                        refine ⟨⟨_, u1, rfl⟩, u11, ?_⟩
                        rw [hst]
                        exact ⟨rfl, rfl⟩
                      refine g_endRound hr4.deep hre hb2 hb3 hwp3 fun v w' es hq hG hE => ?_
                      obtain ⟨rfl, rfl⟩ := hq
                      refine ⟨hG, hE, ?_⟩
                      have hP3 : Pst ρ3 s3 (fr :: cs) ρ3 (setLoop l (.loop st jump fn3 env3 params3 assign3 body3) s3) (fr :: cs) := by
                        have hlt := (hr4.dom l i hli3).1
                        have hsm := hr4.small
                        exact ⟨ρ3.le_refl, Nat.le_refl _, fun b' _ hb' hn' => ⟨hn', set_other (by omega) hli3 hn'⟩, CS.refl _ _⟩
                      have := hc p3 ρ3 _ (fr :: cs) (Z.trans hp1 hp3) ((hQ01.trans hq3).trans hP3) (u12 st jump) (by simp [okV])
                      have e1 : tV ρ3 (.bool jump.isNone) = .bool jump.isNone := by simp [tV]
                      rw [e1] at this
                      exact this
                    rcases hcase with ⟨rfl, rfl⟩ | ⟨rfl, rfl⟩ | ⟨id, rfl, rfl⟩
                    · intro p3 ρ3 w3 a3 cs3 hp3 hq3 hat3
                      exact fin p3 ρ3 w3 a3 cs3 [] hp3 hq3 hat3 (.inl ⟨rfl, rfl⟩)
                    · intro p3 ρ3 w3 a3 cs3 hp3 hq3 hat3 k'
                      exact fin p3 ρ3 w3 a3 cs3 _ hp3 hq3 hat3 (.inr (.inl ⟨_, rfl, rfl⟩))
                    · intro p3 ρ3 w3 a3 cs3 hp3 hq3 hat3 k' hk'
                      exact fin p3 ρ3 w3 a3 cs3 _ hp3 hq3 hat3 (.inr (.inr ⟨id, k', rfl, hk', rfl⟩))
                  · rw [hval] at hc
                    intro p3 ρ3 w3 a3 cs3 hp3 hq3 hat3 hv todo hnc
                    have hrk' : (setLoop l (.loop .busy pend1 fn1 env1 params1 assign1 body1) s1).rk = none := hrk1
                    have hcs3 := hq3.rk
                    rw [hrk'] at hcs3
                    obtain ⟨hrk3, rfl⟩ := CS.none hcs3
                    have hdr3 := hat3.dr
                    rw [hb2] at hdr3
                    obtain ⟨_, _, _, _, _, hdef⟩ := hdr3
                    refine Z.go p3 rfl fun p3 w4 hw4 => have hp3 := Z.trans hp3 (Z.mv_le hw4); ⟨_, g_panicRound hnc hdef, ?_⟩
                    exact hc p3 ρ3 w4 (fr :: cs) (Z.trans hp1 hp3) (hQ01.trans hq3) (Z.mv_wr hw4 hat3.wr) hv
                | _ => exact absurd ⟨_, rfl⟩ hnf
              | _ => exact absurd ⟨_, rfl⟩ hnf
          | _ => exact absurd ⟨_, rfl⟩ hnf
    | _ => exact absurd ⟨_, rfl⟩ hnf
end
end Go.Proofs.YtfpmbneglnoojaaGreatDoor.Ab
/- A loop over a function. -/
namespace Go.Proofs.YtfpmbneglnoojaaGreatDoor.Ab
open Go Go.Conc
set_option maxRecDepth 100000
noncomputable section
variable {mn : Bool}
variable {Z : Phs} {ih : Req → Out}
variable {e : Env} {s : St}
theorem keep_get : ∀ (l : List Nat) (e : Env) (t : Nat) (v : Value), (keep l e).get t = some v → e.get t = some v
  | [], e, t, v, h => by cases h
  | x :: l, e, t, v, h => by
    have hx : keep (x :: l) e = (match keep l e with
      | .nil => (match e.get x with | some v => .cons x v .nil | none => .nil)
      | .cons u w r => (match e.get x with | some v => .cons x v (.cons u w r) | none => .cons u w r)) := rfl
    have key : keep (x :: l) e = (match e.get x with | some v => .cons x v (keep l e) | none => keep l e) := by
      rw [hx]
      cases keep l e <;> cases e.get x <;> rfl
    rw [key] at h
    cases hg : e.get x with
    | none => rw [hg] at h; exact keep_get l e t v h
    | some u =>
      rw [hg] at h
      simp only [] at h
      rw [Env.get_cons] at h
      by_cases ht : x = t
      · subst ht
        rw [if_pos rfl] at h
        rw [hg]
        exact h
      · rw [if_neg ht] at h
        exact keep_get l e t v h
theorem prune_get {fn : FuncId} {e : Env} {t : Nat} {v : Value} (h : (prune fn e).get t = some v) : e.get t = some v := keep_get _ _ _ _ h
theorem after_goes {es : Array Event} {s : GStep} {K : Goroutine → World → Array Event → Prop} (h : s.goes fun g w es' => K g w (es ++ es')) : (GStep.after es s).goes K := by
  cases s <;> exact h
section steps
variable {b : Frame} {a : Act} {cs : List Frame} {k : List Item} {w : World} {K : Goroutine → World → Array Event → Prop} {cx : Cx}
theorem g_endLoop {L : Nat} (hF : ∀ b, cx.F b → b < w.heap.size) {Q : Option Code → World → Prop} (hs : wpS PG cx NoP (Instr.endLoop L) w Q)
    (hK : ∀ jump w' es, Q jump w' → Gw cx w w' → (∀ e ∈ es, EvOK cx w'.heap.size e) → K (G (b.atR a ((jump.map Item.code).toList ++ k)) cs) w' es) : (stepG PG mn (G (b.atR a (.endRangeFunc L :: k)) cs) w).goes K := by
  obtain ⟨es', N, h1, h2⟩ := wpS_sound hF #[] hs
  have h3 : ∀ e ∈ seen PG b.fn es', EvOK cx N e := seen_ok fun e he => (h1 e he).resolve_left (by simp)
  rcases h2 with ⟨v, w', h4, h5, h6, rfl⟩ | ⟨v, w', h4, h5, h6, rfl⟩
  · have := hK v w' _ h5 h6 h3
    simpa [G, stepG, stepG.exec, Frame.atR, h4, GStep.after, -Sem.runT_eq] using this
  · exact h5.elim
theorem g_range {f : Operand} {params : Array Tmp} {assign body : Code} (hF : ∀ b, cx.F b → b < w.heap.size) {Q : Nat × List Deferred → World → Prop} (hs : wpS PG cx NoP (Instr.enterLoop b.fn a.tmps params assign body b.roundOf) w Q)
    (hK : ∀ l mark w' es, Q (l, mark) w' → Gw cx w w' → (∀ e ∈ es, EvOK cx w'.heap.size e) →
      (GStep.after es (stepG.apply PG true (b.atR { tmps := a.tmps, defers := mark ++ a.defers } (.inRangeFunc l :: k)) cs none (do let d ← resolve a.eval { callee := .value f, args := #[.const (.func (.yield l) #[] #[])], argTypes := #[] } 0; invoke d.target d.args) w')).goes K) :
    (stepG PG mn (G (b.atR a (.code (.rangeFunc f params assign body) :: k)) cs) w).goes K := by
  obtain ⟨es', N, h1, h2⟩ := wpS_sound hF #[] hs
  have h3 : ∀ e ∈ seen PG b.fn es', EvOK cx N e := seen_ok fun e he => (h1 e he).resolve_left (by simp)
  rcases h2 with ⟨⟨l, mark⟩, w', h4, h5, h6, rfl⟩ | ⟨v, w', h4, h5, h6, rfl⟩
  · have := hK l mark w' _ h5 h6 h3
    have he := Frame.eval_atR b { tmps := a.tmps, defers := mark ++ a.defers } (.inRangeFunc l :: k)
    have he2 : Act.eval { tmps := a.tmps, defers := mark ++ a.defers } = a.eval := by
      funext x
      cases x <;> rfl
    rw [he2] at he
    simp only [Frame.atR] at he this
    simp only [G, stepG, stepG.exec, Frame.atR, h4]
    rw [he]
    exact this
  · exact h5.elim
end steps
theorem clean_of {ρ : Rho} {d : List Deferred} {defers : List Deferred} (h : DR ρ d none defers) : clean d = true := by
  cases d with
  | nil => rfl
  | cons x l =>
    have h2 := (h.1 x (by simp)).2
    obtain ⟨t, args⟩ := x
    cases t <;> first | rfl | exact h2.elim
def pendOut (ih : Req → Out) (fn : FuncId) (l : Nat) (e : Env) (d : List Deferred) (rk : Option Value) (s' : St) (pend : Option Code) : Out := match pend with
  | none => .norm e { n := s'.n, h := Tr.set .dead 40 l s'.h, d := d, rk := rk }
  | some c => ih (.code fn c e { n := s'.n, h := Tr.set .dead 40 l s'.h, d := d, rk := rk })
theorem xEndRange_val {fn : FuncId} {l : Nat} {d : List Deferred} {rk : Option Value} {v : Value} {s' : St} (hnf : ¬ isFail (xEndRange ih fn l e d rk (.val v s'))) :
    ∃ st pend fn1 env1 params1 assign1 body1, s'.h.get l = some (.loop st pend fn1 env1 params1 assign1 body1) ∧ st ≠ .busy ∧ xEndRange ih fn l e d rk (.val v s') = pendOut ih fn l e d rk s' pend := by
  unfold xEndRange at hnf ⊢
  simp only [] at hnf ⊢
  cases hg : s'.h.get l with
  | none => rw [hg] at hnf; exact absurd ⟨_, rfl⟩ hnf
  | some o =>
    rw [hg] at hnf
    cases o with
    | loop st pend fn1 env1 params1 assign1 body1 =>
      simp only [] at hnf ⊢
      have hst : st ≠ .busy := by
        rintro rfl
        exact hnf ⟨_, rfl⟩
      refine ⟨st, pend, fn1, env1, params1, assign1, body1, rfl, hst, ?_⟩
      cases st
      case busy => exact absurd rfl hst
      all_goals (cases pend <;> rfl)
    | _ => exact absurd ⟨_, rfl⟩ hnf
theorem sound_endRange (hi : SoundI Z ih) {fn : FuncId} {l : Nat} {d : List Deferred} {rk : Option Value} {r : Out} (hnf : ¬ isFail (xEndRange ih fn l e d rk r)) :
    ∃ N, ∀ (p : Z.T) (ρ ρ1 : Rho) (s : St) (b : Frame) (a : Act) (cs : List Frame) (k : List Item) (m n1 : Nat) (h1 : Tr AObj) (i : Img), b.fn = fn → BASE ≤ l → ρ1 l = some i → ER ρ1 e a.tmps → Glob ρ1 → ntOf b.fn ≤ a.tmps.size → DR ρ1 d b.roundOf a.defers → RK ρ1 rk b.kind b.roundOf cs →
      (b.kind = .normal ∨ b.kind = .deferred) → Pst ρ s cs ρ1 { n := n1, h := h1, d := d, rk := rk } cs → Cont Z p ρ s b cs k m (xEndRange ih fn l e d rk r) →
      ContV Z p ρ1 { n := n1, h := h1, d := [], rk := none } .normal (b.atR a (.inRangeFunc i.blk :: k) :: cs) (N + m) r := by
  cases r with
  | val v s' =>
    obtain ⟨st, pend, fn1, env1, params1, assign1, body1, hg, hst, hx⟩ := xEndRange_val hnf
    rw [hx] at hnf
    rw [hx]
    have hpend : ∃ N, ∀ (p : Z.T) (ρ : Rho) (w : World) (b : Frame) (a : Act) (cs : List Frame) (k : List Item) (m : Nat), b.fn = fn → AtC Z p ρ w e { n := s'.n, h := Tr.set .dead 40 l s'.h, d := d, rk := rk } b a cs → Cont Z p ρ { n := s'.n, h := Tr.set .dead 40 l s'.h, d := d, rk := rk } b cs k m (pendOut ih fn l e d rk s' pend) → Z.fam p (N + m) (G (b.atR a ((pend.map Item.code).toList ++ k)) cs) w := by
      cases pend with
      | none =>
        refine ⟨0, fun p ρ w b a cs k m hb hat hc => ?_⟩
        rw [Nat.zero_add]
        exact hc p ρ w a cs (Z.refl p) (Pst.refl _ _ _) hat
      | some c =>
        obtain ⟨N, h1⟩ := (hi _ hnf).1
        exact ⟨N, fun p ρ w b a cs k m hb hat hc => h1 p ρ w b a cs k m hb hat hc⟩
    obtain ⟨N, hN⟩ := hpend
    refine ⟨N + 1, fun p ρ ρ1 s b a cs k m n1 h1 i hb hbl hl he hgl hnt hdr hrk hkind hP hc => ?_⟩
    intro p' ρ' w' cs' hp hq hr hv
    obtain ⟨hrk', rfl⟩ := CS.none hq.rk
    show Z.fam p' (N + 1 + m) (G (b.atR a (.endRangeFunc i.blk :: k)) cs) w'
    have e0 : N + 1 + m = (N + m) + 1 := by omega
    rw [e0]
    refine Z.step p' _ _ _ rfl fun p' w1 hw1 => ?_
    replace hp := Z.trans hp (Z.mv_le hw1)
    have hr1 := Z.mv_wr hw1 hr
    have hl' := hq.le _ _ hl
    obtain ⟨L, j1, j2, j3, j4, j5, j6, j7, j8, j9, j10, j11, j12⟩ := put_loop (Z.base p') hr1 hl' hbl hg
    have hbl' : (Z.cx p').base ≤ l := by rw [(Z.base p')]; exact hbl
    have hput := hr1.put hl' hbl' ⟨_, hg, by simp⟩ .dead (.loop { L with state := .exhausted }) trivial
    have hlt := (hr1.dom l i hl').1
    have hsm := hr1.small
    have hwp : wpS PG (Z.cx p') NoP (Instr.endLoop i.blk) w1 fun x w2 => x = pend ∧ w2 = { w1 with heap := w1.heap.setIfInBounds i.blk (.loop { L with state := .exhausted }) } := by
      unfold Instr.endLoop
      rw [w_bind]
      refine w_getLoop (fun hc => j11 (Cx.sub _ _ hc)) j1 ?_
      rw [if_neg (by rw [j2]; cases st <;> simp at hst ⊢), w_bind, w_setObj]
      exact ⟨⟨_, j1, rfl⟩, j11, j3, rfl⟩
    refine g_endLoop hr1.deep hwp fun jump w2 es hq2 hG hE => ⟨hG, hE, ?_⟩
    obtain ⟨rfl, rfl⟩ := hq2
    have hP2 : Pst ρ s cs ρ' { n := s'.n, h := Tr.set .dead 40 l s'.h, d := d, rk := rk } cs := by
      refine hP.trans ⟨hq.le, hq.n, fun b' hB' hb' hn' => ?_, CS.refl _ _⟩
      obtain ⟨q1, q2⟩ := hq.keep b' hB' hb' hn'
      exact ⟨q1, (set_other (by omega) hl' q1).trans q2⟩
    refine hN p' ρ' _ b a cs k m hb ⟨hput, ER_mono hq.le he, hgl.mono hq.le, hnt, hdr.mono hq.le, hrk.mono hq.le, hkind⟩ (hc.shift hp hP2)
  | pan v e' s' =>
    refine ⟨0, fun p ρ ρ1 s b a cs k m n1 h1 i hb hbl hl he hgl hnt hdr hrk hkind hP hc => ?_⟩
    intro p' ρ' w' cs' hp hq hr hv
    obtain ⟨hrk', rfl⟩ := CS.none hq.rk
    rw [Nat.zero_add]
    show Z.fam p' m (G ((b.atR a (.inRangeFunc i.blk :: k)).raise [{ v := tV ρ' v, recovered := false }]) cs) w'
    rw [Frame.raise_atR]
    exact hc p' ρ' w' a cs hp (hP.trans ⟨hq.le, hq.n, hq.keep, CS.refl _ _⟩) ⟨hr, ER_mono hq.le he, hgl.mono hq.le, hnt, hdr.mono hq.le, hrk.mono hq.le, hkind⟩ hv _ trivial
  | _ => exact absurd ⟨_, rfl⟩ hnf
end
end Go.Proofs.YtfpmbneglnoojaaGreatDoor.Ab
/- A loop over a function, entered. -/
namespace Go.Proofs.YtfpmbneglnoojaaGreatDoor.Ab
open Go Go.Conc
set_option maxRecDepth 100000
noncomputable section
variable {mn : Bool}
variable {Z : Phs} {ih : Req → Out}
variable {e : Env} {s : St}
/-- the loop's block made, behind what was there -/
theorem new_loop {cx : Cx} {ρ : Rho} {n : Nat} {h : Tr AObj} {w : World} (hr : WR cx ρ n h w) (hn : n + 1 < 2 ^ 30) {fn : FuncId} {e : Env} {tmps : Array Value} {params : Array Tmp} {assign body : Code} {d : Nat} (he : ER ρ e tmps) (hnt : ntOf fn ≤ tmps.size) (hok : okParams fn params.toList = true) :
    WR cx (ρ.add n ⟨w.heap.size, 0, 1, 0⟩) (n + 1) (Tr.set (.loop .ready none fn (prune fn e) params assign body) 40 n h) { w with heap := w.heap.push (.loop { state := .ready, pending := none, fn, tmps, params, assign, body, defers := d }) } := by
  have hle : ρ.le (ρ.add n ⟨w.heap.size, 0, 1, 0⟩) := Rho.le_add _ (hr.fresh (Nat.le_refl _))
  refine hr.new _ _ ⟨w.heap.size, 0, 1, 0⟩ hn rfl ⟨tmps, d, by simp, ?_, hnt, hok⟩ hr.bn
  exact ER_mono hle (he.weak fun t v h => prune_get h)
theorem Pst.fresh {cx : Cx} {ρ : Rho} {s : St} {w : World} {cs : List Frame} {o : AObj} {i : Img} {d : List Deferred} {rk : Option Value} (hr : WR cx ρ s.n s.h w) (hd : rk = s.rk) : Pst ρ s cs (ρ.add s.n i) { n := s.n + 1, h := Tr.set o 40 s.n s.h, d := d, rk := rk } cs := by
  have hsm := hr.small
  refine ⟨Rho.le_add _ (hr.fresh (Nat.le_refl _)), Nat.le_succ _, fun b _ hb hn => ⟨?_, ?_⟩, by rw [hd]; exact CS.refl _ _⟩
  · unfold Rho.add
    rw [if_neg (by omega)]
    exact hn
  · rw [set_get (by omega), if_neg (by omega)]
/-- behind the step that enters the loop -/
theorem sound_range2 (hi : SoundI Z ih) {fn : FuncId} {fv : Value} {params : Array Tmp} {assign body : Code} {d : List Deferred} {rk : Option Value} {n : Nat} {h : Tr AObj} (hok : okParams fn params.toList = true) (hnf : ¬ isFail (xRange2 ih fn fv params assign body e d rk n h)) :
    ∃ fn' first cap, fv = .func fn' first cap ∧ ∃ N, ∀ (p : Z.T) (ρ ρ1 : Rho) (s : St) (w : World) (b : Frame) (a : Act) (cs : List Frame) (k : List Item) (m : Nat) (df : Nat) (es : Array Event) (w0 : World) (f : Operand), b.fn = fn → BASE ≤ n → n + 1 < 2 ^ 30 → WR (Z.cx p) ρ1 n h w → ER ρ1 e a.tmps → Glob ρ1 → ntOf b.fn ≤ a.tmps.size → DR ρ1 d b.roundOf a.defers → RK ρ1 rk b.kind b.roundOf cs →
      (b.kind = .normal ∨ b.kind = .deferred) → rk = s.rk → Pst ρ s cs ρ1 { n := n, h := h, d := d, rk := rk } cs → okV ρ1 fv → a.eval f = tV ρ1 fv → Cont Z p ρ s b cs k m (xRange2 ih fn fv params assign body e d rk n h) → Gw (Z.cx p) w0 { w with heap := w.heap.push (.loop { state := .ready, pending := none, fn, tmps := a.tmps, params, assign, body, defers := df }) } → ∀ N0, N0 ≤ w.heap.size + 1 → (∀ e ∈ es, EvOK (Z.cx p) N0 e) →
      (GStep.after es (stepG.apply PG true (b.atR a (.inRangeFunc w.heap.size :: k)) cs none (do let d ← resolve a.eval { callee := .value f, args := #[.const (.func (.yield w.heap.size) #[] #[])], argTypes := #[] } 0; invoke d.target d.args) { w with heap := w.heap.push (.loop { state := .ready, pending := none, fn, tmps := a.tmps, params, assign, body, defers := df }) })).goes fun g' w' es => Gw (Z.cx p) w0 w' ∧ (∀ e ∈ es, EvOK (Z.cx p) w'.heap.size e) ∧ Z.fam p (N + m) g' w' := by
  have hx : xRange2 ih fn fv params assign body e d rk n h = xEndRange ih fn n e d rk (ih (.value fv [.func (.yield n) #[] #[]] { n := Nat.succ n, h := Tr.set (.loop .ready none fn (prune fn e) params assign body) 40 n h, d := [], rk := none })) := rfl
  rw [hx] at hnf
  rw [hx]
  have hv := hi (.value fv [.func (.yield n) #[] #[]] { n := Nat.succ n, h := Tr.set (.loop .ready none fn (prune fn e) params assign body) 40 n h, d := [], rk := none })
  generalize ih (.value fv [.func (.yield n) #[] #[]] { n := Nat.succ n, h := Tr.set (.loop .ready none fn (prune fn e) params assign body) 40 n h, d := [], rk := none }) = r at hv hnf ⊢
  obtain ⟨fn', first, cap, rfl, N1, h1⟩ := hv (fun ⟨w, h⟩ => hnf ⟨w, by rw [h]; rfl⟩) rfl rfl
  obtain ⟨N2, h2⟩ := sound_endRange hi hnf
  refine ⟨_, _, _, rfl, N1 + N2, fun p ρ ρ1 s w b a cs k m df es w0 f hb hbn hn hr he hgl hnt hdr hrk hkind hrks hP hfv hf hc hG N0 hN0 hE => ?_⟩
  have hnone : ρ1 n = none := hr.fresh (Nat.le_refl _)
  have hle : ρ1.le (ρ1.add n ⟨w.heap.size, 0, 1, 0⟩) := Rho.le_add _ hnone
  have hr2 := new_loop (assign := assign) (body := body) (d := df) hr hn he (hb ▸ hnt) hok
  have hPn : Pst ρ1 { n := n, h := h, d := d, rk := rk } cs (ρ1.add n ⟨w.heap.size, 0, 1, 0⟩) { n := n + 1, h := Tr.set (.loop .ready none fn (prune fn e) params assign body) 40 n h, d := d, rk := rk } cs := Pst.fresh (s := { n := n, h := h, d := d, rk := rk }) hr rfl
  have hadd : (ρ1.add n ⟨w.heap.size, 0, 1, 0⟩) n = some ⟨w.heap.size, 0, 1, 0⟩ := Rho.add_self _ _ _
  have hmono := okV_mono hle _ hfv
  have hsem : (do let d ← resolve a.eval { callee := .value f, args := #[.const (.func (.yield w.heap.size) #[] #[])], argTypes := #[] } 0; invoke d.target d.args : Sem Next) = invoke (.fn (tFn (ρ1.add n ⟨w.heap.size, 0, 1, 0⟩) fn') (cap.map (tV (ρ1.add n ⟨w.heap.size, 0, 1, 0⟩)))) (first.map (tV (ρ1.add n ⟨w.heap.size, 0, 1, 0⟩)) ++ ([.func (.yield n) #[] #[]].map (tV (ρ1.add n ⟨w.heap.size, 0, 1, 0⟩))).toArray) := by
    simp only [resolve, hf, ← hmono.2, tV]
    have e1 : (#[Operand.const (.func (.yield w.heap.size) #[] #[])] : Array Operand).map a.eval = ([Value.func (.yield n) #[] #[]].map (tV (ρ1.add n ⟨w.heap.size, 0, 1, 0⟩))).toArray := by
      simp [Act.eval, tV, tFn, tB, hadd]
    rw [e1]
    rfl
  rw [hsem]
  have hgo := h1 p (ρ1.add n ⟨w.heap.size, 0, 1, 0⟩) { w with heap := w.heap.push (.loop { state := .ready, pending := none, fn, tmps := a.tmps, params, assign, body, defers := df }) } (b.atR a (.inRangeFunc w.heap.size :: k)) cs (N2 + m) hkind (by simp [plainTodo, Frame.atR]) hr2 (hgl.mono hle) hmono.1 (fun v hv => by
    obtain rfl := List.mem_singleton.1 hv
    simp [okV, okB, hadd]) (h2 p ρ _ s b a cs k m (n + 1) _ ⟨w.heap.size, 0, 1, 0⟩ hb hbn hadd (ER_mono hle he) (hgl.mono hle) hnt (hdr.mono hle) (hrk.mono hle) hkind (hP.trans hPn) hc)
  refine after_goes ?_
  revert hgo
  rw [Nat.add_assoc]
  generalize stepG.apply PG true _ _ _ _ _ = st
  cases st <;> simp only [GStep.goes, imp_self]
  rintro ⟨k1, k2, k3⟩
  refine ⟨hG.trans k1, fun e he => ?_, k3⟩
  rcases Array.mem_append.1 he with h | h
  · refine (hE e h).mono (Nat.le_trans hN0 ?_)
    have := k1.grow
    simpa using this
  · exact k2 e h
theorem sound_rangeFunc (hi : SoundI Z ih) {fn : FuncId} {f : Operand} {params : Array Tmp} {assign body : Code} (hnf : ¬ isFail (xRange ih fn (opnd e f) params assign body e s)) : SoundC Z fn (.rangeFunc f params assign body) e s (xRange ih fn (opnd e f) params assign body e s) := by
  cases hf : opnd e f with
  | none => rw [hf] at hnf; exact absurd ⟨_, rfl⟩ hnf
  | some fv =>
    rw [hf] at hnf
    have hx : xRange ih fn (some fv) params assign body e s = cond (okParams fn params.toList && Nat.blt s.n 1000000) (xRange1 ih fn fv params assign body e s) (.fail "range over func") := rfl
    rw [hx] at hnf ⊢
    cases hc0 : (okParams fn params.toList && Nat.blt s.n 1000000) with
    | false => rw [hc0] at hnf; exact absurd ⟨_, rfl⟩ hnf
    | true =>
      rw [hc0, cond_true] at hnf
      rw [cond_true]
      simp only [Bool.and_eq_true, Nat.blt_eq] at hc0
      obtain ⟨hok, hn⟩ := hc0
      unfold xRange1 at hnf ⊢
      cases hcl : clean s.d with
      | true =>
        rw [hcl, cond_true] at hnf
        rw [cond_true]
        cases hsn : s.n with
        | zero => simp only [hsn] at hnf; exact absurd ⟨_, rfl⟩ hnf
        | succ m0 =>
          simp only [hsn] at hnf ⊢
          obtain ⟨fn', first, cap, hfv, N, hN⟩ := sound_range2 hi hok hnf
          refine ⟨N + 1, fun p ρ w b a cs k m hb hat hc => ?_⟩
          have e0 : N + 1 + m = (N + m) + 1 := by omega
          rw [e0]
          refine Z.step p _ _ _ rfl fun p w1 hw => ?_
          replace hc := hc.shift (Z.mv_le hw) (Pst.refl _ _ _)
          have ha1 := hat.rel hw
          have hro := clean_none hat.dr hcl
          have hr1 := ha1.wr
          have hE := opnd_ok ha1.er ha1.glob
          obtain ⟨hfok, hfe⟩ := hE f fv hf
          rw [hsn] at hr1
          have hbase := hr1.bn
          rw [(Z.base p)] at hbase
          have hA := hr1.new .defd (.deferred (some [])) ⟨w1.heap.size, 0, 1, 0⟩ (by omega) rfl (by simp [OR]) hr1.bn
          have hle : ρ.le (ρ.add (m0 + 1) ⟨w1.heap.size, 0, 1, 0⟩) := Rho.le_add _ (hr1.fresh (Nat.le_refl _))
          have hwp : wpS PG (Z.cx p) NoP (Instr.enterLoop b.fn a.tmps params assign body b.roundOf) w1 fun x w' => x = (w1.heap.size + 1, [{ target := .collected w1.heap.size, args := #[] }]) ∧ w' = { w1 with heap := (w1.heap.push (.deferred (some []))).push (.loop { state := .ready, pending := none, fn := b.fn, tmps := a.tmps, params, assign, body, defers := w1.heap.size }) } := by
            unfold Instr.enterLoop
            rw [hro]
            simp only [w_bind, w_newObj, w_pure]
            exact ⟨by simp, trivial⟩
          refine g_range hr1.deep hwp fun l mark w2 es hq hG hEs => ?_
          obtain ⟨hq1, rfl⟩ := hq
          cases hq1
          have hdr := hat.dr
          rw [hro] at hdr
          have hsz : ({ w1 with heap := w1.heap.push (.deferred (some [])) } : World).heap.size = w1.heap.size + 1 := by simp
          have := hN p ρ (ρ.add (m0 + 1) ⟨w1.heap.size, 0, 1, 0⟩) s { w1 with heap := w1.heap.push (.deferred (some [])) } b { tmps := a.tmps, defers := { target := .collected w1.heap.size, args := #[] } :: a.defers } cs k m w1.heap.size es w1 f hb (by omega) (by omega) hA (ER_mono hle ha1.er) (ha1.glob.mono hle) ha1.nt ?_ ((hat.rk).mono hle) ha1.kind rfl ?_ (okV_mono hle _ hfok).1 ?_ hc (hb ▸ hG) _ (by simp) hEs
          · rw [hsz] at this
            rw [← hb] at this
            exact this
          · rw [hro]
            refine ⟨fun x hx => ?_, ?_⟩
            · rcases List.mem_cons.1 hx with rfl | hx
              · refine ⟨by simp, by omega, ?_⟩
                exact ⟨_, Rho.add_self _ _ _⟩
              · exact (okD_mono hle (hdr.1 x hx)).1
            · rw [hdr.2, List.map_cons]
              have e1 : tD (ρ.add (m0 + 1) ⟨w1.heap.size, 0, 1, 0⟩) { target := .collected (m0 + 1), args := #[] } = { target := .collected w1.heap.size, args := #[] } := by simp [tD, tT, tB, Rho.add]
              rw [e1]
              refine congrArg (List.cons _) ?_
              exact List.map_congr_left fun x hx => ((okD_mono hle (hdr.1 x hx)).2).symm
          · have := Pst.fresh (cs := cs) (o := .defd) (i := ⟨w1.heap.size, 0, 1, 0⟩) (d := { target := .collected (m0 + 1), args := #[] } :: s.d) (rk := s.rk) ha1.wr rfl
            rw [hsn] at this
            exact this
          · rw [(okV_mono hle _ hfok).2, ← hfe]
            cases f <;> rfl
      | false =>
        rw [hcl, cond_false] at hnf
        rw [cond_false]
        cases hrl : roundL s.d with
        | none => simp only [hrl] at hnf; exact absurd ⟨_, rfl⟩ hnf
        | some l =>
          simp only [hrl] at hnf ⊢
          cases hil : isLoop (s.h.get l) with
          | false => rw [hil] at hnf; exact absurd ⟨_, rfl⟩ hnf
          | true =>
            rw [hil, cond_true] at hnf
            rw [cond_true]
            obtain ⟨fn', first, cap, hfv, N, hN⟩ := sound_range2 hi hok hnf
            refine ⟨N + 1, fun p ρ w b a cs k m hb hat hc => ?_⟩
            have e0 : N + 1 + m = (N + m) + 1 := by omega
            rw [e0]
            refine Z.step p _ _ _ rfl fun p w1 hw => ?_
            replace hc := hc.shift (Z.mv_le hw) (Pst.refl _ _ _)
            have ha1 := hat.rel hw
            have hr1 := ha1.wr
            have hE := opnd_ok ha1.er ha1.glob
            obtain ⟨hfok, hfe⟩ := hE f fv hf
            have hbase := hr1.bn
            rw [(Z.base p)] at hbase
            have hdr := hat.dr
            cases hro : b.roundOf with
            | none =>
              rw [hro] at hdr
              have := clean_of hdr
              rw [hcl] at this
              cases this
            | some r0 =>
              rw [hro] at hdr
              obtain ⟨l', i, hd1, hd2, hd3, hd4⟩ := hdr
              have hll : l = l' := by
                rw [hd1] at hrl
                have : some l' = some l := hrl
                exact (Option.some.inj this).symm
              subst hll
              cases hgl : s.h.get l with
              | none => rw [hgl] at hil; cases hil
              | some o =>
                cases o with
                | loop st1 pend1 fn1 env1 params1 assign1 body1 =>
                  obtain ⟨tm, df, j1, _⟩ := hr1.obj l i _ hd2 hgl
                  have hwp : wpS PG (Z.cx p) NoP (Instr.enterLoop b.fn a.tmps params assign body b.roundOf) w1 fun x w' => x = (w1.heap.size, []) ∧ w' = { w1 with heap := w1.heap.push (.loop { state := .ready, pending := none, fn := b.fn, tmps := a.tmps, params, assign, body, defers := df }) } := by
                    unfold Instr.enterLoop
                    rw [hro]
                    simp only [w_bind]
                    rw [hd3] at j1
                    refine w_getLoop (by rw [← hd3]; exact (hr1.dom l i hd2).2.2 ⟨_, hgl, by simp⟩) j1 ?_
                    simp only [w_pure, w_newObj]
                    exact ⟨trivial, trivial⟩
                  refine g_range hr1.deep hwp fun l mark w2 es hq hG hEs => ?_
                  obtain ⟨hq1, rfl⟩ := hq
                  cases hq1
                  have := hN p ρ ρ s w1 b a cs k m df es w1 f hb (by omega) (by omega) hr1 ha1.er ha1.glob ha1.nt ha1.dr ha1.rk ha1.kind rfl (Pst.refl _ _ _) hfok hfe hc (hb ▸ hG) _ (by simp) hEs
                  rw [← hb] at this
                  exact this
                | _ => rw [hgl] at hil; cases hil
end
end Go.Proofs.YtfpmbneglnoojaaGreatDoor.Ab
/- Every request is what the evaluator says: one step of the induction, but for the regions that draw. -/
namespace Go.Proofs.YtfpmbneglnoojaaGreatDoor.Ab
open Go Go.Conc
set_option maxRecDepth 100000
noncomputable section
variable {Z : Phs} {ih : Req → Out}
theorem nl {c c' : Code} {P : Prop} (h : ∀ x, c ≠ .loop x) (hc : c = .loop c') : P := absurd hc (h c')
theorem sound_extern1 {f : FuncId} {fn : Func} {args : List Value} {s : St} (hf : PG.funcs[f]? = some fn) (hb : fn.body = none) (hnf : ¬ isFail (xExtern fn.name (externOp1 f args s) s)) : SoundX f args s (xExtern fn.name (externOp1 f args s) s) := by
  cases hr : externOp1 f args s with
  | fail w => rw [hr] at hnf; exact absurd ⟨_, rfl⟩ hnf
  | val v n h =>
    match args, hr with
    | [.string b, .int k (.ofNat c)], hr =>
      have hr' : cond (sameK k .u8 && Nat.blt c 256) (cond (Nat.beq f COUNT) (val (fInt .i64 (.ofNat (countB c (bytesOf b) 0))) s) (cond (Nat.beq f INDEX) (val (indexV (indexB c (bytesOf b) 0)) s) (.fail "extern"))) (.fail "extern") = .val v n h := hr
      have e1 : ∀ ρ, ([Value.string b, .int k (.ofNat c)].map (tV ρ)).toArray = #[.string b, .int k (.ofNat c)] := fun ρ => by simp [tV]
      cases h2 : (sameK k .u8 && Nat.blt c 256) with
      | false => rw [h2] at hr'; cases hr'
      | true =>
        rw [h2, cond_true] at hr'
        simp only [Bool.and_eq_true, Nat.blt_eq] at h2
        obtain rfl := sameK_ok h2.1
        cases h1 : Nat.beq f COUNT with
        | true =>
          rw [h1, cond_true] at hr'
          obtain rfl := Nat.eq_of_beq_eq_true h1
          rw [fInt_eq] at hr'
          obtain ⟨rfl, rfl, rfl⟩ := val_inj hr'
          refine ⟨_, _, rfl, rfl, fun cx ρ w hw ha => ?_⟩
          rw [e1]
          exact w_count h2.2 ⟨_, rfl, Done.same hw (by simp [okV]) (by simp [tV])⟩
        | false =>
          rw [h1, cond_false] at hr'
          cases h3 : Nat.beq f INDEX with
          | false => rw [h3] at hr'; cases hr'
          | true =>
            rw [h3, cond_true] at hr'
            obtain rfl := Nat.eq_of_beq_eq_true h3
            obtain ⟨rfl, rfl, rfl⟩ := val_inj hr'
            refine ⟨_, _, rfl, rfl, fun cx ρ w hw ha => ?_⟩
            rw [e1]
            have hcl := index_closed (indexB c (bytesOf b) 0) ρ
            exact w_index h2.2 ⟨_, rfl, Done.same hw hcl.1 hcl.2.symm⟩
theorem sound_extern {f : FuncId} {fn : Func} {args : List Value} {s : St} (hf : PG.funcs[f]? = some fn) (hb : fn.body = none) (hnf : ¬ isFail (xExtern fn.name (externOp f args s) s)) : SoundX f args s (xExtern fn.name (externOp f args s) s) := by
  have hE : externOp f args s = cond (Nat.beq f NOESC) (noEsc args s) (cond (Nat.beq f MKNZ) (mkNZ args s) (externOp1 f args s)) := rfl
  rw [hE] at hnf ⊢
  cases h1 : Nat.beq f NOESC with
  | true =>
    rw [h1, cond_true] at hnf
    rw [cond_true]
    obtain rfl := Nat.eq_of_beq_eq_true h1
    match args, hnf with
    | [x], hnf =>
      refine ⟨_, _, rfl, rfl, fun cx ρ w hw ha => ?_⟩
      have e1 : ([x].map (tV ρ)).toArray = #[tV ρ x] := by simp
      rw [e1]
      exact w_noesc ⟨_, rfl, Done.same hw (ha x (by simp)) rfl⟩
    | [], hnf => exact absurd ⟨_, rfl⟩ hnf
    | _ :: _ :: _, hnf => exact absurd ⟨_, rfl⟩ hnf
  | false =>
    rw [h1, cond_false] at hnf
    rw [cond_false]
    cases h2 : Nat.beq f MKNZ with
    | false =>
      rw [h2, cond_false] at hnf
      rw [cond_false]
      exact sound_extern1 hf hb hnf
    | true =>
      rw [h2, cond_true] at hnf
      rw [cond_true]
      obtain rfl := Nat.eq_of_beq_eq_true h2
      cases hm : mkNZ args s with
      | fail w => rw [hm] at hnf; exact absurd ⟨_, rfl⟩ hnf
      | val v n h =>
        match args, hm with
        | [.int k (.ofNat m)], hm =>
          have hm' : cond (sameK k .i64 && Nat.blt m 100000) (newB (.row [] BYTE) s fun id => .slice (some ⟨id, 0, none⟩) m OPEN) (.fail "extern") = .val v n h := hm
          cases hc : (sameK k .i64 && Nat.blt m 100000) with
          | false => rw [hc] at hm'; cases hm'
          | true =>
            rw [hc, cond_true] at hm'
            simp only [Bool.and_eq_true, Nat.blt_eq] at hc
            obtain rfl := sameK_ok hc.1
            obtain ⟨hn, rfl, rfl, rfl⟩ := newB_ok hm'
            refine ⟨_, _, rfl, rfl, fun cx ρ w hw ha => ?_⟩
            have e1 : ([Value.int .i64 (.ofNat m)].map (tV ρ)).toArray = #[.int .i64 (.ofNat m)] := by simp [tV]
            rw [e1]
            exact w_mknz hw hn hc.2 fun x w' hd => ⟨x, rfl, hd⟩
        | [], hm => cases hm
theorem sound_call (hi : SoundI Z ih) {f : FuncId} {args : List Value} {s : St} (hnf : ¬ isFail (xCall ih f args s)) : SoundCall Z f args s (xCall ih f args s) := by
  unfold xCall at hnf ⊢
  unfold SoundCall hasBody
  cases hf : PG.funcs[f]? with
  | none => rw [hf] at hnf; exact absurd ⟨_, rfl⟩ hnf
  | some fn =>
    simp only [hf] at hnf ⊢
    unfold xFunc at hnf ⊢
    cases hb : fn.body with
    | none =>
      simp only [hb] at hnf ⊢
      exact sound_extern hf hb hnf
    | some c =>
      simp only [hb] at hnf ⊢
      exact fun hs => sound_body hi hf hb hs hnf
theorem sound_val (hi : SoundI Z ih) {f : Value} {args : List Value} {s : St} (hnf : ¬ isFail (xValue ih f args s)) : SoundV Z f args s (xValue ih f args s) := by
  cases f with
  | func fn first cap =>
    cases fn with
    | func g => exact sound_func hi hnf
    | yield l => exact sound_yield hi hnf
    | _ => exact absurd ⟨_, rfl⟩ hnf
  | _ => exact absurd ⟨_, rfl⟩ hnf
/-- what is left: the regions that draw -/
def DrawOk (Z : Phs) (ih : Req → Out) : Prop := ∀ (fn : FuncId) (id : Nat) (ops : Array Oper) (l : List Item1) (e : Env) (s : St), okRegion fn ops = true → plan ops = some l → ¬ isFail (fixPan ops e (drawRun ih ops l [] e s)) →
  SoundC Z fn (.region id ops true) e s (fixPan ops e (drawRun ih ops l [] e s))
theorem sound_code (hd : DrawOk Z ih) (hi : SoundI Z ih) {fn : FuncId} {c : Code} {e : Env} {s : St} (hnf : ¬ isFail (xCode c ih fn e s)) : Sound Z (.code fn c e s) (xCode c ih fn e s) := by
  cases c with
  | skip => exact ⟨sound_skip, fun _ h => nl (by simp) h⟩
  | label l => exact ⟨sound_label, fun _ h => nl (by simp) h⟩
  | seq a b =>
    refine ⟨?_, fun _ h => nl (by simp) h⟩
    have hx : xCode (.seq a b) ih fn e s = xSeq ih fn b (ih (.code fn a e s)) := rfl
    rw [hx] at hnf ⊢
    have h1 := hi (.code fn a e s)
    generalize ih (.code fn a e s) = r at h1 hnf ⊢
    refine sound_seq (r := r) (h1 fun ⟨w, h⟩ => hnf ⟨w, by rw [h]; rfl⟩).1 (fun e1 s1 h => ?_) fun h => ?_
    · subst h
      exact (hi _ hnf).1
    · cases r <;> first | rfl | exact absurd rfl (h _ _)
  | cond c a b =>
    refine ⟨?_, fun _ h => nl (by simp) h⟩
    have hx : xCode (.cond c a b) ih fn e s = xCond ih fn (opnd e c) a b e s := rfl
    rw [hx] at hnf ⊢
    cases hc : opnd e c with
    | none => rw [hc] at hnf; exact absurd ⟨_, rfl⟩ hnf
    | some v =>
      rw [hc] at hnf
      cases v with
      | bool t =>
        have h1 := hi (.code fn (cond t a b) e s) hnf
        refine sound_cond (t := t) (fun p ρ w b a cs hat => ?_) h1.1
        obtain ⟨k1, k2⟩ := opnd_ok hat.er hat.glob c _ hc
        rw [k2]
        simp [tV]
      | _ => exact absurd ⟨_, rfl⟩ hnf
  | block id body =>
    refine ⟨?_, fun _ h => nl (by simp) h⟩
    have hx : xCode (.block id body) ih fn e s = xBlock id (ih (.code fn body e s)) := rfl
    rw [hx] at hnf ⊢
    exact sound_block (hi (.code fn body e s) fun ⟨w, h⟩ => hnf ⟨w, by rw [h]; rfl⟩).1
  | loop body =>
    have hL : SoundL Z fn body e s (xCode (.loop body) ih fn e s) := by
      have hx : xCode (.loop body) ih fn e s = xSeq ih fn (.loop body) (ih (.code fn body (prune fn e) s)) := rfl
      rw [hx] at hnf ⊢
      have h1 := hi (.code fn body (prune fn e) s)
      generalize ih (.code fn body (prune fn e) s) = r at h1 hnf ⊢
      refine sound_loop (r := r) (fun t v h => prune_get h) (h1 fun ⟨w, h⟩ => hnf ⟨w, by rw [h]; rfl⟩).1 (fun e1 s1 h => ?_) fun h => ?_
      · subst h
        exact (hi _ hnf).2 _ rfl
      · cases r <;> first | rfl | exact absurd rfl (h _ _)
    exact ⟨hL.code, fun c' h => by cases h; exact hL⟩
  | scope body =>
    refine ⟨?_, fun _ h => nl (by simp) h⟩
    exact sound_scope (hi _ hnf).1
  | exit id => exact ⟨sound_exit, fun _ h => nl (by simp) h⟩
  | goto l => exact absurd ⟨_, rfl⟩ hnf
  | ret => exact ⟨sound_ret, fun _ h => nl (by simp) h⟩
  | region id ops draw =>
    refine ⟨?_, fun _ h => nl (by simp) h⟩
    have hx : xCode (.region id ops draw) ih fn e s = regionRun ih fn ops draw e s := rfl
    rw [hx] at hnf ⊢
    unfold regionRun at hnf ⊢
    cases hok : okRegion fn ops with
    | false => rw [hok] at hnf; exact absurd ⟨_, rfl⟩ hnf
    | true =>
      rw [hok, cond_true] at hnf
      rw [cond_true]
      cases draw with
      | false => exact sound_region hi hok hnf
      | true =>
        rw [cond_true] at hnf ⊢
        cases hp : plan ops with
        | none => rw [hp] at hnf; exact absurd ⟨_, rfl⟩ hnf
        | some l =>
          rw [hp] at hnf
          exact hd fn id ops l e s hok hp hnf
  | rangeFunc f params assign body =>
    refine ⟨?_, fun _ h => nl (by simp) h⟩
    exact sound_rangeFunc hi hnf
  | refuse w => exact absurd ⟨_, rfl⟩ hnf
theorem sound_all {hk : Oper → Env → St → Out} {hd : Deferred → St → Out} (hdraw : ∀ ih, SoundI Z ih → DrawOk Z ih) (hsp : ∀ o e s, ¬ isFail (hk o e s) → SoundSp Z o e s (hk o e s)) (hspd : ∀ d s, ¬ isFail (hd d s) → SoundSpd Z d s (hd d s)) : ∀ n, SoundI Z (ev hk hd n)
  | 0 => fun q h => absurd ⟨_, rfl⟩ h
  | n + 1 => by
    have hi := sound_all hdraw hsp hspd n
    intro q hnf
    have hx : ev hk hd (n + 1) q = step hk hd (ev hk hd n) q := rfl
    rw [hx] at hnf ⊢
    cases q with
    | code fn c e s => exact sound_code (hdraw _ hi) hi hnf
    | call f args s => exact sound_call hi hnf
    | value f args s => exact sound_val hi hnf
    | unwind fn e ds p s => exact sound_unwind hi hnf
    | sp o e s => exact hsp o e s hnf
    | spd d s => exact hspd d s hnf
end
end Go.Proofs.YtfpmbneglnoojaaGreatDoor.Ab
/- What looks at nothing, what looks at memory, what makes a block: how it hangs on the state. -/
namespace Go.Proofs.YtfpmbneglnoojaaGreatDoor.Ab
open Go
set_option maxRecDepth 100000
noncomputable section
theorem sameL_ok {f : Value → Value → Bool} (hf : ∀ a b, f a b = true → a = b) : ∀ l m : List Value, sameV.sameL f l m = true → l = m
  | [], [], _ => rfl
  | [], _ :: _, h => by cases h
  | _ :: _, [], h => by cases h
  | a :: l, b :: m, h => by
    have h' : (f a b && sameV.sameL f l m) = true := h
    rw [Bool.and_eq_true] at h'
    rw [hf a b h'.1, sameL_ok hf l m h'.2]
theorem bytes_inj {a b : ByteArray} (h : bytesOf a = bytesOf b) : a = b := by
  obtain ⟨x⟩ := a
  obtain ⟨y⟩ := b
  congr 1
  exact Array.ext' h
theorem sameV_ok : ∀ (n : Nat) (a b : Value), sameV n a b = true → a = b := by
  intro n
  induction n with
  | zero => intro a b h; cases h
  | succ n ih =>
    intro a b h
    cases a with
    | bool x =>
      cases b <;> try (cases h; done)
      rename_i y
      have h' : cond x y (!y) = true := h
      cases x <;> cases y <;> simp at h' <;> rfl
    | int j x =>
      cases b <;> try (cases h; done)
      rename_i k y
      have h' : (decide (j = k) && eqI x y) = true := h
      rw [Bool.and_eq_true, eqI_eq] at h'
      rw [of_decide_eq_true h'.1, of_decide_eq_true h'.2]
    | string x =>
      cases b <;> try (cases h; done)
      rename_i y
      have h' : eqB (bytesOf x) (bytesOf y) = true := h
      rw [eqB_eq] at h'
      rw [bytes_inj (of_decide_eq_true h')]
    | pointer x =>
      cases x with
      | none =>
        cases b <;> try (cases h; done)
        rename_i y
        cases y <;> first | rfl | (cases h; done)
      | some x =>
        cases b <;> try (cases h; done)
        rename_i y
        cases y with
        | none => cases h
        | some y => rw [addr_same h]
    | slice x l c =>
      cases x with
      | none =>
        cases b <;> try (cases h; done)
        rename_i y m d
        cases y with
        | none =>
          have h' : (Nat.beq l m && Nat.beq c d) = true := h
          rw [Bool.and_eq_true] at h'
          rw [Nat.eq_of_beq_eq_true h'.1, Nat.eq_of_beq_eq_true h'.2]
        | some y => cases h
      | some x =>
        cases b <;> try (cases h; done)
        rename_i y m d
        cases y with
        | none => cases h
        | some y =>
          have h' : ((Nat.beq x.block y.block && (Nat.beq x.off y.off && (x.spot.isNone && y.spot.isNone))) && (Nat.beq l m && Nat.beq c d)) = true := h
          rw [Bool.and_eq_true, Bool.and_eq_true (Nat.beq l m)] at h'
          rw [addr_same h'.1, Nat.eq_of_beq_eq_true h'.2.1, Nat.eq_of_beq_eq_true h'.2.2]
    | map x =>
      cases x with
      | none =>
        cases b <;> try (cases h; done)
        rename_i y
        cases y <;> first | rfl | (cases h; done)
      | some x =>
        cases b <;> try (cases h; done)
        rename_i y
        cases y with
        | none => cases h
        | some y => rw [Nat.eq_of_beq_eq_true h]
    | nilFunc =>
      cases b <;> first | rfl | (cases h; done)
    | nilIface =>
      cases b <;> first | rfl | (cases h; done)
    | func fn x u =>
      cases fn <;> try (cases b <;> cases h; done)
      rename_i f
      cases b <;> try (cases h; done)
      rename_i fn' y w
      cases fn' <;> try (cases h; done)
      rename_i g
      have h' : (Nat.beq f g && (sameV.sameL (sameV n) x.toList y.toList && sameV.sameL (sameV n) u.toList w.toList)) = true := h
      simp only [Bool.and_eq_true] at h'
      rw [Nat.eq_of_beq_eq_true h'.1, Array.ext' (sameL_ok ih _ _ h'.2.1), Array.ext' (sameL_ok ih _ _ h'.2.2)]
    | iface t x =>
      cases b <;> try (cases h; done)
      rename_i u y
      have h' : (Nat.beq t u && sameV n x y) = true := h
      rw [Bool.and_eq_true] at h'
      rw [Nat.eq_of_beq_eq_true h'.1, ih _ _ h'.2]
    | agg x =>
      cases b <;> try (cases h; done)
      rename_i y
      have h' : sameV.sameL (sameV n) x.toList y.toList = true := h
      rw [Array.ext' (sameL_ok ih _ _ h')]
    | tuple x =>
      cases b <;> try (cases h; done)
      rename_i y
      have h' : sameV.sameL (sameV n) x.toList y.toList = true := h
      rw [Array.ext' (sameL_ok ih _ _ h')]
    | _ => cases b <;> cases h
/-- the same value in two states, or none -/
def Rl (s s' : St) (r r' : Res) : Prop := (∃ w, r = .fail w) ∨ ∃ u, r = val u s ∧ r' = val u s'
theorem Rl.fl {s s' : St} {w : String} {r' : Res} : Rl s s' (.fail w) r' := .inl ⟨w, rfl⟩
theorem Rl.vl {s s' : St} {u : Value} : Rl s s' (val u s) (val u s') := .inr ⟨u, rfl, rfl⟩
variable (s s' : St)
theorem rl_rowPart (t : TypeId) (off : Nat) (cs : List Value) (b : Option Bool) : Rl s s' (rowPart t off cs s b) (rowPart t off cs s' b) := by
  unfold rowPart
  split <;> (try split) <;> first | exact Rl.fl | exact Rl.vl
theorem rl_move (x : Option Value) : Rl s s' (oMove x s) (oMove x s') := by
  unfold oMove
  split <;> first | exact Rl.fl | exact Rl.vl
theorem rl_field (t : TypeId) (x : Option Value) (f : Nat) : Rl s s' (oField t x f s) (oField t x f s') := by
  unfold oField partOf
  split <;> first | exact Rl.fl | exact rl_rowPart ..
theorem rl_nil (x : Option Value) : Rl s s' (oNil x s) (oNil x s') := by
  unfold oNil
  split <;> first | exact Rl.fl | exact Rl.vl
theorem rl_un (op : UnOp) (x : Option Value) : Rl s s' (oUn op x s) (oUn op x s') := by
  unfold oUn
  split <;> (try split) <;> first | exact Rl.fl | exact Rl.vl
theorem rl_iface (t : TypeId) (x : Option Value) : Rl s s' (oIface t x s) (oIface t x s') := by
  unfold oIface
  split <;> first | exact Rl.fl | exact Rl.vl
theorem rl_func (fn : Fn) (x y : Option (List Value)) : Rl s s' (oFunc fn x y s) (oFunc fn x y s') := by
  unfold oFunc
  split <;> (try split) <;> first | exact Rl.fl | exact Rl.vl
theorem rl_extract (x : Option Value) (i : Nat) : Rl s s' (oExtract x i s) (oExtract x i s') := by
  unfold oExtract
  split <;> first | exact Rl.fl | exact rl_move ..
theorem rl_cond {b : Bool} {x y x' y' : Res} (h1 : Rl s s' x x') (h2 : Rl s s' y y') : Rl s s' (cond b x y) (cond b x' y') := by cases b <;> assumption
theorem rl_fieldAddr (t : TypeId) (x : Option Value) (f : Nat) : Rl s s' (oFieldAddr t x f s) (oFieldAddr t x f s') := by
  unfold oFieldAddr
  split <;> first | exact Rl.fl | exact rl_cond _ _ Rl.fl Rl.vl
theorem rl_pick (c : Option Value) (g : Operand → Option Value) (a b : Operand) : Rl s s' (oPick c g a b s) (oPick c g a b s') := by
  unfold oPick
  split <;> first | exact Rl.fl | exact rl_move ..
theorem rl_bin (op : BinOp) (t : TypeId) (ox oy : Operand) (x y : Option Value) : Rl s s' (oBin op t ox oy x y s) (oBin op t ox oy x y s') := by
  unfold oBin
  split
  · split
    · unfold bTry
      split
      · exact Rl.vl
      · unfold bNext
        split
        · exact Rl.vl
        · unfold bSlow
          refine rl_cond _ _ ?_ Rl.fl
          unfold closedRes
          split
          · exact rl_cond _ _ Rl.vl Rl.fl
          · exact Rl.fl
    · exact Rl.fl
  · exact Rl.fl
theorem rl_indexAddr (t : TypeId) (x i : Option Value) : Rl s s' (oIndexAddr t x i s) (oIndexAddr t x i s') := by
  unfold oIndexAddr
  split
  · split
    · cases desc t <;> first | exact Rl.fl | exact rl_cond _ _ Rl.vl Rl.fl
    · cases desc t <;> first | exact Rl.fl | exact rl_cond _ _ Rl.vl Rl.fl
    · exact Rl.fl
  · exact Rl.fl
theorem rl_index (t : TypeId) (x i : Option Value) : Rl s s' (oIndex t x i s) (oIndex t x i s') := by
  unfold oIndex
  split
  · split
    · rename_i b
      cases desc t <;> try exact Rl.fl
      simp only []
      generalize nth (bytesOf b) _ = q
      cases q <;> first | exact Rl.fl | exact Rl.vl
    · cases desc t <;> try exact Rl.fl
      exact rl_cond _ _ (rl_rowPart ..) Rl.fl
    · exact Rl.fl
  · exact Rl.fl
theorem rl_assert (t : TypeId) (x : Option Value) (ok : Bool) : Rl s s' (oAssert t x ok s) (oAssert t x ok s') := by
  have hz : ∀ w, Rl s s' (match zeroV t with | some z => val (.tuple #[z, .bool false]) s | none => .fail w) (match zeroV t with | some z => val (.tuple #[z, .bool false]) s' | none => .fail w) := fun w => by
    split <;> first | exact Rl.fl | exact Rl.vl
  unfold oAssert
  cases desc t <;> first | exact Rl.fl | (
    simp only []
    split
    · exact rl_cond _ _ (hz _) Rl.fl
    · exact rl_cond _ _ Rl.vl (rl_cond _ _ (hz _) Rl.fl)
    · exact Rl.fl)
theorem rl_build (t : TypeId) (ps : Option (List (Nat × Value))) : Rl s s' (oBuild t ps s) (oBuild t ps s') := by
  unfold oBuild
  split
  · split
    · split <;> first | exact Rl.fl | exact Rl.vl
    · exact Rl.fl
  · exact Rl.fl
theorem rl_cap (d : TypeDesc) (v : Value) : Rl s s' (capOp d v s) (capOp d v s') := by
  unfold capOp
  split
  · split
    · split
      · exact rl_cond _ _ Rl.vl Rl.fl
      · exact rl_cond _ _ Rl.vl Rl.fl
    · exact Rl.fl
  · exact Rl.fl
end
end Go.Proofs.YtfpmbneglnoojaaGreatDoor.Ab
/- The three kinds of quiet operations. -/
namespace Go.Proofs.YtfpmbneglnoojaaGreatDoor.Ab
open Go
set_option maxRecDepth 100000
noncomputable section
theorem Rl.get {s s' : St} {r r' : Res} {v : Value} {n : Nat} {h : Tr AObj} (hr : Rl s s' r r') (e : r = .val v n h) : n = s.n ∧ h = s.h ∧ r' = .val v s'.n s'.h := by
  rcases hr with ⟨w, hw⟩ | ⟨u, h1, h2⟩
  · rw [hw] at e; cases e
  · rw [h1] at e
    obtain ⟨rfl, rfl, rfl⟩ := val_inj e
    exact ⟨rfl, rfl, h2⟩
/-- more blocks -/
def Mo (s s' : St) : Prop := ∀ b x, s.h.get b = some x → s'.h.get b = some x
variable {s s' : St}
theorem rl_load (hm : Mo s s') (t : TypeId) (a : Option Value) : Rl s s' (oLoad t a s) (oLoad t a s') := by
  unfold oLoad
  split
  · rename_i a
    unfold loadAt
    cases hg : s.h.get a.block with
    | none => exact Rl.fl
    | some o =>
      rw [hm _ _ hg]
      cases o with
      | row cs e => exact rl_rowPart ..
      | _ => exact Rl.fl
  · exact Rl.fl
theorem rl_lookZero (e : TypeId) (ok : Bool) : Rl s s' (lookZero e ok s) (lookZero e ok s') := by
  unfold lookZero
  split <;> first | exact Rl.fl | exact Rl.vl
theorem rl_lookup (hm : Mo s s') (t : TypeId) (x k : Option Value) (ok : Bool) : Rl s s' (oLookup t x k ok s) (oLookup t x k ok s') := by
  unfold oLookup
  split
  · rename_i m
    unfold look1
    cases desc t <;> try exact Rl.fl
    simp only []
    split
    · unfold look2
      refine rl_cond _ _ ?_ Rl.fl
      have key : ∀ es : Option (List MapEntry), ∀ a b c d, Rl s s' (lookIn a b c d s es) (lookIn a b c d s' es) := by
        intro es a b c d
        unfold lookIn
        split
        · split
          · exact Rl.vl
          · exact rl_lookZero ..
          · exact Rl.fl
        · exact Rl.fl
      cases m with
      | none => exact key _ _ _ _ _
      | some b =>
        cases hg : s.h.get b with
        | none =>
          have e1 : entriesOf (some b) s = none := by
            unfold entriesOf
            simp only [hg]
          rw [e1]
          exact Rl.fl
        | some o =>
          have e1 : entriesOf (some b) s' = entriesOf (some b) s := by
            unfold entriesOf
            simp only [hg, hm _ _ hg]
          rw [e1]
          exact key _ _ _ _ _
    · exact Rl.fl
  · exact Rl.fl
theorem rl_slcOp (a : Addr) (ez c : Nat) (op full : Bool) (l h m : Nat) : Rl s s' (slcOp a ez c op full l h m s) (slcOp a ez c op full l h m s') := by
  unfold slcOp
  refine rl_cond _ _ (rl_cond _ _ (rl_cond _ _ Rl.vl Rl.vl) (rl_cond _ _ Rl.vl (rl_cond _ _ Rl.vl Rl.fl))) Rl.fl
theorem rl_slcOp3 (a : Addr) (ez c : Nat) (op full : Bool) (l h m : Option Nat) : Rl s s' (slcOp3 a ez c op full l h m s) (slcOp3 a ez c op full l h m s') := by
  unfold slcOp3
  split
  · split
    · split
      · exact rl_slcOp ..
      · exact Rl.fl
    · exact Rl.fl
  · exact Rl.fl
theorem rl_slice (hm : Mo s s') (t : TypeId) (x : Option Value) (lo hi mx : Option (Option Value)) : Rl s s' (oSliceT t x lo hi mx s) (oSliceT t x lo hi mx s') := by
  unfold oSliceT
  refine rl_cond _ _ ?_ Rl.fl
  unfold oSlice
  split
  · split
    · split
      · split
        · unfold sliceOp
          refine rl_cond _ _ Rl.fl ?_
          split
          · refine rl_cond _ _ Rl.fl ?_
            unfold strSlice
            split
            · split
              · refine rl_cond _ _ ?_ Rl.fl
                split <;> first | exact Rl.fl | exact Rl.vl
              · exact Rl.fl
            · exact Rl.fl
          · rename_i b len cap
            refine rl_cond _ _ Rl.fl ?_
            cases b with
            | none =>
              refine rl_cond _ _ ?_ Rl.fl
              unfold slcNil
              split
              · split
                · split <;> first | exact Rl.fl | exact Rl.vl
                · exact Rl.fl
              · exact Rl.fl
            | some a =>
              simp only []
              cases hg : s.h.get a.block with
              | none => exact Rl.fl
              | some o =>
                rw [hm _ _ hg]
                unfold slcRow
                cases o with
                | row cs e => exact rl_cond _ _ (rl_slcOp3 ..) (rl_cond _ _ (rl_slcOp3 ..) Rl.fl)
                | _ => exact Rl.fl
          · cases desc t <;> try exact Rl.fl
            exact rl_cond _ _ Rl.fl (rl_slcOp3 ..)
          · exact Rl.fl
        · exact Rl.fl
      · exact Rl.fl
    · exact Rl.fl
  · exact Rl.fl
theorem rl_len (hm : Mo s s') (d : TypeDesc) (v : Value) : Rl s s' (lenOp d v s) (lenOp d v s') := by
  unfold lenOp
  split
  · cases d <;> first | exact Rl.vl | exact Rl.fl
  · cases d <;> first | exact Rl.vl | exact Rl.fl
  · cases d <;> first | exact Rl.vl | exact Rl.fl
  · rename_i b
    cases d <;> try exact Rl.fl
    simp only []
    cases hg : s.h.get b with
    | none => exact Rl.fl
    | some o =>
      rw [hm _ _ hg]
      cases o <;> first | exact Rl.vl | exact Rl.fl
  · exact Rl.fl
/-- a kind's word on an operation: kinds 0 and 1 -/
theorem look_rl {o : Oper} {e : Env} (hk : kindOf o.op = 0 ∨ (kindOf o.op = 1 ∧ Mo s s')) : Rl s s' (lookOp o e s) (lookOp o e s') := by
  unfold lookOp
  cases hop : o.op <;> rw [hop] at hk <;> simp only [callOf]
  case call c =>
    simp only [kindOf] at hk
    cases hcal : c.callee with
    | builtin b =>
      rw [hcal] at hk
      simp only []
      cases mapG (opnd e) c.args.toList with
      | none => exact Rl.fl
      | some args =>
        simp only []
        cases b <;> try (rcases hk with hk | ⟨hk, _⟩ <;> simp at hk; done)
        case len =>
          rcases hk with hk | ⟨_, hm⟩
          · simp at hk
          · unfold builtinOp
            simp only []
            split
            · exact rl_len hm _ _
            · exact Rl.fl
        case cap =>
          unfold builtinOp
          simp only []
          split
          · exact rl_cap ..
          · exact Rl.fl
        case max =>
          unfold builtinOp
          simp only []
          split <;> first | exact Rl.fl | exact Rl.vl
        case min =>
          unfold builtinOp
          simp only []
          split <;> first | exact Rl.fl | exact Rl.vl
    | value f => exact Rl.fl
    | invoke r n => exact Rl.fl
  case load t a => rcases hk with hk | ⟨_, hm⟩ <;> first | (simp [kindOf] at hk; done) | exact rl_load hm ..
  case lookup t x k ok => rcases hk with hk | ⟨_, hm⟩ <;> first | (simp [kindOf] at hk; done) | exact rl_lookup hm ..
  case slice t x lo hi mx => rcases hk with hk | ⟨_, hm⟩ <;> first | (simp [kindOf] at hk; done) | exact rl_slice hm ..
  case move x => exact rl_move ..
  case assign x => exact rl_move ..
  case pick c a b => exact rl_pick ..
  case nilCheck x => exact rl_nil ..
  case binOp op t x y ty => exact rl_bin ..
  case unOp op t x => exact rl_un ..
  case makeInterface t x => exact rl_iface ..
  case makeFunc fn a b => exact rl_func ..
  case fieldAddr t x f => exact rl_fieldAddr ..
  case field t x f => exact rl_field ..
  case indexAddr t x i => exact rl_indexAddr ..
  case index t x i => exact rl_index ..
  case typeAssert x xt t ok => exact rl_assert ..
  case extract x i => exact rl_extract ..
  case build t ps => exact rl_build ..
  all_goals (rcases hk with hk | ⟨hk, _⟩ <;> simp [kindOf] at hk)
/-- what is made: a block, and a value that names it -/
def naming (k : Nat → Value) : Prop := (∀ b, k b = .pointer (some ⟨b, 0, none⟩)) ∨ (∃ l c, c < OPEN ∧ ∀ b, k b = .slice (some ⟨b, 0, none⟩) l c) ∨ (∀ b, k b = .map (some b)) ∨ ∀ b, k b = .chan (some b)
def plainO (ρ : Rho) (O : AObj) : Prop := match O with | .row cs _ => ∀ v ∈ cs, okV ρ v | .map es _ => es = [] | .chan => True | _ => False
theorem newB_all {O : AObj} {k : Nat → Value} {v : Value} {n : Nat} {h : Tr AObj} (e : newB O s k = .val v n h) : s.n < 1000000 ∧ v = k s.n ∧ n = s.n + 1 ∧ h = Tr.set O 40 s.n s.h ∧ ∀ s' : St, s'.n < 1000000 → newB O s' k = .val (k s'.n) (s'.n + 1) (Tr.set O 40 s'.n s'.h) := by
  obtain ⟨h1, h2, h3, h4⟩ := newB_ok e
  refine ⟨h1, h2, h3, h4, fun s' hs' => ?_⟩
  unfold newB
  obtain ⟨n', h', d', r'⟩ := s'
  simp only [] at hs' ⊢
  have : Nat.blt n' 1000000 = true := by simpa using hs'
  rw [this, cond_true]
  cases n' <;> rfl
theorem fillL_ok {ρ : Rho} {pl : Nat → Nat × Nat} : ∀ (ps : List (Nat × Value)) {z x : List Value}, (∀ p ∈ ps, okV ρ p.2) → (∀ u ∈ z, okV ρ u) → fillL pl z ps = some x → ∀ u ∈ x, okV ρ u := fun ps {z x} h1 h2 e =>
  (fill_ok (place := fun i => some (pl i)) ps (fun _ _ => rfl) h1 h2 e).2.1
theorem look_new {o : Oper} {e : Env} {v : Value} {n : Nat} {h : Tr AObj} {nt : Nat} (hok : okOp nt o = true) (hk : kindOf o.op = 2) (he : lookOp o e s = .val v n h) :
    ∃ (k : Nat → Value) (O : AObj), s.n < 1000000 ∧ v = k s.n ∧ n = s.n + 1 ∧ h = Tr.set O 40 s.n s.h ∧ naming k ∧ (∀ ρ, (∀ x u, opnd e x = some u → okV ρ u) → plainO ρ O) ∧ ∀ s' : St, s'.n < 1000000 → lookOp o e s' = .val (k s'.n) (s'.n + 1) (Tr.set O 40 s'.n s'.h) := by
  unfold okOp at hok
  rw [Bool.and_eq_true] at hok
  replace hok := hok.2
  unfold lookOp at he ⊢
  cases hop : o.op <;> rw [hop] at hk he hok <;> simp only [callOf] at he hok ⊢
  case alloc t =>
    have he' : oAlloc t s = .val v n h := he
    unfold oAlloc at he'
    cases hz : zero t with
    | none => simp [hz] at he'
    | some z =>
      simp only [hz] at he'
      obtain ⟨h1, h2, h3, h4, h5⟩ := newB_all he'
      refine ⟨_, _, h1, h2, h3, h4, .inl fun b => rfl, fun ρ _ u hu => ?_, fun s' hs' => ?_⟩
      · obtain ⟨y, i, _, _, hc, rfl⟩ := zero_ok hz
        exact (closed_cells hc u hu ρ).1
      · have := h5 s' hs'
        show oAlloc t s' = _
        unfold oAlloc
        simp only [hz]
        exact this
  case box t x =>
    have he' : oBox t (opnd e x) s = .val v n h := he
    unfold oBox at he'
    cases hx : opnd e x with
    | none => simp [hx] at he'
    | some y =>
      simp only [hx] at he'
      obtain ⟨h1, h2, h3, h4, h5⟩ := newB_all he'
      refine ⟨_, _, h1, h2, h3, h4, .inl fun b => rfl, fun ρ hρ u hu => (cells_tV ρ y (hρ x y hx)).2 u hu, fun s' hs' => ?_⟩
      have := h5 s' hs'
      show oBox t (opnd e x) s' = _
      unfold oBox
      simp only [hx]
      exact this
  case buildSlice t len ps =>
    have he' : oBuildSlice t len (partsG (opnd e) ps.toList) s = .val v n h := he
    unfold oBuildSlice at he'
    cases hp : partsG (opnd e) ps.toList with
    | none => simp [hp] at he'
    | some pp =>
      simp only [hp] at he'
      cases hz : zero (elemT t) with
      | none => simp [hz] at he'
      | some z =>
        simp only [hz] at he'
        cases hf : fillL (fun i => (i * size (elemT t), size (elemT t))) (repL len z) pp with
        | none => simp [hf] at he'
        | some cs =>
          simp only [hf] at he'
          obtain ⟨h1, h2, h3, h4, h5⟩ := newB_all he'
          have hlen : len < OPEN := by
            cases hd : desc t with
            | slice el =>
              simp only [hd, Bool.and_eq_true, Nat.ble_eq] at hok
              have := hok.2.2
              unfold OPEN
              omega
            | _ => simp [hd] at hok
          refine ⟨_, _, h1, h2, h3, h4, .inr (.inl ⟨len, len, hlen, fun b => rfl⟩), fun ρ hρ u hu => ?_, fun s' hs' => ?_⟩
          · obtain ⟨y, i, _, _, hc, rfl⟩ := zero_ok hz
            obtain ⟨p1, _⟩ := partsG_ok (ev := fun x => tV ρ ((opnd e x).getD undef)) (ρ := ρ) (fun x v hx => ⟨hρ x v hx, by simp only [hx]; rfl⟩) hp
            exact fillL_ok _ p1 (fun w hw => (repL_closed (closed_cells hc) w hw ρ).1) hf u hu
          · have := h5 s' hs'
            show oBuildSlice t len (partsG (opnd e) ps.toList) s' = _
            unfold oBuildSlice
            simp only [hp, hz, hf]
            exact this
  case makeMap t r =>
    have he' : newB (.map [] 0) s (fun id => .map (some id)) = .val v n h := he
    obtain ⟨h1, h2, h3, h4, h5⟩ := newB_all he'
    exact ⟨_, _, h1, h2, h3, h4, .inr (.inr (.inl fun b => rfl)), fun ρ _ => rfl, h5⟩
  case makeChan t x =>
    have he' : oMakeChan (opnd e x) s = .val v n h := he
    unfold oMakeChan at he'
    split at he'
    · rename_i hx
      obtain ⟨h1, h2, h3, h4, h5⟩ := newB_all he'
      refine ⟨_, _, h1, h2, h3, h4, .inr (.inr (.inr fun b => rfl)), fun ρ _ => trivial, fun s' hs' => ?_⟩
      have := h5 s' hs'
      show oMakeChan (opnd e x) s' = _
      unfold oMakeChan
      simp only [hx]
      exact this
    · cases he'
  case makeSlice t l c =>
    have he' : oMakeSlice t (opnd e l) (opnd e c) s = .val v n h := he
    unfold oMakeSlice at he'
    cases hl : opnd e l with
    | none => simp [hl] at he'
    | some x =>
      cases x with
      | int kl zl =>
        cases zl with
        | ofNat ln =>
          cases hc : opnd e c with
          | none => simp [hl, hc] at he'
          | some y =>
            cases y with
            | int kc zc =>
              cases zc with
              | ofNat cn =>
                simp only [hl, hc] at he'
                cases hb : (Nat.ble ln cn && Nat.ble cn 1000) with
                | false => rw [hb] at he'; cases he'
                | true =>
                  rw [hb, cond_true] at he'
                  cases hz : zero (elemT t) with
                  | none => simp [hz] at he'
                  | some z =>
                    simp only [hz] at he'
                    obtain ⟨h1, h2, h3, h4, h5⟩ := newB_all he'
                    have hcn : cn < OPEN := by
                      simp only [Bool.and_eq_true, Nat.ble_eq] at hb
                      have := hb.2
                      unfold OPEN
                      omega
                    refine ⟨_, _, h1, h2, h3, h4, .inr (.inl ⟨ln, cn, hcn, fun b => rfl⟩), fun ρ hρ u hu => ?_, fun s' hs' => ?_⟩
                    · obtain ⟨y, i, _, _, hcl, rfl⟩ := zero_ok hz
                      exact (repL_closed (closed_cells hcl) u hu ρ).1
                    · have := h5 s' hs'
                      show oMakeSlice t (opnd e l) (opnd e c) s' = _
                      unfold oMakeSlice
                      simp only [hl, hc, hb, cond_true, hz]
                      exact this
              | negSucc _ => simp [hl, hc] at he'
            | _ => simp [hl, hc] at he'
        | negSucc _ => simp [hl] at he'
      | _ => simp [hl] at he'
  case call c =>
    simp only [kindOf] at hk
    cases hcal : c.callee with
    | builtin b =>
      rw [hcal] at hk
      cases b <;> simp at hk
    | _ => rw [hcal] at hk; simp at hk
  all_goals (simp [kindOf] at hk)
end
end Go.Proofs.YtfpmbneglnoojaaGreatDoor.Ab
/- Drawn regions: environments of which some is hidden; what an operation names; a block that is made late. -/
namespace Go.Proofs.YtfpmbneglnoojaaGreatDoor.Ab
open Go Go.Conc
set_option maxRecDepth 100000
noncomputable section
def hide (ds : List Tmp) : Env → Env
  | .nil => .nil
  | .cons t v e => if t ∈ ds then hide ds e else .cons t v (hide ds e)
theorem hide_get (ds : List Tmp) : ∀ (e : Env) (t : Tmp), (hide ds e).get t = if t ∈ ds then none else e.get t
  | .nil, t => by
    show Env.get .nil t = _
    have : Env.get .nil t = none := rfl
    rw [this]
    split <;> rfl
  | .cons u v e, t => by
    unfold hide
    by_cases hu : u ∈ ds
    · rw [if_pos hu, hide_get ds e t, Env.get_cons]
      by_cases ht : t ∈ ds
      · rw [if_pos ht, if_pos ht]
      · rw [if_neg ht, if_neg ht, if_neg (show ¬ u = t from fun h => ht (h ▸ hu))]
    · rw [if_neg hu, Env.get_cons, hide_get ds e t, Env.get_cons]
      by_cases ht : t ∈ ds
      · rw [if_pos ht, if_neg (show ¬ u = t from fun h => hu (h ▸ ht)), if_pos ht]
      · rw [if_neg ht, if_neg ht]
def only (ns : List Tmp) : Env → Env
  | .nil => .nil
  | .cons t v e => if t ∈ ns then .cons t v (only ns e) else only ns e
theorem only_get (ns : List Tmp) : ∀ (e : Env) (t : Tmp), (only ns e).get t = if t ∈ ns then e.get t else none
  | .nil, t => by
    have : ∀ t, Env.get .nil t = none := fun _ => rfl
    show Env.get .nil t = _
    rw [this]
    split <;> rfl
  | .cons u v e, t => by
    unfold only
    by_cases hu : u ∈ ns
    · rw [if_pos hu, Env.get_cons, only_get ns e t, Env.get_cons]
      by_cases ht : t ∈ ns
      · rw [if_pos ht, if_pos ht]
      · rw [if_neg ht, if_neg ht, if_neg (show ¬ u = t from fun h => ht (h ▸ hu))]
    · rw [if_neg hu, only_get ns e t, Env.get_cons]
      by_cases ht : t ∈ ns
      · rw [if_pos ht, if_pos ht, if_neg (show ¬ u = t from fun h => hu (h ▸ ht))]
      · rw [if_neg ht, if_neg ht]
variable {ops : Array Oper} {o : Oper}
/-- two environments agree on what an operation names -/
def Agr (ops : Array Oper) (o : Oper) (e1 e2 : Env) : Prop := ∀ t ∈ namesOf ops o, e1.get t = e2.get t
theorem Agr.refl (e : Env) : Agr ops o e e := fun _ _ => rfl
theorem Agr.symm {e1 e2 : Env} (h : Agr ops o e1 e2) : Agr ops o e2 e1 := fun t ht => (h t ht).symm
theorem Agr.trans {e1 e2 e3 : Env} (h : Agr ops o e1 e2) (k : Agr ops o e2 e3) : Agr ops o e1 e3 := fun t ht => (h t ht).trans (k t ht)
theorem Agr.opnd {e1 e2 : Env} (h : Agr ops o e1 e2) : ∀ x ∈ o.op.operands, opnd e1 x = opnd e2 x := by
  intro x hx
  cases x with
  | tmp t =>
    refine h t ?_
    unfold namesOf
    refine List.mem_append.2 (.inl ?_)
    rw [List.mem_filterMap]
    exact ⟨.tmp t, by simpa using hx, rfl⟩
  | _ => rfl
theorem Agr.guard {e1 e2 : Env} (h : Agr ops o e1 e2) : guardOk ops o.guard e1 = guardOk ops o.guard e2 := by
  unfold guardOk
  cases hg : o.guard with
  | none => rfl
  | some jw =>
    obtain ⟨j, want⟩ := jw
    simp only []
    unfold guardIs
    cases hd : dstOf ops j with
    | none => rfl
    | some t =>
      simp only []
      rw [h t ?_]
      unfold namesOf
      refine List.mem_append.2 (.inr ?_)
      simp [hg, hd]
theorem Agr.args {e1 e2 : Env} (h : Agr ops o e1 e2) {c : Call} (hc : o.op = .call c ∨ o.op = .defer c) : mapG (Ab.opnd e1) c.args.toList = mapG (Ab.opnd e2) c.args.toList := by
  refine mapG_congr fun x hx => h.opnd x ?_
  rcases hc with hc | hc <;> (rw [hc]; simp only [Op.operands, Call.operands]; exact Array.mem_append.2 (.inr (by simpa using hx)))
theorem Agr.callee {e1 e2 : Env} (h : Agr ops o e1 e2) {c : Call} (hc : o.op = .call c ∨ o.op = .defer c) {f : Operand} (hf : c.callee = .value f) : Ab.opnd e1 f = Ab.opnd e2 f := by
  refine h.opnd f ?_
  rcases hc with hc | hc <;> (rw [hc]; simp only [Op.operands, Call.operands, hf]; exact Array.mem_append.2 (.inl (by simp)))
theorem Agr.rOp {e1 e2 : Env} (h : Agr ops o e1 e2) (ih : Req → Out) (s : St) : rOp ih o.op e1 s = rOp ih o.op e2 s := by
  unfold Ab.rOp
  cases hc : callOf o.op with
  | some c =>
    have hop := callOf_eq hc
    simp only []
    rw [h.args (.inl hop)]
    cases mapG (Ab.opnd e2) c.args.toList with
    | none => rfl
    | some args =>
      simp only []
      unfold rCall1
      cases hcal : c.callee with
      | value f =>
        simp only []
        rw [h.callee (.inl hop) hcal]
      | _ => rfl
  | none =>
    simp only []
    cases hd : deferOf o.op with
    | some c =>
      have hop := deferOf_eq hd
      simp only []
      rw [h.args (.inr hop)]
      cases mapG (Ab.opnd e2) c.args.toList with
      | none => rfl
      | some args =>
        simp only []
        cases hcal : c.callee with
        | value f =>
          simp only []
          rw [h.callee (.inr hop) hcal]
        | _ => rfl
    | none =>
      simp only []
      cases hp : panicOf o.op with
      | some x =>
        have hop := panicOf_eq hp
        simp only []
        rw [h.opnd x (by rw [hop]; simp [Op.operands])]
      | none =>
        simp only []
        rw [op1_congr h.opnd]
theorem Agr.rStep {e1 e2 : Env} (h : Agr ops o e1 e2) (hns : isSp o.op = false) (ih : Req → Out) (s : St) : rStep ih ops o e1 s = rStep ih ops o e2 s := by
  unfold Ab.rStep
  rw [h.guard, h.rOp ih s, hns]
  rfl
theorem Agr.look {e1 e2 : Env} (h : Agr ops o e1 e2) (s : St) : lookOp o e1 s = lookOp o e2 s := by
  unfold lookOp
  cases hc : callOf o.op with
  | some c =>
    have hop := callOf_eq hc
    simp only []
    cases hcal : c.callee with
    | builtin b =>
      simp only []
      rw [h.args (.inl hop)]
    | _ => rfl
  | none =>
    simp only []
    rw [op1_congr h.opnd]
/-- a quiet operation is a look -/
theorem kind_nsp (hk : kindOf o.op < 3) : isSp o.op = false := by
  cases hop : o.op <;> rw [hop] at hk <;> first | rfl | (simp [kindOf] at hk)
theorem rStep_quiet (ih : Req → Out) (hk : kindOf o.op < 3) {e : Env} {s : St} (hnf : ∀ w, rStep ih ops o e s ≠ .fail w) : (guardOk ops o.guard e = some false ∧ rStep ih ops o e s = .val (.tuple #[]) s) ∨
    (guardOk ops o.guard e = some true ∧ ∃ v n h, lookOp o e s = .val v n h ∧ rStep ih ops o e s = .val v { n := n, h := h, d := s.d, rk := s.rk }) := by
  have key : rOp ih o.op e s = rRes s (lookOp o e s) ∨ ∃ w w', rOp ih o.op e s = .fail w ∧ lookOp o e s = .fail w' := by
    unfold Ab.rOp lookOp
    cases hc : callOf o.op with
    | some c =>
      have hop := callOf_eq hc
      rw [hop] at hk
      simp only [kindOf] at hk
      simp only []
      cases hcal : c.callee with
      | builtin b =>
        rw [hcal] at hk
        simp only []
        cases mapG (opnd e) c.args.toList with
        | none => exact .inr ⟨_, _, rfl, rfl⟩
        | some args =>
          left
          simp only []
          unfold rCall1
          rw [hcal]
          simp only []
          refine rBuiltin_eq ?_ c args s
          rintro rfl
          simp at hk
      | _ => rw [hcal] at hk; simp at hk
    | none =>
      simp only []
      cases hd : deferOf o.op with
      | some c =>
        rw [deferOf_eq hd] at hk
        simp [kindOf] at hk
      | none =>
        simp only []
        cases hp : panicOf o.op with
        | some x =>
          rw [panicOf_eq hp] at hk
          simp [kindOf] at hk
        | none => exact .inl rfl
  unfold Ab.rStep at hnf ⊢
  rw [kind_nsp hk] at hnf ⊢
  simp only [cond_false] at hnf ⊢
  cases hg : guardOk ops o.guard e with
  | none => rw [hg] at hnf; exact absurd rfl (hnf _)
  | some t =>
    rw [hg] at hnf
    cases t with
    | false => exact .inl ⟨rfl, rfl⟩
    | true =>
      simp only [] at hnf ⊢
      refine .inr ⟨trivial, ?_⟩
      rcases key with h1 | ⟨w, w', h1, h2⟩
      · rw [h1] at hnf ⊢
        cases hl : lookOp o e s with
        | fail w => rw [hl] at hnf; exact absurd rfl (hnf w)
        | val v n h => exact ⟨v, n, h, rfl, rfl⟩
      · exact absurd h1 (hnf w)
end
end Go.Proofs.YtfpmbneglnoojaaGreatDoor.Ab
/- A block that the evaluator has, and the machine not yet; and how it comes. -/
namespace Go.Proofs.YtfpmbneglnoojaaGreatDoor.Ab
open Go Go.Conc
set_option maxRecDepth 100000
noncomputable section
variable {cx : Cx} {ρ : Rho} {n : Nat} {h : Tr AObj} {w : World}
theorem WR.grow (hr : WR cx ρ n h w) (hn : n + 1 < 2 ^ 30) (O : AObj) : WR cx ρ (n + 1) (Tr.set O 40 n h) w := by
  have hn39 : n < 2 ^ 39 := by omega
  have hne : ∀ b i, ρ b = some i → b ≠ n := fun b i hb => by
    have := (hr.dom b i hb).1
    omega
  have hgk := hr.gk
  have hbn := hr.bn
  have hlive : ∀ b i, ρ b = some i → live (Tr.set O 40 n h) b → live h b := fun b i hb ⟨x, hx, hd⟩ => ⟨x, by rwa [set_get hn39, if_neg (hne b i hb)] at hx, hd⟩
  refine ⟨fun b i hb => ⟨Nat.lt_succ_of_lt (hr.dom b i hb).1, (hr.dom b i hb).2.1, fun hl => (hr.dom b i hb).2.2 (hlive b i hb hl)⟩, fun b i hb hbb hl => hr.low b i hb hbb (hlive b i hb hl), fun b i o hb hg => ?_, hr.lowF, fun b c i j hb hc h1 h2 l1 l2 he => ?_, hr.deep, hr.deepC, Nat.le_succ_of_le hr.bn, hn, fun b o hg => ?_, by rw [set_get hn39, if_neg (by omega)]; exact hr.gho, hgk, hr.pin, hr.gn⟩
  · rw [set_get hn39, if_neg (hne b i hb)] at hg
    exact hr.obj b i o hb hg
  · refine hr.inj b c i j hb hc h1 h2 ?_ ?_ he
    · obtain ⟨x, hx, hd⟩ := l1
      rw [set_get hn39, if_neg (hne b i hb)] at hx
      exact ⟨x, hx, hd⟩
    · obtain ⟨x, hx, hd⟩ := l2
      rw [set_get hn39, if_neg (hne c j hc)] at hx
      exact ⟨x, hx, hd⟩
  · rw [set_get hn39] at hg
    by_cases hb : b = n
    · omega
    · rw [if_neg hb] at hg
      have := hr.old b o hg
      omega
theorem ER_swap {ρ ρ1 ρ2 : Rho} (h1 : ρ.le ρ1) (h2 : ρ.le ρ2) {e : Env} {t0 t1 : Array Value} (ha : ER ρ e t0) (hb : ER ρ1 e t1) : ER ρ2 e t1 := fun t v hv => by
  obtain ⟨k1, _⟩ := ha t v hv
  obtain ⟨_, k4⟩ := hb t v hv
  have m1 := okV_mono h1 v k1
  have m2 := okV_mono h2 v k1
  exact ⟨m2.1, by rw [m2.2, ← m1.2]; exact k4⟩
theorem OR_swap {ρ ρ1 ρ2 : Rho} (h1 : ρ.le ρ1) (h2 : ρ.le ρ2) {i : Img} {wr : Bool} {o : AObj} {w0 w1 : World} (ha : OR ρ i wr o w0) (hb : OR ρ1 i wr o w1) : OR ρ2 i wr o w1 := by
  cases o with
  | row cs e =>
    obtain ⟨k1, _⟩ := ha
    obtain ⟨_, k2, c, fz, k3, k4, k5, k6⟩ := hb
    refine ⟨fun v hv => (okV_mono h2 v (k1 v hv)).1, k2, c, fz, k3, k4, k5, fun k v hk => ?_⟩
    have hm := k1 v (List.mem_of_getElem? hk)
    rw [(okV_mono h2 v hm).2, ← (okV_mono h1 v hm).2]
    exact k6 k v hk
  | map es clock =>
    obtain ⟨k1, _⟩ := ha
    obtain ⟨_, k2⟩ := hb
    refine ⟨fun x hx => ⟨(okV_mono h2 _ (k1 x hx).1).1, (okV_mono h2 _ (k1 x hx).2).1⟩, ?_⟩
    rw [k2]
    have : es.map (tE ρ2) = es.map (tE ρ1) := List.map_congr_left fun x hx => by
      simp only [tE, (okV_mono h2 _ (k1 x hx).1).2, (okV_mono h2 _ (k1 x hx).2).2, (okV_mono h1 _ (k1 x hx).1).2, (okV_mono h1 _ (k1 x hx).2).2]
    rw [this]
  | loop st pend fn env params assign body =>
    obtain ⟨t0, d0, _, k1, _⟩ := ha
    obtain ⟨t1, d1, k2, k3, k4⟩ := hb
    exact ⟨t1, d1, k2, ER_swap h1 h2 k1 k3, k4⟩
  | iter m since seen stepped =>
    obtain ⟨k0, k1, _⟩ := ha
    obtain ⟨_, _, k2⟩ := hb
    refine ⟨k0, fun x hx => okB_mono h2 (k1 x hx), ?_⟩
    rw [k2]
    cases m with
    | none => rfl
    | some x => simp [tB_mono h2 (k1 x rfl), tB_mono h1 (k1 x rfl)]
  | defd => exact hb
  | chan => exact hb
  | dead => trivial
theorem naming_img {k : Nat → Value} (hk : naming k) {ρ' : Rho} {b : Nat} (ho : okV ρ' (k b)) : ∃ i, ρ' b = some i := by
  rcases hk with hk | ⟨l, c, hc, hk⟩ | hk | hk
  · rw [hk] at ho
    simp only [okV] at ho
    exact (ho _ rfl).2
  · rw [hk] at ho
    simp only [okV] at ho
    exact (ho.1 _ rfl).2
  · rw [hk] at ho
    simp only [okV] at ho
    exact ho _ rfl
  · rw [hk] at ho
    simp only [okV] at ho
    exact ho _ rfl
theorem naming_tV {k : Nat → Value} (hk : naming k) {ρ1 ρ2 : Rho} {b c : Nat} {i : Img} (h1 : ρ1 b = some i) (h2 : ρ2 c = some i) : tV ρ2 (k c) = tV ρ1 (k b) ∧ okV ρ2 (k c) := by
  rcases hk with hk | ⟨l, cp, hc, hk⟩ | hk | hk
  · rw [hk, hk]
    exact ⟨by simp [tV, tA, h1, h2], by simp [okV, okA, h2]⟩
  · rw [hk, hk]
    refine ⟨by simp only [tV, tS]; rw [if_pos hc, if_pos hc]; simp [tA, h1, h2], ?_⟩
    simp only [okV]
    exact ⟨fun x hx => by cases hx; exact ⟨rfl, _, h2⟩, fun hx => by simp, fun hx => by omega⟩
  · rw [hk, hk]
    exact ⟨by simp [tV, tB, h1, h2], by simp [okV, okB, h2]⟩
  · rw [hk, hk]
    exact ⟨by simp [tV, tB, h1, h2], by simp [okV, okB, h2]⟩
/-- a block comes late: at n it would have come now; it takes the place that the evaluator gave it -/
theorem late_new (hr : WR cx ρ n h w) {nu : Nat} {O : AObj} {k : Nat → Value} {x : Value} {w' : World} (hnu : nu < n) (hnone : ρ nu = none) (hg : h.get nu = some O) (hb : cx.base ≤ nu) (hO : plainO ρ O) (hk : naming k)
    (hd : Done cx ρ n h (k n) (n + 1) (Tr.set O 40 n h) x w') : ∃ ρ2, ρ.le ρ2 ∧ x = tV ρ2 (k nu) ∧ okV ρ2 (k nu) ∧ WR cx ρ2 n h w' ∧ ∀ b, b ≠ nu → ρ b = none → ρ2 b = none := by
  obtain ⟨ρ', hle, hx, hok, hr', _, hkeep⟩ := hd
  obtain ⟨i, hi⟩ := naming_img hk hok
  have hsm := hr.small
  have hn39 : n < 2 ^ 39 := by omega
  have hle2 : ρ.le (ρ.add nu i) := Rho.le_add i hnone
  have hadd : (ρ.add nu i) nu = some i := Rho.add_self _ _ _
  have hother : ∀ b j, b ≠ nu → (ρ.add nu i) b = some j → ρ b = some j := fun b j hne hj => by simpa [Rho.add, hne] using hj
  obtain ⟨t1, t2⟩ := naming_tV hk hi hadd
  have hliveO : live h nu → live (Tr.set O 40 n h) n := fun ⟨x, hx, hd⟩ => ⟨O, by rw [set_get hn39, if_pos rfl], by rw [hg] at hx; cases hx; exact hd⟩
  have hliveU : ∀ b j, ρ b = some j → live h b → live (Tr.set O 40 n h) b := fun b j hj ⟨x, hx, hd⟩ => ⟨x, by rw [set_get hn39, if_neg (by have := (hr.dom b j hj).1; omega)]; exact hx, hd⟩
  refine ⟨ρ.add nu i, hle2, by rw [hx, t1], t2, ⟨fun b j hj => ?_, fun b j hj hbb hl => ?_, fun b j o hj hgo => ?_, fun b j hj hbb => ?_, fun b c j1 j2 h1 h2 hb1 hb2 l1 l2 he => ?_, hr'.deep, hr'.deepC, hr.bn, hr.small, hr.old, hr.gho, hr.gk, fun b k hb => (hr.pin b k hb).imp fun j hj => ⟨hle2 _ _ hj.1, hj.2⟩, by unfold Rho.add; rw [if_neg (by have := hr.gk; omega)]; exact hr.gn⟩, fun b hne hbn => ?_⟩
  · by_cases e : b = nu
    · subst e
      rw [hadd] at hj
      cases hj
      exact ⟨hnu, (hr'.dom n i hi).2.1, fun hl => (hr'.dom n i hi).2.2 (hliveO hl)⟩
    · have hj' := hother b j e hj
      exact ⟨(hr.dom b j hj').1, (hr'.dom b j (hle _ _ hj')).2.1, fun hl => (hr'.dom b j (hle _ _ hj')).2.2 (hliveU b j hj' hl)⟩
  · by_cases e : b = nu
    · subst e
      rw [hadd] at hj
      cases hj
      exact hr'.low n i hi (by omega) (hliveO hl)
    · exact hr'.low b j (hle _ _ (hother b j e hj)) hbb (hliveU b j (hother b j e hj) hl)
  · by_cases e : b = nu
    · subst e
      rw [hadd] at hj
      cases hj
      rw [hg] at hgo
      cases hgo
      have h0 := hr'.obj n i O hi (by rw [set_get hn39, if_pos rfl])
      have hd1 : decide (cx.base ≤ n) = true := by simpa using hr.bn
      have hd2 : decide (cx.base ≤ b) = true := by simpa using hb
      rw [hd1] at h0
      rw [hd2]
      cases O with
      | row cs el =>
        obtain ⟨_, k2, c, fz, k3, k4, k5, k6⟩ := h0
        have hO' : ∀ v ∈ cs, okV ρ v := hO
        refine ⟨fun v hv => (okV_mono hle2 v (hO' v hv)).1, k2, c, fz, k3, k4, k5, fun kk v hkk => ?_⟩
        have hm := hO' v (List.mem_of_getElem? hkk)
        rw [(okV_mono hle2 v hm).2, ← (okV_mono hle v hm).2]
        exact k6 kk v hkk
      | map es cl =>
        have hes : es = [] := hO
        subst hes
        exact ⟨by simp, h0.2⟩
      | chan => exact h0
      | _ => exact hO.elim
    · have hj' := hother b j e hj
      have hbn := (hr.dom b j hj').1
      refine OR_swap hle hle2 (hr.obj b j o hj' hgo) (hr'.obj b j o (hle _ _ hj') ?_)
      rw [set_get hn39, if_neg (by omega)]
      exact hgo
  · by_cases e : b = nu
    · omega
    · exact hr'.lowF b j (hle _ _ (hother b j e hj)) hbb
  · have key : ∀ b j, (ρ.add nu i) b = some j → live h b → ρ' (if b = nu then n else b) = some j ∧ live (Tr.set O 40 n h) (if b = nu then n else b) := by
      intro b j hj hl
      by_cases e : b = nu
      · subst e
        rw [hadd] at hj
        cases hj
        rw [if_pos rfl]
        exact ⟨hi, hliveO hl⟩
      · rw [if_neg e]
        have hj' := hother b j e hj
        have hbn := (hr.dom b j hj').1
        obtain ⟨y, hy, hd⟩ := hl
        exact ⟨hle _ _ hj', y, by rw [set_get hn39, if_neg (by omega)]; exact hy, hd⟩
    obtain ⟨a1, a2⟩ := key b j1 h1 l1
    obtain ⟨a3, a4⟩ := key c j2 h2 l2
    have hbn : ∀ b j, (ρ.add nu i) b = some j → b < n := fun b j hj => by
      by_cases e : b = nu
      · omega
      · exact (hr.dom b j (hother b j e hj)).1
    have hbase : ∀ b, cx.base ≤ b → cx.base ≤ (if b = nu then n else b) := fun b hb => by
      split
      · exact hr.bn
      · exact hb
    have := hr'.inj _ _ j1 j2 a1 a3 (hbase b hb1) (hbase c hb2) a2 a4 he
    have q1 := hbn b j1 h1
    have q2 := hbn c j2 h2
    split at this <;> split at this <;> omega
  · unfold Rho.add
    rw [if_neg hne]
    exact hbn
end
end Go.Proofs.YtfpmbneglnoojaaGreatDoor.Ab
/- A drawn region's plan: what its checks say. -/
namespace Go.Proofs.YtfpmbneglnoojaaGreatDoor.Ab
open Go Go.Conc
set_option maxRecDepth 100000
noncomputable section
variable {ops : Array Oper}
/-- an edge that binds in every order -/
def on (ops : Array Oper) (i j : Nat) : Prop := ∃ e ∈ (ops.getD i default).after, Region.binds .any e = true ∧ e.on = j
structure PlanOk (ops : Array Oper) (L : List Item1) : Prop where
  item : ∀ x ∈ L, x = item ops (Region.before ops) x.idx ∧ x.idx < ops.size
  cover : ∀ i, i < ops.size → ∃ x ∈ L, x.idx = i
  len : L.length = ops.size
  pair : L.Pairwise fun x y => pairOk ops x y = true
  loud : ∀ D x r, L = D ++ x :: r → isLoud x = true → ∀ y ∈ r, ∃ j, on ops y.idx j ∧ ∃ z ∈ x :: r, z.idx = j
  topo : ∀ D x r, L = D ++ x :: r → (∀ j, on ops x.idx j → ∃ z ∈ D, z.idx = j) ∧ (isLoud x = false → inL x.o.dst (namesOf ops x.o) = false)
  nsp : ∀ x ∈ L, isSp x.o.op = false
  mask : ∀ i, i < ops.size → ∀ j, j < ops.size → Nat.testBit ((Region.before ops).getD i 0) j = true → ∃ k, on ops i k ∧ (k = j ∨ Nat.testBit ((Region.before ops).getD k 0) j = true)
theorem item_o {x : Item1} {i : Nat} (h : x = item ops (Region.before ops) i) : x.o = ops.getD i default ∧ x.mask = (Region.before ops).getD i 0 ∧ x.bit = 2 ^ i ∧ x.idx = i := by
  subst h
  exact ⟨rfl, rfl, rfl, rfl⟩
theorem pairsOk_ok : ∀ {L : List Item1}, pairsOk ops L = true → L.Pairwise fun x y => pairOk ops x y = true
  | [], _ => .nil
  | x :: r, h => by
    have h' : (r.all (pairOk ops x) && pairsOk ops r) = true := h
    rw [Bool.and_eq_true] at h'
    exact .cons (List.all_eq_true.1 h'.1) (pairsOk_ok h'.2)
theorem loudFirst_ok : ∀ {L : List Item1}, loudFirst L = true → ∀ D x r, L = D ++ x :: r → isLoud x = true → ∀ y ∈ r, waitsFor (x :: r) y = true
  | [], _, D, x, r, h, _ => by simp at h
  | z :: L, hl, D, x, r, h, hx => by
    have h' : ((!isLoud z || L.all (waitsFor (z :: L))) && loudFirst L) = true := hl
    rw [Bool.and_eq_true] at h'
    cases D with
    | nil =>
      simp only [List.nil_append, List.cons.injEq] at h
      obtain ⟨rfl, rfl⟩ := h
      have := h'.1
      rw [hx] at this
      exact List.all_eq_true.1 this
    | cons d D =>
      simp only [List.cons_append, List.cons.injEq] at h
      exact loudFirst_ok h'.2 D x r h.2 hx
theorem topo_ok : ∀ {L : List Item1} {done : List Nat}, topo ops L done = true → ∀ D x r, L = D ++ x :: r →
    (∀ e ∈ x.o.after, Region.binds .any e = true → e.on ∈ done ∨ ∃ z ∈ D, z.idx = e.on) ∧ (isLoud x = false → inL x.o.dst (namesOf ops x.o) = false) ∧ isSp x.o.op = false ∧ x.idx < ops.size
  | [], done, _, D, x, r, h => by simp at h
  | z :: L, done, hl, D, x, r, h => by
    have h' : ((z.o.after.toList.all fun e => !Region.binds .any e || done.any (Nat.beq e.on)) && ((isLoud z || !inL z.o.dst (namesOf ops z.o)) && (!isSp z.o.op && (Nat.blt z.idx ops.size && topo ops L (z.idx :: done))))) = true := hl
    simp only [Bool.and_eq_true, Nat.blt_eq] at h'
    obtain ⟨h1, h2, h0, h3, h4⟩ := h'
    cases D with
    | nil =>
      simp only [List.nil_append, List.cons.injEq] at h
      obtain ⟨rfl, rfl⟩ := h
      refine ⟨fun e he hb => .inl ?_, fun hx => ?_, by simpa using h0, h3⟩
      · have := List.all_eq_true.1 h1 e (by simpa using he)
        rw [hb] at this
        simp only [Bool.not_true, Bool.false_or, List.any_eq_true] at this
        obtain ⟨y, hy, hey⟩ := this
        rw [Nat.eq_of_beq_eq_true hey]
        exact hy
      · rw [hx] at h2
        simpa using h2
    | cons d D =>
      simp only [List.cons_append, List.cons.injEq] at h
      obtain ⟨rfl, rfl⟩ := h
      obtain ⟨k1, k2⟩ := topo_ok h4 D x r rfl
      refine ⟨fun e he hb => ?_, k2⟩
      rcases k1 e he hb with h | ⟨y, hy, hey⟩
      · rcases List.mem_cons.1 h with h | h
        · exact .inr ⟨z, by simp, h.symm⟩
        · exact .inl h
      · exact .inr ⟨y, by simp [hy], hey⟩
theorem plan_ok {L : List Item1} (h : plan ops = some L) : PlanOk ops L := by
  unfold plan at h
  simp only [] at h
  generalize hO : ordGo ops.size 0 (items ops (List.range ops.size)) = od at h
  cases hc : (permOk ops.size od && (pairsOk ops (items ops od) && (loudFirst (items ops od) && (topo ops (items ops od) [] && (List.range ops.size).all (maskOk ops (Region.before ops)))))) with
  | false => rw [hc] at h; cases h
  | true =>
    rw [hc, cond_true] at h
    cases h
    simp only [Bool.and_eq_true] at hc
    obtain ⟨h1, h2, h3, h4, h5⟩ := hc
    unfold permOk at h1
    rw [Bool.and_eq_true] at h1
    have hitem : ∀ x ∈ items ops od, x = item ops (Region.before ops) x.idx := fun x hx => by
      obtain ⟨i, _, rfl⟩ := List.mem_map.1 hx
      rfl
    have hon : ∀ x ∈ items ops od, ∀ j, on ops x.idx j ↔ ∃ e ∈ x.o.after, Region.binds .any e = true ∧ e.on = j := fun x hx j => by
      rw [(item_o (hitem x hx)).1]
      exact Iff.rfl
    refine ⟨fun x hx => ⟨hitem x hx, ?_⟩, fun i hi => ?_, ?_, pairsOk_ok h2, fun D x r hD hx y hy => ?_, fun D x r hD => ?_, fun x hx => ?_, fun i hi j hj hb => ?_⟩
    · obtain ⟨D, r, hD⟩ := List.append_of_mem hx
      exact (topo_ok h4 D x r hD).2.2.2
    · have := List.all_eq_true.1 h1.2 i (by simpa using hi)
      obtain ⟨y, hy, hey⟩ := List.any_eq_true.1 this
      exact ⟨_, List.mem_map_of_mem hy, (Nat.eq_of_beq_eq_true hey).symm⟩
    · unfold items
      rw [List.length_map]
      exact Nat.eq_of_beq_eq_true h1.1
    · have := loudFirst_ok h3 D x r hD hx y hy
      unfold waitsFor at this
      obtain ⟨e, he, hee⟩ := List.any_eq_true.1 this
      rw [Bool.and_eq_true] at hee
      obtain ⟨z, hz, hze⟩ := List.any_eq_true.1 hee.2
      refine ⟨e.on, (hon y (by rw [hD]; simp [hy]) e.on).2 ⟨e, by simpa using he, hee.1, rfl⟩, z, hz, Nat.eq_of_beq_eq_true hze⟩
    · obtain ⟨k1, k2, _⟩ := topo_ok h4 D x r hD
      refine ⟨fun j hj => ?_, k2⟩
      obtain ⟨e, he, hb, rfl⟩ := (hon x (by rw [hD]; simp) j).1 hj
      exact (k1 e he hb).resolve_left (by simp)
    · obtain ⟨D, r, hD⟩ := List.append_of_mem hx
      exact (topo_ok h4 D x r hD).2.2.1
    · have := List.all_eq_true.1 h5 i (by simpa using hi)
      unfold maskOk at this
      have := List.all_eq_true.1 this j (by simpa using hj)
      rw [hb] at this
      simp only [Bool.not_true, Bool.false_or] at this
      obtain ⟨e, he, hee⟩ := List.any_eq_true.1 this
      simp only [Bool.and_eq_true, Bool.or_eq_true] at hee
      refine ⟨e.on, ⟨e, by simpa using he, hee.1, rfl⟩, ?_⟩
      rcases hee.2 with h | h
      · exact .inl (Nat.eq_of_beq_eq_true h)
      · exact .inr h
theorem land_bit (m i : Nat) : (Nat.land m (2 ^ i) = 0) ↔ Nat.testBit m i = false := by
  constructor
  · intro h
    have : Nat.testBit (m &&& 2 ^ i) i = false := by
      show Nat.testBit (Nat.land m (2 ^ i)) i = false
      rw [h]
      simp
    rw [Nat.testBit_and, Nat.testBit_two_pow_self] at this
    simpa using this
  · intro h
    apply Nat.eq_of_testBit_eq
    intro j
    show Nat.testBit (m &&& 2 ^ i) j = _
    rw [Nat.testBit_and, Nat.zero_testBit, Nat.testBit_two_pow]
    by_cases hj : i = j
    · subst hj
      simp [h]
    · simp [hj]
theorem hasBit_iff (m i : Nat) : hasBit m (2 ^ i) = Nat.testBit m i := by
  unfold hasBit
  cases hb : m.testBit i with
  | false =>
    rw [(land_bit m i).2 hb]
    rfl
  | true =>
    have h2 : Nat.beq (Nat.land m (2 ^ i)) 0 = false := by
      cases h : Nat.beq (Nat.land m (2 ^ i)) 0 with
      | false => rfl
      | true =>
        have := (land_bit m i).1 (Nat.eq_of_beq_eq_true h)
        rw [hb] at this
        cases this
    rw [h2]
    rfl
/-- what a pair's check says -/
structure PairOk (ops : Array Oper) (x y : Item1) : Prop where
  fwd : inL x.o.dst (namesOf ops y.o) = true → hasBit y.mask x.bit = true
  bwd : inL y.o.dst (namesOf ops x.o) = true → isLoud y = true ∧ hasBit y.mask x.bit = true
  dst : sameDst x.o.dst y.o.dst = false
  ne : x.idx ≠ y.idx
theorem pairOk_ok {x y : Item1} (h : pairOk ops x y = true) : PairOk ops x y := by
  unfold pairOk at h
  simp only [Bool.and_eq_true, Bool.or_eq_true, Bool.not_eq_true', Bool.and_eq_false_iff] at h
  obtain ⟨h1, h2, h3, h4⟩ := h
  refine ⟨fun hx => ?_, fun hx => ?_, h3, fun he => ?_⟩
  · rcases h1 with h | ⟨_, h⟩
    · exact h
    · rw [hx] at h; cases h
  · rcases h2 with h | h
    · rw [hx] at h; cases h
    · exact h
  · rw [he] at h4
    simp at h4
theorem inL_some {t : Tmp} {l : List Tmp} : inL (some t) l = true ↔ t ∈ l := by
  unfold inL
  simp only [List.any_eq_true]
  constructor
  · rintro ⟨x, hx, he⟩
    rw [Nat.eq_of_beq_eq_true he]
    exact hx
  · exact fun h => ⟨t, h, by simp⟩
/-! what may come next -/
theorem ready_iff {listed : Array Bool} {i : Nat} : i ∈ Region.ready .any ops listed ↔ i < ops.size ∧ listed.getD i true = false ∧ ∀ j, on ops i j → listed.getD j false = true := by
  unfold Region.ready
  simp only [List.mem_filter, List.mem_range, Bool.and_eq_true, Bool.not_eq_true']
  constructor
  · rintro ⟨h1, h2, h3⟩
    refine ⟨h1, h2, fun j hj => ?_⟩
    obtain ⟨e, he, hb, rfl⟩ := hj
    have hg : ops[i]? = some (ops.getD i default) := by simp [Array.getD, h1]
    rw [hg] at h3
    simp only [Option.map_some, Option.getD_some, Array.all_eq_true'] at h3
    have := h3 e he
    rw [hb] at this
    simpa using this
  · rintro ⟨h1, h2, h3⟩
    refine ⟨h1, h2, ?_⟩
    have hg : ops[i]? = some (ops.getD i default) := by simp [Array.getD, h1]
    rw [hg]
    simp only [Option.map_some, Option.getD_some, Array.all_eq_true']
    intro e he
    cases hb : Region.binds .any e with
    | false => simp
    | true => simpa using h3 e.on ⟨e, he, hb, rfl⟩
theorem go_step {fuel t : Nat} {listed : Array Bool} (hr : Region.ready .any ops listed ≠ []) : ∃ i ∈ Region.ready .any ops listed, ∃ t', Region.linearise.go .any ops (fuel + 1) t listed [] = i :: Region.linearise.go .any ops fuel t' (listed.setIfInBounds i true) [] := by
  have hlen : 0 < (Region.ready .any ops listed).length := List.length_pos_iff.2 hr
  have hlt : t % (Region.ready .any ops listed).length < (Region.ready .any ops listed).length := Nat.mod_lt _ hlen
  refine ⟨(Region.ready .any ops listed)[t % (Region.ready .any ops listed).length], List.getElem_mem _, t / (Region.ready .any ops listed).length, ?_⟩
  have hsome : (Region.ready .any ops listed)[t % (Region.ready .any ops listed).length]? = some ((Region.ready .any ops listed)[t % (Region.ready .any ops listed).length]) := List.getElem?_eq_getElem hlt
  show (match (Region.ready .any ops listed)[t % (Region.ready .any ops listed).length]? with
    | some i => Region.linearise.go .any ops fuel (t / (Region.ready .any ops listed).length) (listed.setIfInBounds i true) [i]
    | none => [].reverse) = _
  rw [hsome]
  simp only []
  rw [linearise_go_acc, List.reverse_singleton, List.singleton_append]
theorem go_end {fuel t : Nat} {listed : Array Bool} (hr : Region.ready .any ops listed = []) : Region.linearise.go .any ops fuel t listed [] = [] := by
  cases fuel with
  | zero => rfl
  | succ fuel =>
    show (match (Region.ready .any ops listed)[t % (Region.ready .any ops listed).length]? with
      | some i => Region.linearise.go .any ops fuel (t / (Region.ready .any ops listed).length) (listed.setIfInBounds i true) [i]
      | none => [].reverse) = _
    rw [hr]
    rfl
end
end Go.Proofs.YtfpmbneglnoojaaGreatDoor.Ab
/- Drawn regions: what is reckoned and not run; how it is run. -/
namespace Go.Proofs.YtfpmbneglnoojaaGreatDoor.Ab
open Go Go.Conc
set_option maxRecDepth 100000
noncomputable section
variable {mn : Bool}
variable {Z : Phs}
variable {ops : Array Oper}
theorem look_opd {cx : Cx} {ρ : Rho} {w : World} {s : St} {e : Env} {ev : Operand → Value} {o : Oper} {v : Value} {n : Nat} {h : Tr AObj} {nt : Nat} (hbase : cx.base = BASE) (hE : Ev ρ (opnd e) ev) (hr : WR cx ρ s.n s.h w) (hok : okOp nt o = true) (hl : lookOp o e s = .val v n h) :
    Opd cx ρ s v n h w (execOp ev o) := by
  unfold lookOp at hl
  cases hc : callOf o.op with
  | some c =>
    have hop := callOf_eq hc
    simp only [hc] at hl
    cases hcal : c.callee with
    | builtin bb =>
      simp only [hcal] at hl
      cases hargs : mapG (opnd e) c.args.toList with
      | none => simp [hargs] at hl
      | some args =>
        simp only [hargs] at hl
        obtain ⟨k3, k4⟩ := mapG_ok hE hargs
        have hx : execOp ev o = builtin bb c.argTypes o.type (c.args.map fun | .const _ => true | _ => false) (args.map (tV ρ)).toArray := by
          unfold execOp
          rw [hop]
          simp only [resolve, hcal]
          have e2 : c.args.map ev = (args.map (tV ρ)).toArray := by
            apply Array.ext'
            rw [Array.toList_map, k4]
          rw [e2]
          rfl
        rw [hx]
        refine builtin_ok hbase hr k3 ?_ hl
        unfold okOp at hok
        rw [hop, Bool.and_eq_true] at hok
        have := hok.2
        simp only [hcal] at this
        exact this
    | _ => simp [hcal] at hl
  | none =>
    simp only [hc] at hl
    exact op1_ok hbase hE hr hok hl
structure Rec where
  x : Item1
  v : Value
  n : Nat
  nw : Bool
def dstsU (U : List Rec) : List Tmp := U.filterMap (·.x.o.dst)
def QOk (ops : Array Oper) (pend : List Seen1) (ρ : Rho) (e : Env) (s : St) (u : Rec) : Prop :=
  (∀ t, u.x.o.dst = some t → e.get t = some u.v) ∧ (u.nw = true → u.n < s.n) ∧
  ((guardOk ops u.x.o.guard e = some false ∧ u.v = .tuple #[]) ∨
   (guardOk ops u.x.o.guard e = some true ∧
     ((kindOf u.x.o.op = 0 ∧ lookOp u.x.o e s = .val u.v s.n s.h) ∨
      (kindOf u.x.o.op = 1 ∧ ∃ v', lookOp u.x.o e s = .val v' s.n s.h ∧ (u.x.o.dst ≠ none → v' = u.v) ∧ ∃ q ∈ pend, q.x = u.x ∧ (u.x.o.dst ≠ none → q.v = u.v) ∧ Agr ops u.x.o q.e e) ∨
      (kindOf u.x.o.op = 2 ∧ u.nw = true ∧ ∃ k O, u.v = k u.n ∧ u.n < s.n ∧ BASE ≤ u.n ∧ ρ u.n = none ∧ s.h.get u.n = some O ∧ naming k ∧ ∀ s' : St, s'.n < 1000000 → lookOp u.x.o e s' = .val (k s'.n) (s'.n + 1) (Tr.set O 40 s'.n s'.h)))))
theorem QOk.image {pend : List Seen1} {ρ ρ' : Rho} {e : Env} {s : St} {u : Rec} (h : QOk ops pend ρ e s u) (hρ : u.nw = true → ρ u.n = none → u.n < s.n → ρ' u.n = none) : QOk ops pend ρ' e s u := by
  obtain ⟨h1, h0, h2⟩ := h
  refine ⟨h1, h0, ?_⟩
  rcases h2 with h2 | ⟨hg, h2 | h2 | ⟨hk, hw, k, O, k1, k2, k3, k4, k5⟩⟩
  · exact .inl h2
  · exact .inr ⟨hg, .inl h2⟩
  · exact .inr ⟨hg, .inr (.inl h2)⟩
  · exact .inr ⟨hg, .inr (.inr ⟨hk, hw, k, O, k1, k2, k3, hρ hw k4 k2, k5⟩)⟩
theorem dstsU_split (U1 U2 : List Rec) (u : Rec) (t : Tmp) : t ∈ dstsU (U1 ++ u :: U2) ↔ u.x.o.dst = some t ∨ t ∈ dstsU (U1 ++ U2) := by
  unfold dstsU
  simp only [List.mem_filterMap, List.mem_append, List.mem_cons]
  constructor
  · rintro ⟨r, hr | rfl | hr, ht⟩
    · exact .inr ⟨r, .inl hr, ht⟩
    · exact .inl ht
    · exact .inr ⟨r, .inr hr, ht⟩
  · rintro (ht | ⟨r, hr | hr, ht⟩)
    · exact ⟨u, .inr (.inl rfl), ht⟩
    · exact ⟨r, .inl hr, ht⟩
    · exact ⟨r, .inr (.inr hr), ht⟩
/-- what was hidden comes to light -/
theorem ER_reveal {ρ : Rho} {U1 U2 : List Rec} {u : Rec} {e : Env} {a : Act} {v : Value} (h : ER ρ (hide (dstsU (U1 ++ u :: U2)) e) a.tmps) (hv : okV ρ v) (hd : ∀ t, u.x.o.dst = some t → e.get t = some v) (hs : ∀ t, u.x.o.dst = some t → t < a.tmps.size) :
    ER ρ (hide (dstsU (U1 ++ U2)) e) (a.put u.x.o.dst (tV ρ v)).tmps := by
  intro t y hy
  rw [hide_get] at hy
  by_cases h1 : t ∈ dstsU (U1 ++ U2)
  · rw [if_pos h1] at hy; cases hy
  · rw [if_neg h1] at hy
    by_cases h2 : u.x.o.dst = some t
    · rw [hd t h2] at hy
      cases hy
      refine ⟨hv, ?_⟩
      rw [h2]
      show (a.tmps.setIfInBounds t (tV ρ v))[t]? = _
      simp [hs t h2]
    · have h3 : t ∉ dstsU (U1 ++ u :: U2) := fun h => by
        rcases (dstsU_split U1 U2 u t).1 h with h | h
        · exact h2 h
        · exact h1 h
      obtain ⟨k1, k2⟩ := h t y (by rw [hide_get, if_neg h3]; exact hy)
      refine ⟨k1, ?_⟩
      cases hdst : u.x.o.dst with
      | none => exact k2
      | some d =>
        show (a.tmps.setIfInBounds d (tV ρ v))[t]? = _
        rw [Array.getElem?_setIfInBounds_ne (fun h => h2 (by rw [hdst, h]))]
        exact k2
theorem ER_off {ρ : Rho} {e : Env} {a : Act} {d : Option Tmp} {x : Value} (h : ER ρ e a.tmps) (hd : ∀ t, d = some t → e.get t = none) : ER ρ e (a.put d x).tmps := by
  cases d with
  | none => exact h
  | some d =>
    intro t v hv
    obtain ⟨k1, k2⟩ := h t v hv
    refine ⟨k1, ?_⟩
    show (a.tmps.setIfInBounds d x)[t]? = _
    rw [Array.getElem?_setIfInBounds_ne (fun hh => by subst hh; rw [hd _ rfl] at hv; cases hv)]
    exact k2
theorem kind_nd {o : Oper} (hk : kindOf o.op < 3) : ∀ c, o.op ≠ .defer c := fun c hc => by rw [hc] at hk; simp [kindOf] at hk
/-- one of those that were reckoned is run -/
theorem exec_quiet {p : Z.T} {ρ : Rho} {w : World} {e e0 : Env} {s : St} {b : Frame} {a : Act} {cs : List Frame} {k : List Item} {M i : Nat} {rest : List Nat} {U1 U2 : List Rec} {u : Rec} {pend : List Seen1} {nt : Nat}
    (ho : ops[i]? = some u.x.o) (hok : okOp nt u.x.o = true) (hk3 : kindOf u.x.o.op < 3) (hntb : nt = ntOf b.fn) (hq : ∀ r ∈ U1 ++ u :: U2, QOk ops pend ρ e s r) (hdis : ∀ t ∈ namesOf ops u.x.o, t ∉ dstsU (U1 ++ u :: U2)) (hsn : s.n < 1000000)
    (hn : ∀ r ∈ U1 ++ U2, r.nw = true → u.nw = true → r.n ≠ u.n) (hat : AtC Z p ρ w (hide (dstsU (U1 ++ u :: U2)) e) s b a cs) (he0 : ER ρ e0 a.tmps) (hd0 : ∀ t, u.x.o.dst = some t → e0.get t = none)
    (cont : ∀ q ρ' w' a', Z.le p q → ρ.le ρ' → (∀ b, b < s.n → ρ b = none → (u.nw = true → b ≠ u.n) → ρ' b = none) → AtC Z q ρ' w' (hide (dstsU (U1 ++ U2)) e) s b a' cs → (∀ r ∈ U1 ++ U2, QOk ops pend ρ' e s r) → ER ρ' e0 a'.tmps →
      Z.fam q M (G (b.atR a' (.inRegion ops rest :: k)) cs) w') : Z.fam p (M + 1) (G (b.atR a (.inRegion ops (i :: rest) :: k)) cs) w := by
  obtain ⟨hu1, hu0, hu2⟩ := hq u (by simp)
  have hagr : Agr ops u.x.o (hide (dstsU (U1 ++ u :: U2)) e) e := fun t ht => by rw [hide_get, if_neg (hdis t ht)]
  have hds := okOp_dst hok
  have hsz : ∀ t, u.x.o.dst = some t → t < a.tmps.size := fun t ht => Nat.lt_of_lt_of_le (hds t ht) (hntb ▸ hat.nt)
  have hqr : ∀ r ∈ U1 ++ U2, QOk ops pend ρ e s r := fun r hr => hq r (by
    rcases List.mem_append.1 hr with h | h
    · simp [h]
    · simp [h])
  refine Z.step p _ _ _ rfl fun p w1 hw => ?_
  replace hat := hat.rel hw
  -- behind the step: what was hidden is there
  have fin : ∀ ρ' w' v, ρ.le ρ' → WR (Z.cx p) ρ' s.n s.h w' → okV ρ' v → (∀ t, u.x.o.dst = some t → e.get t = some v) → (∀ b, b < s.n → ρ b = none → (u.nw = true → b ≠ u.n) → ρ' b = none) → Z.fam p M (G (b.atR (a.put u.x.o.dst (tV ρ' v)) (.inRegion ops rest :: k)) cs) w' := by
    intro ρ' w' v hle hr' hv hd hkeep
    have hx : (a.put u.x.o.dst (tV ρ' v)).defers = a.defers := by cases u.x.o.dst <;> rfl
    refine cont p ρ' w' _ (Z.mv_le hw) hle hkeep ⟨hr', ER_reveal (ER_mono hle hat.er) hv hd hsz, hat.glob.mono hle, by rw [put_size]; exact hat.nt, by rw [hx]; exact hat.dr.mono hle, hat.rk.mono hle, hat.kind⟩ (fun r hr => (hqr r hr).image fun h1 h2 h3 => hkeep _ h3 h2 fun h4 => hn r hr h1 h4) (ER_off (ER_mono hle he0) hd0)
  have ha1 := hat
  rcases hu2 with ⟨hg, hv⟩ | ⟨hg, hu2⟩
  · rw [← hagr.guard] at hg
    rw [g_unwanted ho (wanted_ok hat.er hg)]
    refine ⟨Gw.refl _ _, by simp, ?_⟩
    have := fin ρ w1 (.tuple #[]) ρ.le_refl ha1.wr (by simp [okV]) (fun t ht => by rw [hu1 t ht, hv]) fun _ _ h _ => h
    have e1 : tV ρ (.tuple #[]) = undef := by simp [tV, undef]
    rw [e1] at this
    exact this
  · rw [← hagr.guard] at hg
    have hE := opnd_ok ha1.er ha1.glob
    rw [g_oper ho (wanted_ok hat.er hg) (.inr (kind_nd hk3))]
    have run : ∀ {v : Value} {n : Nat} {h : Tr AObj}, lookOp u.x.o e s = .val v n h → (∀ x w', Done (Z.cx p) ρ s.n s.h v n h x w' → Z.fam p M (G (b.atR (a.put u.x.o.dst x) (.inRegion ops rest :: k)) cs) w') →
        (stepG.apply PG true (b.atR a (.inRegion ops (i :: rest) :: k)) cs none (execOp a.eval u.x.o) w1).goes fun g' w' es => Gw (Z.cx p) w1 w' ∧ (∀ e ∈ es, EvOK (Z.cx p) w'.heap.size e) ∧ Z.fam p M g' w' := by
      intro v n h hl hK
      rw [← hagr.look s] at hl
      refine apply_go ha1.wr.deep ha1.kind (by simp [plainTodo, Frame.atR]) (look_opd (Z.base p) hE ha1.wr hok hl) (fun nx w' es ⟨x, hx, hD⟩ hG hEs => ?_) fun v w' es hf => hf.elim
      have hK' := hK x w' hD
      have hfr : (b.atR a (.inRegion ops (i :: rest) :: k)).finish x = b.atR (a.put u.x.o.dst x) (.inRegion ops rest :: k) := by
        rw [fin_atR ho, ← put_defers]
      rcases hx with rfl | ⟨rfl, rfl⟩
      · refine ⟨hG, hEs, ?_⟩
        rw [hfr]
        exact hK'
      · refine ⟨hG, hEs, ?_⟩
        rw [hfr]
        exact hK'
    rcases hu2 with ⟨_, hl⟩ | ⟨_, v', hl, hv', _⟩ | ⟨hk2, hnw, kk, O, q1, q2, q3, q4, q5, q6, q7⟩
    · refine run hl fun x w' hD => ?_
      obtain ⟨ρ', h1, rfl, h3, h4, h5, h6⟩ := hD
      exact fin ρ' w' u.v h1 h4 h3 hu1 fun b hb hbn _ => (h6 b hb hbn).1
    · refine run hl fun x w' hD => ?_
      obtain ⟨ρ', h1, rfl, h3, h4, h5, h6⟩ := hD
      exact fin ρ' w' v' h1 h4 h3 (fun t ht => by rw [hv' (by rw [ht]; simp)]; exact hu1 t ht) fun b hb hbn _ => (h6 b hb hbn).1
    · refine run (q7 s hsn) fun x w' hD => ?_
      have hl := q7 s hsn
      rw [← hagr.look s] at hl
      obtain ⟨k', O', _, _, _, hh, _, hpl, _⟩ := look_new hok hk2 hl
      have hOO : O = O' := by
        have h1 : (Tr.set O 40 s.n s.h).get s.n = (Tr.set O' 40 s.n s.h).get s.n := by rw [hh]
        have hs39 : s.n < 2 ^ 39 := by omega
        rw [set_get hs39, set_get hs39, if_pos rfl, if_pos rfl] at h1
        exact Option.some.inj h1
      subst hOO
      have hbase : (Z.cx p).base ≤ u.n := by rw [(Z.base p)]; exact q3
      obtain ⟨ρ2, h1, rfl, h3, h4, h5⟩ := late_new ha1.wr q2 q4 q5 hbase (hpl ρ fun x y hx => (hE x y hx).1) q6 hD
      rw [← q1] at h3 ⊢
      exact fin ρ2 w' u.v h1 h4 h3 hu1 fun b _ hbn hne => h5 b (hne hnw) hbn
end
end Go.Proofs.YtfpmbneglnoojaaGreatDoor.Ab
/- Drawn regions: what has been listed; who may come next. -/
namespace Go.Proofs.YtfpmbneglnoojaaGreatDoor.Ab
open Go Go.Conc
set_option maxRecDepth 100000
noncomputable section
variable {ops : Array Oper} {L : List Item1}
structure SI (ops : Array Oper) (L D R : List Item1) (U : List Rec) (listed : Array Bool) : Prop where
  split : L = D ++ R
  inD : ∀ u ∈ U, u.x ∈ D ∧ isLoud u.x = false
  nodup : U.Pairwise fun a b => a.x.idx ≠ b.x.idx
  size : listed.size = ops.size
  lst : ∀ x ∈ L, listed.getD x.idx true = false ↔ (x ∈ R ∨ ∃ u ∈ U, u.x = x)
  closed : ∀ i, i < ops.size → listed.getD i true = true → ∀ j, j < ops.size → Nat.testBit ((Region.before ops).getD i 0) j = true → listed.getD j true = true
  blk : U.Pairwise fun a b => a.nw = true → b.nw = true → a.n ≠ b.n
theorem getD_tf {l : Array Bool} {i : Nat} (h : i < l.size) : l.getD i true = l.getD i false := by simp [Array.getD, h]
theorem first_of {α : Type} {P : α → Prop} : ∀ (l : List α), (∃ x ∈ l, P x) → ∃ D x r, l = D ++ x :: r ∧ P x ∧ ∀ d ∈ D, ¬ P d
  | [], h => by simp at h
  | a :: l, h => by
    by_cases ha : P a
    · exact ⟨[], a, l, rfl, ha, by simp⟩
    · obtain ⟨x, hx, hp⟩ := h
      have hx' : x ∈ l := by
        rcases List.mem_cons.1 hx with rfl | h
        · exact absurd hp ha
        · exact h
      obtain ⟨D, y, r, h1, h2, h3⟩ := first_of l ⟨x, hx', hp⟩
      refine ⟨a :: D, y, r, by rw [h1]; rfl, h2, fun d hd => ?_⟩
      rcases List.mem_cons.1 hd with rfl | h
      · exact ha
      · exact h3 d h
theorem pair_either {α : Type} {R : α → α → Prop} : ∀ {l : List α}, l.Pairwise R → ∀ x ∈ l, ∀ y ∈ l, x ≠ y → R x y ∨ R y x
  | [], _, x, hx, _, _, _ => by simp at hx
  | a :: l, h, x, hx, y, hy, hne => by
    rw [List.pairwise_cons] at h
    rcases List.mem_cons.1 hx with rfl | hx'
    · rcases List.mem_cons.1 hy with rfl | hy'
      · exact absurd rfl hne
      · exact .inl (h.1 y hy')
    · rcases List.mem_cons.1 hy with rfl | hy'
      · exact .inr (h.1 x hx')
      · exact pair_either h.2 x hx' y hy' hne
variable {D R : List Item1} {U : List Rec} {listed : Array Bool}
theorem PlanOk.inj (hP : PlanOk ops L) {x y : Item1} (hx : x ∈ L) (hy : y ∈ L) (h : x.idx = y.idx) : x = y := by
  rw [(hP.item x hx).1, (hP.item y hy).1, h]
theorem SI.apart (hP : PlanOk ops L) (h : SI ops L D R U listed) {x y : Item1} (hx : x ∈ D) (hy : y ∈ R) : PairOk ops x y := by
  have := hP.pair
  rw [h.split, List.pairwise_append] at this
  exact pairOk_ok (this.2.2 x hx y hy)
theorem SI.uL (h : SI ops L D R U listed) {u : Rec} (hu : u ∈ U) : u.x ∈ L := by
  rw [h.split]
  exact List.mem_append.2 (.inl (h.inD u hu).1)
theorem SI.unl (h : SI ops L D R U listed) {u : Rec} (hu : u ∈ U) : listed.getD u.x.idx true = false := (h.lst _ (h.uL hu)).2 (.inr ⟨u, hu, rfl⟩)
theorem SI.ready_ne (hP : PlanOk ops L) (h : SI ops L D R U listed) (hne : U ≠ [] ∨ R ≠ []) : Region.ready .any ops listed ≠ [] := by
  have hex : ∃ x ∈ L, listed.getD x.idx true = false := by
    rcases hne with hne | hne
    · obtain ⟨u, hu⟩ := List.exists_mem_of_ne_nil U hne
      exact ⟨u.x, h.uL hu, h.unl hu⟩
    · obtain ⟨x, hx⟩ := List.exists_mem_of_ne_nil R hne
      have hxL : x ∈ L := by rw [h.split]; exact List.mem_append.2 (.inr hx)
      exact ⟨x, hxL, (h.lst x hxL).2 (.inl hx)⟩
  obtain ⟨D', x, r', h1, h2, h3⟩ := first_of L hex
  have hxL : x ∈ L := by rw [h1]; simp
  have hmem : x.idx ∈ Region.ready .any ops listed := by
    refine ready_iff.2 ⟨(hP.item x hxL).2, h2, fun j hj => ?_⟩
    obtain ⟨z, hz, rfl⟩ := (hP.topo D' x r' h1).1 j hj
    have hzL : z ∈ L := by rw [h1]; simp [hz]
    have := h3 z hz
    rw [← getD_tf (by rw [h.size]; exact (hP.item z hzL).2)]
    cases hq : listed.getD z.idx true with
    | true => rfl
    | false => exact absurd hq this
  exact List.ne_nil_of_mem hmem
theorem SI.ready_nil (hP : PlanOk ops L) (h : SI ops L D [] [] listed) : Region.ready .any ops listed = [] := by
  refine List.eq_nil_iff_forall_not_mem.2 fun i hi => ?_
  obtain ⟨h1, h2, _⟩ := ready_iff.1 hi
  obtain ⟨x, hx, rfl⟩ := hP.cover i h1
  rcases (h.lst x hx).1 h2 with h | ⟨u, hu, _⟩
  · simp at h
  · simp at hu
/-- who is next: one that was reckoned, or the loud one -/
theorem SI.next (hP : PlanOk ops L) (h : SI ops L D R U listed) (hl : ∀ x r, R = x :: r → isLoud x = true) {i : Nat} (hi : i ∈ Region.ready .any ops listed) : (∃ u ∈ U, u.x.idx = i) ∨ ∃ x r, R = x :: r ∧ x.idx = i := by
  obtain ⟨h1, h2, h3⟩ := ready_iff.1 hi
  obtain ⟨y, hy, rfl⟩ := hP.cover i h1
  rcases (h.lst y hy).1 h2 with hR | ⟨u, hu, rfl⟩
  · right
    cases R with
    | nil => simp at hR
    | cons x r =>
      rcases List.mem_cons.1 hR with rfl | hr
      · exact ⟨y, r, rfl, rfl⟩
      · obtain ⟨j, hj, z, hz, rfl⟩ := hP.loud D x r h.split (hl x r rfl) y hr
        have hzL : z ∈ L := by rw [h.split]; exact List.mem_append.2 (.inr hz)
        have k1 := h3 _ hj
        have k2 := (h.lst z hzL).2 (.inl hz)
        rw [getD_tf (by rw [h.size]; exact (hP.item z hzL).2), k1] at k2
        cases k2
  · exact .inl ⟨u, hu, rfl⟩
/-- what it waits for has come -/
theorem SI.masked (hP : PlanOk ops L) (h : SI ops L D R U listed) {y : Item1} (hy : y ∈ L) (hi : y.idx ∈ Region.ready .any ops listed) {x : Item1} (hx : x ∈ L) (hb : hasBit y.mask x.bit = true) : listed.getD x.idx true = true := by
  obtain ⟨h1, h2, h3⟩ := ready_iff.1 hi
  obtain ⟨_, m1, _, _⟩ := item_o (hP.item y hy).1
  obtain ⟨_, _, m2, _⟩ := item_o (hP.item x hx).1
  rw [m1, m2, hasBit_iff] at hb
  have hxs := (hP.item x hx).2
  obtain ⟨k, hk, hkj⟩ := hP.mask y.idx h1 x.idx hxs hb
  have hks : k < ops.size := by
    obtain ⟨D', r', hD⟩ := List.append_of_mem hy
    obtain ⟨z, hz, rfl⟩ := (hP.topo D' y r' hD).1 k hk
    exact (hP.item z (by rw [hD]; simp [hz])).2
  have hkl : listed.getD k true = true := by
    rw [getD_tf (by rw [h.size]; exact hks)]
    exact h3 k hk
  rcases hkj with rfl | hkj
  · exact hkl
  · exact h.closed k hks hkl x.idx hxs hkj
/-- what it names is not hidden -/
theorem SI.clear (hP : PlanOk ops L) (h : SI ops L D R U listed) {y : Item1} (hy : y ∈ L) (hi : y.idx ∈ Region.ready .any ops listed) : ∀ t ∈ namesOf ops y.o, t ∉ dstsU U := by
  intro t ht hm
  unfold dstsU at hm
  obtain ⟨r, hr, hrt⟩ := List.mem_filterMap.1 hm
  have hrL := h.uL hr
  have hrun := h.unl hr
  have hq := (h.inD r hr).2
  have hin : inL r.x.o.dst (namesOf ops y.o) = true := by
    rw [hrt]
    exact inL_some.2 ht
  by_cases he : r.x = y
  · subst he
    obtain ⟨D', r', hD⟩ := List.append_of_mem hrL
    have := (hP.topo D' _ r' hD).2 hq
    rw [hin] at this
    cases this
  · rcases pair_either hP.pair _ hrL _ hy he with hp | hp
    · have := (pairOk_ok hp).fwd hin
      have := h.masked hP hy hi hrL this
      rw [hrun] at this
      cases this
    · have := ((pairOk_ok hp).bwd hin).1
      rw [hq] at this
      cases this
theorem set_getD {l : Array Bool} {i j : Nat} (hi : i < l.size) : (l.setIfInBounds i true).getD j true = if i = j then true else l.getD j true := by
  simp only [Array.getD_eq_getD_getElem?]
  by_cases h : i = j
  · subst h
    simp [hi]
  · rw [if_neg h, Array.getElem?_setIfInBounds_ne h]
theorem SI.closed_set (hP : PlanOk ops L) (h : SI ops L D R U listed) {y : Item1} (hy : y ∈ L) (hi : y.idx ∈ Region.ready .any ops listed) :
    ∀ i, i < ops.size → (listed.setIfInBounds y.idx true).getD i true = true → ∀ j, j < ops.size → Nat.testBit ((Region.before ops).getD i 0) j = true → (listed.setIfInBounds y.idx true).getD j true = true := by
  have hys : y.idx < listed.size := by rw [h.size]; exact (hP.item y hy).2
  intro i his hl j hj hb
  rw [set_getD hys] at hl ⊢
  by_cases hyj : y.idx = j
  · rw [if_pos hyj]
  · rw [if_neg hyj]
    by_cases hyi : y.idx = i
    · obtain ⟨z, hz, rfl⟩ := hP.cover j hj
      refine h.masked hP hy hi hz ?_
      obtain ⟨_, m1, _, _⟩ := item_o (hP.item y hy).1
      obtain ⟨_, _, m2, _⟩ := item_o (hP.item z hz).1
      rw [m1, m2, hasBit_iff, hyi]
      exact hb
    · rw [if_neg hyi] at hl
      exact h.closed i his hl j hj hb
/-- one that was reckoned is listed -/
theorem SI.take {U1 U2 : List Rec} {u : Rec} (hP : PlanOk ops L) (h : SI ops L D R (U1 ++ u :: U2) listed) (hi : u.x.idx ∈ Region.ready .any ops listed) : SI ops L D R (U1 ++ U2) (listed.setIfInBounds u.x.idx true) := by
  have hu : u ∈ U1 ++ u :: U2 := by simp
  have huL := h.uL hu
  have hus : u.x.idx < listed.size := by rw [h.size]; exact (hP.item _ huL).2
  have hsub : ∀ r ∈ U1 ++ U2, r ∈ U1 ++ u :: U2 := fun r hr => by
    rcases List.mem_append.1 hr with h | h
    · simp [h]
    · simp [h]
  have hnd := h.nodup
  rw [List.pairwise_append, List.pairwise_cons] at hnd
  have hbk := h.blk
  rw [List.pairwise_append, List.pairwise_cons] at hbk
  refine ⟨h.split, fun r hr => h.inD r (hsub r hr), ?_, by simpa using h.size, fun x hx => ?_, h.closed_set hP huL hi, ?_⟩
  · rw [List.pairwise_append]
    exact ⟨hnd.1, hnd.2.1.2, fun a ha b hb => hnd.2.2 a ha b (by simp [hb])⟩
  · rw [set_getD hus]
    by_cases he : u.x.idx = x.idx
    · rw [if_pos he]
      have hxu := hP.inj huL hx he
      subst hxu
      refine ⟨fun h => (by cases h), fun h' => ?_⟩
      exfalso
      rcases h' with hR | ⟨r, hr, hrx⟩
      · exact (h.apart hP (h.inD u hu).1 hR).ne rfl
      · rcases List.mem_append.1 hr with h' | h'
        · exact hnd.2.2 r h' u (by simp) (by rw [hrx])
        · exact hnd.2.1.1 r h' (by rw [hrx])
    · rw [if_neg he, h.lst x hx]
      refine or_congr Iff.rfl ⟨?_, ?_⟩
      · rintro ⟨r, hr, rfl⟩
        rcases List.mem_append.1 hr with h' | h'
        · exact ⟨r, by simp [h'], rfl⟩
        · rcases List.mem_cons.1 h' with rfl | h'
          · exact absurd rfl he
          · exact ⟨r, by simp [h'], rfl⟩
      · rintro ⟨r, hr, rfl⟩
        exact ⟨r, hsub r hr, rfl⟩
  · rw [List.pairwise_append]
    exact ⟨hbk.1, hbk.2.1.2, fun a ha b hb => hbk.2.2 a ha b (by simp [hb])⟩
/-- the loud one is listed -/
theorem SI.loudOne {x : Item1} {r : List Item1} (hP : PlanOk ops L) (h : SI ops L D (x :: r) U listed) (hi : x.idx ∈ Region.ready .any ops listed) : SI ops L (D ++ [x]) r U (listed.setIfInBounds x.idx true) := by
  have hxL : x ∈ L := by rw [h.split]; simp
  have hxs : x.idx < listed.size := by rw [h.size]; exact (hP.item _ hxL).2
  have hpr := hP.pair
  rw [h.split, List.pairwise_append, List.pairwise_cons] at hpr
  refine ⟨by rw [h.split]; simp, fun u hu => ⟨List.mem_append.2 (.inl (h.inD u hu).1), (h.inD u hu).2⟩, h.nodup, by simpa using h.size, fun y hy => ?_, h.closed_set hP hxL hi, h.blk⟩
  rw [set_getD hxs]
  by_cases he : x.idx = y.idx
  · rw [if_pos he]
    have hxy := hP.inj hxL hy he
    subst hxy
    refine ⟨fun h => (by cases h), fun h' => ?_⟩
    exfalso
    rcases h' with hR | ⟨u, hu, hux⟩
    · exact (pairOk_ok (hpr.2.1.1 x hR)).ne rfl
    · exact (h.apart hP (h.inD u hu).1 (List.mem_cons_self ..)).ne (by rw [hux])
  · rw [if_neg he, h.lst y hy]
    refine or_congr ⟨fun h' => ?_, fun h' => List.mem_cons_of_mem _ h'⟩ Iff.rfl
    rcases List.mem_cons.1 h' with rfl | h'
    · exact absurd rfl he
    · exact h'
/-- a quiet one is reckoned -/
theorem SI.reckon {y : Item1} {r : List Item1} {v : Value} {n : Nat} {nw : Bool} (hP : PlanOk ops L) (h : SI ops L D (y :: r) U listed) (hy : isLoud y = false) (hn : ∀ u ∈ U, u.nw = true → nw = true → u.n ≠ n) : SI ops L (D ++ [y]) r (U ++ [⟨y, v, n, nw⟩]) listed := by
  refine ⟨by rw [h.split]; simp, fun u hu => ?_, ?_, h.size, fun x hx => ?_, h.closed, ?_⟩
  · rcases List.mem_append.1 hu with hu | hu
    · exact ⟨List.mem_append.2 (.inl (h.inD u hu).1), (h.inD u hu).2⟩
    · obtain rfl := List.mem_singleton.1 hu
      exact ⟨by simp, hy⟩
  · rw [List.pairwise_append]
    refine ⟨h.nodup, by simp, fun a ha b hb => ?_⟩
    obtain rfl := List.mem_singleton.1 hb
    exact (h.apart hP (h.inD a ha).1 (List.mem_cons_self ..)).ne
  · rw [h.lst x hx]
    constructor
    · rintro (h' | ⟨u, hu, rfl⟩)
      · rcases List.mem_cons.1 h' with rfl | h'
        · exact .inr ⟨⟨x, v, n, nw⟩, by simp, rfl⟩
        · exact .inl h'
      · exact .inr ⟨u, by simp [hu], rfl⟩
    · rintro (h' | ⟨u, hu, rfl⟩)
      · exact .inl (List.mem_cons_of_mem _ h')
      · rcases List.mem_append.1 hu with hu | hu
        · exact .inr ⟨u, hu, rfl⟩
        · obtain rfl := List.mem_singleton.1 hu
          exact .inl (List.mem_cons_self ..)
  · rw [List.pairwise_append]
    refine ⟨h.blk, by simp, fun a ha b hb => ?_⟩
    obtain rfl := List.mem_singleton.1 hb
    exact hn a ha
end
end Go.Proofs.YtfpmbneglnoojaaGreatDoor.Ab
/- Drawn regions, whole. -/
namespace Go.Proofs.YtfpmbneglnoojaaGreatDoor.Ab
open Go Go.Conc
set_option maxRecDepth 100000
noncomputable section
variable {Z : Phs} {ih : Req → Out}
variable {ops : Array Oper} {L : List Item1}
theorem kindOf_le (o : Op) : kindOf o ≤ 3 := by
  cases o <;> simp only [kindOf] <;> (try decide)
  split <;> decide
theorem quiet_kind (hP : PlanOk ops L) {x : Item1} (hx : x ∈ L) (hq : isLoud x = false) : x.kind = kindOf x.o.op ∧ kindOf x.o.op < 3 := by
  have hi := (hP.item x hx).1
  have ho := (item_o hi).1
  have hk : x.kind = cond (lateOp ops (Region.before ops) x.idx) 3 (kindOf (ops.getD x.idx default).op) := by
    conv => lhs; rw [hi]
    rfl
  rw [← ho] at hk
  cases hl : lateOp ops (Region.before ops) x.idx with
  | true =>
    rw [hl] at hk
    unfold isLoud at hq
    rw [hk] at hq
    cases hq
  | false =>
    rw [hl, cond_false] at hk
    refine ⟨hk, ?_⟩
    have hle := kindOf_le x.o.op
    rcases Nat.lt_or_ge (kindOf x.o.op) 3 with h | h
    · exact h
    · have h3 : kindOf x.o.op = 3 := by omega
      unfold isLoud at hq
      rw [hk, h3] at hq
      cases hq
theorem drawRun_cons (x : Item1) (r : List Item1) (pend : List Seen1) (e : Env) (s : St) : drawRun ih ops (x :: r) pend e s = cond (Nat.blt s.n 1000000) ((rStep ih ops x.o e s).out x.o.dst (drawNext ops x pend (drawRun ih ops r) e) e) (.fail "too many blocks") := by
  have h : drawRun ih ops (x :: r) pend e s = cond (Nat.blt s.n 1000000) (opStep ih ops x.o (drawNext ops x pend (drawRun ih ops r) e) e s) (.fail "too many blocks") := rfl
  rw [h, opStep_eq]
theorem Mo.of {s : St} {O : AObj} {d : List Deferred} {rk : Option Value} {cx : Cx} {ρ : Rho} {w : World} (hr : WR cx ρ s.n s.h w) : Mo s { n := s.n + 1, h := Tr.set O 40 s.n s.h, d := d, rk := rk } := by
  intro b x hb
  have := hr.old b x hb
  have hsm := hr.small
  show (Tr.set O 40 s.n s.h).get b = some x
  rw [set_get (by omega), if_neg (by omega)]
  exact hb
theorem put_get_other {d : Option Tmp} {v : Value} {e : Env} {t : Tmp} (h : d ≠ some t) : (put d v e).get t = e.get t := by
  cases d with
  | none => rfl
  | some u =>
    show (Env.cons u v e).get t = _
    rw [Env.get_cons, if_neg (fun hu => h (by rw [hu]))]
theorem put_agr {o y : Oper} {v : Value} {e : Env} (h : inL y.dst (namesOf ops o) = false) : Agr ops o e (put y.dst v e) := fun t ht => by
  rw [put_get_other]
  intro hd
  rw [hd] at h
  rw [inL_some.2 ht] at h
  cases h
theorem sameDst_ne {a b : Option Tmp} (h : sameDst a b = false) {t : Tmp} (ha : a = some t) : b ≠ some t := by
  rintro rfl
  subst ha
  simp [sameDst] at h
/-- what was reckoned stays, as a quiet one is reckoned -/
theorem QOk.quiet {pend pend' : List Seen1} {ρ : Rho} {e : Env} {s s' : St} {u : Rec} {y : Item1} {v : Value} (h : QOk ops pend ρ e s u) (hpe : ∀ q ∈ pend, q ∈ pend') (hb : inL y.o.dst (namesOf ops u.x.o) = false) (hd : sameDst u.x.o.dst y.o.dst = false)
    (hn : s.n ≤ s'.n) (hm : Mo s s') : QOk ops pend' ρ (put y.o.dst v e) s' u := by
  obtain ⟨h1, h0, h2⟩ := h
  have hagr : Agr ops u.x.o e (put y.o.dst v e) := put_agr hb
  refine ⟨fun t ht => by rw [put_get_other (sameDst_ne hd ht)]; exact h1 t ht, fun hw => Nat.lt_of_lt_of_le (h0 hw) hn, ?_⟩
  rw [← hagr.guard]
  rcases h2 with h2 | ⟨hg, h2⟩
  · exact .inl h2
  · refine .inr ⟨hg, ?_⟩
    rcases h2 with ⟨hk, hl⟩ | ⟨hk, v', hl, hv, q, hq, q1, q2, q3⟩ | ⟨hk, hw, k, O, k1, k2, k3, k4, k5, k6, k7⟩
    · refine .inl ⟨hk, ?_⟩
      rw [← hagr.look]
      exact ((look_rl (.inl hk)).get hl).2.2
    · refine .inr (.inl ⟨hk, v', ?_, hv, q, hpe q hq, q1, q2, q3.trans hagr⟩)
      rw [← hagr.look]
      exact ((look_rl (.inr ⟨hk, hm⟩)).get hl).2.2
    · refine .inr (.inr ⟨hk, hw, k, O, k1, by omega, k3, k4, hm _ _ k5, k6, fun s2 hs2 => ?_⟩)
      rw [← hagr.look]
      exact k7 s2 hs2
theorem stills_ok {x : Item1} {s : St} : ∀ {l : List Seen1}, stills x s l = true → ∀ q ∈ l, still x s q = true
  | [], _, q, hq => by simp at hq
  | a :: l, h, q, hq => by
    have h' : cond (still x s a) (stills x s l) false = true := h
    cases ha : still x s a with
    | false => rw [ha] at h'; cases h'
    | true =>
      rw [ha] at h'
      rcases List.mem_cons.1 hq with rfl | hq
      · exact ha
      · exact stills_ok h' q hq
/-- .. and as a loud one is run -/
theorem QOk.loud {pend : List Seen1} {ρ ρ' : Rho} {e : Env} {s s' : St} {u : Rec} {x : Item1} {v : Value} (h : QOk ops pend ρ e s u) (hst : stills x s' pend = true) (hm : hasBit x.mask u.x.bit = false) (hb : inL x.o.dst (namesOf ops u.x.o) = false) (hd : sameDst u.x.o.dst x.o.dst = false)
    (hn : s.n ≤ s'.n) (hkeep : ∀ b, BASE ≤ b → b < s.n → ρ b = none → ρ' b = none ∧ s'.h.get b = s.h.get b) : QOk ops pend ρ' (put x.o.dst v e) s' u := by
  obtain ⟨h1, h0, h2⟩ := h
  have hagr : Agr ops u.x.o e (put x.o.dst v e) := put_agr hb
  refine ⟨fun t ht => by rw [put_get_other (sameDst_ne hd ht)]; exact h1 t ht, fun hw => Nat.lt_of_lt_of_le (h0 hw) hn, ?_⟩
  rw [← hagr.guard]
  rcases h2 with h2 | ⟨hg, h2⟩
  · exact .inl h2
  · refine .inr ⟨hg, ?_⟩
    rcases h2 with ⟨hk, hl⟩ | ⟨hk, v', hl, hv, q, hq, q1, q2, q3⟩ | ⟨hk, hw, k, O, k1, k2, k3, k4, k5, k6, k7⟩
    · refine .inl ⟨hk, ?_⟩
      rw [← hagr.look]
      exact ((look_rl (.inl hk)).get hl).2.2
    · have hstill := stills_ok hst q hq
      unfold still at hstill
      rw [q1, hm, cond_false] at hstill
      cases hl2 : lookOp u.x.o q.e s' with
      | fail w => rw [hl2] at hstill; cases hstill
      | val v2 n2 h2 =>
        rw [hl2] at hstill
        have hveq := sameV_ok 8 v2 q.v hstill
        subst hveq
        obtain ⟨a1, a2, a3⟩ := (look_rl (s := s') (s' := s') (.inr ⟨hk, fun _ _ h => h⟩)).get hl2
        refine .inr (.inl ⟨hk, q.v, ?_, q2, q, hq, q1, q2, q3.trans hagr⟩)
        rw [← (q3.trans hagr).look]
        exact a3
    · obtain ⟨m1, m2⟩ := hkeep _ k3 k2 k4
      refine .inr (.inr ⟨hk, hw, k, O, k1, by omega, k3, m1, by rw [m2]; exact k5, k6, fun s2 hs2 => ?_⟩)
      rw [← hagr.look]
      exact k7 s2 hs2
/-- a stage of a drawn region -/
structure DS (Z : Phs) (ops : Array Oper) (L : List Item1) (fn : FuncId) (e0 : Env) (p0 : Z.T) (ρ0 : Rho) (s0 : St) (cs0 : List Frame) (D R : List Item1) (pend : List Seen1) (e : Env) (s : St) (U : List Rec) (listed : Array Bool) (p : Z.T) (ρ : Rho) (w : World) (b : Frame) (a : Act) (cs : List Frame) : Prop where
  si : SI ops L D R U listed
  q : ∀ u ∈ U, QOk ops pend ρ e s u
  at_ : AtC Z p ρ w (hide (dstsU U) e) s b a cs
  e0 : ER ρ (dropDst ops e0) a.tmps
  le : Z.le p0 p
  pst : Pst ρ0 s0 cs0 ρ s cs
  un : ∀ u ∈ U, u.nw = true → s0.n ≤ u.n
  fn : b.fn = fn
def isDst (ops : Array Oper) (t : Tmp) : Bool := ops.toList.any fun o => inL o.dst [t]
theorem dropDst_get : ∀ (e : Env) (t : Tmp), (dropDst ops e).get t = if isDst ops t = true then none else e.get t
  | .nil, t => by
    have : (dropDst ops .nil).get t = none := rfl
    rw [this]
    split <;> rfl
  | .cons u v e, t => by
    have h : dropDst ops (.cons u v e) = cond (isDst ops u) (dropDst ops e) (match dropDst ops e with | .nil => .cons u v .nil | .cons x w q => .cons u v (.cons x w q)) := rfl
    have h2 : dropDst ops (.cons u v e) = cond (isDst ops u) (dropDst ops e) (.cons u v (dropDst ops e)) := by
      rw [h]
      cases dropDst ops e <;> rfl
    rw [h2, Env.get_cons]
    cases hu : isDst ops u with
    | true =>
      rw [cond_true, dropDst_get e t]
      by_cases ht : isDst ops t = true
      · rw [if_pos ht, if_pos ht]
      · rw [if_neg ht, if_neg ht, if_neg (show ¬ u = t from fun h => ht (h ▸ hu))]
    | false =>
      rw [cond_false, Env.get_cons, dropDst_get e t]
      by_cases ht : isDst ops t = true
      · rw [if_pos ht, if_neg (show ¬ u = t from fun h => by rw [h, ht] at hu; cases hu), if_pos ht]
      · rw [if_neg ht, if_neg ht]
theorem dst_isDst (hP : PlanOk ops L) {x : Item1} (hx : x ∈ L) {t : Tmp} (h : x.o.dst = some t) : isDst ops t = true := by
  unfold isDst
  rw [List.any_eq_true]
  obtain ⟨hi, hs⟩ := hP.item x hx
  refine ⟨x.o, ?_, by rw [h]; exact inL_some.2 (by simp)⟩
  rw [(item_o hi).1]
  simp [Array.getD, hs]
theorem item_get (hP : PlanOk ops L) {x : Item1} (hx : x ∈ L) : ops[x.idx]? = some x.o := by
  obtain ⟨hi, hs⟩ := hP.item x hx
  rw [(item_o hi).1]
  simp [Array.getD, hs]
theorem item_mem (hP : PlanOk ops L) {x : Item1} (hx : x ∈ L) : x.o ∈ ops.toList := by
  have := item_get hP hx
  obtain ⟨h1, h2⟩ := Array.getElem?_eq_some_iff.1 this
  rw [← h2]
  simp
/-- what has been reckoned is run, until the loud one comes, or the end -/
theorem run_U {fn : FuncId} {e0 : Env} (hP : PlanOk ops L) (hok : okRegion fn ops = true) {D R : List Item1} {pend : List Seen1} {e : Env} {s : St} (hsn : s.n < 1000000) (hl : ∀ x r, R = x :: r → isLoud x = true) {N : Nat} {p0 : Z.T} {ρ0 : Rho} {s0 : St} {cs0 : List Frame} {b : Frame} {k : List Item}
    (hend : R = [] → ∀ listed p ρ w a cs, DS Z ops L fn e0 p0 ρ0 s0 cs0 D R pend e s [] listed p ρ w b a cs → Z.fam p N (G (b.atR a (.inRegion ops [] :: k)) cs) w)
    (hloud : ∀ x r, R = x :: r → ∀ U listed fuel t p ρ w a cs, U.length + r.length ≤ fuel → x.idx ∈ Region.ready .any ops listed → DS Z ops L fn e0 p0 ρ0 s0 cs0 D R pend e s U listed p ρ w b a cs →
      Z.fam p (U.length + N) (G (b.atR a (.inRegion ops (x.idx :: Region.linearise.go .any ops fuel t (listed.setIfInBounds x.idx true) []) :: k)) cs) w) :
    ∀ (n : Nat) (U : List Rec), U.length = n → ∀ listed fuel t p ρ w a cs, U.length + R.length ≤ fuel → DS Z ops L fn e0 p0 ρ0 s0 cs0 D R pend e s U listed p ρ w b a cs →
      Z.fam p (U.length + N) (G (b.atR a (.inRegion ops (Region.linearise.go .any ops fuel t listed []) :: k)) cs) w := by
  intro n
  induction n with
  | zero =>
    intro U hU listed fuel t p ρ w a cs hf hds
    obtain rfl := List.length_eq_zero_iff.1 hU
    cases hR : R with
    | nil =>
      subst hR
      rw [go_end (hds.si.ready_nil hP), List.length_nil, Nat.zero_add]
      exact hend rfl listed p ρ w a cs hds
    | cons x r =>
      have hne := hds.si.ready_ne hP (.inr (by rw [hR]; simp))
      cases fuel with
      | zero => rw [hR] at hf; simp at hf
      | succ fuel =>
        obtain ⟨i, hi, t', hgo⟩ := go_step (fuel := fuel) (t := t) hne
        rw [hgo]
        rcases hds.si.next hP hl hi with ⟨u, hu, _⟩ | ⟨x', r', hR', rfl⟩
        · simp at hu
        · refine hloud x' r' hR' [] listed fuel t' p ρ w a cs ?_ hi hds
          rw [hR'] at hf
          simp at hf ⊢
          omega
  | succ n ihn =>
    intro U hU listed fuel t p ρ w a cs hf hds
    have hUne : U ≠ [] := by
      rintro rfl
      cases hU
    have hne := hds.si.ready_ne hP (.inl hUne)
    cases fuel with
    | zero => omega
    | succ fuel =>
      obtain ⟨i, hi, t', hgo⟩ := go_step (fuel := fuel) (t := t) hne
      rw [hgo]
      rcases hds.si.next hP hl hi with ⟨u, hu, rfl⟩ | ⟨x', r', hR', rfl⟩
      · obtain ⟨U1, U2, rfl⟩ := List.append_of_mem hu
        have huL := hds.si.uL hu
        have huq := (hds.si.inD u hu).2
        have hsi := hds.si.take hP hi
        have hlen : (U1 ++ u :: U2).length = (U1 ++ U2).length + 1 := by simp; omega
        have e1 : (U1 ++ u :: U2).length + N = ((U1 ++ U2).length + N) + 1 := by omega
        rw [e1]
        have hblk := hds.si.blk
        rw [List.pairwise_append, List.pairwise_cons] at hblk
        refine exec_quiet (pend := pend) (e := e) (e0 := dropDst ops e0) (s := s) (nt := ntOf fn) (item_get hP huL) (List.all_eq_true.1 hok _ (item_mem hP huL)) (quiet_kind hP huL huq).2 (by rw [hds.fn]) hds.q (hds.si.clear hP huL hi) hsn ?_ hds.at_ hds.e0 (fun t ht => ?_) fun p ρ' w' a' hpp hle hkeep hat hq he0 => ?_
        · intro r hr hk1 hk2
          rcases List.mem_append.1 hr with h | h
          · exact hblk.2.2 r h u (by simp) hk1 hk2
          · exact fun he => hblk.2.1.1 r h hk2 hk1 he.symm
        · rw [dropDst_get, if_pos (dst_isDst hP huL ht)]
        · refine ihn (U1 ++ U2) (by omega) _ fuel t' p ρ' w' a' cs (by omega) ⟨hsi, hq, hat, he0, Z.trans hds.le hpp, ?_, fun r hr => hds.un r (by
            rcases List.mem_append.1 hr with h | h
            · simp [h]
            · simp [h]), hds.fn⟩
          refine ⟨Rho.le_trans hds.pst.le hle, hds.pst.n, fun b hB hb hbn => ?_, hds.pst.rk⟩
          obtain ⟨m1, m2⟩ := hds.pst.keep b hB hb hbn
          refine ⟨hkeep b (Nat.lt_of_lt_of_le hb hds.pst.n) m1 fun hk2 hbu => ?_, m2⟩
          have := hds.un u hu hk2
          omega
      · refine hloud x' r' hR' U listed fuel t' p ρ w a cs ?_ hi hds
        rw [hR'] at hf
        simp at hf ⊢
        omega
end
end Go.Proofs.YtfpmbneglnoojaaGreatDoor.Ab
/- Drawn regions, whole; with that, every request. -/
namespace Go.Proofs.YtfpmbneglnoojaaGreatDoor.Ab
open Go Go.Conc
set_option maxRecDepth 100000
noncomputable section
variable {Z : Phs} {ih : Req → Out}
variable {ops : Array Oper} {L : List Item1}
theorem drawNext_quiet {x : Item1} {pend : List Seen1} {k : List Seen1 → Env → St → Out} {e0 e : Env} {s : St} (hk : x.kind < 3) : drawNext ops x pend k e0 e s = (if x.kind = 1 ∧ guardOk ops x.o.guard e0 = some true then k ({ x, e := e0, v := lastOf x.o.dst e } :: pend) e s else k pend e s) := by
  unfold drawNext
  match hx : x.kind, hk with
  | 0, _ => rw [if_neg (by simp)]; rfl
  | 1, _ =>
    simp only [true_and]
    cases hg : guardOk ops x.o.guard e0 with
    | none => rw [if_neg (by simp)]
    | some t =>
      cases t with
      | true => rw [if_pos rfl]
      | false => rw [if_neg (by simp)]
  | 2, _ => rw [if_neg (by simp)]; rfl
theorem drawNext_loud {x : Item1} {pend : List Seen1} {k : List Seen1 → Env → St → Out} {e0 e : Env} {s : St} (hl : isLoud x = true) : drawNext ops x pend k e0 e s = cond (stills x s pend) (k pend e s) (.fail "drawn region a look that does not stand") := by
  have hk : x.kind = 3 := Nat.eq_of_beq_eq_true hl
  unfold drawNext
  rw [hk]
  rfl
theorem only_agr (o : Oper) (e : Env) : Agr ops o (only (namesOf ops o) e) e := fun t ht => by rw [only_get, if_pos ht]
/-- one quiet operation, reckoned -/
theorem reckon {fn : FuncId} (hP : PlanOk ops L) (hok : okRegion fn ops = true) {D r : List Item1} {x : Item1} (hD : L = D ++ x :: r) (hq : isLoud x = false) {pend : List Seen1} {e : Env} {s : St} (hnf : ¬ isFail (drawRun ih ops (x :: r) pend e s)) :
    ∃ pend' e' s', drawRun ih ops (x :: r) pend e s = drawRun ih ops r pend' e' s' ∧ ∃ v nw, ∀ {e0 : Env} {p0 : Z.T} {ρ0 : Rho} {s0 : St} {cs0 : List Frame} {U : List Rec} {listed : Array Bool} {p : Z.T} {ρ : Rho} {w : World} {b : Frame} {a : Act} {cs : List Frame},
      DS Z ops L fn e0 p0 ρ0 s0 cs0 D (x :: r) pend e s U listed p ρ w b a cs → DS Z ops L fn e0 p0 ρ0 s0 cs0 (D ++ [x]) r pend' e' s' (U ++ [⟨x, v, s.n, nw⟩]) listed p ρ w b a cs := by
  have hxL : x ∈ L := by rw [hD]; simp
  obtain ⟨hkind, hk3⟩ := quiet_kind hP hxL hq
  have hself := (hP.topo D x r hD).2 hq
  rw [drawRun_cons] at hnf
  cases hb : Nat.blt s.n 1000000 with
  | false => rw [hb] at hnf; exact absurd ⟨_, rfl⟩ hnf
  | true =>
    rw [hb, cond_true] at hnf
    have hsn : s.n < 1000000 := by simpa using hb
    have hrs := rStep_quiet (ops := ops) (o := x.o) ih hk3 (e := e) (s := s) (fun w hw => hnf ⟨w, by rw [hw]; rfl⟩)
    -- what is common
    have common : ∀ {v : Value} {nw : Bool} {s' : St} {pend' : List Seen1}, (∀ q ∈ pend, q ∈ pend') → s.n ≤ s'.n → Mo s s' → s'.d = s.d → s'.rk = s.rk → (∀ (p : Z.T) (ρ : Rho) (w : World), WR (Z.cx p) ρ s.n s.h w → WR (Z.cx p) ρ s'.n s'.h w ∧ QOk ops pend' ρ (put x.o.dst v e) s' ⟨x, v, s.n, nw⟩) → (∀ b, b < s.n → s'.h.get b = s.h.get b) →
        ∀ {e0 : Env} {p0 : Z.T} {ρ0 : Rho} {s0 : St} {cs0 : List Frame} {U : List Rec} {listed : Array Bool} {p : Z.T} {ρ : Rho} {w : World} {b : Frame} {a : Act} {cs : List Frame},
        DS Z ops L fn e0 p0 ρ0 s0 cs0 D (x :: r) pend e s U listed p ρ w b a cs → DS Z ops L fn e0 p0 ρ0 s0 cs0 (D ++ [x]) r pend' (put x.o.dst v e) s' (U ++ [⟨x, v, s.n, nw⟩]) listed p ρ w b a cs := by
      intro v nw s' pend' hpe hn hm hd hrk hnew hget e0 p0 ρ0 s0 cs0 U listed p ρ w b a cs h
      obtain ⟨hw', hqn⟩ := hnew p ρ w h.at_.wr
      have hUn : ∀ u ∈ U, u.nw = true → u.n < s.n := fun u hu hk2 => (h.q u hu).2.1 hk2
      refine ⟨h.si.reckon hP hq fun u hu hk1 hk2 => ?_, fun u hu => ?_, ?_, h.e0, h.le, ?_, fun u hu hk2 => ?_, h.fn⟩
      · have := hUn u hu hk1
        omega
      · rcases List.mem_append.1 hu with hu | hu
        · have hap := h.si.apart hP (h.si.inD u hu).1 (List.mem_cons_self ..)
          refine (h.q u hu).quiet hpe ?_ hap.dst hn hm
          cases hbw : inL x.o.dst (namesOf ops u.x.o) with
          | false => rfl
          | true =>
            have := (hap.bwd hbw).1
            rw [hq] at this
            cases this
        · obtain rfl := List.mem_singleton.1 hu
          exact hqn
      · refine ⟨hw', ?_, h.at_.glob, h.at_.nt, by rw [hd]; exact h.at_.dr, by rw [hrk]; exact h.at_.rk, h.at_.kind⟩
        refine h.at_.er.weak fun t y hy => ?_
        rw [hide_get] at hy ⊢
        have hmem : ∀ t, t ∈ dstsU (U ++ [⟨x, v, s.n, nw⟩]) ↔ t ∈ dstsU U ∨ x.o.dst = some t := fun t => by
          unfold dstsU
          rw [List.filterMap_append, List.mem_append]
          refine or_congr Iff.rfl ?_
          cases hxd : x.o.dst <;> simp [hxd, eq_comm]
        by_cases ht : t ∈ dstsU (U ++ [⟨x, v, s.n, nw⟩])
        · rw [if_pos ht] at hy; cases hy
        · rw [if_neg ht] at hy
          have ht' := fun h => ht ((hmem t).2 h)
          rw [if_neg (fun h => ht' (.inl h))]
          rw [put_get_other (fun h => ht' (.inr h))] at hy
          exact hy
      · refine h.pst.trans ⟨ρ.le_refl, hn, fun b _ hb hbn => ⟨hbn, hget b hb⟩, by rw [hrk]; exact CS.refl _ _⟩
      · rcases List.mem_append.1 hu with hu | hu
        · exact h.un u hu hk2
        · obtain rfl := List.mem_singleton.1 hu
          exact h.pst.n
    have hagr : ∀ v, Agr ops x.o e (put x.o.dst v e) := fun v => put_agr hself
    have hdst : ∀ v t, x.o.dst = some t → (put x.o.dst v e).get t = some v := fun v t ht => by
      rw [ht]
      show (Env.cons t v e).get t = _
      rw [Env.get_cons, if_pos rfl]
    rcases hrs with ⟨hg, hst⟩ | ⟨hg, v, n, h, hl, hst⟩
    · refine ⟨pend, put x.o.dst (.tuple #[]) e, s, ?_, .tuple #[], false, ?_⟩
      · rw [drawRun_cons, hb, cond_true, hst]
        show drawNext ops x pend (drawRun ih ops r) e (put x.o.dst (.tuple #[]) e) s = _
        rw [drawNext_quiet (by omega), if_neg (by rw [hg]; simp)]
      · refine common (fun _ h => h) (Nat.le_refl _) (fun _ _ h => h) rfl rfl (fun p ρ w hw => ⟨hw, hdst _, (fun h => by cases h), .inl ⟨?_, rfl⟩⟩) fun _ _ => rfl
        rw [← (hagr _).guard]
        exact hg
    · have hrun : drawRun ih ops (x :: r) pend e s = drawNext ops x pend (drawRun ih ops r) e (put x.o.dst v e) { n := n, h := h, d := s.d, rk := s.rk } := by
        rw [drawRun_cons, hb, cond_true, hst]
        rfl
      rw [hrun, drawNext_quiet (by omega)]
      have hg' : guardOk ops x.o.guard (put x.o.dst v e) = some true := by rw [← (hagr _).guard]; exact hg
      have hk012 : kindOf x.o.op = 0 ∨ kindOf x.o.op = 1 ∨ kindOf x.o.op = 2 := by omega
      rcases hk012 with hk | hk | hk
      · obtain ⟨rfl, rfl, _⟩ := (look_rl (s := s) (s' := s) (.inl hk)).get hl
        rw [if_neg (by rw [hkind, hk]; simp)]
        refine ⟨_, _, _, rfl, v, false, ?_⟩
        refine common (fun _ h => h) (Nat.le_refl _) (fun _ _ h => h) rfl rfl (fun p ρ w hw => ⟨hw, hdst _, (fun h => by cases h), .inr ⟨hg', .inl ⟨hk, ?_⟩⟩⟩) fun _ _ => rfl
        rw [← (hagr _).look]
        exact ((look_rl (.inl hk)).get hl).2.2
      · obtain ⟨rfl, rfl, _⟩ := (look_rl (s := s) (s' := s) (.inr ⟨hk, fun _ _ h => h⟩)).get hl
        rw [if_pos ⟨by rw [hkind, hk], hg⟩]
        refine ⟨_, _, _, rfl, v, false, ?_⟩
        refine common (fun _ h => List.mem_cons_of_mem _ h) (Nat.le_refl _) (fun _ _ h => h) rfl rfl (fun p ρ w hw => ⟨hw, hdst _, (fun h => by cases h), .inr ⟨hg', .inr (.inl ⟨hk, v, ?_, fun _ => rfl, _, List.mem_cons_self .., rfl, fun hd => ?_, hagr _⟩)⟩⟩) fun _ _ => rfl
        · rw [← (hagr _).look]
          exact ((look_rl (.inr ⟨hk, fun _ _ h => h⟩)).get hl).2.2
        · cases hxd : x.o.dst with
          | none => exact absurd hxd hd
          | some t => rfl
      · obtain ⟨k, O, q1, rfl, rfl, rfl, q5, _, q7⟩ := look_new (List.all_eq_true.1 hok _ (item_mem hP hxL)) hk hl
        rw [if_neg (by rw [hkind, hk]; simp)]
        refine ⟨_, _, _, rfl, k s.n, true, ?_⟩
        intro e0 p0 ρ0 s0 cs0 U listed p ρ w b a cs hds
        have hmo : Mo s { n := s.n + 1, h := Tr.set O 40 s.n s.h, d := s.d, rk := s.rk } := Mo.of hds.at_.wr
        have hbn := hds.at_.wr.bn
        rw [(Z.base p)] at hbn
        have hsm := hds.at_.wr.small
        refine common (fun _ h => h) (Nat.le_succ _) hmo rfl rfl (fun p' ρ' w' hw => ⟨hw.grow (by omega) O, hdst _, fun _ => Nat.lt_succ_self _, .inr ⟨hg', .inr (.inr ⟨hk, rfl, k, O, rfl, Nat.lt_succ_self _, hbn, hw.fresh (Nat.le_refl _), ?_, q5, fun s2 hs2 => ?_⟩)⟩⟩) (fun b hb => ?_) hds
        · show (Tr.set O 40 s.n s.h).get s.n = some O
          rw [set_get (by omega), if_pos rfl]
        · rw [← (hagr _).look]
          exact q7 s2 hs2
        · show (Tr.set O 40 s.n s.h).get b = s.h.get b
          rw [set_get (by omega), if_neg (by omega)]
end
end Go.Proofs.YtfpmbneglnoojaaGreatDoor.Ab
/- Drawn regions, whole; with that, every request is what the evaluator says. -/
namespace Go.Proofs.YtfpmbneglnoojaaGreatDoor.Ab
open Go Go.Conc
set_option maxRecDepth 100000
noncomputable section
variable {mn : Bool}
variable {Z : Phs} {ih : Req → Out}
variable {ops : Array Oper} {L : List Item1}
theorem draw_main {fn : FuncId} (hi : SoundI Z ih) (hP : PlanOk ops L) (hok : okRegion fn ops = true) (e0 : Env) : ∀ (R D : List Item1), L = D ++ R → ∀ (pend : List Seen1) (e : Env) (s : St), ¬ isFail (drawRun ih ops R pend e s) →
    ∃ NR, ∀ (p0 : Z.T) (ρ0 : Rho) (s0 : St) (cs0 : List Frame) (b : Frame) (k : List Item) (m : Nat), ∀ (U : List Rec) (listed : Array Bool) (fuel t : Nat) (p : Z.T) (ρ : Rho) (w : World) (a : Act) (cs : List Frame), U.length + R.length ≤ fuel →
      Cont Z p0 ρ0 s0 b cs0 k m (fixPan ops e0 (drawRun ih ops R pend e s)) → DS Z ops L fn e0 p0 ρ0 s0 cs0 D R pend e s U listed p ρ w b a cs →
      Z.fam p (U.length + (NR + m)) (G (b.atR a (.inRegion ops (Region.linearise.go .any ops fuel t listed []) :: k)) cs) w := by
  intro R
  induction R with
  | nil =>
    intro D hD pend e s hnf
    have hx : drawRun ih ops [] pend e s = cond (Nat.blt s.n 1000000) (.norm e s) (.fail "too many blocks") := rfl
    rw [hx] at hnf
    rw [hx]
    cases hb : Nat.blt s.n 1000000 with
    | false => rw [hb] at hnf; exact absurd ⟨_, rfl⟩ hnf
    | true =>
      have hsn : s.n < 1000000 := by simpa using hb
      refine ⟨1, fun p0 ρ0 s0 cs0 b k m U listed fuel t p ρ w a cs hf hc hds => ?_⟩
      refine run_U (N := 1 + m) hP hok hsn (fun x r h => by cases h) (fun _ listed p ρ w a cs hds => ?_) (fun x r h => by cases h) U.length U rfl listed fuel t p ρ w a cs hf hds
      rw [Nat.add_comm]
      refine Z.go p rfl fun p w1 hw => ⟨_, g_region_end, ?_⟩
      have hat : AtC Z p ρ w1 e s b a cs := (hds.at_.rel hw).weak fun t v hv => by
        rw [hide_get, if_neg (by simp [dstsU])]
        exact hv
      exact hc p ρ w1 a cs (Z.trans hds.le (Z.mv_le hw)) hds.pst hat
  | cons x r IH =>
    intro D hD pend e s hnf
    have hxL : x ∈ L := by rw [hD]; simp
    cases hq : isLoud x with
    | false =>
      obtain ⟨pend', e', s', hrun, v, nw, hstep⟩ := reckon (Z := Z) (ih := ih) hP hok hD hq hnf
      rw [hrun] at hnf
      rw [hrun]
      obtain ⟨NR, hN⟩ := IH (D ++ [x]) (by rw [hD]; simp) pend' e' s' hnf
      refine ⟨NR + 1, fun p0 ρ0 s0 cs0 b k m U listed fuel t p ρ w a cs hf hc hds => ?_⟩
      have := hN p0 ρ0 s0 cs0 b k m (U ++ [(⟨x, v, s.n, nw⟩ : Rec)]) listed fuel t p ρ w a cs (by simp at hf ⊢; omega) hc (hstep hds)
      have e1 : U.length + (NR + 1 + m) = (U ++ [(⟨x, v, s.n, nw⟩ : Rec)]).length + (NR + m) := by simp; omega
      rw [e1]
      exact this
    | true =>
      rw [drawRun_cons] at hnf
      rw [drawRun_cons]
      cases hb : Nat.blt s.n 1000000 with
      | false => rw [hb] at hnf; exact absurd ⟨_, rfl⟩ hnf
      | true =>
        have hsn : s.n < 1000000 := by simpa using hb
        rw [hb, cond_true] at hnf
        rw [cond_true]
        have hxo := item_get hP hxL
        have hxok := List.all_eq_true.1 hok _ (item_mem hP hxL)
        have hagr := only_agr (ops := ops) x.o e
        have hnf1 : ∀ w, rStep ih ops x.o e s ≠ .fail w := fun w hw => hnf ⟨w, by rw [hw]; rfl⟩
        have hso := sound_step (fn := fn) (e := only (namesOf ops x.o) e) (s := s) hi hxo hxok (fun w hw => hnf1 w (by rw [← hagr.rStep (hP.nsp x hxL) ih s]; exact hw))
        rw [hagr.rStep (hP.nsp x hxL) ih s] at hso
        have hatO : ∀ {p : Z.T} {ρ : Rho} {w : World} {b : Frame} {a : Act} {cs : List Frame} {U : List Rec} {listed : Array Bool} {p0 : Z.T} {ρ0 : Rho} {s0 : St} {cs0 : List Frame}, x.idx ∈ Region.ready .any ops listed → DS Z ops L fn e0 p0 ρ0 s0 cs0 D (x :: r) pend e s U listed p ρ w b a cs → AtC Z p ρ w (only (namesOf ops x.o) e) s b a cs := by
          intro p ρ w b a cs U listed p0 ρ0 s0 cs0 hi hds
          refine hds.at_.weak fun t v hv => ?_
          rw [only_get] at hv
          by_cases ht : t ∈ namesOf ops x.o
          · rw [if_pos ht] at hv
            rw [hide_get, if_neg (hds.si.clear hP hxL hi t ht)]
            exact hv
          · rw [if_neg ht] at hv
            cases hv
        cases hst : rStep ih ops x.o e s with
        | fail w => exact absurd hst (hnf1 w)
        | val v s' =>
          rw [hst] at hnf hso
          have hy : (OpR.val v s').out x.o.dst (drawNext ops x pend (drawRun ih ops r) e) e = cond (stills x s' pend) (drawRun ih ops r pend (put x.o.dst v e) s') (.fail "drawn region a look that does not stand") := drawNext_loud hq
          rw [hy] at hnf
          rw [hy]
          cases hstl : stills x s' pend with
          | false => rw [hstl] at hnf; exact absurd ⟨_, rfl⟩ hnf
          | true =>
            rw [hstl, cond_true] at hnf
            rw [cond_true]
            obtain ⟨Nx, hNx⟩ := hso
            obtain ⟨NR, hN⟩ := IH (D ++ [x]) (by rw [hD]; simp) pend (put x.o.dst v e) s' hnf
            refine ⟨Nx + NR, fun p0 ρ0 s0 cs0 b k m U listed fuel t p ρ w a cs hf hc hds => ?_⟩
            refine run_U (N := Nx + NR + m) hP hok hsn (fun x' r' h => by cases h; exact hq) (fun h => by cases h) (fun x' r' h U listed fuel t p ρ w a cs hf hi hds => ?_) U.length U rfl listed fuel t p ρ w a cs hf hds
            cases h
            have e1 : U.length + (Nx + NR + m) = Nx + (U.length + (NR + m)) := by omega
            rw [e1]
            refine hNx p ρ w b a cs _ k _ hds.fn (hatO hi hds) ?_
            intro p' ρ' w' cs' df hp hpst hr hv hdr hrk
            have hds' := okOp_dst hxok
            have hsz : ∀ t, x.o.dst = some t → t < a.tmps.size := fun t ht => Nat.lt_of_lt_of_le (hds' t ht) (by rw [← hds.fn]; exact hds.at_.nt)
            refine hN p0 ρ0 s0 cs0 b k m U _ fuel t p' ρ' w' _ cs' hf hc ⟨hds.si.loudOne hP hi, fun u hu => ?_, ⟨hr, ?_, hds.at_.glob.mono hpst.le, by rw [put_size]; exact hds.at_.nt, hdr, hrk, hds.at_.kind⟩, ?_, Z.trans hds.le hp, hds.pst.trans hpst, hds.un, hds.fn⟩
            · have hap := hds.si.apart hP (hds.si.inD u hu).1 (List.mem_cons_self ..)
              have hmask : hasBit x.mask u.x.bit = false := by
                cases hm : hasBit x.mask u.x.bit with
                | false => rfl
                | true =>
                  have := hds.si.masked hP hxL hi (hds.si.uL hu) hm
                  rw [hds.si.unl hu] at this
                  cases this
              refine (hds.q u hu).loud hstl hmask ?_ hap.dst hpst.n hpst.keep
              cases hbw : inL x.o.dst (namesOf ops u.x.o) with
              | false => rfl
              | true =>
                have := (hap.bwd hbw).2
                rw [hmask] at this
                cases this
            · intro t y hy
              rw [hide_get] at hy
              by_cases ht : t ∈ dstsU U
              · rw [if_pos ht] at hy; cases hy
              · rw [if_neg ht] at hy
                by_cases hxt : x.o.dst = some t
                · rw [hxt] at hy ⊢
                  have hy' : (Env.cons t v e).get t = some y := hy
                  rw [Env.get_cons, if_pos rfl] at hy'
                  cases hy'
                  refine ⟨hv, ?_⟩
                  show (a.tmps.setIfInBounds t (tV ρ' v))[t]? = _
                  simp [hsz t hxt]
                · rw [put_get_other hxt] at hy
                  obtain ⟨k1, k2⟩ := ER_mono hpst.le hds.at_.er t y (by rw [hide_get, if_neg ht]; exact hy)
                  refine ⟨k1, ?_⟩
                  cases hdst : x.o.dst with
                  | none => exact k2
                  | some d =>
                    show (a.tmps.setIfInBounds d (tV ρ' v))[t]? = _
                    rw [Array.getElem?_setIfInBounds_ne (fun h => hxt (by rw [hdst, h]))]
                    exact k2
            · exact ER_off (ER_mono hpst.le hds.e0) fun t ht => by rw [dropDst_get, if_pos (dst_isDst hP hxL ht)]
        | pan v s' =>
          rw [hst] at hnf hso
          have hy : (OpR.pan v s').out x.o.dst (drawNext ops x pend (drawRun ih ops r) e) e = .pan v e s' := rfl
          rw [hy]
          obtain ⟨Nx, hNx⟩ := hso
          refine ⟨Nx, fun p0 ρ0 s0 cs0 b k m U listed fuel t p ρ w a cs hf hc hds => ?_⟩
          refine run_U (N := Nx + m) hP hok hsn (fun x' r' h => by cases h; exact hq) (fun h => by cases h) (fun x' r' h U listed fuel t p ρ w a cs hf hi hds => ?_) U.length U rfl listed fuel t p ρ w a cs hf hds
          cases h
          refine Z.plus p ?_ _
          refine hNx p ρ w b a cs _ k m hds.fn (hatO hi hds) ?_
          intro p' ρ' w' cs' df hp hpst hr hv hdr hrk todo ht
          exact hc p' ρ' w' { tmps := a.tmps, defers := df } cs' (Z.trans hds.le hp) (hds.pst.trans hpst) ⟨hr, ER_mono hpst.le hds.e0, hds.at_.glob.mono hpst.le, hds.at_.nt, hdr, hrk, hds.at_.kind⟩ hv todo ht
theorem g_region_draw {b : Frame} {a : Act} {k : List Item} {cs : List Frame} {w : World} {id : Nat} :
    stepG PG mn (G (b.atR a (.code (.region id ops true) :: k)) cs) w =
      .go (G (b.atR a (.inRegion ops (Region.schedule (PG.follows .mixedOrders) ops (w.tape w.drawn (.order b.fn id))) :: k)) cs) { w with drawn := w.drawn + 1 } := by
  simp [G, stepG, stepG.exec, Frame.atR, choose, Sem.run, Question.forced, Question.cut]
theorem mixed_ok : PG.follows .mixedOrders = true := by kernel_rfl
theorem drawOk (hi : SoundI Z ih) : DrawOk Z ih := by
  intro fn id ops L e s hok hplan hnf
  have hP := plan_ok hplan
  have hnf' : ¬ isFail (drawRun ih ops L [] e s) := fun ⟨w, h⟩ => hnf ⟨w, by rw [h]; rfl⟩
  obtain ⟨NR, hN⟩ := draw_main hi hP hok e L [] rfl [] e s hnf'
  refine ⟨NR + 1, fun p ρ w b a cs k m hb hat hc => ?_⟩
  have e0 : NR + 1 + m = (NR + m) + 1 := by omega
  rw [e0]
  refine Z.step p _ _ _ rfl fun p w1 hw => ?_
  replace hc := hc.shift (Z.mv_le hw) (Pst.refl _ _ _)
  rw [g_region_draw]
  have ha1 := hat.rel hw
  refine ⟨Gw.at _ _ _, by simp, ?_⟩
  rw [mixed_ok]
  simp only [Region.schedule, Bool.true_or, if_true]
  have := hN p ρ s cs b k m [] (Array.replicate ops.size false) ops.size (w1.tape w1.drawn (.order b.fn id)) p ρ { w1 with drawn := w1.drawn + 1 } a cs (by simp [hP.len]) hc ?_
  · rw [List.length_nil, Nat.zero_add] at this
    exact this
  · refine ⟨⟨rfl, by simp, .nil, by simp, fun x hx => ?_, fun i his hl => ?_, .nil⟩, by simp, ?_, ?_, Z.refl p, Pst.refl _ _ _, by simp, hb⟩
    · have := (hP.item x hx).2
      simp [Array.getD, this, hx]
    · simp [Array.getD, his] at hl
    · have h2 : AtC Z p ρ { w1 with drawn := w1.drawn + 1 } e s b a cs := ⟨ha1.wr.draw _, ha1.er, ha1.glob, ha1.nt, ha1.dr, ha1.rk, ha1.kind⟩
      exact h2.weak fun t v hv => by
        rw [hide_get] at hv
        split at hv
        · cases hv
        · exact hv
    · refine ha1.er.weak fun t v hv => ?_
      rw [dropDst_get] at hv
      split at hv
      · cases hv
      · exact hv
/-- every request is what the evaluator says -/
theorem ev_sound {hk : Oper → Env → St → Out} {hd : Deferred → St → Out} (hsp : ∀ o e s, ¬ isFail (hk o e s) → SoundSp Z o e s (hk o e s)) (hspd : ∀ d s, ¬ isFail (hd d s) → SoundSpd Z d s (hd d s)) (n : Nat) : SoundI Z (ev hk hd n) :=
  sound_all (fun _ hi => drawOk hi) hsp hspd n
end
end Go.Proofs.YtfpmbneglnoojaaGreatDoor.Ab
