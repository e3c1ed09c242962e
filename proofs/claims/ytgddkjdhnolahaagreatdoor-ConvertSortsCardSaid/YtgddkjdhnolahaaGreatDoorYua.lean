import Derived.WalkKit
import Derived.ControlIn
import Derived.TacticsIn
import Derived.OrdersHeld
import Derived.RangeFuncCalls
import Derived.IntWalk
import Derived.Laws.StructEq
import Derived.Maps.AppendAt
import Derived.Deep.LoopGhost
import Derived.Test.YtgddkjdhnolahaaGreatDoorProg
import Derived.Lib.AppendZerosOnto
import Derived.LoopN
set_option linter.defProp false
namespace Go.Proofs.YtgddkjdhnolahaaGreatDoor
open Go Go.RowKit
def Ab := @List.length_append
def Ac := @if_neg
def Ad := @of_decide_eq_true
def Ae := @if_pos
def Af := @List.length_cons
def Ag := @Nat.le_refl
def Ah := @List.not_mem_nil
def Aj := @List.mem_cons
def Ak := @List.length_take
def Am := @Tryz.underlying129
def Ar := @List.length_nil
def Aw := @Tryz.underlying22
def Ax := @Nat.le_trans
def Ay := @Result.andThen_ok
def A0 := @List.mem_of_getElem?
def A5 := @Bool.and_eq_true
def A7 := @List.mem_singleton
def A8 := @Tryz.underlying3
def A9 := @decide_eq_true_eq
def AA := @List.map_cons
def AB := @Sem.run_bind
def AE := @Tryz.underlying50
def AO := @Array.getElem?_eq_some_iff
def AP := @List.map_nil
def AW := @List.append_assoc
def Ba := @Sem.run_pure
def Bc := @Option.some.inj
def Bi := @List.mem_append
def Bj := @Tryz.underlying68
def Bk := @List.getElem?_eq_getElem
def Bq := @Tryz.underlying26
def Bw := @List.eq_nil_of_length_eq_zero
def B4 := @Nat.lt_of_lt_of_le
def BB := @List.length_replicate
def BC := @List.length_drop
def BI := @decide_eq_false_iff_not
def Cm := @Option.some.injEq
def Cn := @Bool.not_eq_true'
def C2 := @Option.map_some
def CD := @List.take_length
def CV := @Tryz.underlying4
def CZ := @List.getElem?_append_right
def Dl := @List.length_reverse
def Dx := @wp_cond_false
def D7 := @Tryz.underlying9
def DG := @Tryz.underlying87
def DP := @Tryz.underlying145
def Ed := @Prod.mk.injEq
def Ej := @Tryz.underlying73
def Ez := @Tryz.underlying119
def EO := @Tryz.underlying83
def Fy := @Tryz.underlying184
def Fz := @Tryz.underlying165
def FP := @Tryz.underlying62
def FQ := @Tryz.underlying54
def FR := @Tryz.underlying27
def Hn := @Tryz.underlying175
def Ho := @Tryz.underlying169
def Hp := @Bool.or_eq_true
def IJ := @List.take_take
end Go.Proofs.YtgddkjdhnolahaaGreatDoor
namespace Go.Proofs.YtgddkjdhnolahaaGreatDoor
open Go Go.RowKit
abbrev zB:=Exit->Act->World->Prop
abbrev zC:=Act->World->Prop
abbrev zD:=List (Nat×Value)
abbrev zE:=Option Addr
abbrev zF:=List Value
abbrev zG:=Nat->Prop
abbrev zH:=World
abbrev zI:=TypeId
abbrev zJ:=Operand
abbrev zK:=List Int
def zQ{p:Prop}(h:p:=by omega):p:=h
def zR{p:Prop}(h:p:=by assumption):p:=h
def zS{p:Prop}(h:p:=by decide):p:=h
def zT{p:Prop}(h:p:=by simp only [AK,AA,AP,Aj,Ah,or_false,forall_eq_or_imp,forall_eq];first|assumption|omega|(and_intros<;>first|assumption|omega)):p:=h
def zU{p:Prop}(h:p:=by kernel_rfl):p:=h
def zV{p:Prop}(h:p:=by (simp only [Af,Ar];omega)):p:=h
def zW{p:Prop}(h:p:=by rfl):p:=h
def zX{p:Prop}(h:p:=by simp only [AK,AA,AP,Aj,Ah,or_false,forall_eq_or_imp,forall_eq];first|assumption|(and_intros<;>assumption)):p:=h
def zY{p:Prop}(h:p:=by intro x hx;cases hx):p:=h
def zZ{p:Prop}(h:p:=by (unfold tgA tgK;first|(rw [Ac (by assumption)];done)|(rw [Ae (by assumption)];(repeat' split)<;>omega))):p:=h
def yB{p:Prop}(h:p:=by simp):p:=h
def yC{p:Prop}(h:p:=by intro x hx;simp only [Cu,CJ,Aj,Ah,or_false] at hx;(repeat' rcases hx with hx|hx)<;>dsimp only<;>omega):p:=h
def yD{p:Prop}(h:p:=by (rw [(Dz (by omega) (by omega) (by omega))];done) ):p:=h
def yE{p:Prop}(h:p:=by exact e0S):p:=h
def yF{p:Prop}(h:p:=by simp only [Dl,List.set_cons_succ,List.set_cons_zero]):p:=h
def yG{p:Prop}(h:p:=by (unfold tgK;(repeat' split)<;>omega)):p:=h
def yH{p:Prop}(h:p:=by simp;omega):p:=h
def yI{p:Prop}(h:p:=by intro y hy;simp only [Cu,CJ,Aj,Ah,or_false] at hy;rcases hy with rfl|rfl<;>exact ⟨by assumption,by dsimp only;omega⟩):p:=h
def yJ{p:Prop}(h:p:=by rw [AQ];omega):p:=h
def yK{p:Prop}(h:p:=by unfold upL;first|(rw [Ac (by assumption)];done)|(rw [Ae (by assumption),OE (by assumption)];done)):p:=h
def yL{p:Prop}(h:p:=by unfold inL;first|(rw [Ac (by assumption)];done)|(rw [Ae (by assumption),Z2 (by assumption)];done)):p:=h
def yM{p:Prop}(h:p:=by (simp;done)):p:=h
def yN{p:Prop}(h:p:=by rw [List.length_set];omega):p:=h
def yO{p:Prop}(h:p:=by unfold plL;first|(rw [Ac (by assumption)];done)|(rw [Ae (by assumption)];assumption)):p:=h
def yP{p:Prop}(h:p:=by rw [World.putObj_size];omega):p:=h
def yQ{p:Prop}(h:p:=by exact Vd.p (by assumption)):p:=h
def yR{p:Prop}(h:p:=by (unfold Gy;(repeat' split)<;>omega)):p:=h
def yS{p:Prop}(h:p:=by exact K6 (by assumption)):p:=h
def yT{p:Prop}(h:p:=by rw [Af,AQ];omega):p:=h
def yU{p:Prop}(h:p:=by unfold Au;omega):p:=h
end Go.Proofs.YtgddkjdhnolahaaGreatDoor
namespace Go.Proofs.YtgddkjdhnolahaaGreatDoor
set_option linter.unusedSimpArgs false
set_option linter.unusedVariables false
open _root_.Go.Proofs.Tryz
variable {A:zE}{B b b':Bool}{F G:Act->Prop}{I J J2 M Z:zG}{K:zC}{L ls rest ys:List Oper}{N bytes c2 cap d dj fuel i i0 ip j j' k size sz:Nat}{P:Program}{Q Q':zB}{R:Ending->zH->Prop}{S S':zH->Prop}{V a' v v':Value}{X:Prop}{Y x y:zJ}{a:Act}{cs cs' vs xs:zF}{e t tn ty u:zI}{f:FuncId}{fn:Func}{hi lo:Option zJ}{how:Exit}{is:List Nat}{kd kd' ki kn kq kx ky:IntKind}{l' l2 m:zD}{listed:Array Bool}{o oi oj op:Oper}{ops:Array Oper}{ps qs:List (zH->Prop)}{q:Int}{s':ByteArray}{ts:Array zI}{vhi vlo:Option Value}{w w' w0 w1 w2:zH}{α β:Type}
section
open Go.RowKit
structure Reg (a:Act) (N:Nat) (l:zD):Prop where
 dfr:l.lookup 1000000=some (.bool false)->a.defers=[]
 dfr1:∀D:Nat,l.lookup 1000000=some (.int .i64 (D:Int))->a.defers=[{ target:=.collected D,args:=#[] }]
 top:N<=1000000
 size:a.tmps.size=N
 get:∀i v,i≠1000000->l.lookup i=some v->a.tmps.getD i undef=v
def ev(l:zD): zJ->Option Value
 | .tmp t=>cond (Nat.beq t 1000000) none (l.lookup t)
 | .const v=>some v
 | .global g=>some (.pointer (some ⟨g,0,none⟩))
 | .func f=>some (.func (.func f) #[] #[])
def evs(l:zD): List zJ->Option zF
 | []=>some []
 | x::xs=>match ev l x,evs l xs with
  | some v,some vs=>some (v::vs)
  | _,_=>none
def Reg.ev{l:zD}(h:Reg a N l)(d:ev l x=some v): a.eval x=v:=by
 cases x with
 | tmp t=>
  have b:cond (Nat.beq t 1000000) none (l.lookup t)=some v:=d;cases hb:Nat.beq t 1000000 with
  | true=>
   rw [hb] at b;cases b
  | false=>
   rw [hb] at b;refine h.get t v (fun e=>?_) b;rw [e] at hb;exact absurd hb zS
 | const c=>simpa [YtgddkjdhnolahaaGreatDoor.ev,Act.eval] using d
 | global g=>simpa [YtgddkjdhnolahaaGreatDoor.ev,Act.eval] using d
 | func f=>simpa [YtgddkjdhnolahaaGreatDoor.ev,Act.eval] using d
def Reg.evs{l:zD}(h:Reg a N l):∀{xs:List zJ} {vs:zF},evs l xs=some vs->xs.map a.eval=vs
 | [],vs,hx=>by simpa [YtgddkjdhnolahaaGreatDoor.evs] using hx
 | x::xs,vs,hx=>by
  simp only [YtgddkjdhnolahaaGreatDoor.evs] at hx;cases h1:YtgddkjdhnolahaaGreatDoor.ev l x with
  | none=>simp [h1] at hx
  | some v=>
   cases h2:YtgddkjdhnolahaaGreatDoor.evs l xs with
   | none=>simp [h1,h2] at hx
   | some us=>
    simp only [h1,h2] at hx;obtain rfl:=Bc hx;rw [AA,h.ev h1,h.evs h2]
def Ce{l:zD}: ((i,v)::l).lookup i=some v:=by simp [List.lookup]
def BW{l:zD}(h:j≠i): ((i,v)::l).lookup j=l.lookup j:=by
 have:(j == i)=false:=by simpa using h
 simp [List.lookup,this]
def Reg.put{l:zD}(h:Reg a N l)(hd:d<N)(v:Value): Reg (a.put (some d) v) N ((d,v)::l):=by
 have hk:(1000000:Nat)≠d:=by have:=h.top;omega
 refine ⟨fun q=>h.dfr (by rwa [BW hk] at q),fun D q=>h.dfr1 D (by rwa [BW hk] at q),h.top,by simp [Act.put,h.size],fun i u hi c=>?_⟩;by_cases b:i=d
 ·subst b;rw [Ce] at c;obtain rfl:=Bc c;simp [Act.put,Array.getD,h.size,hd]
 ·rw [BW b] at c;have:=h.get i u hi c;simp only [Act.put];rw [<-this];simp [Ne.symm b]
def Reg.put_none{l:zD}(h:Reg a N l)(v:Value): Reg (a.put none v) N l:=⟨h.dfr,h.dfr1,h.top,h.size,h.get⟩
def Reg.nil{l:zD}(h:Reg a N l): Reg a N []:=⟨fun q=>by simp at q,fun _ q=>by simp at q,h.top,h.size,fun _ _ _ b=>by simp at b⟩
def Reg.cons{l:zD}(h:Reg a N l)(d:Reg a N l')(hv:l.lookup i=some v): Reg a N ((i,v)::l'):=by
 refine ⟨fun q=>?_,fun D q=>?_,h.top,h.size,fun j u e c=>?_⟩
 ·
  by_cases hk:(1000000:Nat)=i
  ·subst hk;rw [Ce] at q;exact h.dfr (hv.trans q)
  ·rw [BW hk] at q;exact d.dfr q
 ·
  by_cases hk:(1000000:Nat)=i
  ·subst hk;rw [Ce] at q;exact h.dfr1 D (hv.trans q)
  ·rw [BW hk] at q;exact d.dfr1 D q
 ·
  by_cases b:j=i
  ·subst b;rw [Ce] at c;obtain rfl:=Bc c;exact h.get _ _ e hv
  ·rw [BW b] at c;exact d.get j u e c
def Reg.start(args:Array Value)(N:Nat)(hN:args.size<=N)(a:N<=1000000):∀l,(∀i v,l.lookup i=some v->(args++Array.replicate (N-args.size) undef).getD i undef=v)->
  Reg { tmps:=args++Array.replicate (N-args.size) undef,defers:=[] } N ((1000000,.bool false)::l):=
 fun _ h=>⟨fun _=>rfl,(fun D q=>by rw [Ce] at q;cases q),a,by simp;omega,fun i v hi hv=>h i v (by rwa [BW hi] at hv)⟩
def Reg.round2{l:zD}(h:Reg a N l){p q:Nat}(d:p<N)(c:q<N)(u v:Value)(hl:∀i w,i≠1000000->l'.lookup i=some w->l.lookup i=some w)(hk:l'.lookup 1000000=none):
  Reg { tmps:=(#[p,q].zip #[u,v]).foldl (fun t (p,v)=>t.setIfInBounds p v) a.tmps,defers:=[] } N ((q,v)::(p,u)::(1000000,.bool false)::l'):=by
 have h0:Reg { tmps:=a.tmps,defers:=[] } N ((1000000,.bool false)::l'):=by
  refine ⟨fun _=>rfl,(fun D q=>by rw [Ce] at q;cases q),h.top,h.size,fun i w hi b=>?_⟩;rw [BW hi] at b;exact h.get i w hi (hl i w hi b)
 have e:=(h0.put d u).put c v;simpa [Act.put] using e
structure SteV (P:Program) (X:Prop) (Next:zC) (o:Oper) (a:Act) (w:zH):Prop where
 val:∀v w',(execOp a.eval o).run P w=.ok (.value v) w'->Next (a.put o.dst v) w'->X
structure Ste (P:Program) (X:Prop) (Next:zC) (o:Oper) (a:Act) (w:zH):Prop extends SteV P X Next o a w where
 skip:∀w',(execOp a.eval o).run P w=.ok .skip w'->Next (a.put o.dst undef) w'->X
 enter:∀f args w',(execOp a.eval o).run P w=.ok (.enter f args) w'->Calls P f args w' (fun e w''=>∃v,e=.returned v/\Next (a.put o.dst v) w'')->X
section
def JQ{c:zC}{d:Option Tmp}{args:Array Value}
  (h:Calls P f args w' (fun e b=>∃v,e=.returned v/\c (a.put d v) b)):
  Calls P f args w' fun
   | .returned v,b=>c (a.put d v) b
   | .panicked chain,b=>Q' (.panic chain) a b
   | .outgrown,_=>LetsOut Q':=
 h.mono fun e b g=>by
  obtain ⟨v,rfl,hv⟩:=g;exact hv
def CQ(b:Region.wanted o (yielded ops a.tmps)=true): Ste P (wpList P ops Q (o::rest) a w) (wpList P ops Q rest) o a w where
 val v w' hr h:=by
  unfold wpList;rw [Ae b];refine .inl ?_;unfold Oper.wp;rw [hr];exact h
 skip w' hr h:=by
  unfold wpList;rw [Ae b];refine .inl ?_;unfold Oper.wp;rw [hr];exact h
 enter f args w' hr h:=by
  unfold wpList;rw [Ae b];refine .inl ?_;unfold Oper.wp;rw [hr];exact JQ h
def Uu(hg:o.guard=none): Ste P (wpList P ops Q (o::rest) a w) (wpList P ops Q rest) o a w:=
 CQ (by simp [Region.wanted,hg])
def IY(hg:o.guard=none): SteV P (wpList P ops Q (o::rest) a w) (wpList P ops Q rest) o a w:=(Uu hg).toSteV
def AH(b:Region.wanted o (yielded ops a.tmps)=true): SteV P (wpList P ops Q (o::rest) a w) (wpList P ops Q rest) o a w:=(CQ b).toSteV
def Xu{l:zD}(e:Reg a N l)(hd:o.dst=some d)(b:d<N):
  SteV P ((execOp a.eval o).run P w=.ok (.value V) w) (fun a' w'=>a'.tmps.getD d undef=V/\w'=w) o a w:=
 ⟨fun v w' f h=>by
  obtain ⟨c,rfl⟩:=h;rw [hd] at c;have g:=(e.put b v).get d v (by have:=e.top;omega) Ce;rw [g] at c
  rw [f,c]⟩
def DK(hi:ops[i]?=some o)(b:Region.wanted o (yielded ops a.tmps)=true): Ste P (wpOp P ops Q i K a w) K o a w where
 val v w' hr h:=by
  unfold wpOp;simp only [hi];rw [Ae b];refine .inl ?_;unfold Oper.wp;rw [hr];exact h
 skip w' hr h:=by
  unfold wpOp;simp only [hi];rw [Ae b];refine .inl ?_;unfold Oper.wp;rw [hr];exact h
 enter f args w' hr h:=by
  unfold wpOp;simp only [hi];rw [Ae b];refine .inl ?_;unfold Oper.wp;rw [hr];exact JQ h
def Cw(hi:ops[i]?=some o)(b:Region.wanted o (yielded ops a.tmps)=true): SteV P (wpOp P ops Q i K a w) K o a w:=(DK hi b).toSteV
def A4(hg:o.guard=none): Region.wanted o (yielded ops a.tmps)=true:=by simp [Region.wanted,hg]
def Aam(b:Region.wanted o (yielded ops a.tmps)=false)(h:wpList P ops Q rest (a.put o.dst undef) w): wpList P ops Q (o::rest) a w:=wpList_skip b h
def wf(a:Option Nat): Fence:={ Fence.wide with round:=a }
def Qm{b:Option Nat}(hnd:∀c,o.op≠.defer c)(d:Region.wanted o (yielded ops a.tmps)=true):
  Ste P (wpListIn (wf b) 0 P ops Q (o::rest) a w) (wpListIn (wf b) 0 P ops Q rest) o a w where
 val v w' hr h:=by
  unfold wpListIn;rw [Ae d];refine ⟨fun _ _=>trivial,?_⟩;rw [Oper.semAt_eq _ _ _ hnd,hr];exact h
 skip w' hr h:=by
  unfold wpListIn;rw [Ae d];refine ⟨fun _ _=>trivial,?_⟩;rw [Oper.semAt_eq _ _ _ hnd,hr];exact h
 enter f args w' hr h:=by
  unfold wpListIn;rw [Ae d];refine ⟨fun _ _=>trivial,?_⟩;rw [Oper.semAt_eq _ _ _ hnd,hr];refine ⟨fun hd=>by simp [wf,Fence.wide] at hd,?_⟩;have hc:=callsIn_wide (n:=0).2 (JQ (Q':=Q) h);cases b with
  | none=>exact hc
  | some l=>exact CallsIn.inRound l hc
end
end
section
open Go.RowKit
inductive Res where
 | box (g:Nat) (t:zI) (cs:zF)
 | row (A:zE) (n cap:Nat) (e size:Nat) (xs:zF)
 | mp (g:Nat) (es:List MapEntry) (c:Nat)
abbrev zO:=List Res
def Res.blk:Res->Option Nat
 | .box g _ _=>some g
 | .row A _ _ _ _ _=>A.map (·.block)
 | .mp g _ _=>some g
def Res.holds(w:zH): Res->Prop
 | .box g t cs=>w.heap[g]?=some (.cells cs.toArray t (0,0))
 | .row A n cap e size xs=>w.ownsRow 0 e size (.slice A n cap) n xs
 | .mp g es c=>w.heap[g]?=some (.map es.toArray c)
def PY(o:Obj): Prop:=(∃cs t fz,o=.cells cs t fz)\/∃es c,o=.map es c
def imm(Z:zG)(w0:zH)(m:zO)(w:zH)(k:Nat): Prop:=k<w.heap.size/\(k<w0.heap.size->Z k)/\∀r∈m,r.blk≠some k
def nxt(Z:zG)(w0 w:zH)(k:Nat): Prop:=k<w.heap.size/\(k<w0.heap.size->Z k)
structure Dat where
 φ:zH->zG->Prop
 mono:∀w w' I I',w.heap.size<=w'.heap.size->φ w I->(∀k,I k->I' k/\w'.heap[k]?=w.heap[k]?)->φ w' I'
abbrev zP:=List Dat
structure St (w0:zH) (Z M:zG) (w:zH) (m:zO) (ds:zP):Prop where
 os:w.os=w0.os
 tape:w.tape=w0.tape
 output:w.output=w0.output
 size:w0.heap.size<=w.heap.size
 old:∀k,k<w0.heap.size->¬M k->w.heap[k]?=w0.heap[k]?
 hold:∀r∈m,r.holds w
 own:∀r∈m,∀k,r.blk=some k->k<w.heap.size/\(w0.heap.size<=k\/M k)
 apart:m.Pairwise fun r s=>∀k,r.blk=some k->s.blk≠some k
 dat:∀d∈ds,d.φ w (imm Z w0 m w)
structure Fr (M:zG) (w w':zH):Prop where
 os:w'.os=w.os
 tape:w'.tape=w.tape
 output:w'.output=w.output
 size:w.heap.size<=w'.heap.size
 old:∀k,k<w.heap.size->¬M k->w'.heap[k]?=w.heap[k]?
abbrev Be:zG:=fun _=>False
def Fr.refl(M:zG)(w:zH): Fr M w w:=⟨rfl,rfl,rfl,Ag _,fun _ _ _=>rfl⟩
def Fr.below(h:Fr Be w w'): Below w.heap.size w w':=⟨h.os,h.tape,h.output,h.size,fun k hk=>h.old k hk (fun x=>x)⟩
section
variable {m m':zO} {ds:zP}
def St.fr(h:St w0 Z M w m ds): Fr M w0 w:=⟨h.os,h.tape,h.output,h.size,h.old⟩
def St.start(w0:zH)(Z M:zG)(a:zP)(h:∀d∈a,d.φ w0 (imm Z w0 [] w0)): St w0 Z M w0 [] a:=
 ⟨rfl,rfl,rfl,Ag _,fun _ _ _=>rfl,(fun _ h=>by cases h),(fun _ h=>by cases h),.nil,h⟩
def St.step(h:St w0 Z M w m ds)(p:w'.os=w.os)(f:w'.tape=w.tape)(l:w'.output=w.output)(a:w.heap.size<=w'.heap.size)
  (c:∀k,k<w.heap.size->(∀r∈m,r.blk≠some k)->w'.heap[k]?=w.heap[k]?)
  (i:∀r∈m',r.holds w')
  (b:∀r∈m',∀k,r.blk=some k->k<w'.heap.size/\((∃r'∈m,r'.blk=some k)\/w.heap.size<=k))
  (q:m'.Pairwise fun r s=>∀k,r.blk=some k->s.blk≠some k):St w0 Z M w' m' ds:=by
 have n:∀k,imm Z w0 m w k->imm Z w0 m' w' k/\w'.heap[k]?=w.heap[k]?:=fun k hk=>by
  refine ⟨⟨B4 hk.1 a,hk.2.1,fun r j e=>?_⟩,c k hk.1 hk.2.2⟩;rcases (b r j k e).2 with ⟨r',g,t⟩|o
  ·exact hk.2.2 r' g t
  ·exact absurd hk.1 zQ
 refine ⟨p.trans h.os,f.trans h.tape,l.trans h.output,Ax h.size a,fun k hk u=>?_,i,fun r j k e=>⟨(b r j k e).1,?_⟩,q,fun d hd=>d.mono _ _ _ _ a (h.dat d hd) n⟩
 ·
  refine (c k (B4 hk h.size) (fun r j e=>?_)).trans (h.old k hk u);rcases (h.own r j k e).2 with v|v
  ·omega
  ·exact u v
 ·
  rcases (b r j k e).2 with ⟨r',g,t⟩|o
  ·exact (h.own r' g k t).2
  ·exact .inl (Ax h.size o)
def FN{r:Res}{B:Nat}(h:r.holds w)(hb:Below B w w')(hk:∀k,r.blk=some k->k<B): r.holds w':=by
 cases r with
 | box g t cs=>exact (hb.block g (hk g rfl)).trans h
 | mp g es c=>exact (hb.block g (hk g rfl)).trans h
 | row A n cap e size xs=>
  refine ⟨h.1,?_⟩;rcases h.2 with b|⟨g,a,d,hv,b,j,i⟩
  ·exact .inl b
  ·
   refine .inr ⟨g,a,d,hv,b,?_,i⟩;have f:A=some ⟨g,0,none⟩:=by injection hv
   exact (hb.block g (hk g (by simp [Res.blk,f]))).trans j
def St.below(h:St w0 Z M w m ds)(hb:Below w.heap.size w w'): St w0 Z M w' m ds:=
 h.step hb.os hb.tape hb.output hb.size (fun k hk _=>hb.block k hk) (fun r a=>FN (h.hold r a) hb (fun k e=>(h.own r a k e).1))
  (fun r a k e=>⟨B4 (h.own r a k e).1 hb.size,.inl ⟨r,a,e⟩⟩) h.apart
def St.drew(h:St w0 Z M w m ds): St w0 Z M w.drew m ds:=h.below (Below.refl _ _).drew
def Kn(w:zH)(o:Obj)(k:Nat)(hk:k<w.heap.size): (w.alloc o).heap[k]?=w.heap[k]?:=Below.heap_alloc w o k hk
def St.alloc(h:St w0 Z M w m ds)(r:Res)(o:Obj)(hr:r.holds (w.alloc o))(hb:r.blk=some w.heap.size): St w0 Z M (w.alloc o) (m++[r]) ds:=by
 have a:Below w.heap.size w (w.alloc o):=(Below.refl _ _).alloc (Ag _) _;refine h.step rfl rfl rfl yB (fun k hk _=>Kn w o k hk) ?_ ?_ ?_
 ·
  intro s hs;rcases Bi.1 hs with hs|hs
  ·exact FN (h.hold s hs) a (fun k e=>(h.own s hs k e).1)
  ·rw [A7] at hs;subst hs;exact hr
 ·
  intro s hs k e;rcases Bi.1 hs with hs|hs
  ·exact ⟨by have:=(h.own s hs k e).1;simp;omega,.inl ⟨s,hs,e⟩⟩
  ·rw [A7] at hs;subst hs;rw [hb] at e;obtain rfl:=Bc e;exact ⟨by simp,.inr (Ag _)⟩
 ·rw [List.pairwise_append];refine ⟨h.apart,by simp,fun s hs t ht k e b=>?_⟩;rw [A7] at ht;subst ht;rw [hb] at b;obtain rfl:=Bc b;have:=(h.own s hs _ e).1;omega
def Cv(h:m.Pairwise fun r s=>∀k,r.blk=some k->s.blk≠some k)(c:i≠j){r s:Res}(hi:m[i]?=some r)(hj:m[j]?=some s)(hk:r.blk=some k): s.blk≠some k:=by
 rw [List.pairwise_iff_getElem] at h;obtain ⟨b,rfl⟩:=List.getElem?_eq_some_iff.1 hi;obtain ⟨a,rfl⟩:=List.getElem?_eq_some_iff.1 hj;rcases Nat.lt_or_ge i j with hlt|d
 ·exact h i j b a hlt k hk
 ·intro e;exact h j i a b zQ k e hk
def St.turn(h:St w0 Z M w m ds){r E:Res}(hi:m[i]?=some r)(K:w'.os=w.os)(y:w'.tape=w.tape)(F:w'.output=w.output)(o:w.heap.size<=w'.heap.size)
  (v:∀k,k<w.heap.size->r.blk≠some k->w'.heap[k]?=w.heap[k]?) (J:E.holds w')
  (hb:∀k,E.blk=some k->k<w'.heap.size/\(r.blk=some k\/w.heap.size<=k)):St w0 Z M w' (m.set i E) ds:=by
 have x:r∈m:=A0 hi;have N:i<m.length:=(List.getElem?_eq_some_iff.1 hi).1;have f:∀s∈m.set i E,s=E\/∃j,j≠i/\m[j]?=some s:=fun s hs=>by
  obtain ⟨j,p⟩:=List.mem_iff_getElem?.1 hs;rw [List.getElem?_set] at p;by_cases B:i=j
  ·subst B;rw [Ae rfl,Ae N] at p;exact .inl (Bc p).symm
  ·rw [Ac B] at p;exact .inr ⟨j,Ne.symm B,p⟩
 refine h.step K y F o (fun k hk L=>v k hk (L r x)) ?_ ?_ ?_
 ·
  intro s hs;rcases f s hs with rfl|⟨j,G,p⟩
  ·exact J
  ·
   have l:s∈m:=A0 p;have q:=h.hold s l;have z:∀k,s.blk=some k->w'.heap[k]?=w.heap[k]?:=fun k e=>
    v k (h.own s l k e).1 (fun u=>Cv h.apart G p hi e u)
   cases s with
   | box g t cs=>exact (z g rfl).trans q
   | mp g es c=>exact (z g rfl).trans q
   | row A n cap e size xs=>
    refine ⟨q.1,?_⟩;rcases q.2 with d|⟨g,I,Q,hv,d,U,T⟩
    ·exact .inl d
    ·
     refine .inr ⟨g,I,Q,hv,d,?_,T⟩;have S:A=some ⟨g,0,none⟩:=by injection hv
     exact (z g (by simp [Res.blk,S])).trans U
 ·
  intro s hs k e;rcases f s hs with rfl|⟨j,G,p⟩
  ·
   refine ⟨(hb k e).1,?_⟩;rcases (hb k e).2 with d|d
   ·exact .inl ⟨r,x,d⟩
   ·exact .inr d
  ·have l:s∈m:=A0 p;exact ⟨B4 (h.own s l k e).1 o,.inl ⟨s,l,e⟩⟩
 ·
  rw [List.pairwise_iff_getElem];intro a b ha H R k e u;rw [List.length_set] at ha H;have D:m[a]?=some m[a]:=Bk ha;have C:m[b]?=some m[b]:=Bk H;by_cases P:a=i
  ·
   subst P;rw [List.getElem_set_self] at e;rw [List.getElem_set_ne zQ] at u;rcases (hb k e).2 with d|d
   ·exact Cv h.apart (by omega:a≠b) hi C d u
   ·have:=(h.own _ (A0 C) k u).1;omega
  ·
   rw [List.getElem_set_ne zQ] at e;by_cases O:b=i
   ·
    subst O;rw [List.getElem_set_self] at u;rcases (hb k u).2 with d|d
    ·exact Cv h.apart (by omega:a≠b) D hi e d
    ·have:=(h.own _ (A0 D) k e).1;omega
   ·rw [List.getElem_set_ne zQ] at u;exact Cv h.apart (by omega:a≠b) D C e u
def St.data(h:St w0 Z M w m ds)(d:Dat)(hd:d.φ w (imm Z w0 m w)): St w0 Z M w m (ds++[d]):=
 ⟨h.os,h.tape,h.output,h.size,h.old,h.hold,h.own,h.apart,fun x a=>by
  rcases Bi.1 a with a|a
  ·exact h.dat x a
  ·
   rw [A7] at a;subst a
   exact hd⟩
def St.datas(h:St w0 Z M w m ds)(a:zP)(hd:∀d∈a,d.φ w (imm Z w0 m w)): St w0 Z M w m a:=
 ⟨h.os,h.tape,h.output,h.size,h.old,h.hold,h.own,h.apart,hd⟩
def St.get(h:St w0 Z M w m ds){d:Dat}(hi:ds[i]?=some d): d.φ w (imm Z w0 m w):=h.dat d (A0 hi)
def St.res(h:St w0 Z M w m ds){r:Res}(hi:m[i]?=some r): r.holds w:=h.hold r (A0 hi)
def St.drop(h:St w0 Z M w m ds)(m':zO)(hs:m'.Sublist m): St w0 Z M w m' ds:=
 h.step rfl rfl rfl (Ag _) (fun _ _ _=>rfl) (fun r a=>h.hold r (hs.subset a)) (fun r a k e=>⟨(h.own r (hs.subset a) k e).1,.inl ⟨r,hs.subset a,e⟩⟩) (h.apart.sublist hs)
end
end
section
open Go.RowKit
def KR{x z:Int}(a:x=z)(c:-1000000000000000<=z)(b:z<=1000000000000000): IntKind.i64.wrap x=z:=by
 subst a;exact IntWalk.i64_in _ ⟨by omega,by omega⟩
section
variable {Next:zC} {l:zD}
def C6(hs:SteV P X Next o a w)(e:Reg a N l)(hd:o.dst=some d)(c:d<N)(b:(execOp a.eval o).run P w=.ok (.value v) w)
  (k:∀a',Reg a' N ((d,v)::l)->Next a' w):X:=
 hs.val v w b (by rw [hd];exact k _ (e.put c v))
def DQ(hs:SteV P X Next o a w)(c:Reg a N l)(hd:o.dst=some d)(f:o.op=.move x)(e:ev l x=some v)(b:d<N)
  (k:∀a',Reg a' N ((d,v)::l)->Next a' w):X:=
 C6 hs c hd b (by unfold execOp;rw [f];simp only [c.ev e];rfl) k
def X9(hs:SteV P X Next o a w)(c:Reg a N l)(hd:o.dst=some d)(f:o.op=.assign x)(e:ev l x=some v)(b:d<N)
  (k:∀a',Reg a' N ((d,v)::l)->Next a' w):X:=
 C6 hs c hd b (by unfold execOp;rw [f];simp only [c.ev e];rfl) k
def Fj{c:zJ}(hs:SteV P X Next o a w)(e:Reg a N l)(hd:o.dst=some d)(g:o.op=.pick c x y)(hc:ev l c=some (.bool true))(f:ev l x=some v)(b:d<N)
  (k:∀a',Reg a' N ((d,v)::l)->Next a' w):X:=
 C6 hs e hd b (by unfold execOp;rw [g];simp only [e.ev hc,e.ev f];rfl) k
def R5{c:zJ}(hs:SteV P X Next o a w)(e:Reg a N l)(hd:o.dst=some d)(g:o.op=.pick c x y)(hc:ev l c=some (.bool false))(f:ev l y=some v)(b:d<N)
  (k:∀a',Reg a' N ((d,v)::l)->Next a' w):X:=
 C6 hs e hd b (by unfold execOp;rw [g];simp only [e.ev hc,e.ev f];rfl) k
section
variable {p:Int}
def Gq{b:BinOp}(c:Reg a N l)(f:o.op=.binOp b t x y u)(e:ev l x=some (.int ki p))(d:ev l y=some (.int ki q))
  (h:(binOp b t (.int ki p) (.int ki q)).run P w=.ok v w):(execOp a.eval o).run P w=.ok (.value v) w:=by
 have hg:(eqGuard b t x y (.int ki p) (.int ki q)).run P w=.ok () w:=by
  unfold eqGuard;cases b<;>rfl
 unfold execOp;rw [f];simp only [c.ev e,c.ev d,AB,hg,Ay,h,Ba]
def r_leq(hs:SteV P X Next o a w)(c:Reg a N l)(hd:o.dst=some d)(g:o.op=.binOp .leq t x y u)(f:ev l x=some (.int ki p))(e:ev l y=some (.int ki q))(b:d<N)
  (k:∀a',Reg a' N ((d,.bool (decide (p<=q)))::l)->Next a' w):X:=
 C6 hs c hd b (Gq c g f e (by simp [binOp,Op.intCmp])) k
def Aa4(hs:SteV P X Next o a w)(c:Reg a N l)(hd:o.dst=some d)(g:o.op=.binOp .geq t x y u)(f:ev l x=some (.int ki p))(e:ev l y=some (.int ki q))(b:d<N)
  (k:∀a',Reg a' N ((d,.bool (decide (q<=p)))::l)->Next a' w):X:=
 C6 hs c hd b (Gq c g f e (by simp [binOp,Op.intCmp])) k
def Aa5(hs:SteV P X Next o a w)(c:Reg a N l)(hd:o.dst=some d)(g:o.op=.binOp .eql t x y u)(f:ev l x=some (.int ki p))(e:ev l y=some (.int ki q))(b:d<N)
  (k:∀a',Reg a' N ((d,.bool (decide (p=q)))::l)->Next a' w):X:=
 C6 hs c hd b (Gq c g f e (by simp [binOp,Op.intCmp];rfl)) k
def r_neq(hs:SteV P X Next o a w)(c:Reg a N l)(hd:o.dst=some d)(g:o.op=.binOp .neq t x y u)(f:ev l x=some (.int ki p))(e:ev l y=some (.int ki q))(b:d<N)
  (k:∀a',Reg a' N ((d,.bool (!decide (p=q)))::l)->Next a' w):X:=
 C6 hs c hd b (Gq c g f e (by simp [binOp,Op.intCmp];rfl)) k
def Mi{z:Int}(hs:SteV P X Next o a w)(c:Reg a N l)(hd:o.dst=some d)(h:o.op=.binOp .add t x y u)(g:ev l x=some (.int .i64 p))(f:ev l y=some (.int .i64 q))(b:d<N)
  (e:p+q=z) (j:-1000000000000000<=z) (i:z<=1000000000000000) (k:∀a',Reg a' N ((d,.int .i64 z)::l)->Next a' w):X:=
 C6 hs c hd b (Gq c h g f (by simp [binOp,Op.intArith,KR e j i])) k
def UI{z:Int}(hs:SteV P X Next o a w)(c:Reg a N l)(hd:o.dst=some d)(h:o.op=.binOp .sub t x y u)(g:ev l x=some (.int .i64 p))(f:ev l y=some (.int .i64 q))(b:d<N)
  (e:p-q=z) (j:-1000000000000000<=z) (i:z<=1000000000000000) (k:∀a',Reg a' N ((d,.int .i64 z)::l)->Next a' w):X:=
 C6 hs c hd b (Gq c h g f (by simp [binOp,Op.intArith,KR e j i])) k
def Aa3{z:Int}(hs:SteV P X Next o a w)(c:Reg a N l)(hd:o.dst=some d)(h:o.op=.binOp .mul t x y u)(g:ev l x=some (.int .i64 p))(f:ev l y=some (.int .i64 q))(b:d<N)
  (e:p*q=z) (j:-1000000000000000<=z) (i:z<=1000000000000000) (k:∀a',Reg a' N ((d,.int .i64 z)::l)->Next a' w):X:=
 C6 hs c hd b (Gq c h g f (by simp [binOp,Op.intArith,KR e j i])) k
def It{c:BinOp}(hs:SteV P X Next o a w)(e:Reg a N l)(hd:o.dst=some d)(i:o.op=.binOp c t x y u)(g:ev l x=some (.int ki p))(f:ev l y=some (.int ki q))(b:d<N)
  (h:(binOp c t (.int ki p) (.int ki q)).run P w=.ok v w) (k:∀a',Reg a' N ((d,v)::l)->Next a' w):X:=
 C6 hs e hd b (Gq e i g f h) k
def Aaw{b:BinOp}{s:ByteArray}(c:Reg a N l)(f:o.op=.binOp b t x y u)(e:ev l x=some (.string s))(d:ev l y=some (.string s'))
  (h:(Op.stringOp b s s').run P w=.ok v w):(execOp a.eval o).run P w=.ok (.value v) w:=by
 have hg:(eqGuard b t x y (.string s) (.string s')).run P w=.ok () w:=by
  unfold eqGuard;cases b<;>rfl
 have hb:binOp b t (.string s) (.string s')=Op.stringOp b s s':=by unfold binOp;cases b<;>rfl
 unfold execOp;rw [f];simp only [c.ev e,c.ev d,AB,hg,hb,Ay,h,Ba]
def toList_eq(s a:ByteArray): (s.toList == a.toList)=decide (s=a):=by
 rw [Bool.eq_iff_iff,A9,beq_iff_eq,ByteArray.toList_eq,ByteArray.toList_eq];exact ⟨fun h=>ByteArray.ext (Array.toList_inj.mp h),fun h=>by rw [h]⟩
end
def JC(hs:SteV P X Next o a w)(e:Reg a N l)(hd:o.dst=some d)(g:o.op=.unOp .not t x)(f:ev l x=some (.bool b))(c:d<N)
  (k:∀a',Reg a' N ((d,.bool (!b))::l)->Next a' w):X:=
 C6 hs e hd c (by unfold execOp;rw [g];simp only [e.ev f];rfl) k
def FD{vs:Array Value}(hs:SteV P X Next o a w)(c:Reg a N l)(hd:o.dst=some d)(f:o.op=.extract x i)(e:ev l x=some (.tuple vs))(hi:vs[i]?=some v)(b:d<N)
  (k:∀a',Reg a' N ((d,v)::l)->Next a' w):X:=
 C6 hs c hd b (by unfold execOp;rw [f];simp only [c.ev e,Instr.extract,hi];rfl) k
def CW{f:FuncId}{cs:Array zJ}(hs:SteV P X Next o a w)(c:Reg a N l)(hd:o.dst=some d)(g:o.op=.makeFunc (.func f) #[] cs)(e:evs l cs.toList=some vs)(b:d<N)
  (k:∀a',Reg a' N ((d,.func (.func f) #[] vs.toArray)::l)->Next a' w):X:=
 C6 hs c hd b (by
  have:cs.map a.eval=vs.toArray:=by
   rw [<-c.evs e,<-List.map_toArray,Array.toArray_toList]
  unfold execOp;rw [g];simp [Instr.makeFunc];exact this) k
def r_len{n c:Nat}(hs:SteV P X Next o a w)(f:Reg a N l)(hd:o.dst=some d)(i:o.op=.call { callee:=.builtin .len,args:=#[x],argTypes:=#[t] })(_hu:o.type=u)
  (g:ev l x=some (.slice A n c)) (h:P.underlying t=some (.slice e)) (b:d<N) (k:∀a',Reg a' N ((d,.int .i64 (n:Int))::l)->Next a' w):X:=
 C6 hs f hd b (by
  unfold execOp;rw [i];simp only [resolve,invoke,builtin,AB,Ba,Ay,List.map_toArray,AA,AP,f.ev g,Builtin.len_]
  simp [run_underlying h,goInt]) k
def r_lenS{s:ByteArray}(hs:SteV P X Next o a w)(c:Reg a N l)(hd:o.dst=some d)(g:o.op=.call { callee:=.builtin .len,args:=#[x],argTypes:=#[t] })(_hu:o.type=u)
  (e:ev l x=some (.string s)) (f:P.underlying t=some .string) (b:d<N) (k:∀a',Reg a' N ((d,.int .i64 (s.size:Int))::l)->Next a' w):X:=
 C6 hs c hd b (by
  unfold execOp;rw [g];simp only [resolve,invoke,builtin,AB,Ba,Ay,List.map_toArray,AA,AP,c.ev e,Builtin.len_]
  simp [run_underlying f,goInt]) k
def OO{p:Int}(hs:SteV P X Next o a w)(c:Reg a N l)(hd:o.dst=some d)(g:o.op=.call { callee:=.builtin .max,args:=#[x,y],argTypes:=ts })(_hu:o.type=u)
  (f:ev l x=some (.int ki p)) (e:ev l y=some (.int ki q)) (b:d<N) (k:∀a',Reg a' N ((d,.int ki (max p q))::l)->Next a' w):X:=
 C6 hs c hd b (by
  have hm:(if q>p then q else p)=max p q:=by split<;>omega
  unfold execOp;rw [g];simp only [resolve,invoke,builtin,AB,Ba,Ay,List.map_toArray,AA,AP,c.ev f,c.ev e,Builtin.max_];simp only [List.foldlM,Builtin.max2,hm]
  rfl) k
def X7{p:Int}(hs:SteV P X Next o a w)(c:Reg a N l)(hd:o.dst=some d)(g:o.op=.call { callee:=.builtin .min,args:=#[x,y],argTypes:=ts })(_hu:o.type=u)
  (f:ev l x=some (.int ki p)) (e:ev l y=some (.int ki q)) (b:d<N) (k:∀a',Reg a' N ((d,.int ki (min p q))::l)->Next a' w):X:=
 C6 hs c hd b (by
  have hm:(if q<p then q else p)=min p q:=by split<;>omega
  unfold execOp;rw [g];simp only [resolve,invoke,builtin,AB,Ba,Ay,List.map_toArray,AA,AP,c.ev f,c.ev e,Builtin.min_];simp only [List.foldlM,Builtin.min2,hm]
  rfl) k
def X8{s:ByteArray}{p:Int}(hs:SteV P X Next o a w)(c:Reg a N l)(hd:o.dst=some d)(j:o.op=.index t x y)(f:ev l x=some (.string s))(e:ev l y=some (.int ki p))
  (g:P.underlying t=some .string) (h:p=(i:Int)) (hi:i<s.size) (b:d<N) (k:∀a',Reg a' N ((d,.int .u8 ((s[i]).toNat:Int))::l)->Next a' w):X:=
 C6 hs c hd b (by
  subst h;unfold execOp;rw [j]
  simp [c.ev f,c.ev e,Instr.index,asIntOf,run_underlying g,hi]) k
end
end
section
open Go.RowKit
def CellsAt(w:zH)(p:Addr)(xs:zF): Prop:=∀j u,xs[j]?=some u->w.cell? (p.add j)=some u
def Ft(a:Addr)(n:Nat): (a.add n).block=a.block:=by unfold Addr.add;split<;>rfl
def EJ(a:Addr)(i j:Nat): (a.add i).add j=a.add (i+j):=by
 unfold Addr.add;by_cases hi:i=0<;>by_cases b:j=0<;>simp [hi,b,Nat.add_assoc]
def eP(A:zE)(j:Nat): zE:=A.map (·.add j)
def ElemAt(w:zH)(A:zE)(j:Nat)(vs:zF): Prop:=∃ad,A=some ad/\CellsAt w (ad.add j) vs
def RowI(w:zH)(I:zG)(a:Nat)(A:zE)(n:Nat)(xs:zF): Prop:=
 xs.length=n*a/\(0<n->∃ad,A=some ad/\I ad.block/\CellsAt w ad xs)
section
variable {I':zG} {n:Nat}
def CellsAt.keep{p:Addr}(h:CellsAt w p xs)(hk:w'.heap[p.block]?=w.heap[p.block]?): CellsAt w' p xs:=
 fun j u a=>(World.cell?_of_block (by rw [Ft];exact hk)).trans (h j u a)
def CellsAt.drop{p:Addr}(h:CellsAt w p xs)(k:Nat): CellsAt w (p.add k) (xs.drop k):=fun j u a=>by
 rw [EJ];exact h _ u (by rw [<-a,List.getElem?_drop])
def CellsAt.take{p:Addr}(h:CellsAt w p xs)(k:Nat): CellsAt w p (xs.take k):=fun j u a=>by
 refine h j u ?_;rw [List.getElem?_take] at a;split at a
 ·exact a
 ·cases a
def RowI.mono(h:RowI w I size A n xs)(hk:∀k,I k->I' k/\w'.heap[k]?=w.heap[k]?): RowI w' I' size A n xs:=
 ⟨h.1,fun hn=>by
  obtain ⟨ad,e,hb,hc⟩:=h.2 hn
  exact ⟨ad,e,(hk _ hb).1,hc.keep (hk _ hb).2⟩⟩
def RowI.nil(w:zH)(I:zG)(a:Nat)(A:zE): RowI w I a A 0 []:=⟨by simp,fun h=>absurd h zQ⟩
def RowI.some_(h:RowI w I size A n xs)(hn:0<n): A.isSome=true:=by
 obtain ⟨ad,rfl,_⟩:=h.2 hn;rfl
def RowI.elem(h:RowI w I size A n xs)(hk:k<n): ElemAt w A (k*size) ((xs.drop (k*size)).take size):=by
 obtain ⟨ad,rfl,hb,hc⟩:=h.2 zQ;exact ⟨ad,rfl,(hc.drop (k*size)).take size⟩
def RowI.from_(h:RowI w I size A n xs)(hk:k<=n)(hc:n<=cap): RowI w I size (if cap=k then A else A.map (·.add (k*size))) (n-k) (xs.drop (k*size)):=by
 refine ⟨by rw [BC,h.1,Nat.sub_mul],fun hn=>?_⟩;obtain ⟨ad,rfl,hb,a⟩:=h.2 zQ;rw [Ac zQ];exact ⟨ad.add (k*size),rfl,by rw [Ft];exact hb,a.drop _⟩
def RowI.take(h:RowI w I size A n xs)(hk:k<=n): RowI w I size A k (xs.take (k*size)):=by
 refine ⟨by rw [Ak,h.1];exact Nat.min_eq_left (Nat.mul_le_mul_right _ hk),fun hn=>?_⟩;obtain ⟨ad,rfl,hb,a⟩:=h.2 zQ;exact ⟨ad,rfl,hb,a.take _⟩
def Gc{e:Nat}{a:Nat}(h:w.ownsRow a e size (.slice A n cap) n xs)(hn:0<n):∃g,A=some ⟨g,0,none⟩:=by
 rcases h.2 with ⟨d,c⟩|⟨g,b,f,hv,d,c,k,j,i,h6⟩
 ·omega
 ·exact ⟨g,by injection hv⟩
def HN{e:Nat}{a:Nat}(h:w.ownsRow a e size (.slice A n cap) n xs)(hk:k<n): ElemAt w A (k*size) ((xs.drop (k*size)).take size):=by
 obtain ⟨g,rfl⟩:=Gc h zQ;have hc:CellsAt w ⟨g,0,none⟩ xs:=fun j u b=>h.cells (g:=g) rfl j u b;exact ⟨_,rfl,(hc.drop (k*size)).take size⟩
def RJ{e:Nat}{a:Nat}(h:w.ownsRow a e size (.slice A n cap) n xs): 0<n->∃ad,A=some ad/\CellsAt w ad xs:=fun hn=>by
 obtain ⟨g,rfl⟩:=Gc h hn;exact ⟨_,rfl,fun j u b=>h.cells (g:=g) rfl j u b⟩
def RI{e a:Nat}(h:w.ownsRow a e size (.slice A n cap) n xs)(hk:k<=n): w.ownsRow a e size (.slice A k cap) k (xs.take (k*size)):=by
 have hl:(xs.take (k*size)).length=k*size:=by
  rw [Ak,h.1];exact Nat.min_eq_left (Nat.mul_le_mul_right _ hk)
 refine ⟨hl,?_⟩;rcases h.2 with ⟨b,d⟩|⟨g,f,c,hv,b,d,l,j,i,h6⟩
 ·injection b with ha hb hc;subst ha;subst hc;exact .inl ⟨by rw [show k=0 by omega],by omega⟩
 ·injection hv with ha hb hc;subst ha;subst hc;refine .inr ⟨g,cap,c,rfl,b,d,by omega,j,i,?_⟩;rw [<-h6,IJ,Nat.min_eq_left (Nat.mul_le_mul_right _ hk)]
def N2{a e:Nat}(h:w.ownsRow a e size v n xs):∃A cap,v=.slice A n cap/\n<=cap/\w.ownsRow a e size (.slice A n cap) n xs:=by
 rcases h.2 with ⟨rfl,rfl⟩|⟨g,cap,c,rfl,j,i,b,f,d⟩
 ·exact ⟨none,0,rfl,Ag _,h⟩
 ·exact ⟨some ⟨g,0,none⟩,cap,rfl,b,h⟩
def ES{a e:Nat}(h:w.ownsRow a e size (.slice A n cap) n xs): n<=cap:=by
 obtain ⟨A',c',hv,b,_⟩:=N2 h;injection hv with _ _ hc;omega
end
def St.row_data{m:zO}{o:zP}(h:St w0 Z M w m o){n e:Nat}
  (hi:m[i]?=some (.row A n cap e size xs)) (q:∀k,¬M k):St w0 Z M w (m.eraseIdx i) o/\RowI w (imm Z w0 (m.eraseIdx i) w) size A n xs:=by
 have d:w.ownsRow 0 e size (.slice A n cap) n xs:=h.res hi;refine ⟨h.drop _ (List.eraseIdx_sublist m i),d.1,fun hn=>?_⟩;obtain ⟨g,rfl⟩:=Gc d hn;refine ⟨_,rfl,⟨(h.own _ (A0 hi) g rfl).1,fun hlt=>?_,fun r a e=>?_⟩,fun j u p=>d.cells (g:=g) rfl j u p⟩
 ·
  rcases (h.own _ (A0 hi) g rfl).2 with l|l
  ·have f:g<w0.heap.size:=hlt;omega
  ·exact absurd l (q g)
 obtain ⟨j,c⟩:=List.mem_iff_getElem?.1 a;rw [List.getElem?_eraseIdx] at c;by_cases b:j<i
 ·rw [Ae b] at c;exact Cv h.apart (by omega:j≠i) c hi e rfl
 ·rw [Ac b] at c;exact Cv h.apart (by omega:j+1≠i) c hi e rfl
def St.nilrow{m:zO}{c:zP}(h:St w0 Z M w m c)(e b:Nat): St w0 Z M w (m++[.row none 0 0 e b []]) c:=
 h.step rfl rfl rfl (Ag _) (fun _ _ _=>rfl)
  (fun r a=>by
   rcases Bi.1 a with a|a
   ·exact h.hold r a
   ·
    rw [A7] at a;subst a
    exact ⟨by simp,.inl ⟨rfl,rfl⟩⟩)
  (fun r a k e=>by
   rcases Bi.1 a with a|a
   ·exact ⟨(h.own r a k e).1,.inl ⟨r,a,e⟩⟩
   ·
    rw [A7] at a;subst a
    cases e)
  (by
   rw [List.pairwise_append];refine ⟨h.apart,by simp,fun r _ s hs k _ d=>?_⟩;rw [A7] at hs;subst hs
   cases d)
section
variable {Next:zC} {l:zD} {m:zO} {ds:zP}
def JA(w:zH)(e:zI)(v:Value): (newVar e v).run P w=.ok ⟨w.heap.size,0,none⟩ (w.alloc (.cells v.cells e)):=rfl
def Abc{z:Value}(hs:SteV P X Next o a w)(n:Reg a N l)(j:St w0 Z M w m ds)(hd:o.dst=some d)(h:o.op=.alloc e)(f:(P.info? e).map (·.zero)=some (some z))(hc:z.cells.toList=cs)(c:d<N)
  (k:∀a' w' g,Reg a' N ((d,.pointer (some ⟨g,0,none⟩))::l)->St w0 Z M w' (m++[.box g e cs]) ds->Next a' w'):X:=by
 cases hq:P.info? e with
 | none=>simp [hq] at f
 | some i=>
  have b:i.zero=some z:=by simpa [hq] using f
  refine hs.val (.pointer (some ⟨w.heap.size,0,none⟩)) (w.alloc (.cells z.cells e)) ?_ ?_
  ·unfold execOp;rw [h];simp [Instr.alloc,zeroValue,typeInfo,hq,b,JA]
  ·rw [hd];refine k _ _ _ (n.put c _) (j.alloc (.box w.heap.size e cs) _ ?_ rfl);subst hc;simpa [Res.holds] using heap_alloc_new w (.cells z.cells e)
def m_box(hs:SteV P X Next o a w)(c:Reg a N l)(i:St w0 Z M w m ds)(hd:o.dst=some d)(h:o.op=.box e x)(f:ev l x=some v)(hc:v.cells.toList=cs)(b:d<N)
  (k:∀a' w' g,Reg a' N ((d,.pointer (some ⟨g,0,none⟩))::l)->St w0 Z M w' (m++[.box g e cs]) ds->Next a' w'):X:=by
 refine hs.val (.pointer (some ⟨w.heap.size,0,none⟩)) (w.alloc (.cells v.cells e)) ?_ ?_
 ·unfold execOp;rw [h];simp [Instr.box,c.ev f,JA]
 ·rw [hd];refine k _ _ _ (c.put b _) (i.alloc (.box w.heap.size e cs) _ ?_ rfl);subst hc;simpa [Res.holds] using heap_alloc_new w (.cells v.cells e)
def L6{f:Nat}{fs:Array Field}{b:Field}{g:Nat}(hs:SteV P X Next o a w)(p:Reg a N l)(hd:o.dst=some d)(s:o.op=.fieldAddr t x f)(q:ev l x=some (.pointer (some ⟨g,j,none⟩)))
  (r:P.underlying t=some (.struct fs)) (hf:fs[f]?=some b) (e:(P.info? b.type).map (·.size)=some sz) (c:(sz == 0)=false) (hj:(j+b.offset == j')=true) (n:d<N)
  (k:∀a',Reg a' N ((d,.pointer (some ⟨g,j',none⟩))::l)->Next a' w):X:=by
 cases hq:P.info? b.type with
 | none=>simp [hq] at e
 | some i=>
  have hi:i.size=sz:=by simpa [hq] using e
  have h0:sz≠0:=by simpa using c
  have m:j+b.offset=j':=by simpa using hj
  subst m;refine C6 hs p hd n ?_ k;have h:(⟨g,j,none⟩:Addr).add b.offset=⟨g,j+b.offset,none⟩:=by unfold Addr.add;split<;>simp_all
  unfold execOp;rw [s];simp [Instr.fieldAt,p.ev q,Instr.sureAddr,run_underlying r,hf,fieldPlace,sizeOf,typeInfo,hq,hi,h0,h]
def CT{f:Nat}{fs:Array Field}{e:Field}(hs:SteV P X Next o a w)(h:Reg a N l)(hd:o.dst=some d)(p:o.op=.fieldAddr t x f)(m:ev l x=some (.pointer (eP A j)))(q:A.isSome=true)
  (n:P.underlying t=some (.struct fs)) (hf:fs[f]?=some e) (c:(P.info? e.type).map (·.size)=some sz) (b:(sz == 0)=false) (hj:j+e.offset=j') (g:d<N)
  (k:∀a',Reg a' N ((d,.pointer (eP A j'))::l)->Next a' w):X:=by
 obtain ⟨ad,rfl⟩:=Option.isSome_iff_exists.1 q;cases hq:P.info? e.type with
 | none=>simp [hq] at c
 | some i=>
  have hi:i.size=sz:=by simpa [hq] using c
  have h0:sz≠0:=by simpa using b
  subst hj;refine C6 hs h hd g ?_ k;unfold execOp;rw [p];simp [Instr.fieldAt,h.ev m,Instr.sureAddr,run_underlying n,hf,fieldPlace,sizeOf,typeInfo,hq,hi,h0,eP,EJ]
def F0:TypeDesc->Bool
 | .struct _|.array _ _=>true
 | _=>false
def Hv{a:TypeDesc}(h:P.underlying t=some a)(w:zH): (isAgg t).run P w=.ok (F0 a) w:=by
 unfold isAgg;rw [AB,run_underlying h w];cases a<;>rfl
def Hu{a:TypeDesc}{p:Addr}(b:P.underlying t=some a)(hd:F0 a=false)(hc:w.cell? p=some v): (loadVar t p).run P w=.ok v w:=by
 simp [loadVar,AB,Hv b,hd,load,Sem.run,hc]
def Ht{b:TypeDesc}{p:Addr}(c:P.underlying t=some b)(hd:F0 b=true)(a:(P.info? t).map (·.size)=some vs.length)(hc:CellsAt w p vs):
  (loadVar t p).run P w=.ok (.agg vs.toArray) w:=by
 cases hq:P.info? t with
 | none=>simp [hq] at a
 | some i=>
  have hi:i.size=vs.length:=by simpa [hq] using a
  have hl:(loadCells p vs.length).run P w=.ok vs.toArray w:=run_loadCells_list (P:=P) w p vs hc;simp [loadVar,AB,Hv c,hd,sizeOf,typeInfo,hq,hi,hl]
def FL{g:Nat}(h:(Res.box g e cs).holds w): CellsAt w ⟨g,0,none⟩ cs:=fun j u a=>by
 have:(⟨g,0,none⟩:Addr).add j=⟨g,j,none⟩:=by unfold Addr.add;split<;>simp_all
 rw [this,cell_of_row w g j cs.toArray e (0,0) h];simpa using a
def ME{g:Nat}{b:TypeDesc}(hs:SteV P X Next o a w)(h:Reg a N l)(r:St w0 Z M w m ds)(hd:o.dst=some d)(q:o.op=.load t x)(n:ev l x=some (.pointer (some ⟨g,j,none⟩)))
  (hi:m[i]?=some (.box g e cs)) (hv:cs[j]?=some v) (p:P.underlying t=some b) (f:F0 b=false) (c:d<N) (k:∀a',Reg a' N ((d,v)::l)->Next a' w):X:=by
 refine C6 hs h hd c ?_ k;have hc:w.cell? ⟨g,j,none⟩=some v:=by
  have hb:w.heap[g]?=some (.cells cs.toArray e (0,0)):=r.res hi;rw [cell_of_row w g j cs.toArray e (0,0) hb];simpa using hv
 unfold execOp;rw [q];simp only [h.ev n,Instr.loadAt,Instr.sureAddr,AB,Ba,Ay,Hu p f hc]
def Aba{g:Nat}{b:TypeDesc}(hs:SteV P X Next o a w)(n:Reg a N l)(u:St w0 Z M w m ds)(hd:o.dst=some d)(s:o.op=.load t x)(q:ev l x=some (.pointer (some ⟨g,j,none⟩)))
  (hi:m[i]?=some (.box g e cs)) (hv:(cs.drop j).take vs.length=vs) (r:P.underlying t=some b) (h:F0 b=true) (c:(P.info? t).map (·.size)=some vs.length) (f:d<N) (k:∀a',Reg a' N ((d,.agg vs.toArray)::l)->Next a' w):X:=by
 refine C6 hs n hd f ?_ k;have hc:CellsAt w ⟨g,j,none⟩ vs:=by
  have p:=((FL (u.res hi)).drop j).take vs.length;rw [hv] at p;have:(⟨g,0,none⟩:Addr).add j=⟨g,j,none⟩:=by unfold Addr.add;split<;>simp_all
  rwa [this] at p
 unfold execOp;rw [s];simp only [n.ev q,Instr.loadAt,Instr.sureAddr,AB,Ba,Ay,Ht r h c hc]
def I2{b:TypeDesc}(hs:SteV P X Next o a w)(g:Reg a N l)(hd:o.dst=some d)(p:o.op=.load t x)(m:ev l x=some (.pointer (eP A j)))
  (i:Nat) (f:Nat) (q:ElemAt w A f vs) (hj:j=f+i) (hv:vs[i]?=some v) (n:P.underlying t=some b) (e:F0 b=false) (c:d<N) (k:∀a',Reg a' N ((d,v)::l)->Next a' w):X:=by
 obtain ⟨ad,rfl,hc⟩:=q;subst hj;refine C6 hs g hd c ?_ k;have h:=hc i v hv;rw [EJ] at h;unfold execOp;rw [p];simp only [g.ev m,eP,C2,Instr.loadAt,Instr.sureAddr,AB,Ba,Ay,Hu n e h]
def Bo{b:TypeDesc}(hs:SteV P X Next o a w)(g:Reg a N l)(hd:o.dst=some d)(m:o.op=.load t x)(h:ev l x=some (.pointer (eP A j)))
  (n:ElemAt w A j vs) (i:P.underlying t=some b) (f:F0 b=true) (c:(P.info? t).map (·.size)=some vs.length) (e:d<N) (k:∀a',Reg a' N ((d,.agg vs.toArray)::l)->Next a' w):X:=by
 obtain ⟨ad,rfl,hc⟩:=n;refine C6 hs g hd e ?_ k;unfold execOp;rw [m];simp only [g.ev h,eP,C2,Instr.loadAt,Instr.sureAddr,AB,Ba,Ay,Ht i f c hc]
def Vw{g:Nat}(hs:Ste P X Next o a w)(A:Reg a N l)(z:St w0 Z M w m ds)(hd:o.dst=none)(E:o.op=.store t x y)(D:ev l x=some (.pointer (some ⟨g,j,none⟩)))(C:ev l y=some v)
  (hi:m[i]?=some (.box g e cs)) (c:(P.info? t).map (·.size)=some v.cells.toList.length) (f:v.cells.toList.all Value.oneCell'=true) (p:decide (j+v.cells.toList.length<=cs.length)=true) (u:cs.take j++v.cells.toList++cs.drop (j+v.cells.toList.length)=cs')
  (k:∀a' w',Reg a' N l->St w0 Z M w' (m.set i (.box g e cs')) ds->Next a' w'):X:=by
 have hb:w.heap[g]?=some (.cells cs.toArray e (0,0)):=z.res hi;have b:j+v.cells.toList.length<=cs.length:=by simpa using p
 cases hq:P.info? t with
 | none=>simp [hq] at c
 | some inf=>
  have s:inf.size=v.cells.toList.length:=by simpa [hq] using c
  have d:(storeVar t ⟨g,j,none⟩ v).run P w=.ok () (w.setRow g cs'.toArray):=by
   have B:=run_storeCells_at P g j e v.cells.toList 0 cs.toArray w hb (by simpa using b) (List.all_eq_true.1 f);simp only [Nat.add_zero] at B;rw [u] at B;have n:v.cells.size=inf.size:=by simpa using s.symm
   simp [storeVar,AB,sizeOf,typeInfo,hq,n,B]
  refine hs.skip (w.setRow g cs'.toArray) ?_ ?_
  ·unfold execOp;rw [E];simp only [A.ev D,A.ev C,Instr.storeAt,Instr.sureAddr,AB,Ba,Ay,d]
  ·
   rw [hd];refine k _ _ (A.put_none _) ?_;refine z.turn hi rfl rfl rfl yB (fun q h r=>setRow_other w g q _ (fun F=>r (by rw [F];rfl))) (setRow_heap w g _ _ e (0,0) hb) (fun q h=>?_);have:g=q:=by simpa [Res.blk] using h
   subst this;exact ⟨by simpa using (z.own _ (A0 hi) g rfl).1,.inl rfl⟩
def CG{n c:Nat}{p:Int}(hs:SteV P X Next o a w)(h:Reg a N l)(hd:o.dst=some d)(u:o.op=.indexAddr t x y)(q:ev l x=some (.slice A n c))(m:ev l y=some (.int ki p))
  (r:P.underlying t=some (.slice e)) (b:(P.info? e).map (·.size)=some size) (s:p=(i:Int)) (hi:i<n) (v:A.isSome=true) (hj:i*size=j) (g:d<N)
  (k:∀a',Reg a' N ((d,.pointer (eP A j))::l)->Next a' w):X:=by
 obtain ⟨ad,rfl⟩:=Option.isSome_iff_exists.1 v;subst hj;subst s;cases hq:P.info? e with
 | none=>simp [hq] at b
 | some inf=>
  have f:inf.size=size:=by simpa [hq] using b
  refine C6 hs h hd g ?_ k;unfold execOp;rw [u];simp [h.ev q,h.ev m,Instr.indexAt,asIntOf,run_underlying r,hi,sizeOf,typeInfo,hq,f,eP]
def NK{g n:Nat}{p:Int}(hs:SteV P X Next o a w)(h:Reg a N l)(hd:o.dst=some d)(u:o.op=.indexAddr t x y)(q:ev l x=some (.pointer (some ⟨g,0,none⟩)))(m:ev l y=some (.int ki p))
  (r:P.underlying t=some (.array n e)) (b:(P.info? e).map (·.size)=some size) (s:p=(i:Int)) (hi:i<n) (hj:i*size=j) (f:d<N)
  (k:∀a',Reg a' N ((d,.pointer (eP (some ⟨g,0,none⟩) j))::l)->Next a' w):X:=by
 subst hj;subst s;cases hq:P.info? e with
 | none=>simp [hq] at b
 | some inf=>
  have c:inf.size=size:=by simpa [hq] using b
  refine C6 hs h hd f ?_ k;unfold execOp;rw [u];simp [h.ev q,h.ev m,Instr.indexAt,Instr.sureAddr,asIntOf,run_underlying r,hi,sizeOf,typeInfo,hq,c,eP]
def Ld{n m:Nat}(lo hi:Option Value)(d:P.underlying t=some (.slice e))(hs:(P.info? e).map (·.size)=some size)(hk:k<=m)(hm:m<=cap)
  (b:lo=some (.int kd (k:Int))\/lo=none/\k=0) (c:hi=some (.int kd' (m:Int))\/hi=none/\m=n):
  (Instr.sliceAt t (.slice A n cap) lo hi none).run P w=.ok (.slice (if cap=k then A else A.map (·.add (k*size))) (m-k) (cap-k)) w:=by
 cases hq:P.info? e with
 | none=>simp [hq] at hs
 | some i=>
  have a:i.size=size:=by simpa [hq] using hs
  rcases b with rfl|⟨rfl,rfl⟩<;>rcases c with rfl|⟨rfl,rfl⟩<;>
   simp [Instr.sliceAt,Instr.slice,Instr.sliceBounds,Instr.sliceBound,asIntOf,run_underlying d,sizeOf,typeInfo,hq,a,hk,hm]
def AaZ{n:Nat}(hs:SteV P X Next o a w)(h:Reg a N l)(hd:o.dst=some d)
  (B:o.op=.slice t x lo hi none) (v:ev l x=some (.slice A n cap)) (c:lo.map (ev l)=vlo.map some) (f:hi.map (ev l)=vhi.map some) (k q:Nat)
  (j:vlo=some (.int kd (k:Int))\/vlo=none/\k=0) (p:vhi=some (.int kd' ((k+q:Nat):Int))\/vhi=none/\k+q=n)
  (g:RowI w I size A n xs) (y:P.underlying t=some (.slice e)) (i:(P.info? e).map (·.size)=some size) (hm:k+q<=n) (hc:n<=cap) (r:d<N)
  (u:∀a' A' c',q<=c'->RowI w I size A' q ((xs.drop (k*size)).take (q*size))->Reg a' N ((d,.slice A' q c')::l)->Next a' w):X:=by
 have z:=(g.from_ (k:=k) zQ hc).take (k:=q) zQ;have hl:lo.map a.eval=vlo:=by
  cases lo<;>cases vlo<;>simp_all;exact h.ev c
 have C:hi.map a.eval=vhi:=by
  cases hi<;>cases vhi<;>simp_all;exact h.ev f
 have b:=Ld (P:=P) (w:=w) (A:=A) (n:=n) (cap:=cap) (k:=k) (m:=k+q) (kd:=kd) (kd':=kd') vlo vhi y i zQ zQ j p;rw [show k+q-k=q by omega] at b;refine C6 hs h hd r ?_ (fun a' s=>u a' _ (cap-k) zQ z s);unfold execOp;rw [B];simp only [h.ev v,hl,C,Option.map_none,AB,b,Ay,Ba]
end
end
section
open Go.RowKit
variable {ps:List (Nat×Operand)}{vs:zD}
section
variable {Next:zC} {l:zD} {m:zO} {ds:zP}
def evp(l:zD): List (Nat×Operand)->Option zD
 | []=>some []
 | (i,x)::xs=>match ev l x,evp l xs with
  | some v,some vs=>some ((i,v)::vs)
  | _,_=>none
def Reg.evp(h:Reg a N l):∀{ps:List (Nat×Operand)} {vs:zD},evp l ps=some vs->ps.map (fun (i,x)=>(i,a.eval x))=vs
 | [],vs,hx=>by simpa [YtgddkjdhnolahaaGreatDoor.evp] using hx
 | (i,x)::xs,vs,hx=>by
  simp only [YtgddkjdhnolahaaGreatDoor.evp] at hx;cases h1:YtgddkjdhnolahaaGreatDoor.ev l x with
  | none=>simp [h1] at hx
  | some v=>
   cases h2:YtgddkjdhnolahaaGreatDoor.evp l xs with
   | none=>simp [h1,h2] at hx
   | some us=>
    simp only [h1,h2] at hx;obtain rfl:=Bc hx;rw [AA,h.evp h2];simp only [h.ev h1]
def Abb(hs:SteV P X Next o a w)(e:Reg a N l)(hd:o.dst=some d)(g:o.op=.build t ps.toArray)(f:evp l ps=some vs)
  (b:∀w,(Instr.build t vs.toArray).run P w=.ok v w) (c:d<N) (k:∀a',Reg a' N ((d,v)::l)->Next a' w):X:=by
 refine C6 hs e hd c ?_ k;have hm:ps.toArray.map (fun (i,x)=>(i,a.eval x))=vs.toArray:=by
  rw [<-e.evp f];simp
 unfold execOp;rw [g];simp only [hm,AB,b,Ay,Ba]
def BZ{f:Nat}{u:Value}(hs:SteV P X Next o a w)(e:Reg a N l)(hd:o.dst=some d)(h:o.op=.field t x f)(g:ev l x=some u)
  (b:∀w,(Instr.field t u f).run P w=.ok v w) (c:d<N) (k:∀a',Reg a' N ((d,v)::l)->Next a' w):X:=by
 refine C6 hs e hd c ?_ k;unfold execOp;rw [h];simp only [e.ev g,AB,b,Ay,Ba]
def Iu(w:zH)(e a n:Nat)(cs:zF)(hl:cs.length=n*a)(hn:n<=maxLen): (w.alloc (.cells cs.toArray e)).ownsRow 0 e a (.slice (some ⟨w.heap.size,0,none⟩) n n) n cs:=
 ⟨hl,.inr ⟨w.heap.size,n,cs.toArray,rfl,Nat.zero_le _,heap_alloc_new w _,Ag _,hn,by simpa using hl,by simp [<-hl]⟩⟩
def Pj{n:Nat}{z:Value}(hs:SteV P X Next o a w)(q:Reg a N l)(B:St w0 Z M w m ds)(hd:o.dst=some d)(v:o.op=.buildSlice t n ps.toArray)(s:evp l ps=some vs)
  (u:P.underlying t=some (.slice e)) (hi:(P.info? e).map (fun i=>(i.zero,i.size,i.bytes))=some (some z,size,bytes)) (hn:decide (n*size<=1000000)=true) (c:decide (n<=1000000)=true)
  (hf:Instr.fill (fun i=>some (i*size,size)) ((Array.range (n*size)).map fun i=>(if n*size=0 then #[] else z.cells)[i%(if n*size=0 then (#[]:Array Value) else z.cells).size]!) vs=some cs.toArray) (hl:(cs.length == n*size)=true) (h:d<N)
  (k:∀a' w' g,Reg a' N ((d,.slice (some ⟨g,0,none⟩) n n)::l)->St w0 Z M w' (m++[.row (some ⟨g,0,none⟩) n n e size cs]) ds->Next a' w'):X:=by
 have y:n*size<=1000000:=by simpa using hn
 have p:n<=1000000:=by simpa using c
 have f:cs.length=n*size:=by simpa using hl
 cases hq:P.info? e with
 | none=>simp [hq] at hi
 | some inf=>
  simp only [hq,C2,Cm,Ed] at hi;obtain ⟨r,b,A⟩:=hi;have hm:ps.toArray.map (fun (i,x)=>(i,a.eval x))=vs.toArray:=by
   rw [<-q.evp s];simp
  refine hs.val (.slice (some ⟨w.heap.size,0,none⟩) n n) (w.alloc (.cells cs.toArray e)) ?_ ?_
  ·
   unfold execOp;rw [v];have j:¬n*size>2 ^ 24:=by omega
   simp only [hm,Instr.buildSlice,AB,run_underlying u,Ay,sizeOf,typeInfo,hq,b,Ba,program,Sem.run,j,↓reduceIte];by_cases h0:n*size=0
   ·simp only [h0,↓reduceIte] at hf ⊢;simp only [AB,Ba,Ay,hf];rfl
   ·simp only [h0,↓reduceIte] at hf ⊢;simp [zeroValue,typeInfo,hq,r,hf,newRow,newObj];rfl
  ·rw [hd];exact k _ _ _ (q.put h _) (B.alloc (.row (some ⟨w.heap.size,0,none⟩) n n e size cs) _ (Iu w e size n cs f (by unfold maxLen;omega)) rfl)
def L5{n:Nat}{p:Int}{z:Value}(hs:SteV P X Next o a w)(B:Reg a N l)(Q:St w0 Z M w m ds)(hd:o.dst=some d)(L:o.op=.makeSlice t x y)(I:ev l x=some (.int kx p))(H:ev l y=some (.int ky q))
  (K:p=(n:Int)) (s:q=(n:Int)) (J:P.underlying t=some (.slice e)) (hi:(P.info? e).map (fun i=>(i.zero,i.size,i.bytes))=some (some z,size,bytes)) (F:z.cells.size=size) (c:(size == 1)=true) (v:decide (bytes<=1000)=true) (hn:n<=1000000) (u:d<N)
  (k:∀a' w' g,Reg a' N ((d,.slice (some ⟨g,0,none⟩) n n)::l)->St w0 Z M w' (m++[.row (some ⟨g,0,none⟩) n n e size (List.replicate n (z.cells.getD 0 undef))]) ds->Next a' w'):X:=by
 subst K;subst s;have E:bytes<=1000:=by simpa using v
 have f:size=1:=by simpa using c
 cases hq:P.info? e with
 | none=>simp [hq] at hi
 | some inf=>
  simp only [hq,C2,Cm,Ed] at hi;obtain ⟨G,r,O⟩:=hi;have A:(inf.bytes:Int)*(n:Int)<=281474976710656:=by
   have C:inf.bytes*n<=1000*1000000:=Nat.mul_le_mul zQ hn;have h:((inf.bytes*n:Nat):Int)<=281474976710656:=by omega
   rwa [Int.natCast_mul] at h
  have D:=run_make (P:=P) w t e inf z J hq G kx ky n n zQ zQ A zQ;simp only [Int.toNat_natCast] at D;refine hs.val (.slice (some ⟨w.heap.size,0,none⟩) n n) (w.alloc (.cells (madeCells z.cells (n*inf.size)) e)) ?_ ?_
  ·unfold execOp;rw [L];simp only [B.ev I,B.ev H,AB,D,Ay,Ba]
  ·
   rw [hd];have b:madeCells z.cells (n*inf.size)=(List.replicate n (z.cells.getD 0 undef)).toArray:=by
    have j:z.cells=#[z.cells.getD 0 undef]:=by
     have C:z.cells.size=1:=by omega
     apply Array.ext
     ·simpa using C
     ·
      intro i S R;have:i=0:=by omega
      subst this;simp [Array.getD,C]
    rw [r,f,Nat.mul_one];conv=>lhs;rw [j]
    apply Array.toList_inj.1;rw [toList_madeCells_one]
   rw [b];refine k _ _ _ (B.put u _) (Q.alloc (.row (some ⟨w.heap.size,0,none⟩) n n e size _) _ (Iu w e size n _ (by simp [f]) (by unfold maxLen;omega)) rfl)
def Le(d:Nat)(t ty e:zI)(i:TypeInfo)(z:Value)(a b:Nat)(s:P.underlying t=some (.slice e))(hi:P.info? e=some i)(D:i.zero=some z)
  (j:i.size=a) (p:i.bytes=b) (m:z.cells.size=a) (o:0<a)
  (v:Value) (n:Nat) (xs:zF) (f:w.ownsRow d e a v n xs)
  (A:zE) (q c:Nat) (news:zF) (hl:news.length=q*a) (hr:0<q->∃ad,A=some ad/\CellsAt w ad news) (E:∀u∈news,u.oneCell'=true)
  (r:n+q<=maxLen) (h:(n+q)*b<=140737488355328) (l:d<=w.heap.size):
  ∃v' w',(Builtin.append_ #[t,t] ty #[v,.slice A q c]).run P w=.ok v' w'/\w'.ownsRow d e a v' (n+q) (xs++news)/\w.grownBy w' v.ownBlock/\
   (v'.ownBlock=v.ownBlock\/v'.ownBlock=some w.heap.size):=by
 by_cases hq:q=0
 ·
  subst hq;have hn:news=[]:=Bw (by simpa using hl);subst hn;rcases A with _|ad
  ·
   refine ⟨v,w,?_,by simpa using f,World.grownBy.refl w _,.inl rfl⟩;rcases f.2 with ⟨rfl,rfl⟩|⟨g,cap,F,rfl,_,_,x,_⟩
   ·simp [Builtin.append_,run_underlying s,sizeOf,typeInfo,hi,Builtin.lenOf,Builtin.firstCells]
   ·simp [Builtin.append_,run_underlying s,sizeOf,typeInfo,hi,Builtin.lenOf,Builtin.firstCells,x,storeCells]
  ·obtain ⟨v',w',k,C,B,_,y⟩:=run_append_own_at (P:=P) w d t ty e i z a b s hi D j p m o v n xs f ad 0 c [] hl yB E r h l;exact ⟨v',w',k,C,B,y⟩
 ·obtain ⟨ad,rfl,hc⟩:=hr zQ;obtain ⟨v',w',k,C,B,_,y⟩:=run_append_own_at (P:=P) w d t ty e i z a b s hi D j p m o v n xs f ad q c news hl hc E r h l;exact ⟨v',w',k,C,B,y⟩
def Sc{A2:zE}{n E q:Nat}{news:zF}{z:Value}(hs:SteV P X Next o a w)(Q:Reg a N l)(T:St w0 Z M w m ds)(hd:o.dst=some d)
  (ho:o.op=.call { callee:=.builtin .append,args:=#[x,y],argTypes:=#[t,t] }) (hx:ev l x=some (.slice A n cap)) (Y:ev l y=some (.slice A2 q c2)) (hi:m[i]?=some (.row A E cap e size xs)) (hn:n<=E)
  (ht:P.underlying t=some (.slice e)) (f:(P.info? e).map (fun i=>(i.zero,i.size,i.bytes))=some (some z,size,bytes)) (G:(z.cells.size == size)=true) (H:(size == 0)=false)
  (hl:news.length=q*size) (hr:0<q->∃ad,A2=some ad/\CellsAt w ad news) (h1:∀u∈news,u.oneCell'=true) (L:decide (bytes<=1000)=true) (hb:n+q<=100000000) (K:d<N)
  (k:∀a' w' A' c,n+q<=c->Reg a' N ((d,.slice A' (n+q) c)::l)->St w0 Z M w' (m.set i (.row A' (n+q) c e size (xs.take (n*size)++news))) ds->Next a' w'):X:=by
 have r:z.cells.size=size:=by simpa using G
 have S:size≠0:=by simpa using H
 have C:bytes<=1000:=by simpa using L
 cases hq:P.info? e with
 | none=>simp [hq] at f
 | some inf=>
  simp only [hq,C2,Cm,Ed] at f;obtain ⟨W,I,O⟩:=f;have j:w.ownsRow 0 e size (.slice A E cap) E xs:=T.res hi;have v:=RI j hn;have h:(n+q)*bytes<=140737488355328:=by
   have:(n+q)*bytes<=100000000*1000:=Nat.mul_le_mul hb C;omega
  obtain ⟨v',w',s,U,D,p⟩:=Le (P:=P) (w:=w) 0 t o.type e inf z size bytes ht hq W I O r zQ (.slice A n cap) n (xs.take (n*size)) v A2 q c2 news hl hr h1 (by unfold maxLen;omega) h (Nat.zero_le _);obtain ⟨A',c,rfl,B,R⟩:=N2 U;refine hs.val (.slice A' (n+q) c) w' ?_ ?_
  ·unfold execOp;rw [ho];simp only [resolve,invoke,builtin,AB,Ba,Ay,List.map_toArray,AA,AP,Q.ev hx,Q.ev Y,s]
  ·
   rw [hd];refine k _ _ _ _ B (Q.put K _) (T.turn hi D.os D.tape D.output D.size (fun F g J=>D.block F g ?_) R (fun F g=>?_))
   ·
    intro V;refine J ?_;cases A with
    | none=>cases V
    | some ad=>rw [V];rfl
   ·
    have b:(Value.slice A' (n+q) c).ownBlock=some F:=by
     cases A' with
     | none=>cases g
     | some ad=>exact g
    refine ⟨(U.lt F b).2,?_⟩;rcases p with p|p
    ·
     left;rw [p] at b;cases A with
     | none=>cases b
     | some ad=>exact b
    ·right;rw [b] at p;have:=Bc p;omega
end
section
variable {l:zD}
def Cb{b:Nat}(h:wpList P ls.toArray Q ls a w): (Code.region b ls.toArray false).wp P Q a w:=wp_region_lit h
end
end
section
structure Nd where
 K:Int
 N:Int
 M:Int
 S:ByteArray
 deriving DecidableEq
abbrev zL:=List (List Nd)
abbrev zM:=List Nd
def letter(c:UInt8): Bool:=(97<=c&&c<=122)||(65<=c&&c<=90)||c == 95
def Yo(c:UInt8): Bool:=48<=c&&c<=57
def EG(s:ByteArray): Bool:=
 match s.data.toList with
 | []=>false
 | c::r=>decide (s.size<=16)&&letter c&&r.all fun c=>letter c||Yo c
structure Shp where
 b:zK
 n:Bool
 m:Bool
 s:Bool
 deriving DecidableEq
def shp:Nat->Shp
 | 0=>⟨[],true,false,false⟩
 | 1=>⟨[],false,false,true⟩
 | 2=>⟨[],true,false,false⟩
 | 3=>⟨[0,1],true,false,false⟩
 | 4=>⟨[0,1],false,false,false⟩
 | 5=>⟨[0,0],false,false,false⟩
 | 6=>⟨[0,1],true,false,false⟩
 | 7=>⟨[0,0,0],false,false,false⟩
 | 8=>⟨[0],false,false,false⟩
 | 9=>⟨[0],false,false,false⟩
 | 10=>⟨[],false,false,false⟩
 | 11=>⟨[],false,false,false⟩
 | 12=>⟨[0],false,false,false⟩
 | 13=>⟨[1,0,2,0],false,false,false⟩
 | 14=>⟨[],false,false,false⟩
 | 15=>⟨[0,0],false,false,false⟩
 | 16=>⟨[],false,false,false⟩
 | 17=>⟨[],false,false,false⟩
 | 18=>⟨[0,0,0],false,false,false⟩
 | 19=>⟨[0,0],false,false,false⟩
 | 20=>⟨[0,0,0,0],false,false,false⟩
 | 21=>⟨[0,0,1,0,0,0],false,false,false⟩
 | 22=>⟨[0,2,0,0,0],false,false,false⟩
 | 23=>⟨[0,0],false,false,false⟩
 | 24=>⟨[0,1,0,0],false,false,false⟩
 | 25=>⟨[],false,false,true⟩
 | 26=>⟨[],true,true,true⟩
 | 27=>⟨[],false,true,true⟩
 | 28=>⟨[0],false,false,false⟩
 | _=>⟨[],false,false,false⟩
def most(k:Int): Int:=if k=0 then 99 else if k=3\/k=6 then 3 else 5
def right(n:Nd): Bool:=
  decide (0<=n.K)&&decide (n.K<30)&&
  (let x:=shp n.K.toNat
   (if x.n then decide (0<=n.N)&&decide (n.N<=if n.K=2 then 9 else most n.K) else n.N == 0)&&
   (if x.m then decide (0<=n.M)&&decide (n.M<=6) else n.M == 0)&&
   (if x.s then EG n.S else n.S.size == 0))
def binds(n:Nd): zK:=
 if n.K=26 then List.replicate n.M.toNat 0
 else if n.K=27 then 1::List.replicate (n.M.toNat+1) 0
 else (shp n.K.toNat).b
def many(n:Nd): Nat:=(binds n).length
inductive T where
 | mk (n:Nd) (l:List T)
def T.root:T->Nd
 | .mk n _=>n
def T.args:T->List T
 | .mk _ l=>l
mutual
def T.flat:T->zM
 | .mk n l=>Az l++[n]
def Az:List T->zM
 | []=>[]
 | t::l=>t.flat++Az l
end
mutual
def T.wf:T->Bool
 | .mk n l=>right n&&many n == l.length&&T.wfs l
def T.wfs:List T->Bool
 | []=>true
 | t::l=>t.wf&&T.wfs l
end
mutual
def T.deep:T->Nat
 | .mk _ l=>Cg l+1
def Cg:List T->Nat
 | []=>0
 | t::l=>max t.deep (Cg l)
end
def Bf(n:Nd)(l:List T): (T.mk n l).flat=Az l++[n]:=by simp [T.flat]
def AZ:Az []=[]:=by simp [Az]
def Bg(t:T)(l:List T): Az (t::l)=t.flat++Az l:=by simp [Az]
def BN(a b:List T): Az (a++b)=Az a++Az b:=by
 induction a with
 | nil=>simp [Az]
 | cons t a ih=>simp [Az,ih]
def D5(t:T): Az [t]=t.flat:=by simp [Az]
def Gm(a b:List T): T.wfs (a++b)=(T.wfs a&&T.wfs b):=by
 induction a with
 | nil=>simp [T.wfs]
 | cons t a ih=>simp [T.wfs,ih,Bool.and_assoc]
def Gx(n:Nd)(l:List T): (T.mk n l).wf=(right n&&many n == l.length&&T.wfs l):=by simp [T.wf]
def WZ(t:T): t.flat≠[]:=by cases t;simp [T.flat]
def EK(t:T): 0<t.flat.length:=by cases t;simp [T.flat]
def FM(l:List T): T.wfs l=true↔∀t∈l,t.wf=true:=by
 induction l with
 | nil=>simp [T.wfs]
 | cons t l ih=>simp [T.wfs,ih]
def Fp(st:List T)(n:Nd): Option (List T):=
 if right n&&decide (many n<=st.length) then
  some (st.take (st.length-many n)++[T.mk n (st.drop (st.length-many n))])
 else none
def De(st:List T): zM->Option (List T)
 | []=>some st
 | n::t=>match Fp st n with
  | some st'=>De st' t
  | none=>none
def Em(st:List T)(a b:zM): De st (a++b)=(De st a).bind fun s=>De s b:=by
 induction a generalizing st with
 | nil=>simp [De]
 | cons n a ih=>
  simp only [List.cons_append,De];cases Fp st n with
  | none=>simp
  | some s=>simp [ih]
def SX{st c:List T}{n:Nd}(h:Fp st n=some c)(d:T.wfs st=true): Az c=Az st++[n]/\T.wfs c=true:=by
 unfold Fp at h;split at h
 ·
  rename_i hc;simp only [A5,A9] at hc;obtain rfl:=Bc h;have b:st=st.take (st.length-many n)++st.drop (st.length-many n):=(List.take_append_drop _ _).symm;have a:=d;rw [b,Gm] at a;simp only [A5] at a;constructor
  ·rw [BN,D5,Bf,<-AW,<-BN,List.take_append_drop]
  ·rw [Gm];simp only [T.wfs,Gx,Bool.and_true,A5,beq_iff_eq];exact ⟨a.1,⟨hc.1,by rw [BC];omega⟩,a.2⟩
 ·cases h
def G4{st a:List T}{t:zM}(h:De st t=some a)(b:T.wfs st=true): Az a=Az st++t/\T.wfs a=true:=by
 induction t generalizing st with
 | nil=>simp only [De] at h;obtain rfl:=Bc h;simp [b]
 | cons n t ih=>
  simp only [De] at h;cases hp:Fp st n with
  | none=>simp [hp] at h
  | some s=>
   simp only [hp] at h;obtain ⟨f,e⟩:=SX hp b;obtain ⟨d,c⟩:=ih h e;exact ⟨by rw [d,f];simp,c⟩
def XC(st l:List T)(n:Nd)(h:(T.mk n l).wf=true): Fp (st++l) n=some (st++[T.mk n l]):=by
 rw [Gx] at h;simp only [A5,beq_iff_eq] at h;unfold Fp;have hl:(st++l).length-many n=st.length:=by rw [Ab];omega
 rw [Ae (by simp only [A5,A9];exact ⟨h.1.1,by rw [Ab];omega⟩),hl];simp
mutual
def HJ(st:List T):∀t:T,t.wf=true->De st t.flat=some (st++[t])
 | .mk n l,h=>by
  have a:=h;rw [Gx] at a;simp only [A5] at a;rw [Bf,Em,GP st l a.2];simp only [Option.bind_some,De,XC st l n h]
def GP(st:List T):∀l:List T,T.wfs l=true->De st (Az l)=some (st++l)
 | [],_=>by simp [Az,De]
 | t::l,h=>by
  simp only [T.wfs,A5] at h;rw [Bg,Em,HJ st t h.1];simp only [Option.bind_some];rw [GP (st++[t]) l h.2];simp
end
def chk(t:zM): Int:=
 if t.length>4000 then 21 else
 match De [] t with
 | some [x]=>if x.deep>60 then 22 else 0
 | _=>20
def Yu{x:T}(h:x.wf=true): chk x.flat=if x.flat.length>4000 then 21 else if x.deep>60 then 22 else 0:=by
 unfold chk;rw [HJ [] x h];rfl
def PD{t:zM}: chk t=0↔∃x:T,x.wf=true/\x.flat=t/\t.length<=4000/\x.deep<=60:=by
 constructor
 ·
  intro h;unfold chk at h;split at h
  ·cases h
  ·
   rename_i hl;split at h
   ·
    rename_i x hs;split at h
    ·cases h
    ·rename_i hd;have:=G4 hs (by simp [T.wfs]);simp [Az,T.wfs] at this;exact ⟨x,this.2,this.1,by omega,by omega⟩
   ·cases h
 ·rintro ⟨x,a,rfl,hl,hd⟩;rw [Yu a];rw [Ac zQ,Ac zQ]
def Gg(l:List T): l.length<=(Az l).length:=by
 induction l with
 | nil=>simp
 | cons t l ih=>rw [Bg,Ab,Af];have:=EK t;omega
def Qw{n:Nd}(h:right n=true): 0<=n.K/\n.K<30:=by
 unfold right at h;simp only [A5,A9] at h;exact h.1
def Lh{n:Nd}(h:right n=true)(hk:n.K=26): 0<=n.N/\n.N<=5/\0<=n.M/\n.M<=6:=by
 unfold right at h;rw [hk] at h;simp [shp,most] at h;omega
def HK{n:Nd}(h:right n=true)(hk:n.K=27): 0<=n.M/\n.M<=6:=by
 unfold right at h;rw [hk] at h;simp [shp] at h;omega
def RY{n:Nd}(h:right n=true)(hk:n.K=26): n.M=((many n:Nat):Int):=by
 have:=Lh h hk;simp [many,binds,hk];omega
def L3{n:Nd}(h:right n=true)(hk:n.K=27): n.M+2=((many n:Nat):Int):=by
 have:=HK h hk;simp [many,binds,hk];omega
def NH{n:Nd}(c:¬n.K=26)(a:¬n.K=27): (((shp n.K.toNat).b.length:Nat):Int)=((many n:Nat):Int):=by
 simp [many,binds,c,a]
def YP(k:Nat): (shp k).b.length<=6:=by
 unfold shp;split<;>simp
def Eo{n:Nd}(h:right n=true): many n<=8:=by
 by_cases b:n.K=26
 ·have:=RY h b;have:=Lh h b;omega
 ·
  by_cases a:n.K=27
  ·have:=L3 h a;have:=HK h a;omega
  ·have:=NH b a;have:=YP n.K.toNat;omega
end
section
open Go.RowKit
variable {cs:Array Value}{ds:zP}{m:zO}{t:List (Int×Int)}{xs:List zJ}
def B6(a:Nat)(A:zE)(n cap:Nat)(xs:zF): Dat:=
 ⟨fun w I=>n<=cap/\RowI w I a A n xs,fun _ _ _ _ _ h hk=>⟨h.1,h.2.mono hk⟩⟩
def ndz:Nd:=⟨0,0,0,.empty⟩
def nth(t:zM)(k:Nat): Nd:=t.getD k ndz
def Ei(n:Nd): zF:=[.int .i64 n.K,.int .i64 n.N,.int .i64 n.M,.string n.S]
def B2(l:zM): zF:=l.flatMap Ei
def FX(n:Int): zF:=[.int .i64 n]
def Ci(l:zK): zF:=l.flatMap FX
def C7(t:zK)(k:Nat): Int:=t.getD k 0
def Wl(p:Int×Int): zF:=[.int .i64 p.1,.int .i64 p.2]
def Fe(l:List (Int×Int)): zF:=l.flatMap Wl
def J6(t:List (Int×Int))(k:Nat): Int×Int:=t.getD k (0,0)
section
variable {f:α->zF}
def Eb(hf:∀x,(f x).length=size)(l:List α): (l.flatMap f).length=l.length*size:=by
 induction l with
 | nil=>simp
 | cons x l ih=>rw [List.flatMap_cons,Ab,ih,hf,Af,Nat.add_mul];omega
def J0(hf:∀x,(f x).length=size)(l:List α)(k:Nat): (l.flatMap f).drop (k*size)=(l.drop k).flatMap f:=by
 induction l generalizing k with
 | nil=>simp
 | cons x l ih=>
  cases k with
  | zero=>simp
  | succ k=>
   rw [List.flatMap_cons,List.drop_succ_cons,Nat.add_mul,Nat.one_mul,Nat.add_comm,<-List.drop_drop,List.drop_left' (hf x),ih]
def Ha(hf:∀x,(f x).length=size)(l:List α)(k:Nat): (l.flatMap f).take (k*size)=(l.take k).flatMap f:=by
 induction l generalizing k with
 | nil=>simp
 | cons x l ih=>
  cases k with
  | zero=>simp
  | succ k=>
   rw [List.flatMap_cons,List.take_succ_cons,List.flatMap_cons,Nat.add_mul,Nat.one_mul,Nat.add_comm,List.take_add,List.take_left' (hf x),List.drop_left' (hf x),ih]
def Hi(hf:∀x,(f x).length=size)(l:List α)(k:Nat)(hk:k<l.length)(z:α): ((l.flatMap f).drop (k*size)).take size=f (l.getD k z):=by
 rw [J0 hf,List.drop_eq_getElem_cons hk,List.flatMap_cons,List.take_left' (hf _)];simp [hk]
end
def BQ(n:Nd): (Ei n).length=4:=rfl
def Dk(n:Int): (FX n).length=1:=rfl
def KI(n:Int×Int): (Wl n).length=2:=rfl
def Kh(l:zM): (B2 l).length=l.length*4:=Eb BQ l
def Ki(l:zK): (Ci l).length=l.length*1:=Eb Dk l
def Df(l:zM):∀u∈B2 l,u.oneCell'=true:=by
 intro u a;obtain ⟨n,_,hn⟩:=List.mem_flatMap.1 a;simp [Ei] at hn;rcases hn with rfl|rfl|rfl|rfl<;>rfl
def DV(l:zK):∀u∈Ci l,u.oneCell'=true:=by
 intro u a;obtain ⟨n,_,hn⟩:=List.mem_flatMap.1 a;simp [FX] at hn;subst hn;rfl
def Sq(l:List (Int×Int)):∀u∈Fe l,u.oneCell'=true:=by
 intro u a;obtain ⟨n,_,hn⟩:=List.mem_flatMap.1 a;simp [Wl] at hn;rcases hn with rfl|rfl<;>rfl
section
variable {n e:Nat}
def RS{t:zM}(h:RowI w I 4 A t.length (B2 t))(hk:k<t.length): ElemAt w A (k*4) (Ei (nth t k)):=by
 have:=h.elem hk;rwa [show (B2 t)=t.flatMap Ei from rfl,Hi BQ t k hk ndz] at this
def Pt{t:zK}(h:RowI w I 1 A t.length (Ci t))(hk:k<t.length): ElemAt w A (k*1) (FX (C7 t k)):=by
 have:=h.elem hk;rwa [show (Ci t)=t.flatMap FX from rfl,Hi Dk t k hk 0] at this
def JH(h:RowI w I 2 A t.length (Fe t))(hk:k<t.length): ElemAt w A (k*2) (Wl (J6 t k)):=by
 have:=h.elem hk;rwa [show (Fe t)=t.flatMap Wl from rfl,Hi KI t k hk (0,0)] at this
def Iw{t:zM}(h:(Res.row A t.length cap e 4 (B2 t)).holds w)(hk:k<t.length): ElemAt w A (k*4) (Ei (nth t k)):=by
 have:=HN h hk;rwa [show (B2 t)=t.flatMap Ei from rfl,Hi BQ t k hk ndz] at this
def XJ{t:zK}(h:(Res.row A t.length cap e 1 (Ci t)).holds w)(hk:k<t.length): ElemAt w A (k*1) (FX (C7 t k)):=by
 have:=HN h hk;rwa [show (Ci t)=t.flatMap FX from rfl,Hi Dk t k hk 0] at this
def Zh(h:(Res.row A t.length cap e 2 (Fe t)).holds w)(hk:k<t.length): ElemAt w A (k*2) (Wl (J6 t k)):=by
 have:=HN h hk;rwa [show (Fe t)=t.flatMap Wl from rfl,Hi KI t k hk (0,0)] at this
def ElemAt.some_(h:ElemAt w A j vs): A.isSome=true:=by
 obtain ⟨ad,rfl,_⟩:=h;rfl
def RowI.news{xs:zF}(h:RowI w I size A n xs): 0<n->∃ad,A=some ad/\CellsAt w ad xs:=fun hn=>by
 obtain ⟨ad,b,_,a⟩:=h.2 hn;exact ⟨ad,b,a⟩
end
def FOK(P:Program)(f:FuncId): Prop:=∀args w,(callFunc f args).run P w=.ok (.enter f args) w
def fok(hf : P.funcs[f]? = some fn) (hb : fn.body.isNone = false) (hn : (fn.name == "runtime.NumGoroutine") = false) : FOK P f := fun args w => by
 have hn' : fn.name ≠ "runtime.NumGoroutine" := by simpa using hn
 have hb':fn.body≠none:=by intro e;rw [e] at hb;cases hb
 simp [callFunc,hf,hn',hb']
def idx:Nat->zF->zD
 | _,[]=>[]
 | k,v::vs=>(k,v)::idx (k+1) vs
def QS:∀(vs:zF) (k i:Nat) (v:Value),(idx k vs).lookup i=some v->k<=i/\vs[i-k]?=some v
 | [],_,_,_,h=>by simp [idx] at h
 | u::vs,k,i,v,h=>by
  simp only [idx,List.lookup] at h;by_cases a:i=k
  ·subst a;simp only [BEq.rfl] at h;exact ⟨Ag _,by simpa using h⟩
  ·
   have:(i == k)=false:=by simpa using a
   simp only [this] at h;obtain ⟨c,b⟩:=QS vs (k+1) i v h;refine ⟨by omega,?_⟩;rw [show i-k=(i-(k+1))+1 by omega];simpa using b
def Gw{c:Code}(hf:P.funcs[f]?=some fn)(hb:fn.body=some c)(hN:fn.ntmps=N)(e:decide (vs.length<=N/\N<=1000000)=true)
  (h:∀a,Reg a N ((1000000,.bool false)::idx 0 vs)->c.wp P (bodyPost P fn R) a w):Calls P f vs.toArray w R:=by
 subst hN;have b:=Ad e;have d:vs.length<=fn.ntmps:=b.1;refine calls_of_wp hf hb (h _ (Reg.start vs.toArray fn.ntmps (by simpa using d) b.2 _ fun i v hv=>?_));obtain ⟨_,k⟩:=QS vs 0 i v hv;have j:vs[i]?=some v:=by simpa using k
 obtain ⟨hlt,g⟩:=List.getElem?_eq_some_iff.1 j;simp [Array.getElem?_append,hlt,g]
section
variable {Next:zC} {l:zD}
def k_call(hs:Ste P X Next o a w)(c:Reg a N l)(hd:o.dst=some d)
  (h:o.op=.call { callee:=.value (.func f),args:=xs.toArray,argTypes:=ts }) (g:evs l xs=some vs) (b:d<N) (hf:FOK P f) (hc:Calls P f vs.toArray w R)
  (k:∀e w',R e w'->∃v,e=.returned v/\∀a',Reg a' N ((d,v)::l)->Next a' w'):X:=by
 refine hs.enter f vs.toArray w ?_ (hc.mono fun e w' i=>?_)
 ·
  have hm:xs.toArray.map a.eval=vs.toArray:=by rw [<-c.evs g];simp
  unfold execOp;rw [h];simp only [resolve,hm,Act.eval,Deferred.ofValue,AB,Ba,Ay,invoke,Array.append_empty,Array.empty_append];exact hf _ _
 ·obtain ⟨v,rfl,hk⟩:=k e w' i;exact ⟨v,rfl,by rw [hd];exact hk _ (c.put b v)⟩
def k_callV{g:zJ}(hs:Ste P X Next o a w)(c:Reg a N l)(hd:o.dst=some d)
  (i:o.op=.call { callee:=.value g,args:=xs.toArray,argTypes:=ts }) (hg:ev l g=some (.func (.func f) #[] cs)) (h:evs l xs=some vs) (b:d<N) (hf:FOK P f) (hc:Calls P f (vs.toArray++cs) w R)
  (k:∀e w',R e w'->∃v,e=.returned v/\∀a',Reg a' N ((d,v)::l)->Next a' w'):X:=by
 refine hs.enter f (vs.toArray++cs) w ?_ (hc.mono fun e w' j=>?_)
 ·
  have hm:xs.toArray.map a.eval=vs.toArray:=by rw [<-c.evs h];simp
  unfold execOp;rw [i];simp only [resolve,hm,c.ev hg,Deferred.ofValue,AB,Ba,Ay,invoke,Array.empty_append];exact hf _ _
 ·obtain ⟨v,rfl,hk⟩:=k e w' j;exact ⟨v,rfl,by rw [hd];exact hk _ (c.put b v)⟩
def want_t(e:Reg a N l)(hg:o.guard=some (j,b))(hj:ops[j]?=some oj)(c:oj.dst=some dj)(d:dj<N)(hv:l.lookup dj=some (.bool b)): Region.wanted o (yielded ops a.tmps)=true:=by
 have f:=e.get dj _ (by have:=e.top;omega) hv;have hlt:dj<a.tmps.size:=by rw [e.size];exact d
 have g:a.tmps[dj]?=some (.bool b):=by
  rw [Array.getD,dif_pos hlt] at f;rw [Array.getElem?_eq_getElem hlt,<-f];rfl
 simp [Region.wanted,hg,yielded,hj,c,g]
def TW(e:Reg a N l)(hg:o.guard=some (j,b))(hj:ops[j]?=some oj)(c:oj.dst=some dj)(d:dj<N)(hv:l.lookup dj=some (.bool b'))(hb:(b' == b)=false): Region.wanted o (yielded ops a.tmps)=false:=by
 have f:=e.get dj _ (by have:=e.top;omega) hv;have hlt:dj<a.tmps.size:=by rw [e.size];exact d
 have g:a.tmps[dj]?=some (.bool b'):=by
  rw [Array.getD,dif_pos hlt] at f;rw [Array.getElem?_eq_getElem hlt,<-f];rfl
 simpa [Region.wanted,hg,yielded,hj,c,g] using hb
def want_u(e:Reg a N l)(hg:o.guard=some (j,b))(hj:ops[j]?=some oj)(c:oj.dst=some dj)(d:dj<N)(hv:l.lookup dj=some undef): Region.wanted o (yielded ops a.tmps)=false:=by
 have f:=e.get dj _ (by have:=e.top;omega) hv;have hlt:dj<a.tmps.size:=by rw [e.size];exact d
 have g:a.tmps[dj]?=some undef:=by
  rw [Array.getD,dif_pos hlt] at f;rw [Array.getElem?_eq_getElem hlt,<-f];rfl
 simp [Region.wanted,hg,yielded,hj,c,g,undef]
def YS(e:Reg a N l)(hd:o.dst=some d)(b:d<N)(c:Region.wanted o (yielded ops a.tmps)=false)(k:∀a',Reg a' N ((d,undef)::l)->wpList P ops Q rest a' w):
  wpList P ops Q (o::rest) a w:=Aam c (by rw [hd];exact k _ (e.put b _))
def Reg.setb(h:Reg a N l)(hv:l.lookup d=some (.bool B))(hb:B=b): Reg a N ((d,.bool b)::l):=h.cons h (by rw [hv,hb])
end
section
variable {id id':Nat}
def Bl(h:K a w): Exit.then K Q .normal a w:=h
def HG(h:Q (.exit id) a w): Exit.then K Q (.exit id) a w:=h
def HE(h:Q .ret a w): Exit.then K Q .ret a w:=h
def IM(h:Q .normal a w): Exit.inBlock id Q .normal a w:=h
def Gz(h:Q .ret a w): Exit.inBlock id Q .ret a w:=h
def G0(h:Q .normal a w): Exit.inBlock id Q (.exit id) a w:=by
 unfold Exit.inBlock;simpa using h
def KP(hne:(id' == id)=false)(h:Q (.exit id') a w): Exit.inBlock id Q (.exit id') a w:=by
 have b:id'≠id:=by simpa using hne
 unfold Exit.inBlock;simpa [b,Ne.symm b] using h
variable {l:zD}
def Wn{t:Nat}(b:Reg a N l)(h0:l.lookup 1000000=some (.bool false))(hr:fn.results=#[.tmp t])(hv:ev l (.tmp t)=some v)(h:R (.returned v) w): bodyPost P fn R .ret a w:=
 ⟨b.dfr h0,v,by have:=b.ev hv;rw [results_tmp hr];exact congrArg (fun v=>Result.ok v w) this,h⟩
def e_ret2{t u:Nat}(c:Reg a N l)(h0:l.lookup 1000000=some (.bool false))(hr:fn.results=#[.tmp t,.tmp u])(hv:ev l (.tmp t)=some v)(b:ev l (.tmp u)=some v')(h:R (.returned (.tuple #[v,v'])) w): bodyPost P fn R .ret a w:=
 ⟨c.dfr h0,.tuple #[v,v'],by have e:a.tmps.getD t undef=v:=c.ev hv;have d:a.tmps.getD u undef=v':=c.ev b;rw [results_tmp2 hr,e,d],h⟩
def P4(b:Reg a N l)(h0:l.lookup 1000000=some (.bool false))(hr:fn.results=#[])(h:R (.returned (.tuple #[])) w): bodyPost P fn R .ret a w:=
 ⟨b.dfr h0,_,results_none hr _ _ _,h⟩
def Kj(b:Reg a N l)(h0:l.lookup 1000000=some (.bool false))(hr:fn.results=#[])(h:R (.returned (.tuple #[])) w): bodyPost P fn R .normal a w:=
 ⟨b.dfr h0,_,results_none hr _ _ _,h⟩
end
section
def St.erase(h:St w0 Z M w m ds)(i:Nat): St w0 Z M w (m.eraseIdx i) ds:=h.drop _ (List.eraseIdx_sublist m i)
def St.forget(h:St w0 Z M w m ds)(i:Nat): St w0 Z M w m (ds.eraseIdx i):=h.datas _ fun d hd=>h.dat d ((List.eraseIdx_sublist ds i).subset hd)
def D3(h:imm Z w0 m w k): nxt Z w0 w k:=⟨h.1,h.2.1⟩
def QC(h:St w0 Z M w m ds)(hk:nxt (imm Z w0 m w) w w' k): imm Z w0 m w' k:=by
 refine ⟨hk.1,fun hlt=>?_,fun r a e=>?_⟩
 ·exact (hk.2 (B4 hlt h.size)).2.1 hlt
 ·exact (hk.2 (h.own r a k e).1).2.2 r a e
end
def dAg(b:zH)(J:zG): Dat:=⟨fun w I=>b.heap.size<=w.heap.size/\∀k,J k->I k/\w.heap[k]?=b.heap[k]?,fun _ _ _ _ hs h hk=>⟨Ax h.1 hs,fun k a=>⟨(hk k (h.2 k a).1).1,(hk k (h.2 k a).1).2.trans (h.2 k a).2⟩⟩⟩
def St.agree(h:St w0 Z M w m ds):∃J:zG,(∀(i:Nat) (d:Dat),ds[i]?=some d->d.φ w J)/\St w0 Z M w m (ds++[dAg w J]):=
 ⟨imm Z w0 m w,fun _ _ hi=>h.get hi,h.data _ ⟨Ag _,fun _ hk=>⟨hk,rfl⟩⟩⟩
def CI{d:Dat}{x:zH}(h:d.φ w J)(a:w.heap.size<=x.heap.size/\∀k,J k->x.heap[k]?=w.heap[k]?): d.φ x J:=d.mono _ _ _ _ a.1 h fun k hk=>⟨hk,a.2 k hk⟩
def EU{g:Nat}{cs:zF}(h:(Res.box g e cs).holds w)(hv:cs[j]?=some v): w.cell? ⟨g,j,none⟩=some v:=by
 rw [cell_of_row w g j cs.toArray e (0,0) h];simpa using hv
def CellsAt.nil(w:zH)(p:Addr): CellsAt w p []:=fun j u a=>by simp at a
def AY{g:Nat}(h:w.cell? ⟨g,j,none⟩=some v)(hs:CellsAt w ⟨g,j+1,none⟩ vs): CellsAt w ⟨g,j,none⟩ (v::vs):=fun i u b=>by
 have a:∀(k:Nat) (i:Nat),(⟨g,k,none⟩:Addr).add i=⟨g,k+i,none⟩:=fun k i=>by unfold Addr.add;split<;>simp_all
 rw [a];cases i with
 | zero=>
  have:v=u:=by simpa using b
  subst this;exact h
 | succ i=>
  have:=hs i u (by simpa using b);rw [a] at this;rw [show j+(i+1)=j+1+i by omega];exact this
section
variable {Next:zC} {l:zD}
def CE{t:zI}{p:Addr}{b:TypeDesc}(hs:SteV P X Next o a w)(f:Reg a N l)(hd:o.dst=some d)(i:o.op=.load t x)(g:ev l x=some (.pointer (some p)))
  (hc:w.cell? p=some v) (h:P.underlying t=some b) (e:F0 b=false) (c:d<N) (k:∀a',Reg a' N ((d,v)::l)->Next a' w):X:=by
 refine C6 hs f hd c ?_ k;unfold execOp;rw [i];simp only [f.ev g,Instr.loadAt,Instr.sureAddr,AB,Ba,Ay,Hu h e hc]
def Dq{t:zI}{p:Addr}{b:TypeDesc}(hs:SteV P X Next o a w)(g:Reg a N l)(hd:o.dst=some d)(j:o.op=.load t x)(h:ev l x=some (.pointer (some p)))
  (hc:CellsAt w p vs) (i:P.underlying t=some b) (f:F0 b=true) (c:(P.info? t).map (·.size)=some vs.length) (e:d<N) (k:∀a',Reg a' N ((d,.agg vs.toArray)::l)->Next a' w):X:=by
 refine C6 hs g hd e ?_ k;unfold execOp;rw [j];simp only [g.ev h,Instr.loadAt,Instr.sureAddr,AB,Ba,Ay,Ht i f c hc]
end
section
variable {l:zD}
def Yq{b n:Nat}(hm:P.follows .mixedOrders=true)(hn:ops.size=n)(c:St w0 Z M w m ds)(h:∀w',St w0 Z M w' m ds->wpAnyH P .any ops Q S n (Array.replicate n false) a w'): (Code.region b ops true).wp P Q a w:=
 wp_region_held hm (by rw [hn];exact h _ c.drew)
def Wr(hi:ops[i]?=some oi)(hs:Region.noSelect ops=true)(hf:Region.free .any ops listed i=true)(hr:(Region.ready .any ops listed).contains i=true)
  (k:∀c a w,Q (.panic c) (a.put oi.dst v) w->Q (.panic c) a w) (hd:oi.dst=some d) (b:d<N) (j:Reg a N l) (f:Region.wanted oi (yielded ops a.tmps)=true) (e:∀x,S x->(execOp a.eval oi).run P x=.ok (.value v) x) (g:S w)
  (h:∀a',Reg a' N ((d,v)::l)->wpAnyH P .any ops Q S fuel (listed.setIfInBounds i true) a' w):wpAnyH P .any ops Q S (fuel+1) listed a w:=
 wpAnyH_take hi hs hf hr k (.inl ⟨f,e⟩) g (by rw [hd];exact h _ (j.put b v))
def ZG(hi:ops[i]?=some oi)(hs:Region.noSelect ops=true)(hf:Region.free .any ops listed i=true)(hr:(Region.ready .any ops listed).contains i=true)
  (j:∀c a w,Q (.panic c) (a.put oi.dst undef) w->Q (.panic c) a w) (hd:oi.dst=some d) (b:d<N) (g:Reg a N l) (e:Region.wanted oi (yielded ops a.tmps)=false) (f:S w)
  (h:∀a',Reg a' N ((d,undef)::l)->wpAnyH P .any ops Q S fuel (listed.setIfInBounds i true) a' w):wpAnyH P .any ops Q S (fuel+1) listed a w:=
 wpAnyH_take hi hs hf hr j (.inr ⟨e,rfl⟩) f (by rw [hd];exact h _ (g.put b _))
def d_one(hr:Region.ready .any ops listed=[i])(h:wpOp P ops Q i (fun a' w'=>S w'/\wpAnyH P .any ops Q S fuel (listed.setIfInBounds i true) a' w') a w): wpAnyH P .any ops Q S (fuel+1) listed a w:=
 wpAnyH_all hr yB (fun j b=>by rw [A7] at b;subst b;exact h)
end
end
section
open Go.RowKit
section
def OW{I d:zC}{J:zC}(h:∀a w,J a w->d a w)(b:o.wp P a w J (Exit.then I Q)): o.wp P a w d Q:=by
 unfold Oper.wp at *;generalize (execOp a.eval o).run P w=r at *;cases r with
 | ok n w'=>
  cases n<;>simp only [Oper.upon] at b ⊢<;>
   first
    | exact h _ _ b
    | exact Calls.mono b (fun e f c=>by cases e<;>first|exact h _ _ c|exact c)
    | exact Rows.mono b (fun _ _ c=>h _ _ c)
 | halt x w'=>cases x<;>simp only [Oper.upon] at b ⊢<;>exact b
def Abh{I:zC}{ys:List Oper}(k:∀a w,I a w->wpList P ops Q ys a w):∀(xs:List Oper) (a:Act) (w:zH),wpList P ops (Exit.then I Q) xs a w->wpList P ops Q (xs++ys) a w
 | [],a,w,h=>k a w h
 | o::xs,a,w,h=>by
  rw [List.cons_append];unfold wpList at h ⊢;split
  ·rename_i b;rw [Ae b] at h;exact h.imp (OW (Abh k xs)) (fun h=>⟨h.1,h.2⟩)
  ·rename_i b;rw [Ac b] at h;exact Abh k xs _ _ h
def CH{l:List Oper}(I:zC)(n:Nat)(h:wpList P ops (Exit.then I Q) (l.take n) a w)(k:∀a w,I a w->wpList P ops Q (l.drop n) a w): wpList P ops Q l a w:=by
 have:=Abh (ys:=l.drop n) k (l.take n) a w h;rwa [List.take_append_drop] at this
def F1{x y:Code}(I:zC)(h:x.wp P (Exit.then I Q) a w)(k:∀a w,I a w->y.wp P Q a w): (Code.seq x y).wp P Q a w:=
 wp_seq (wp_mono h fun e a w b=>by
  cases e with
  | normal=>exact k _ _ b
  | _=>exact b)
def St.row{m:zO}{a:zP}(h:St w0 Z M w m a){n:Nat}(hi:a[i]?=some (B6 size A n cap xs)): n<=cap/\RowI w (imm Z w0 m w) size A n xs:=h.get hi
variable {l:zD}
end
end
section
open Go Go.RowKit
def B9(w:zH)(I:zG): Prop:=∀k,k<30->∃(A:zE) (cap:Nat),
 ((shp k).b.length<=cap/\RowI w I 1 A (shp k).b.length (Ci (shp k).b))/\I 0/\
 CellsAt w ((⟨0,0,none⟩:Addr).add (k*4)) [.slice A (shp k).b.length cap,.bool (shp k).n,.bool (shp k).m,.bool (shp k).s]
def A6:Dat:=⟨B9,fun w w' I I' _ h hk k hlt=>by
 obtain ⟨A,cap,⟨d,c⟩,a,b⟩:=h k hlt
 exact ⟨A,cap,⟨d,c.mono hk⟩,(hk 0 a).1,b.keep (by rw [Ft];exact (hk 0 a).2)⟩⟩
def Lb(h:B9 w I)(k:Nat)(hk:k<30):∃(A:zE) (cap:Nat),
  (B6 1 A (shp k).b.length cap (Ci (shp k).b)).φ w I/\
  ElemAt w (some ⟨0,0,none⟩) (k*4) [.slice A (shp k).b.length cap,.bool (shp k).n,.bool (shp k).m,.bool (shp k).s]:=by
 obtain ⟨A,cap,c,d,a⟩:=h k hk;exact ⟨A,cap,c,_,rfl,a⟩
def AR{k:IntKind}{a b:Int}(h:a=b): Value.int k a=Value.int k b:=by rw [h]
def Bx{a:Bool}(h:a=b): Value.bool a=Value.bool b:=by rw [h]
def AJ{a b c:Value}(h:a=a')(d:b=c): Ending.returned (.tuple #[a,b])=Ending.returned (.tuple #[a',c]):=by rw [h,d]
def Eg{a b c f e:Value}(h:a=a')(g:b=f)(d:c=e): Ending.returned (.tuple #[a,b,c])=Ending.returned (.tuple #[a',f,e]):=by rw [h,g,d]
end
section
open Go Go.RowKit
def Dd(s:ByteArray)(i:Nat): Nat:=if h:i<s.size then s[i].toNat else 0
def H9(s:ByteArray)(i:Nat): Dd s i<256:=by
 unfold Dd;split
 ·exact UInt8.toNat_lt _
 ·omega
def orB(a b:Nat): Nat:=a||| b
def andB(a b:Nat): Nat:=a&&& b
section
variable {Next:zC} {l:zD}
def OQ{s:ByteArray}{p:Int}(hs:SteV P X Next o a w)(j:Reg a N l)(hd:o.dst=some d)(h:o.op=.index t x y)(e:ev l x=some (.string s))(c:ev l y=some (.int ki p))
  (f:P.underlying t=some .string) (g:p=(i:Int)) (hi:i<s.size) (b:d<N) (k:∀a',Reg a' N ((d,.int .u8 ((Dd s i:Nat):Int))::l)->Next a' w):X:=
 X8 hs j hd h e c f g hi b (by simpa [Dd,hi] using k)
def U5{a b:Nat}(c:a<256)(hb:b<256): (Go.binOp .or t (.int .u8 (a:Int)) (.int .u8 (b:Int))).run P w=.ok (.int .u8 ((orB a b:Nat):Int)) w:=by
 have h:a||| b<256:=Nat.or_lt_two_pow (n:=8) c hb;have d:(BitVec.ofInt 8 (a:Int)||| BitVec.ofInt 8 (b:Int)).toNat=a||| b:=by
  simp [Nat.mod_eq_of_lt c,Nat.mod_eq_of_lt hb]
 show Result.ok (Value.int .u8 (IntKind.u8.wrap (((BitVec.ofInt 8 (a:Int)||| BitVec.ofInt 8 (b:Int)).toNat:Nat):Int))) w=_;rw [d];unfold IntKind.wrap;simp only [IntKind.bits,IntKind.signed,Bool.false_and,if_false,Bool.false_eq_true];congr 2;unfold orB;omega
def Xy{a b:Nat}(c:a<2 ^ 31)(hb:b<2 ^ 31): (Go.binOp .or t (.int .i64 (a:Int)) (.int .i64 (b:Int))).run P w=.ok (.int .i64 ((orB a b:Nat):Int)) w:=by
 have h:a||| b<2 ^ 31:=Nat.or_lt_two_pow (n:=31) c hb;have d:(BitVec.ofInt 64 (a:Int)||| BitVec.ofInt 64 (b:Int)).toNat=a||| b:=by
  simp [Nat.mod_eq_of_lt (show a<18446744073709551616 by omega),Nat.mod_eq_of_lt (show b<18446744073709551616 by omega)]
 show Result.ok (Value.int .i64 (IntKind.i64.wrap (((BitVec.ofInt 64 (a:Int)||| BitVec.ofInt 64 (b:Int)).toNat:Nat):Int))) w=_;rw [d,IntWalk.i64_in _ (by constructor<;>omega)];rfl
def U6{a b:Nat}(d:a<2 ^ 31)(hb:b<2 ^ 31): (Go.binOp .and t (.int .i64 (a:Int)) (.int .i64 (b:Int))).run P w=.ok (.int .i64 ((andB a b:Nat):Int)) w:=by
 have h:a&&& b<2 ^ 31:=Nat.and_lt_two_pow (n:=31) a hb;have c:(BitVec.ofInt 64 (a:Int)&&& BitVec.ofInt 64 (b:Int)).toNat=a&&& b:=by
  simp [Nat.mod_eq_of_lt (show a<18446744073709551616 by omega),Nat.mod_eq_of_lt (show b<18446744073709551616 by omega)]
 show Result.ok (Value.int .i64 (IntKind.i64.wrap (((BitVec.ofInt 64 (a:Int)&&& BitVec.ofInt 64 (b:Int)).toNat:Nat):Int))) w=_;rw [c,IntWalk.i64_in _ (by constructor<;>omega)];rfl
end
set_option maxRecDepth 100000 in
def V2:∀c:Fin 256,((97<=orB c.val 32/\orB c.val 32<=122)\/c.val=95)↔letter (UInt8.ofNat c.val)=true:=by decide
class NAg (P:Program) (t:zI):Prop where h:∃d,P.underlying t=some d/\F0 d=false
class Agg (P:Program) (t:zI) (n:outParam Nat):Prop where h:∃d,P.underlying t=some d/\F0 d=true/\(P.info? t).map (·.size)=some n
class Fld (P:Program) (t:zI) (f:Nat) (off:outParam Nat):Prop where h:∃fs fl sz,P.underlying t=some (.struct fs)/\fs[f]?=some fl/\fl.offset=off/\(P.info? fl.type).map (·.size)=some sz/\(sz == 0)=false
class Siz (P:Program) (t:zI) (n:outParam Nat):Prop where h:(P.info? t).map (·.size)=some n
class Zer (P:Program) (t:zI) (z:outParam Value):Prop where h:(P.info? t).map (·.zero)=some (some z)
class Zis (P:Program) (t:zI) (z:outParam Value) (n b:outParam Nat):Prop where h:(P.info? t).map (fun i=>(i.zero,i.size,i.bytes))=some (some z,n,b)
class Bld (P:Program) (t:zI) (zs:outParam zF) (offs:outParam (List Nat)):Prop where h:True
class Slc (P:Program) (t:zI) (e:outParam zI):Prop where h:P.underlying t=some (.slice e)
class StrT (P:Program) (t:zI):Prop where h:P.underlying t=some .string
end
section
open Go Go.RowKit
variable {a:Bool}
section
variable {Next:zC} {a:Act} {l:zD} {m:zO} {ds:zP}
def HQ{n:Nat}(hs:SteV P X Next o a w)(g:Reg a N l)(hd:o.dst=some d)
  (v:o.op=.slice t x lo hi none) (s:ev l x=some (.slice A n cap)) (c:lo.map (ev l)=vlo.map some) (f:hi.map (ev l)=vhi.map some) (k q:Nat)
  (i:vlo=some (.int kd (k:Int))\/vlo=none/\k=0) (j:vhi=some (.int kd' ((k+q:Nat):Int))\/vhi=none/\k+q=n)
  (u:P.underlying t=some (.slice e)) (h:(P.info? e).map (·.size)=some size) (hm:k+q<=cap) (p:d<N)
  (r:∀a',Reg a' N ((d,.slice (if cap=k then A else A.map (·.add (k*size))) q (cap-k))::l)->Next a' w):X:=by
 have hl:lo.map a.eval=vlo:=by
  cases lo<;>cases vlo<;>simp_all;exact g.ev c
 have y:hi.map a.eval=vhi:=by
  cases hi<;>cases vhi<;>simp_all;exact g.ev f
 have b:=Ld (P:=P) (w:=w) (A:=A) (n:=n) (cap:=cap) (k:=k) (m:=k+q) (kd:=kd) (kd':=kd') vlo vhi u h zQ zQ i j;rw [show k+q-k=q by omega] at b;refine C6 hs g hd p ?_ r;unfold execOp;rw [v];simp only [g.ev s,hl,y,Option.map_none,AB,b,Ay,Ba]
def Hf(a:Addr): a.add 0=a:=by simp [Addr.add]
def Fn{n:Nat}{p:Int}(hs:SteV P X Next o a w)(r:Reg a N l)(hd:o.dst=some d)
  (m:o.op=.slice t x none (some y) none) (i:ev l x=some (.slice A n cap)) (h:ev l y=some (.int kd p)) (q:Nat) (k:p=(q:Int))
  (j:P.underlying t=some (.slice e)) (c:(P.info? e).map (·.size)=some size) (hm:q<=cap) (f:d<N)
  (g:∀a',Reg a' N ((d,.slice A q cap)::l)->Next a' w):X:=by
 subst k;refine HQ (vlo:=none) (vhi:=some (.int kd (q:Int))) (kd:=.i64) (kd':=kd) hs r hd m i rfl (by simp [h]) 0 q (.inr ⟨rfl,rfl⟩) (.inl yB) j c zQ f (fun a' b=>g a' ?_);have:(if cap=0 then A else A.map (·.add (0*size)))=A:=by
  split
  ·rfl
  ·cases A<;>simp [Hf]
 rw [this] at b;simpa using b
def Cut(a:Nat)(A b:zE)(k q:Nat): Prop:=∀j,j<q->b.map (·.add (j*a))=A.map (·.add ((k+j)*a))
def Cut.elem{q:Nat}{a:zE}(h:Cut size A a k q)(hj:j<q)(c:ElemAt w A ((k+j)*size) vs): ElemAt w a (j*size) vs:=by
 obtain ⟨ad,rfl,hc⟩:=c;have b:=h j hj;cases a with
 | none=>cases b
 | some ad'=>
  have d:ad'.add (j*size)=ad.add ((k+j)*size):=by simpa using b
  exact ⟨ad',rfl,by rw [d];exact hc⟩
def Jt{n:Nat}(hs:SteV P X Next o a w)(v:Reg a N l)(hd:o.dst=some d)
  (u:o.op=.slice t x lo hi none) (r:ev l x=some (.slice A n cap)) (b:lo.map (ev l)=vlo.map some) (c:hi.map (ev l)=vhi.map some) (k q:Nat)
  (g:vlo=some (.int kd (k:Int))\/vlo=none/\k=0) (h:vhi=some (.int kd' ((k+q:Nat):Int))\/vhi=none/\k+q=n)
  (s:P.underlying t=some (.slice e)) (f:(P.info? e).map (·.size)=some size) (hm:k+q<=cap) (i:d<N)
  (p:∀a' A' c',q<=c'->Cut size A A' k q->Reg a' N ((d,.slice A' q c')::l)->Next a' w):X:=
 HQ hs v hd u r b c k q g h s f hm i (fun a' m=>p a' _ _ zQ (fun j y=>by
  rw [Ac zQ];cases A with
  | none=>rfl
  | some ad=>simp [EJ,Nat.add_mul]) m)
def Sb{f:α->zF}{L:List α}(hs:SteV P X Next o a w)(z:Reg a N l)(hd:o.dst=some d)
  (y:o.op=.slice t x lo hi none) (s:ev l x=some (.slice A L.length cap)) (c:lo.map (ev l)=vlo.map some) (g:hi.map (ev l)=vhi.map some) (k q:Nat)
  (j:vlo=some (.int kd (k:Int))\/vlo=none/\k=0) (m:vhi=some (.int kd' ((k+q:Nat):Int))\/vhi=none/\k+q=L.length)
  (h:List α) (B:(L.drop k).take q=h) (hf:∀x,(f x).length=size)
  (b:L.length<=cap/\RowI w I size A L.length (L.flatMap f)) (u:P.underlying t=some (.slice e)) (i:(P.info? e).map (·.size)=some size) (hm:k+q<=L.length) (n:d<N)
  (r:∀a' A' c',h.length<=c'/\RowI w I size A' h.length (h.flatMap f)->Reg a' N ((d,.slice A' h.length c')::l)->Next a' w):X:=by
 subst B;have hq:((L.drop k).take q).length=q:=by rw [Ak,BC];omega
 refine AaZ hs z hd y s c g k q j m b.2 u i hm b.1 n (fun a' A' c' hc v p=>r a' A' c' ?_ ?_)
 ·rw [hq,<-Ha hf,<-J0 hf];exact ⟨hc,v⟩
 ·rw [hq];exact p
def Bz{f:α->zF}{A2:zE}{z:Value}(L c:List α)(hs:SteV P X Next o a w)(E:Reg a N l)(D:St w0 Z M w m ds)(hd:o.dst=some d)
  (C:o.op=.call { callee:=.builtin .append,args:=#[x,y],argTypes:=#[t,t] }) (v:ev l x=some (.slice A L.length cap)) (s:ev l y=some (.slice A2 c.length c2)) (hi:m[i]?=some (.row A L.length cap e size (L.flatMap f)))
  (hf:∀x,(f x).length=size) (F:∀u∈c.flatMap f,u.oneCell'=true)
  (B:P.underlying t=some (.slice e)) (g:(P.info? e).map (fun i=>(i.zero,i.size,i.bytes))=some (some z,size,bytes)) (j:(z.cells.size == size)=true) (n:(size == 0)=false)
  (hr:0<c.length->∃ad,A2=some ad/\CellsAt w ad (c.flatMap f)) (q:decide (bytes<=1000)=true) (hb:L.length+c.length<=100000000) (p:d<N)
  (k:∀a' w' A' b,(L++c).length<=b->Reg a' N ((d,.slice A' (L++c).length b)::l)->St w0 Z M w' (m.set i (.row A' (L++c).length b e size ((L++c).flatMap f))) ds->Next a' w'):X:=by
 refine Sc (news:=c.flatMap f) hs E D hd C v s hi (Ag _) B g j n (Eb hf c) hr F q hb p (fun a' w' A' b hc r h=>k a' w' A' b ?_ ?_ ?_)
 ·rw [Ab];exact hc
 ·rw [Ab];exact r
 ·rw [Ab,List.flatMap_append];rw [Ha hf,CD] at h;exact h
def Pm{f:α->zF}{A2:zE}{n:Nat}{z:Value}(L c:List α)(hs:SteV P X Next o a w)(F:Reg a N l)(E:St w0 Z M w m ds)(hd:o.dst=some d)
  (D:o.op=.call { callee:=.builtin .append,args:=#[x,y],argTypes:=#[t,t] }) (B:ev l x=some (.slice A n cap)) (v:ev l y=some (.slice A2 c.length c2)) (hi:m[i]?=some (.row A L.length cap e size (L.flatMap f)))
  (hn:n<=L.length) (hf:∀x,(f x).length=size) (G:∀u∈c.flatMap f,u.oneCell'=true)
  (C:P.underlying t=some (.slice e)) (g:(P.info? e).map (fun i=>(i.zero,i.size,i.bytes))=some (some z,size,bytes)) (j:(z.cells.size == size)=true) (p:(size == 0)=false)
  (hr:0<c.length->∃ad,A2=some ad/\CellsAt w ad (c.flatMap f)) (r:decide (bytes<=1000)=true) (hb:n+c.length<=100000000) (q:d<N)
  (k:∀a' w' A' b,(L.take n++c).length<=b->Reg a' N ((d,.slice A' (L.take n++c).length b)::l)->St w0 Z M w' (m.set i (.row A' (L.take n++c).length b e size ((L.take n++c).flatMap f))) ds->Next a' w'):X:=by
 have hl:(L.take n++c).length=n+c.length:=by rw [Ab,Ak,Nat.min_eq_left hn]
 refine Sc (news:=c.flatMap f) hs F E hd D B v hi hn C g j p (Eb hf c) hr G r hb q (fun a' w' A' b hc s h=>k a' w' A' b ?_ ?_ ?_)
 ·rw [hl];exact hc
 ·rw [hl];exact s
 ·rw [hl,List.flatMap_append];rw [Ha hf] at h;exact h
def B7{f:α->zF}{n e:Nat}(h:(Res.row A n cap e size xs).holds w): 0<n->∃ad,A=some ad/\CellsAt w ad xs:=RJ h
end
def Jn(h:(!b)=true): b=false:=by cases b<;>simp_all
def DM(h:(!b)=false): b=true:=by cases b<;>simp_all
def Ct(h:(a||b)=false): a=false:=by cases a<;>simp_all
def Cs(h:(a||b)=false): b=false:=by cases b<;>simp_all
def Ck(h:(a&&b)=true): a=true:=by cases a<;>simp_all
def Cj(h:(a&&b)=true): b=true:=by cases b<;>simp_all
end
section
open Go Go.RowKit
def IL(k:Nat): (Builtin.zeroCells (Value.int .i64 0).cells k).toList=List.replicate k (.int .i64 0):=by
 apply List.ext_getElem
 ·simp [Builtin.zeroCells,Value.cells]
 ·intro i b a;simp [Builtin.zeroCells,Value.cells,Nat.mod_one]
def My(q:Nat): (List.replicate q (0:Int)).flatMap FX=List.replicate q (Value.int .i64 0):=by
 induction q with
 | zero=>rfl
 | succ q ih=>rw [List.replicate_succ,List.flatMap_cons,ih];rfl
section
variable {Next:zC} {l:zD} {m:zO} {ds:zP}
def Kv{b:TypeInfo}{g n q:Nat}(G:P.underlying t=some (.slice e))(htn:P.underlying tn=some (.int kn))(hi:P.info? e=some b)(E:b.zero=some (.int .i64 0))(d:b.size=1)(o:b.bytes=8)
  (a:w.ownsRow 0 e 1 (.slice (some ⟨g,0,none⟩) n cap) n xs) (I:0<q) (hb:n+q<=100000000):
  ∃v' w',(Builtin.append_ #[t,tn] ty #[.slice (some ⟨g,0,none⟩) n cap,.int kq (q:Int)]).run P w=.ok v' w'/\w'.ownsRow 0 e 1 v' (n+q) (xs++List.replicate q (.int .i64 0))/\w.grownBy w' (some g)/\
   (v'.ownBlock=some g\/v'.ownBlock=some w.heap.size):=by
 have c:(xs++List.replicate q (Value.int .i64 0)).length=(n+q)*1:=by rw [Ab,a.1,BB];omega
 rcases a.2 with ⟨h,_⟩|⟨g',H,i,hv,D,hg,J,C,B,l⟩
 ·cases h
 ·
  injection hv with hv1 hv2 hv3;injection hv1 with hv1;injection hv1 with hv1;subst hv1;subst hv3;have F:IntKind.i64.wrap (q:Int)=q:=by rw [IntKind.wrap_i64];omega
  by_cases f:n+q<=cap
  ·
   have hst:=run_storeCells_at P g (n*1) e (List.replicate q (Value.int .i64 0)) 0 i w hg (by rw [BB,B];omega) (fun u x=>by rw [List.mem_replicate] at x;rw [x.2];rfl);simp only [Nat.add_zero,BB,Nat.mul_one] at hst;have y:(Builtin.append_ #[t,tn] ty #[.slice (some ⟨g,0,none⟩) n cap,.int kq (q:Int)]).run P w =
     .ok (.slice (some ⟨g,0,none⟩) (n+q) cap) (w.setRow g (i.toList.take n++List.replicate q (Value.int .i64 0)++i.toList.drop (n+q)).toArray):=by
    have r:¬((q:Int)<0):=by omega
    have v:¬(281474976710656<(q:Int)*(b.bytes:Int)):=by rw [o];omega
    have z:q≠0:=by omega
    simp [Builtin.append_,run_underlying G,run_underlying htn,sizeOf,typeInfo,zeroValue,hi,E,d,asInt,asIntOf,F,z,r,v,f,IL,Addr.add_lit,hst]
   refine ⟨_,_,y,⟨c,.inr ⟨g,cap,_,rfl,D,setRow_heap w g i _ e _ hg,f,C,?_,?_⟩⟩,⟨rfl,rfl,rfl,by simp,fun k _ hk=>setRow_other w g k _ (fun e=>hk (by rw [e]))⟩,.inl rfl⟩
   ·simp only [List.size_toArray,Ab,Ak,BC,Array.length_toList,BB];omega
   ·
    have:i.toList.take n=xs:=by rw [<-l,Nat.mul_one]
    rw [this,<-c];exact List.take_left
  ·
   have m:∀j u,xs[j]?=some u->w.drew.cell? ((⟨g,0,none⟩:Addr).add j)=some u:=fun j u x=>a.cells (g:=g) rfl j u x;have p:=run_firstCells_some (P:=P) w.drew b.size n ⟨g,0,none⟩ n cap xs (by rw [d];exact a.1) m;clear F;have y:=Lib.run_append_grow_zeros (P:=P) w t tn ty e b _ kq kn G htn hi E (some ⟨g,0,none⟩) n cap xs p q I zQ zQ zQ (by rw [o];omega) (by rw [o];exact growslice_fits zQ zQ);have A:=grownCap_ge w (n+q) cap e;have s:grownCap w (n+q) cap e<=maxLen:=grownCap_le_maxLen w (n+q) cap e (by unfold maxLen;omega);refine ⟨_,_,y,⟨c,.inr ⟨w.heap.size,_,_,rfl,Nat.zero_le _,heap_alloc_new w.drew _,A,s,?_,?_⟩⟩,⟨rfl,rfl,rfl,by simp,fun k hk _=>Kn w.drew _ k hk⟩,.inr rfl⟩
   ·simp only [Array.size_append,List.size_toArray,size_zeroCells,a.1];simp [Value.cells];omega
   ·simp only [Array.toList_append,IL];rw [<-c];exact List.take_left
def Pk{p:Int}(L:zK)(q:Nat)(hs:SteV P X Next o a w)(F:Reg a N l)(H:St w0 Z M w m ds)(hd:o.dst=some d)
  (T:o.op=.call { callee:=.builtin .append,args:=#[x,y],argTypes:=#[t,tn] }) (O:ev l x=some (.slice A L.length cap)) (K:ev l y=some (.int kq p)) (hi:m[i]?=some (.row A L.length cap e 1 (L.flatMap FX)))
  (S:p=(q:Int)) (R:0<q) (U:0<L.length) (hb:L.length+q<=100000000)
  (Q:P.underlying t=some (.slice e)) (htn:P.underlying tn=some (.int kn)) (f:(P.info? e).map (fun i=>(i.zero,i.size,i.bytes))=some (some (.int .i64 0),1,8)) (D:d<N)
  (k:∀a' w' A' b,(L++List.replicate q 0).length<=b->Reg a' N ((d,.slice A' (L++List.replicate q 0).length b)::l)->St w0 Z M w' (m.set i (.row A' (L++List.replicate q 0).length b e 1 ((L++List.replicate q 0).flatMap FX))) ds->Next a' w'):X:=by
 subst S;cases hqq:P.info? e with
 | none=>simp [hqq] at f
 | some inf=>
  simp only [hqq,C2,Cm,Ed] at f;obtain ⟨J,B,E⟩:=f;have j:w.ownsRow 0 e 1 (.slice A L.length cap) L.length (L.flatMap FX):=H.res hi;obtain ⟨g,rfl⟩:=Gc j U;obtain ⟨v',w',r,I,u,n⟩:=Kv (P:=P) (ty:=o.type) (kq:=kq) Q htn hqq J B E j R hb;obtain ⟨A',b,rfl,s,G⟩:=N2 I;have hl:(L++List.replicate q 0).length=L.length+q:=by simp
  have z:(L++List.replicate q 0).flatMap FX=L.flatMap FX++List.replicate q (Value.int .i64 0):=by
   rw [List.flatMap_append];congr 1;exact My q
  refine hs.val (.slice A' (L.length+q) b) w' ?_ ?_
  ·unfold execOp;rw [T];simp only [resolve,invoke,builtin,AB,Ba,Ay,List.map_toArray,AA,AP,F.ev O,F.ev K,r]
  ·
   rw [hd];refine k _ _ A' b (by rw [hl];exact s) (by rw [hl];exact F.put D _) ?_;rw [hl,z];refine H.turn hi u.os u.tape u.output u.size (fun v h C=>u.block v h (fun V=>C (by rw [V];rfl))) G (fun v h=>?_);have c:(Value.slice A' (L.length+q) b).ownBlock=some v:=by
    cases A' with
    | none=>cases h
    | some ad=>exact h
   refine ⟨(I.lt v c).2,?_⟩;rcases n with n|n
   ·left;rw [n] at c;exact c
   ·right;rw [c] at n;have:=Bc n;omega
def MD{n:Nat}{p:Int}(hs:SteV P X Next o a w)(A:Reg a N l)(z:St w0 Z M w m ds)(hd:o.dst=some d)(v:o.op=.makeSlice t x y)(r:ev l x=some (.int kx p))(j:ev l y=some (.int ky q))
  (u:p=(n:Int)) (b:q=(n:Int)) (s:P.underlying t=some (.slice e)) (hi:(P.info? e).map (fun i=>(i.zero,i.size,i.bytes))=some (some (.int .i64 0),1,8)) (hn:n<=1000000) (c:d<N)
  (k:∀a' w' g,Reg a' N ((d,.slice (some ⟨g,0,none⟩) (List.replicate n (0:Int)).length (List.replicate n (0:Int)).length)::l)->St w0 Z M w' (m++[.row (some ⟨g,0,none⟩) (List.replicate n (0:Int)).length (List.replicate n (0:Int)).length e 1 (Ci (List.replicate n 0))]) ds->Next a' w'):X:=
 L5 hs A z hd v r j u b s hi rfl rfl rfl hn c (fun a' w' g h f=>k a' w' g (by rw [BB];exact h) (by rw [BB,Ci,My];exact f))
def AaS{m n:Nd}: m=n↔m.K=n.K/\m.N=n.N/\m.M=n.M/\m.S=n.S:=by
 cases m;cases n;simp
def Sr{t g:Nat}{d:TypeDesc}(b:how=.ret\/how=.normal)(n:Reg a N l)(p:St w0 Z M w m ds)(h0:l.lookup 1000000=some (.bool false))(hr:fn.results=#[.cell t ty])(hv:ev l (.tmp t)=some (.pointer (some ⟨g,0,none⟩)))
  (hi:m[i]?=some (.box g e vs)) (o:P.underlying ty=some d) (k:F0 d=true) (f:(P.info? ty).map (·.size)=some vs.length) (h:R (.returned (.agg vs.toArray)) w):bodyPost P fn R how a w:=by
 have hc:CellsAt w ⟨g,0,none⟩ vs:=FL (p.res hi);have hl:=Ht (P:=P) o k f hc;have j:a.tmps.getD t undef=.pointer (some ⟨g,0,none⟩):=n.ev hv;have:bodyPost P fn R .ret a w:=⟨n.dfr h0,.agg vs.toArray,by
  simp only [results,hr];have c:a.tmps[t]?.getD undef=.pointer (some ⟨g,0,none⟩):=by rw [<-Array.getD_eq_getD_getElem?];exact j
  simp [AB,c,asAddr,hl],h⟩
 rcases b with rfl|rfl
 ·exact this
 ·exact this
end
end
section
open Go Go.RowKit
def Iz:prog.follows .mixedOrders=true:=by kernel_rfl
def sz3:(prog.info? 3).map (·.size)=some 1:=by kernel_rfl
def ze3:(prog.info? 3).map (·.zero)=some (some (.int .i64 0)):=by kernel_rfl
def zi3:(prog.info? 3).map (fun i=>(i.zero,i.size,i.bytes))=some (some (.int .i64 0),1,8):=by kernel_rfl
def sz4:(prog.info? 4).map (·.size)=some 1:=by kernel_rfl
def sz9:(prog.info? 9).map (·.size)=some 1:=by kernel_rfl
def GK:(prog.info? 22).map (·.size)=some 1:=by kernel_rfl
def ze22:(prog.info? 22).map (·.zero)=some (some (.slice none 0 0)):=by kernel_rfl
def Qc:(prog.info? 22).map (fun i=>(i.zero,i.size,i.bytes))=some (some (.slice none 0 0),1,24):=by kernel_rfl
def Hr:(prog.info? 26).map (·.size)=some 4:=by kernel_rfl
def ze26:(prog.info? 26).map (·.zero)=some (some (.agg #[.int .i64 0,.int .i64 0,.int .i64 0,.string (⟨#[]⟩:ByteArray)])):=by kernel_rfl
def Oy:(prog.info? 26).map (fun i=>(i.zero,i.size,i.bytes))=some (some (.agg #[.int .i64 0,.int .i64 0,.int .i64 0,.string (⟨#[]⟩:ByteArray)]),4,40):=by kernel_rfl
def Aai:(prog.info? 27).map (·.size)=some 1:=by kernel_rfl
def ze27:(prog.info? 27).map (·.zero)=some (some (.int .i64 0)):=by kernel_rfl
def sz38:(prog.info? 38).map (·.size)=some 1:=by kernel_rfl
def sz41:(prog.info? 41).map (·.size)=some 1:=by kernel_rfl
def sz50:(prog.info? 50).map (·.size)=some 1:=by kernel_rfl
def ze50:(prog.info? 50).map (·.zero)=some (some (.slice none 0 0)):=by kernel_rfl
def zi50:(prog.info? 50).map (fun i=>(i.zero,i.size,i.bytes))=some (some (.slice none 0 0),1,24):=by kernel_rfl
def sz54:(prog.info? 54).map (·.size)=some 1:=by kernel_rfl
def sz68:(prog.info? 68).map (·.size)=some 1:=by kernel_rfl
def ze68:(prog.info? 68).map (·.zero)=some (some (.slice none 0 0)):=by kernel_rfl
def ze70:(prog.info? 70).map (·.zero)=some (some (.map none)):=by kernel_rfl
def sz72:(prog.info? 72).map (·.size)=some 2:=by kernel_rfl
def ze72:(prog.info? 72).map (·.zero)=some (some (.agg #[.slice none 0 0,.slice none 0 0])):=by kernel_rfl
def ZT:(prog.info? 72).map (fun i=>(i.zero,i.size,i.bytes))=some (some (.agg #[.slice none 0 0,.slice none 0 0]),2,48):=by kernel_rfl
def AbU:(prog.info? 83).map (·.size)=some 2:=by kernel_rfl
def ze83:(prog.info? 83).map (·.zero)=some (some (.agg #[.int .i64 0,.int .i64 0])):=by kernel_rfl
def zi83:(prog.info? 83).map (fun i=>(i.zero,i.size,i.bytes))=some (some (.agg #[.int .i64 0,.int .i64 0]),2,16):=by kernel_rfl
def AbT:(prog.info? 87).map (·.size)=some 7:=by kernel_rfl
def ze87:(prog.info? 87).map (·.zero)=some (some (.agg #[.int .i64 0,.int .i64 0,.int .i64 0,.string (⟨#[]⟩:ByteArray),.slice none 0 0,.int .i64 0,.int .i64 0])):=by kernel_rfl
def zi87:(prog.info? 87).map (fun i=>(i.zero,i.size,i.bytes))=some (some (.agg #[.int .i64 0,.int .i64 0,.int .i64 0,.string (⟨#[]⟩:ByteArray),.slice none 0 0,.int .i64 0,.int .i64 0]),7,80):=by kernel_rfl
def sz91:(prog.info? 91).map (·.size)=some 1:=by kernel_rfl
def sz93:(prog.info? 93).map (·.size)=some 6:=by kernel_rfl
def ze93:(prog.info? 93).map (·.zero)=some (some (.agg #[.int .i64 0,.int .i64 0,.string (⟨#[]⟩:ByteArray),.slice none 0 0,.slice none 0 0,.slice none 0 0])):=by kernel_rfl
def Ur:(prog.info? 119).map (·.size)=some 4:=by kernel_rfl
def ze119:(prog.info? 119).map (·.zero)=some (some (.agg #[.slice none 0 0,.bool false,.bool false,.bool false])):=by kernel_rfl
def Cc:(prog.info? 129).map (·.size)=some 2:=by kernel_rfl
def ze129:(prog.info? 129).map (·.zero)=some (some (.agg #[.slice none 0 0,.int .i64 0])):=by kernel_rfl
def Xj:(prog.info? 129).map (fun i=>(i.zero,i.size,i.bytes))=some (some (.agg #[.slice none 0 0,.int .i64 0]),2,32):=by kernel_rfl
def sz137:(prog.info? 137).map (·.size)=some 6:=by kernel_rfl
def ze137:(prog.info? 137).map (·.zero)=some (some (.agg #[.int .i64 0,.int .i64 0,.string (⟨#[]⟩:ByteArray),.slice none 0 0,.slice none 0 0,.slice none 0 0])):=by kernel_rfl
def Aaj:(prog.info? 167).map (·.size)=some 1:=by kernel_rfl
def ze170:(prog.info? 170).map (·.zero)=some (some (.nilFunc)):=by kernel_rfl
def sz176:(prog.info? 176).map (·.size)=some 1:=by kernel_rfl
def sz177:(prog.info? 177).map (·.size)=some 1:=by kernel_rfl
def sz179:(prog.info? 179).map (·.size)=some 2:=by kernel_rfl
def ze179:(prog.info? 179).map (·.zero)=some (some (.agg #[.nilFunc,.nilFunc])):=by kernel_rfl
def sz180:(prog.info? 180).map (·.size)=some 14:=by kernel_rfl
def ze180:(prog.info? 180).map (·.zero)=some (some (.agg #[.nilFunc,.nilFunc,.nilFunc,.nilFunc,.nilFunc,.nilFunc,.nilFunc,.nilFunc,.nilFunc,.nilFunc,.nilFunc,.nilFunc,.nilFunc,.nilFunc])):=by kernel_rfl
def sz199:(prog.info? 199).map (·.size)=some 2:=by kernel_rfl
def ze199:(prog.info? 199).map (·.zero)=some (some (.agg #[.int .i64 0,.int .i64 0])):=by kernel_rfl
instance in3:NAg prog 3:=⟨⟨_,A8,rfl⟩⟩
instance iz3:Siz prog 3 1:=⟨sz3⟩
instance ii3:Zis prog 3 (.int .i64 0) 1 8:=⟨zi3⟩
instance in4:NAg prog 4:=⟨⟨_,CV,rfl⟩⟩
instance ib7:Bld prog 7 [.int .i64 0,.int .i64 0,.bool false,.int .u8 0] [0,1,2,3]:=⟨trivial⟩
instance ib8:Bld prog 8 [.int .i64 0,.int .i64 0,.bool false,.int .u8 0] [0,1,2,3]:=⟨trivial⟩
instance in9:NAg prog 9:=⟨⟨_,D7,rfl⟩⟩
instance ir9:StrT prog 9:=⟨D7⟩
instance ib13:Bld prog 13 [.string (⟨#[]⟩:ByteArray),.int .u64 0] [0,1]:=⟨trivial⟩
instance ib14:Bld prog 14 [.string (⟨#[]⟩:ByteArray),.int .u64 0] [0,1]:=⟨trivial⟩
instance in22:NAg prog 22:=⟨⟨_,Aw,rfl⟩⟩
instance il22:Slc prog 22 26:=⟨Aw⟩
instance iz22:Siz prog 22 1:=⟨GK⟩
instance ie22:Zer prog 22 (.slice none 0 0):=⟨ze22⟩
instance ii22:Zis prog 22 (.slice none 0 0) 1 24:=⟨Qc⟩
instance ib25:Bld prog 25 [.int .i64 0,.int .i64 0,.int .i64 0,.string (⟨#[]⟩:ByteArray)] [0,1,2,3]:=⟨trivial⟩
instance ia26:Agg prog 26 4:=⟨⟨_,Bq,rfl,Hr⟩⟩
instance if26_0:Fld prog 26 0 0:=⟨⟨_,_,_,Bq,rfl,rfl,sz3,rfl⟩⟩
instance if26_1:Fld prog 26 1 1:=⟨⟨_,_,_,Bq,rfl,rfl,sz3,rfl⟩⟩
instance if26_2:Fld prog 26 2 2:=⟨⟨_,_,_,Bq,rfl,rfl,sz3,rfl⟩⟩
instance if26_3:Fld prog 26 3 3:=⟨⟨_,_,_,Bq,rfl,rfl,sz9,rfl⟩⟩
instance iz26:Siz prog 26 4:=⟨Hr⟩
instance ie26:Zer prog 26 (.agg #[.int .i64 0,.int .i64 0,.int .i64 0,.string (⟨#[]⟩:ByteArray)]):=⟨ze26⟩
instance ii26:Zis prog 26 (.agg #[.int .i64 0,.int .i64 0,.int .i64 0,.string (⟨#[]⟩:ByteArray)]) 4 40:=⟨Oy⟩
instance ib26:Bld prog 26 [.int .i64 0,.int .i64 0,.int .i64 0,.string (⟨#[]⟩:ByteArray)] [0,1,2,3]:=⟨trivial⟩
instance in27:NAg prog 27:=⟨⟨_,FR,rfl⟩⟩
instance iz27:Siz prog 27 1:=⟨Aai⟩
instance ie27:Zer prog 27 (.int .i64 0):=⟨ze27⟩
instance in38:NAg prog 38:=⟨⟨_,Tryz.underlying38,rfl⟩⟩
instance il38:Slc prog 38 137:=⟨Tryz.underlying38⟩
instance in41:NAg prog 41:=⟨⟨_,Tryz.underlying41,rfl⟩⟩
instance il41:Slc prog 41 93:=⟨Tryz.underlying41⟩
instance ib46:Bld prog 46 [.slice none 0 0,.int .i64 0,.int .i64 0] [0,1,2]:=⟨trivial⟩
instance if47_0:Fld prog 47 0 0:=⟨⟨_,_,_,Tryz.underlying47,rfl,rfl,sz41,rfl⟩⟩
instance if47_1:Fld prog 47 1 1:=⟨⟨_,_,_,Tryz.underlying47,rfl,rfl,sz3,rfl⟩⟩
instance if47_2:Fld prog 47 2 2:=⟨⟨_,_,_,Tryz.underlying47,rfl,rfl,sz3,rfl⟩⟩
instance ib47:Bld prog 47 [.slice none 0 0,.int .i64 0,.int .i64 0] [0,1,2]:=⟨trivial⟩
instance in50:NAg prog 50:=⟨⟨_,AE,rfl⟩⟩
instance il50:Slc prog 50 22:=⟨AE⟩
instance iz50:Siz prog 50 1:=⟨sz50⟩
instance ie50:Zer prog 50 (.slice none 0 0):=⟨ze50⟩
instance ii50:Zis prog 50 (.slice none 0 0) 1 24:=⟨zi50⟩
instance in54:NAg prog 54:=⟨⟨_,FQ,rfl⟩⟩
instance ib56:Bld prog 56 [.map none,.int .i64 0] [0,1]:=⟨trivial⟩
instance if57_0:Fld prog 57 0 0:=⟨⟨_,_,_,Tryz.underlying57,rfl,rfl,sz54,rfl⟩⟩
instance if57_1:Fld prog 57 1 1:=⟨⟨_,_,_,Tryz.underlying57,rfl,rfl,Aai,rfl⟩⟩
instance ib57:Bld prog 57 [.map none,.int .i64 0] [0,1]:=⟨trivial⟩
instance il62:Slc prog 62 83:=⟨FP⟩
instance in68:NAg prog 68:=⟨⟨_,Bj,rfl⟩⟩
instance il68:Slc prog 68 3:=⟨Bj⟩
instance iz68:Siz prog 68 1:=⟨sz68⟩
instance ie68:Zer prog 68 (.slice none 0 0):=⟨ze68⟩
instance ib71:Bld prog 71 [.slice none 0 0,.slice none 0 0] [0,1]:=⟨trivial⟩
instance ia72:Agg prog 72 2:=⟨⟨_,Tryz.underlying72,rfl,sz72⟩⟩
instance if72_0:Fld prog 72 0 0:=⟨⟨_,_,_,Tryz.underlying72,rfl,rfl,GK,rfl⟩⟩
instance if72_1:Fld prog 72 1 1:=⟨⟨_,_,_,Tryz.underlying72,rfl,rfl,GK,rfl⟩⟩
instance iz72:Siz prog 72 2:=⟨sz72⟩
instance ie72:Zer prog 72 (.agg #[.slice none 0 0,.slice none 0 0]):=⟨ze72⟩
instance ii72:Zis prog 72 (.agg #[.slice none 0 0,.slice none 0 0]) 2 48:=⟨ZT⟩
instance ib72:Bld prog 72 [.slice none 0 0,.slice none 0 0] [0,1]:=⟨trivial⟩
instance il73:Slc prog 73 72:=⟨Ej⟩
instance ib82:Bld prog 82 [.int .i64 0,.int .i64 0] [0,1]:=⟨trivial⟩
instance ia83:Agg prog 83 2:=⟨⟨_,EO,rfl,AbU⟩⟩
instance if83_0:Fld prog 83 0 0:=⟨⟨_,_,_,EO,rfl,rfl,sz3,rfl⟩⟩
instance if83_1:Fld prog 83 1 1:=⟨⟨_,_,_,EO,rfl,rfl,sz3,rfl⟩⟩
instance iz83:Siz prog 83 2:=⟨AbU⟩
instance ie83:Zer prog 83 (.agg #[.int .i64 0,.int .i64 0]):=⟨ze83⟩
instance ii83:Zis prog 83 (.agg #[.int .i64 0,.int .i64 0]) 2 16:=⟨zi83⟩
instance ib83:Bld prog 83 [.int .i64 0,.int .i64 0] [0,1]:=⟨trivial⟩
instance ib84:Bld prog 84 [.slice none 0 0,.int .i64 0,.int .i64 0] [0,1,2]:=⟨trivial⟩
instance if85_0:Fld prog 85 0 0:=⟨⟨_,_,_,Tryz.underlying85,rfl,rfl,sz38,rfl⟩⟩
instance if85_1:Fld prog 85 1 1:=⟨⟨_,_,_,Tryz.underlying85,rfl,rfl,sz3,rfl⟩⟩
instance if85_2:Fld prog 85 2 2:=⟨⟨_,_,_,Tryz.underlying85,rfl,rfl,sz3,rfl⟩⟩
instance ib85:Bld prog 85 [.slice none 0 0,.int .i64 0,.int .i64 0] [0,1,2]:=⟨trivial⟩
instance ib86:Bld prog 86 [.int .i64 0,.int .i64 0,.int .i64 0,.string (⟨#[]⟩:ByteArray),.slice none 0 0,.int .i64 0,.int .i64 0] [0,4,5,6]:=⟨trivial⟩
instance ia87:Agg prog 87 7:=⟨⟨_,DG,rfl,AbT⟩⟩
instance if87_0:Fld prog 87 0 0:=⟨⟨_,_,_,DG,rfl,rfl,Hr,rfl⟩⟩
instance if87_1:Fld prog 87 1 4:=⟨⟨_,_,_,DG,rfl,rfl,sz50,rfl⟩⟩
instance if87_2:Fld prog 87 2 5:=⟨⟨_,_,_,DG,rfl,rfl,sz3,rfl⟩⟩
instance if87_3:Fld prog 87 3 6:=⟨⟨_,_,_,DG,rfl,rfl,sz3,rfl⟩⟩
instance iz87:Siz prog 87 7:=⟨AbT⟩
instance ie87:Zer prog 87 (.agg #[.int .i64 0,.int .i64 0,.int .i64 0,.string (⟨#[]⟩:ByteArray),.slice none 0 0,.int .i64 0,.int .i64 0]):=⟨ze87⟩
instance ii87:Zis prog 87 (.agg #[.int .i64 0,.int .i64 0,.int .i64 0,.string (⟨#[]⟩:ByteArray),.slice none 0 0,.int .i64 0,.int .i64 0]) 7 80:=⟨zi87⟩
instance ib87:Bld prog 87 [.int .i64 0,.int .i64 0,.int .i64 0,.string (⟨#[]⟩:ByteArray),.slice none 0 0,.int .i64 0,.int .i64 0] [0,4,5,6]:=⟨trivial⟩
instance in91:NAg prog 91:=⟨⟨_,Tryz.underlying91,rfl⟩⟩
instance il91:Slc prog 91 50:=⟨Tryz.underlying91⟩
instance ib92:Bld prog 92 [.int .i64 0,.int .i64 0,.string (⟨#[]⟩:ByteArray),.slice none 0 0,.slice none 0 0,.slice none 0 0] [0,1,2,3,4,5]:=⟨trivial⟩
instance iz93:Siz prog 93 6:=⟨sz93⟩
instance ie93:Zer prog 93 (.agg #[.int .i64 0,.int .i64 0,.string (⟨#[]⟩:ByteArray),.slice none 0 0,.slice none 0 0,.slice none 0 0]):=⟨ze93⟩
instance ib93:Bld prog 93 [.int .i64 0,.int .i64 0,.string (⟨#[]⟩:ByteArray),.slice none 0 0,.slice none 0 0,.slice none 0 0] [0,1,2,3,4,5]:=⟨trivial⟩
instance il110:Slc prog 110 87:=⟨Tryz.underlying110⟩
instance ib118:Bld prog 118 [.slice none 0 0,.bool false,.bool false,.bool false] [0,1,2,3]:=⟨trivial⟩
instance if119_0:Fld prog 119 0 0:=⟨⟨_,_,_,Ez,rfl,rfl,sz68,rfl⟩⟩
instance if119_1:Fld prog 119 1 1:=⟨⟨_,_,_,Ez,rfl,rfl,sz4,rfl⟩⟩
instance if119_2:Fld prog 119 2 2:=⟨⟨_,_,_,Ez,rfl,rfl,sz4,rfl⟩⟩
instance if119_3:Fld prog 119 3 3:=⟨⟨_,_,_,Ez,rfl,rfl,sz4,rfl⟩⟩
instance iz119:Siz prog 119 4:=⟨Ur⟩
instance ie119:Zer prog 119 (.agg #[.slice none 0 0,.bool false,.bool false,.bool false]):=⟨ze119⟩
instance ib119:Bld prog 119 [.slice none 0 0,.bool false,.bool false,.bool false] [0,1,2,3]:=⟨trivial⟩
instance ib128:Bld prog 128 [.slice none 0 0,.int .i64 0] [0,1]:=⟨trivial⟩
instance ia129:Agg prog 129 2:=⟨⟨_,Am,rfl,Cc⟩⟩
instance if129_0:Fld prog 129 0 0:=⟨⟨_,_,_,Am,rfl,rfl,GK,rfl⟩⟩
instance if129_1:Fld prog 129 1 1:=⟨⟨_,_,_,Am,rfl,rfl,Aai,rfl⟩⟩
instance iz129:Siz prog 129 2:=⟨Cc⟩
instance ie129:Zer prog 129 (.agg #[.slice none 0 0,.int .i64 0]):=⟨ze129⟩
instance ii129:Zis prog 129 (.agg #[.slice none 0 0,.int .i64 0]) 2 32:=⟨Xj⟩
instance ib129:Bld prog 129 [.slice none 0 0,.int .i64 0] [0,1]:=⟨trivial⟩
instance iz137:Siz prog 137 6:=⟨sz137⟩
instance ie137:Zer prog 137 (.agg #[.int .i64 0,.int .i64 0,.string (⟨#[]⟩:ByteArray),.slice none 0 0,.slice none 0 0,.slice none 0 0]):=⟨ze137⟩
instance ib137:Bld prog 137 [.int .i64 0,.int .i64 0,.string (⟨#[]⟩:ByteArray),.slice none 0 0,.slice none 0 0,.slice none 0 0] [0,1,2,3,4,5]:=⟨trivial⟩
instance il145:Slc prog 145 129:=⟨DP⟩
instance in165:NAg prog 165:=⟨⟨_,Fz,rfl⟩⟩
instance if167_0:Fld prog 167 0 0:=⟨⟨_,_,_,Tryz.underlying167,rfl,rfl,Aai,rfl⟩⟩
instance ib168:Bld prog 168 [.int .i64 0,.slice none 0 0,.slice none 0 0,.slice none 0 0,.slice none 0 0] [0,1,2,3,4]:=⟨trivial⟩
instance if169_0:Fld prog 169 0 0:=⟨⟨_,_,_,Ho,rfl,rfl,Aaj,rfl⟩⟩
instance if169_1:Fld prog 169 1 1:=⟨⟨_,_,_,Ho,rfl,rfl,GK,rfl⟩⟩
instance if169_2:Fld prog 169 2 2:=⟨⟨_,_,_,Ho,rfl,rfl,GK,rfl⟩⟩
instance if169_3:Fld prog 169 3 3:=⟨⟨_,_,_,Ho,rfl,rfl,GK,rfl⟩⟩
instance if169_4:Fld prog 169 4 4:=⟨⟨_,_,_,Ho,rfl,rfl,sz91,rfl⟩⟩
instance ib169:Bld prog 169 [.int .i64 0,.slice none 0 0,.slice none 0 0,.slice none 0 0,.slice none 0 0] [0,1,2,3,4]:=⟨trivial⟩
instance ib174:Bld prog 174 [.int .i64 0,.slice none 0 0,.slice none 0 0,.slice none 0 0,.int .i64 0,.int .i64 0,.int .i64 0,.string (⟨#[]⟩:ByteArray)] [0,1,2,3,4]:=⟨trivial⟩
instance if175_0:Fld prog 175 0 0:=⟨⟨_,_,_,Hn,rfl,rfl,Aaj,rfl⟩⟩
instance if175_1:Fld prog 175 1 1:=⟨⟨_,_,_,Hn,rfl,rfl,GK,rfl⟩⟩
instance if175_2:Fld prog 175 2 2:=⟨⟨_,_,_,Hn,rfl,rfl,GK,rfl⟩⟩
instance if175_3:Fld prog 175 3 3:=⟨⟨_,_,_,Hn,rfl,rfl,GK,rfl⟩⟩
instance if175_4:Fld prog 175 4 4:=⟨⟨_,_,_,Hn,rfl,rfl,Hr,rfl⟩⟩
instance ib175:Bld prog 175 [.int .i64 0,.slice none 0 0,.slice none 0 0,.slice none 0 0,.int .i64 0,.int .i64 0,.int .i64 0,.string (⟨#[]⟩:ByteArray)] [0,1,2,3,4]:=⟨trivial⟩
instance in176:NAg prog 176:=⟨⟨_,Tryz.underlying176,rfl⟩⟩
instance in177:NAg prog 177:=⟨⟨_,Tryz.underlying177,rfl⟩⟩
instance ib178:Bld prog 178 [.nilFunc,.nilFunc] [0,1]:=⟨trivial⟩
instance if179_0:Fld prog 179 0 0:=⟨⟨_,_,_,Tryz.underlying179,rfl,rfl,sz176,rfl⟩⟩
instance if179_1:Fld prog 179 1 1:=⟨⟨_,_,_,Tryz.underlying179,rfl,rfl,sz177,rfl⟩⟩
instance iz179:Siz prog 179 2:=⟨sz179⟩
instance ie179:Zer prog 179 (.agg #[.nilFunc,.nilFunc]):=⟨ze179⟩
instance ib179:Bld prog 179 [.nilFunc,.nilFunc] [0,1]:=⟨trivial⟩
instance iz180:Siz prog 180 14:=⟨sz180⟩
instance ie180:Zer prog 180 (.agg #[.nilFunc,.nilFunc,.nilFunc,.nilFunc,.nilFunc,.nilFunc,.nilFunc,.nilFunc,.nilFunc,.nilFunc,.nilFunc,.nilFunc,.nilFunc,.nilFunc]):=⟨ze180⟩
instance ib180:Bld prog 180 [.nilFunc,.nilFunc,.nilFunc,.nilFunc,.nilFunc,.nilFunc,.nilFunc,.nilFunc,.nilFunc,.nilFunc,.nilFunc,.nilFunc,.nilFunc,.nilFunc] [0,2,4,6,8,10,12]:=⟨trivial⟩
instance in182:NAg prog 182:=⟨⟨_,Tryz.underlying182,rfl⟩⟩
instance ib183:Bld prog 183 [.int .i64 0,.int .i64 0,.int .i64 0,.int .i64 0,.string (⟨#[]⟩:ByteArray),.int .i64 0,.int .i64 0,.int .i64 0,.string (⟨#[]⟩:ByteArray),.slice none 0 0,.slice none 0 0,.slice none 0 0] [0,1,5,9,10,11]:=⟨trivial⟩
instance if184_0:Fld prog 184 0 0:=⟨⟨_,_,_,Fy,rfl,rfl,Aaj,rfl⟩⟩
instance if184_1:Fld prog 184 1 1:=⟨⟨_,_,_,Fy,rfl,rfl,Hr,rfl⟩⟩
instance if184_2:Fld prog 184 2 5:=⟨⟨_,_,_,Fy,rfl,rfl,Hr,rfl⟩⟩
instance if184_3:Fld prog 184 3 9:=⟨⟨_,_,_,Fy,rfl,rfl,sz50,rfl⟩⟩
instance if184_4:Fld prog 184 4 10:=⟨⟨_,_,_,Fy,rfl,rfl,sz50,rfl⟩⟩
instance if184_5:Fld prog 184 5 11:=⟨⟨_,_,_,Fy,rfl,rfl,sz91,rfl⟩⟩
instance ib184:Bld prog 184 [.int .i64 0,.int .i64 0,.int .i64 0,.int .i64 0,.string (⟨#[]⟩:ByteArray),.int .i64 0,.int .i64 0,.int .i64 0,.string (⟨#[]⟩:ByteArray),.slice none 0 0,.slice none 0 0,.slice none 0 0] [0,1,5,9,10,11]:=⟨trivial⟩
instance ia199:Agg prog 199 2:=⟨⟨_,Tryz.underlying199,rfl,sz199⟩⟩
instance iz199:Siz prog 199 2:=⟨sz199⟩
instance ie199:Zer prog 199 (.agg #[.int .i64 0,.int .i64 0]):=⟨ze199⟩
instance ib199:Bld prog 199 [.int .i64 0,.int .i64 0] [0,1]:=⟨trivial⟩
instance in214:NAg prog 214:=⟨⟨_,Tryz.underlying214,rfl⟩⟩
instance ib225:Bld prog 225 [.pointer none,.pointer none,.pointer none,.string (⟨#[]⟩:ByteArray)] [0,1,2,3]:=⟨trivial⟩
instance ib226:Bld prog 226 [.pointer none,.pointer none,.pointer none,.string (⟨#[]⟩:ByteArray)] [0,1,2,3]:=⟨trivial⟩
def ok6:FOK prog 6:=fok func6 rfl rfl
def ok7:FOK prog 7:=fok func7 rfl rfl
def ok8:FOK prog 8:=fok func8 rfl rfl
def ok13:FOK prog 13:=fok func13 rfl rfl
def ok47:FOK prog 47:=fok func47 rfl rfl
def ok53:FOK prog 53:=fok func53 rfl rfl
def Zk:FOK prog 54:=fok func54 rfl rfl
def ok74:FOK prog 74:=fok func74 rfl rfl
def ok75:FOK prog 75:=fok func75 rfl rfl
def ok76:FOK prog 76:=fok func76 rfl rfl
def ok77:FOK prog 77:=fok func77 rfl rfl
def ok78:FOK prog 78:=fok func78 rfl rfl
def ok79:FOK prog 79:=fok func79 rfl rfl
def ok82:FOK prog 82:=fok func82 rfl rfl
def ok83:FOK prog 83:=fok func83 rfl rfl
def ok94:FOK prog 94:=fok func94 rfl rfl
def ok107:FOK prog 107:=fok func107 rfl rfl
def ok140:FOK prog 140:=fok func140 rfl rfl
def ok141:FOK prog 141:=fok func141 rfl rfl
def ok145:FOK prog 145:=fok func145 rfl rfl
def ok154:FOK prog 154:=fok func154 rfl rfl
def ok200:FOK prog 200:=fok func200 rfl rfl
def ok204:FOK prog 204:=fok func204 rfl rfl
def ok209:FOK prog 209:=fok func209 rfl rfl
def ok211:FOK prog 211:=fok func211 rfl rfl
def ok215:FOK prog 215:=fok func215 rfl rfl
def ok216:FOK prog 216:=fok func216 rfl rfl
def ok218:FOK prog 218:=fok func218 rfl rfl
def ok219:FOK prog 219:=fok func219 rfl rfl
def ok220:FOK prog 220:=fok func220 rfl rfl
end
section
open Go Go.RowKit
section
variable {Next:zC} {l:zD}
def Lz(w:zH)(m n:Nd): (Op.equalIn 10000 26 (.agg (Ei m).toArray) (.agg (Ei n).toArray)).run prog w=.ok (decide (m=n)) w:=by
 have h1:prog.underlying 26=some (.struct (prog.fieldsOf 26)):=by kernel_rfl
 have h2:prog.stoodInHeld 26=false:=by kernel_rfl
 have h3 : (prog.fieldsOf 26).toList.map (fun f => (f.name == "_", f.type, f.offset)) = [(false, 3, 0), (false, 3, 1), (false, 3, 2), (false, 9, 3)] := by kernel_rfl
 rw [run_equalIn_agg w 9999 _ _ _ h1 h2];generalize (prog.fieldsOf 26).toList=fs at h3;rcases fs with _|⟨f1,_|⟨f2,_|⟨f3,_|⟨f4,_|⟨f5,fs⟩⟩⟩⟩⟩
 ·simp at h3
 ·simp at h3
 ·simp at h3
 ·simp at h3
 ·simp only [AA,AP,List.cons.injEq,Ed,and_true,beq_eq_false_iff_ne] at h3;obtain ⟨⟨a1,a2,a3⟩,⟨b1,b2,b3⟩,⟨c1,c2,c3⟩,d1,d2,d3⟩:=h3;have hi:∀w,(isAgg 3).run prog w=.ok false w:=fun w=>Hv A8 w;have hs:∀w,(isAgg 9).run prog w=.ok false w:=fun w=>Hv D7 w;have e1:∀w x y,(Op.equalIn 9999 3 (.int .i64 x) (.int .i64 y)).run prog w=.ok (x == y) w:=fun w x y=>run_equalIn_int w 9998 _ _ _ _ _ A8;have e2:∀w x y,(Op.equalIn 9999 9 (.string x) (.string y)).run prog w=.ok (x.toList == y.toList) w:=fun w x y=>run_equalIn_string w 9998 _ _ _ D7;simp only [Op.eqFields,a1,b1,c1,d1,ne_eq,not_false_eq_true,if_true,a2,a3,b2,b3,c2,c3,d2,d3,part,AB,hi,hs,Ay,Bool.false_eq_true,if_false,Ei];simp only [List.getElem?_toArray,List.getElem?_cons_zero,List.getElem?_cons_succ,Ba,Ay,e1,e2,toList_eq,Sem.run_ite];by_cases q1:m.K=n.K<;>by_cases q2:m.N=n.N<;>by_cases q3:m.M=n.M<;>by_cases q4:m.S=n.S<;>simp [q1,q2,q3,q4,AaS,e1,e2,toList_eq]
 ·simp at h3
def LC(a:BinOp)(x y:zJ)(m n:Nd): (eqGuard a 26 x y (.agg (Ei m).toArray) (.agg (Ei n).toArray)).run prog w=.ok () w:=
 run_eqGuard_agg w a _ x y _ _ zU
def R7{m n:Nd}(hs:SteV prog X Next o a w)(c:Reg a N l)(hd:o.dst=some d)(g:o.op=.binOp .eql 26 x y u)(f:ev l x=some (.agg (Ei m).toArray))(e:ev l y=some (.agg (Ei n).toArray))(b:d<N)
  (k:∀a',Reg a' N ((d,.bool (decide (m=n)))::l)->Next a' w):X:=by
 refine C6 hs c hd b ?_ k;unfold execOp;rw [g];simp only [c.ev f,c.ev e,AB,LC,Ay,run_eql_struct,Lz,Ba]
def R6{m n:Nd}(hs:SteV prog X Next o a w)(c:Reg a N l)(hd:o.dst=some d)(g:o.op=.binOp .neq 26 x y u)(f:ev l x=some (.agg (Ei m).toArray))(e:ev l y=some (.agg (Ei n).toArray))(b:d<N)
  (k:∀a',Reg a' N ((d,.bool (!decide (m=n)))::l)->Next a' w):X:=by
 refine C6 hs c hd b ?_ k;unfold execOp;rw [g];simp only [c.ev f,c.ev e,AB,LC,Ay,run_neq_struct,Lz,Ba]
end
end
section
open Go Go.RowKit
section
variable {m:zO} {ds:zP}
def Xa(w0:zH)(Z:zG)(a:zP)(g:Nat)(t:zI)(cs:zF)(hb:(Res.box g t cs).holds w0)(h:∀d∈a,d.φ w0 (imm Z w0 [.box g t cs] w0)): St w0 Z (·=g) w0 [.box g t cs] a:=
 ⟨rfl,rfl,rfl,Ag _,fun _ _ _=>rfl,(fun r h=>by rw [A7] at h;subst h;exact hb),(fun r h k e=>by
  rw [A7] at h;subst h;have:g=k:=by simpa [Res.blk] using e
  subst this
  exact ⟨(AO.1 hb).1,.inr rfl⟩),.cons (fun _ h=>by cases h) .nil,h⟩
def Tv{g:Nat}(b:∀k,Z k->k<w0.heap.size)(hg:¬Z g)(hk:Z k): imm Z w0 [.box g t cs] w0 k/\w0.heap[k]?=w0.heap[k]?:=
 ⟨⟨b k hk,fun _=>hk,fun r a e=>by
  rw [A7] at a;subst a;have:g=k:=by simpa [Res.blk] using e
  subst this
  exact hg hk⟩,rfl⟩
def St.callM(h:St w0 Z M w m ds){g:Nat}(hi:m[i]?=some (.box g t cs))(hf:Fr (·=g) w w')(hb:(Res.box g t cs').holds w'): St w0 Z M w' (m.set i (.box g t cs')) ds:=
 h.turn hi hf.os hf.tape hf.output hf.size (fun k hk a=>hf.old k hk (fun e=>a (by rw [e];rfl))) hb (fun k hk=>by
  have:g=k:=by simpa [Res.blk] using hk
  subst this
  exact ⟨(AO.1 hb).1,.inl rfl⟩)
def Abl{g:Nat}(hi:m[i]?=some (.box g t cs))(h:imm Z w0 m w k): imm Z w0 (m.set i (.box g t cs')) w k:=
 ⟨h.1,h.2.1,fun r a e=>by
  rcases List.mem_or_eq_of_mem_set a with a|rfl
  ·exact h.2.2 r a e
  ·exact h.2.2 _ (A0 hi) e⟩
def Abn{g:Nat}(hi:m[i]?=some (.box g t cs)):¬imm Z w0 m w g:=fun h=>h.2.2 _ (A0 hi) rfl
def St.row_dataM{g:Nat}(h:St w0 Z (·=g) w m ds){n e:Nat}
  (hi:m[i]?=some (.row A n cap e size xs)) {j:Nat} {t:zI} {cs:zF} (hj:m[j]?=some (.box g t cs)) (k:i≠j):St w0 Z (·=g) w (m.eraseIdx i) ds/\RowI w (imm Z w0 (m.eraseIdx i) w) size A n xs:=by
 have f:w.ownsRow 0 e size (.slice A n cap) n xs:=h.res hi;refine ⟨h.drop _ (List.eraseIdx_sublist m i),f.1,fun hn=>?_⟩;obtain ⟨b,rfl⟩:=Gc f hn;refine ⟨_,rfl,⟨(h.own _ (A0 hi) b rfl).1,fun hlt=>?_,fun r c e=>?_⟩,fun j u p=>f.cells (g:=b) rfl j u p⟩
 ·
  rcases (h.own _ (A0 hi) b rfl).2 with o|o
  ·have l:b<w0.heap.size:=hlt;omega
  ·have hb:b=g:=o;subst hb;exact absurd rfl (Cv h.apart k hi hj rfl)
 obtain ⟨j',a⟩:=List.mem_iff_getElem?.1 c;rw [List.getElem?_eraseIdx] at a;by_cases d:j'<i
 ·rw [Ae d] at a;exact Cv h.apart (by omega:j'≠i) a hi e rfl
 ·rw [Ac d] at a;exact Cv h.apart (by omega:j'+1≠i) a hi e rfl
end
end
section
open Go Go.RowKit
abbrev Sl:=zE×Nat×zM
abbrev zN:=List Sl
def slz:Sl:=(none,0,[])
def Gu(s:Sl): zF:=[.slice s.1 s.2.2.length s.2.1]
def Bh(l:zN): zF:=l.flatMap Gu
def At(t:zN)(k:Nat): Sl:=t.getD k slz
def Dr(s:Sl): (Gu s).length=1:=rfl
def DF(l:zN):∀u∈Bh l,u.oneCell'=true:=by
 intro u a;obtain ⟨n,_,hn⟩:=List.mem_flatMap.1 a;simp [Gu] at hn;subst hn;rfl
def Gp{t:zN}(h:RowI w I 1 A t.length (Bh t))(hk:k<t.length): ElemAt w A (k*1) (Gu (At t k)):=by
 have:=h.elem hk;rwa [show (Bh t)=t.flatMap Gu from rfl,Hi Dr t k hk slz] at this
def Fq{e:Nat}{t:zN}(h:(Res.row A t.length cap e 1 (Bh t)).holds w)(hk:k<t.length): ElemAt w A (k*1) (Gu (At t k)):=by
 have:=HN h hk;rwa [show (Bh t)=t.flatMap Gu from rfl,Hi Dr t k hk slz] at this
def BS(t:zN): Dat:=⟨fun w I=>∀s∈t,s.2.2.length<=s.2.1/\RowI w I 4 s.1 s.2.2.length (B2 s.2.2),fun _ _ _ _ _ h hk s hs=>⟨(h s hs).1,(h s hs).2.mono hk⟩⟩
def Jl{t:zN}(h:k<t.length): At t k∈t:=by
 have:At t k=t[k]:=by simp [At,h]
 rw [this];exact List.getElem_mem h
def all_at{t:zN}(h:(BS t).φ w I)(hk:k<t.length): (B6 4 (At t k).1 (At t k).2.2.length (At t k).2.1 (B2 (At t k).2.2)).φ w I:=h _ (Jl hk)
def B1: (BS []).φ w I:=fun _ h=>by cases h
def AU{c:Nat}{L:zM}{t:zN}(h:(B6 4 A L.length c (B2 L)).φ w I)(a:(BS t).φ w I): (BS ((A,c,L)::t)).φ w I:=fun s hs=>by
 rcases Aj.1 hs with rfl|hs
 ·exact h
 ·exact a s hs
def Dw{a b:zN}(c:(BS a).φ w I)(hb:(BS b).φ w I): (BS (a++b)).φ w I:=fun s hs=>by
 rcases Bi.1 hs with hs|hs
 ·exact c s hs
 ·exact hb s hs
def AK(t:zN): zL:=t.map (·.2.2)
end
section
open Go Go.RowKit
def CC(g:Nat)(cs:zF): Dat:=⟨fun w I=>I g/\CellsAt w ⟨g,0,none⟩ cs,fun _ _ _ _ _ h hk=>⟨(hk g h.1).1,h.2.keep (hk g h.1).2⟩⟩
def St.box_data{m:zO}{l:zP}(h:St w0 Z M w m l){g:Nat}
  (hi:m[i]?=some (.box g t cs)) (o:∀k,¬M k):St w0 Z M w (m.eraseIdx i) l/\(CC g cs).φ w (imm Z w0 (m.eraseIdx i) w):=by
 have n:(Res.box g t cs).holds w:=h.res hi;refine ⟨h.drop _ (List.eraseIdx_sublist m i),⟨(h.own _ (A0 hi) g rfl).1,fun hlt=>?_,fun r a e=>?_⟩,FL n⟩
 ·
  rcases (h.own _ (A0 hi) g rfl).2 with f|f
  ·have d:g<w0.heap.size:=hlt;omega
  ·exact absurd f (o g)
 obtain ⟨j,c⟩:=List.mem_iff_getElem?.1 a;rw [List.getElem?_eraseIdx] at c;by_cases b:j<i
 ·rw [Ae b] at c;exact Cv h.apart (by omega:j≠i) c hi e rfl
 ·rw [Ac b] at c;exact Cv h.apart (by omega:j+1≠i) c hi e rfl
def C5{g:Nat}(h:(CC g cs).φ w I)(hv:cs[j]?=some v): w.cell? ⟨g,j,none⟩=some v:=by
 have:=h.2 j v hv;rwa [show (⟨g,0,none⟩:Addr).add j=⟨g,j,none⟩ by unfold Addr.add;split<;>simp_all] at this
def GT{b:zC}{l:zD}{u i:Value}(hs:SteV P X b o a w)(f:Reg a N l)(hd:o.dst=some d)(j:o.op=.index t x y)(h:ev l x=some u)(g:ev l y=some i)
  (c:∀w,(Instr.index t u i).run P w=.ok v w) (e:d<N) (k:∀a',Reg a' N ((d,v)::l)->b a' w):X:=by
 refine C6 hs f hd e ?_ k;unfold execOp;rw [j];simp only [f.ev h,f.ev g,AB,c,Ay,Ba]
def CR{c:Code}{n:Nat}(h:c.wp P (Exit.then (Code.rounds P c Q n) Q) a w): Code.rounds P c Q (n+1) a w:=h
end
section
open Go Go.RowKit
variable {d:Dat}{ds:zP}{m:zO}{x:zH}
def D6(Q:zB): Prop:=∀c a d v w,Q (.panic c) (Act.put a d v) w->Q (.panic c) a w
def DL: D6 (bodyPost P fn R):=fun _ _ d _ _ h=>by
 cases d<;>exact h
def BJ(h:D6 Q): D6 (Exit.then K Q):=fun c a d v w hq=>h c a d v w hq
def Cd{b:Nat}(h:D6 Q): D6 (Exit.inBlock b Q):=fun c a d v w hq=>h c a d v w hq
def Ws
  {b n:Nat} (hm:P.follows .mixedOrders=true) (hn:ops.size=n) (d:St w0 Z M w m ds) (c:D6 Q)
  (h:∀(Q':zB),D6 Q'->(∀a w,Q .normal a w->Q' .normal a w)->∀w',St w0 Z M w' m ds->wpAnyH P .any ops Q' S n (Array.replicate n false) a w'):(Code.region b ops true).wp P Q a w:=
 Yq hm hn d (h Q c (fun _ _ h=>h))
section
variable {l:zD} {d:Nat} {x:zJ}
def sv(hg:o.guard=none:=by exact rfl): SteV P (wpList P ops Q (o::rest) a w) (wpList P ops Q rest) o a w:=IY hg
def se(hg:o.guard=none:=by exact rfl): Ste P (wpList P ops Q (o::rest) a w) (wpList P ops Q rest) o a w:=Uu hg
def mv(f:Reg a N l)(k:∀a',Reg a' N ((d,v)::l)->wpList P ops Q rest a' w)(hd:o.dst=some d:=by exact rfl)(e:o.op=.move x:=by exact rfl)(c:ev l x=some v:=by exact rfl)(b:d<N:=by decide)(hg:o.guard=none:=by exact rfl):
  wpList P ops Q (o::rest) a w:=DQ (IY hg) f hd e c b k
def asg(f:Reg a N l)(k:∀a',Reg a' N ((d,v)::l)->wpList P ops Q rest a' w)(hd:o.dst=some d:=by exact rfl)(e:o.op=.assign x:=by exact rfl)(c:ev l x=some v:=by exact rfl)(b:d<N:=by decide)(hg:o.guard=none:=by exact rfl):
  wpList P ops Q (o::rest) a w:=X9 (IY hg) f hd e c b k
def wt(e:Reg a N l)(hg:o.guard=some (j,b):=by exact rfl)(hj:ops[j]?=some oj:=by exact rfl)(c:oj.dst=some dj:=by exact rfl)(d:dj<N:=by decide)(hv:l.lookup dj=some (.bool b):=by exact rfl): Region.wanted o (yielded ops a.tmps)=true:=want_t e hg hj c d hv
def wff(e:Reg a N l)(hg:o.guard=some (j,b):=by exact rfl)(hj:ops[j]?=some oj:=by exact rfl)(c:oj.dst=some dj:=by exact rfl)(d:dj<N:=by decide)(hv:l.lookup dj=some (.bool b'):=by exact rfl)(hb:(b' == b)=false:=by exact rfl): Region.wanted o (yielded ops a.tmps)=false:=TW e hg hj c d hv hb
def wu(e:Reg a N l)(hg:o.guard=some (j,b):=by exact rfl)(hj:ops[j]?=some oj:=by exact rfl)(c:oj.dst=some dj:=by exact rfl)(d:dj<N:=by decide)(hv:l.lookup dj=some undef:=by exact rfl): Region.wanted o (yielded ops a.tmps)=false:=want_u e hg hj c d hv
def sy(c:Reg a N l)(hd:o.dst=some d:=by exact rfl)(b:d<N:=by decide): SteV P ((execOp a.eval o).run P w=.ok (.value V) w) (fun a' w'=>a'.tmps.getD d undef=V/\w'=w) o a w:=Xu c hd b
def gt(hd:d≠1000000:=by decide):∀a',Reg a' N ((d,V)::l)->(a'.tmps.getD d undef=V/\w=w):=fun _ h=>⟨h.get _ _ hd Ce,rfl⟩
section
def dt(i:Nat)(hi:ops[i]?=some oi)(k:D6 Q)(j:Reg a N l)(f:Region.wanted oi (yielded ops a.tmps)=true)(e:∀x,S x->(execOp a.eval oi).run P x=.ok (.value v) x)(g:S w)
  (h:∀a',Reg a' N ((d,v)::l)->wpAnyH P .any ops Q S fuel (listed.setIfInBounds i true) a' w) (hd:oi.dst=some d:=by exact rfl) (b:d<N:=by decide) (hs:Region.noSelect ops=true:=by kernel_rfl) (hf:Region.free .any ops listed i=true:=by kernel_rfl) (hr:(Region.ready .any ops listed).contains i=true:=by kernel_rfl):wpAnyH P .any ops Q S (fuel+1) listed a w:=
 Wr hi hs hf hr (fun c a w h=>k c _ _ _ _ h) hd b j f e g h
def dp(i:Nat)(hi:ops[i]?=some oi)(j:D6 Q)(g:Reg a N l)(e:Region.wanted oi (yielded ops a.tmps)=false)(f:S w)
  (h:∀a',Reg a' N ((d,undef)::l)->wpAnyH P .any ops Q S fuel (listed.setIfInBounds i true) a' w) (hd:oi.dst=some d:=by exact rfl) (b:d<N:=by decide) (hs:Region.noSelect ops=true:=by kernel_rfl) (hf:Region.free .any ops listed i=true:=by kernel_rfl) (hr:(Region.ready .any ops listed).contains i=true:=by kernel_rfl):wpAnyH P .any ops Q S (fuel+1) listed a w:=
 ZG hi hs hf hr (fun c a w h=>j c _ _ _ _ h) hd b g e f h
end
section
variable {c:zJ}
end
def bl:(∀b,(true&&b)=b)/\(∀b,(b&&true)=b)/\(∀b,(false&&b)=false)/\(∀b,(b&&false)=false)/\(∀b,(true||b)=true)/\(∀b,(b||true)=true)/\(∀b,(false||b)=b)/\(∀b,(b||false)=b)/\((!true)=false)/\((!false)=true)/\(∀a b:Int,(if True then a else b)=a)/\(∀a b:Int,(if False then a else b)=b)/\((false=true)=False)/\(∀a b:Bool,(if True then a else b)=a)/\(∀a b:Bool,(if False then a else b)=b):=by simp
def agr(w:zH)(J:zG)(x:zH): Prop:=w.heap.size<=x.heap.size/\∀k,J k->x.heap[k]?=w.heap[k]?
def cel(g j:Nat)(v:Value)(x:zH): Prop:=x.cell? ⟨g,j,none⟩=some v
def Qa(l:zD): zD->Prop
 | []=>True
 | (i,v)::l'=>l.lookup i=some v/\Qa l l'
def rnl:Qa l []:=trivial
def rc(h:l.lookup i=some v)(a:Qa l l'): Qa l ((i,v)::l'):=⟨h,a⟩
def rb(hv:l.lookup i=some (.bool B))(hb:b=B): l.lookup i=some (.bool b):=by rw [hv,hb]
def ri{B b:Int}(hv:l.lookup i=some (.int kd B))(hb:b=B): l.lookup i=some (.int kd b):=by rw [hv,hb]
def rs{n n' c:Nat}(hv:l.lookup i=some (.slice A n c))(hn:n'=n): l.lookup i=some (.slice A n' c):=by rw [hv,hn]
def Reg.sub(h:Reg a N l):∀{l'},Qa l l'->Reg a N l'
 | [],_=>h.nil
 | (_,_)::_,hs=>h.cons (h.sub hs.2) hs.1
end
section
def P6(w0:zH)(Z:zG): zP->Prop
 | []=>True
 | d::l=>d.φ w0 Z/\P6 w0 Z l
def zn:P6 w0 Z []:=trivial
def zc(h:d.φ w0 Z)(a:P6 w0 Z ds): P6 w0 Z (d::ds):=⟨h,a⟩
def zA{I:zG}(b:∀k,Z k->I k/\w0.heap[k]?=w0.heap[k]?):∀{ds:zP},P6 w0 Z ds->∀d∈ds,d.φ w0 I
 | [],_,_,hd=>by cases hd
 | d::l,h,x,a=>by
  rcases Aj.1 a with rfl|a
  ·exact Dat.mono _ _ _ _ _ (Ag _) h.1 b
  ·exact zA b h.2 x a
def s0(a:∀k,Z k->k<w0.heap.size)(h:P6 w0 Z ds): St w0 Z M w0 [] ds:=St.start w0 Z M ds (zA (fun k hk=>⟨⟨a k hk,fun _=>hk,fun _ h=>by cases h⟩,rfl⟩) h)
def sM{g:Nat}(hb:(Res.box g t cs).holds w0)(hg:¬Z g)(a:∀k,Z k->k<w0.heap.size)(h:P6 w0 Z ds): St w0 Z (·=g) w0 [.box g t cs] ds:=
 Xa w0 Z ds g t cs hb (zA (fun _ hk=>Tv a hg hk) h)
def St.rx(h:St w0 Z M w m ds)(i:Nat)(hi:ds[i]?=some d:=by exact rfl): d.φ w (nxt Z w0 w):=d.mono _ _ _ _ (Ag _) (h.get hi) (fun _ hk=>⟨D3 hk,rfl⟩)
def St.g(h:St w0 Z M w m ds)(i:Nat)(hi:ds[i]?=some d:=by exact rfl): d.φ w (imm Z w0 m w):=h.get hi
def St.z(h:St w0 Z M w m ds)(i:Nat){r:Res}(hi:m[i]?=some r:=by exact rfl): r.holds w:=h.res hi
def wsc{y:Code}{b:Nat}(h:∀K:zC,(∀a w,y.wp P Q a w->K a w)->wpList P ls.toArray (Exit.then K Q) ls a w): (Code.seq (Code.region b ls.toArray false) y).wp P Q a w:=
 wp_seq_k fun K c=>Cb (h K c)
def d1(i:Nat)(h:wpOp P ops Q i (fun a' w'=>S w'/\wpAnyH P .any ops Q S fuel (listed.setIfInBounds i true) a' w') a w)(hr:Region.ready .any ops listed=[i]:=by kernel_rfl): wpAnyH P .any ops Q S (fuel+1) listed a w:=d_one hr h
end
section
variable {m':zO} {ds':zP}
def NF(a b:α): Prop:=a=b
def NF.mk{a:α}: NF a a:=rfl
def St.nf(h:St w0 Z M w m ds)(hm:NF m m':=by first|(dsimp only [List.set_cons_zero,List.set_cons_succ,List.eraseIdx_cons_zero,List.eraseIdx_cons_succ,List.nil_append,List.cons_append];exact NF.mk)|exact NF.mk)
  (hd:NF ds ds':=by first|(dsimp only [List.nil_append,List.cons_append,List.eraseIdx_cons_zero,List.eraseIdx_cons_succ];exact NF.mk)|exact NF.mk):St w0 Z M w m' ds':=by
 unfold NF at hm hd;rw [<-hm,<-hd];exact h
def St.il(_:St w0 Z M w m ds):∀k,imm Z w0 m w k->k<w.heap.size:=fun _ h=>h.1
def St.dN(h0:St w0 Z M w m ds)(h:St w0 Z M w' m ds')(hd:d.φ w' (nxt (imm Z w0 m w) w w')): St w0 Z M w' m (ds'++[d]):=
 h.data d (d.mono _ _ _ _ (Ag _) hd fun _ hk=>⟨QC h0 hk,rfl⟩)
def St.dM{g:Nat}(h0:St w0 Z M w m ds)(i:Nat)(h:St w0 Z M w' (m.set i (.box g t cs')) ds')(hd:d.φ w' (nxt (imm Z w0 m w) w w'))(hi:m[i]?=some (.box g t cs):=by exact rfl): St w0 Z M w' (m.set i (.box g t cs')) (ds'++[d]):=
 h.data d (d.mono _ _ _ _ (Ag _) hd fun _ hk=>⟨Abl hi (QC h0 hk),rfl⟩)
structure sW (w:zH) (J:zG) (ps:List (zH->Prop)) (x:zH):Prop where
 ag:agr w J x
 at_:∀(i:Nat) (p:zH->Prop),ps[i]?=some p->p x
def sW.c{g:Nat}(h:sW w J ps x)(i:Nat)(hi:ps[i]?=some (cel g j v):=by exact rfl): x.cell? ⟨g,j,none⟩=some v:=h.at_ i _ hi
def sW.r{r:Res}(h:sW w J ps x)(i:Nat)(hi:ps[i]?=some r.holds:=by exact rfl): r.holds x:=h.at_ i _ hi
def psO(m:zO)(ps:List (zH->Prop)): Prop:=∀(i:Nat) (p:zH->Prop),ps[i]?=some p->∃r∈m,∀w,r.holds w->p w
def pn:psO m []:=fun i p h=>by simp at h
def pcons{p:zH->Prop}(a:∃r∈m,∀w,r.holds w->p w)(h:psO m ps): psO m (p::ps):=fun i q hq=>by
 cases i with
 | zero=>simp at hq;exact hq▸a
 | succ i=>exact h i q (by simpa using hq)
def pc(b j:Nat){g:Nat}(h:psO m ps)(hb:m[b]?=some (.box g t cs):=by exact rfl)(hc:cs[j]?=some v:=by exact rfl): psO m (cel g j v::ps):=
 pcons ⟨_,A0 hb,fun _ a=>EU a hc⟩ h
def S5(g:Nat): Nat->zF->List (zH->Prop)
 | _,[]=>[]
 | j,v::l=>cel g j v::S5 g (j+1) l
def WC{g:Nat}{x:zH}:∀{j:Nat} {l:zF},(∀i v,l[i]?=some v->cel g (j+i) v x)->∀p∈S5 g j l,p x
 | _,[],_,p,hp=>by cases hp
 | j,v::l,h,p,hp=>by
  rcases Aj.1 hp with rfl|hp
  ·exact h 0 v rfl
  ·exact WC (j:=j+1) (l:=l) (fun i v hi=>by rw [show j+1+i=j+(i+1) by omega];exact h (i+1) v hi) p hp
def psO.add(a:∀q∈qs,∃r∈m,∀w,r.holds w->q w)(h:psO m ps): psO m (qs++ps):=fun i p hi=>by
 rcases Nat.lt_or_ge i qs.length with hl|hl
 ·rw [List.getElem?_append_left hl] at hi;exact a p (A0 hi)
 ·rw [CZ hl] at hi;exact h _ p hi
def pB(b j:Nat){g:Nat}(h:psO m ps)(hb:m[b]?=some (.box g t cs):=by exact rfl): psO m (S5 g j (cs.drop j)++ps):=
 h.add fun q hq=>⟨_,A0 hb,fun _ a=>WC (fun i v hi=>EU a (by rw [List.getElem?_drop] at hi;exact hi)) q hq⟩
def pr(b:Nat){r:Res}(h:psO m ps)(hb:m[b]?=some r:=by exact rfl): psO m (r.holds::ps):=pcons ⟨_,A0 hb,fun _ a=>a⟩ h
def sWI(h:St w0 Z M w m ds)(i:Nat)(c:psO m ps)(hi:ds[i]?=some (dAg w1 J):=by exact rfl): sW w1 J ps w:=
 ⟨⟨(h.get hi).1,fun k hk=>((h.get hi).2 k hk).2⟩,fun i p hq=>by
  obtain ⟨r,b,a⟩:=c i p hq
  exact a _ (h.hold r b)⟩
def Il{c n:Nat}(f:St w0 Z M w m ds)(i:Nat)(e:psO m ps)(d:D6 Q)
  (h:∀(Q':zB),D6 Q'->(∀a w,Q .normal a w->Q' .normal a w)->∀w',St w0 Z M w' m ds->sW w1 J ps w'->wpAnyH P .any ops Q' (sW w1 J ps) n (Array.replicate n false) a w')
  (hm:P.follows .mixedOrders=true:=by exact Iz) (hn:ops.size=n:=by exact rfl) (hi:ds[i]?=some (dAg w1 J):=by exact rfl):(Code.region c ops true).wp P Q a w:=
 Ws hm hn f d fun Q' j g w' b=>h Q' j g w' b (sWI b i e hi)
def KS{P:Program}{b:Region.Mode}{ops:Array Oper}{Q:zB}{S e:zH->Prop}(c:∀x,e x->S x):∀{fuel:Nat} {listed:Array Bool} {a:Act} {w:zH},wpAnyH P b ops Q e fuel listed a w->wpAnyH P b ops Q S fuel listed a w
 | 0,_,_,_,h=>h
 | _+1,_,_,_,h=>⟨h.1,fun i hi=>wpOp_mono (fun _ _ d=>⟨c _ d.1,KS c d.2⟩) (h.2 i hi)⟩
def FJ{d:Region.Mode}(c:(dAg w1 J).φ w2 J2)
  (h:wpAnyH P d ops Q (sW w2 J2 ps) fuel listed a w):wpAnyH P d ops Q (sW w1 J ps) fuel listed a w:=
 KS (fun _ b=>⟨⟨Ax c.1 b.ag.1,fun k hk=>(b.ag.2 k (c.2 k hk).1).trans (c.2 k hk).2⟩,b.at_⟩) h
end
end
section
open Go Go.RowKit
section
variable {X:zC} {l:zD} {x y:Code}
def wct(c:Reg a N l)(hB:B=true)(h:Reg a N ((d,.bool true)::l)->x.wp P Q a w)(hv:l.lookup d=some (.bool B):=by exact rfl)(hd:Nat.beq d 1000000=false:=by exact rfl): (Code.cond (.tmp d) x y).wp P Q a w:=
 have b:=c.setb hv hB
 wp_cond_true (b.ev (by show cond (Nat.beq d 1000000) none _=_;rw [hd];simp)) (h b)
def wcf(c:Reg a N l)(hB:B=false)(h:Reg a N ((d,.bool false)::l)->y.wp P Q a w)(hv:l.lookup d=some (.bool B):=by exact rfl)(hd:Nat.beq d 1000000=false:=by exact rfl): (Code.cond (.tmp d) x y).wp P Q a w:=
 have b:=c.setb hv hB
 Dx (b.ev (by show cond (Nat.beq d 1000000) none _=_;rw [hd];simp)) (h b)
def wctb(b:Reg a N l)(hv:l.lookup d=some (.bool B))(hB:B=true)(h:Reg a N ((d,.bool true)::l)->x.wp P Q a w)(hd:Nat.beq d 1000000=false:=by exact rfl): (Code.cond (.tmp d) x y).wp P Q a w:=wct b hB h hv hd
def wcfb(b:Reg a N l)(hv:l.lookup d=some (.bool B))(hB:B=false)(h:Reg a N ((d,.bool false)::l)->y.wp P Q a w)(hd:Nat.beq d 1000000=false:=by exact rfl): (Code.cond (.tmp d) x y).wp P Q a w:=wcf b hB h hv hd
def bz:(∀a b:Bool,((a||b)=true)=(a=true\/b=true))/\(∀a b:Bool,((a&&b)=true)=(a=true/\b=true))/\(∀b:Bool,((!b)=true)=(b=false))/\(∀b:Bool,((!b)=false)=(b=true))/\
  (∀(p:Prop) [Decidable p],(decide p=true)=p)/\(∀(p:Prop) [Decidable p],(decide p=false)=¬p)/\(∀a b:Bool,((a||b)=false)=(a=false/\b=false))/\(∀a b:Bool,((a&&b)=false)=(a=false\/b=false)):=
 ⟨fun a b=>by cases a<;>cases b<;>simp,fun a b=>by cases a<;>cases b<;>simp,fun b=>by cases b<;>simp,fun b=>by cases b<;>simp,fun p _=>by simp,fun p _=>by simp,fun a b=>by cases a<;>cases b<;>simp,fun a b=>by cases a<;>cases b<;>simp⟩
end
section
variable {m:zO} {ds:zP} {Next:zC} {l:zD} {xs:List zJ}
def kr(hs:Ste P X Next o a w)(j:Reg a N l)(i:St w0 Z M w m ds)(hf:FOK P f)(hc:Calls P f vs.toArray w (fun e w'=>e=.returned v/\Fr Be w w'))
  (k:∀w',St w0 Z M w' m ds->∀a',Reg a' N ((d,v)::l)->Next a' w') (hd:o.dst=some d:=by exact rfl) (g:o.op=.call { callee:=.value (.func f),args:=xs.toArray,argTypes:=ts }:=by exact rfl) (c:evs l xs=some vs:=by exact rfl) (b:d<N:=by decide):X:=
 k_call hs j hd g c b hf hc fun _ w' h=>⟨v,h.1,k w' (i.below h.2.below)⟩
def ks{γ:Type}{V:α->β->γ->Value}{D:α->β->γ->Dat}{j:α->β->γ->Prop}(hs:Ste P X Next o a w)(r:Reg a N l)(i:St w0 Z M w m ds)(hf:FOK P f)(hc:Calls P f vs.toArray w (fun e w'=>∃A c L,e=.returned (V A c L)/\Fr Be w w'/\(D A c L).φ w' (nxt (imm Z w0 m w) w w')/\j A c L))
  (k:∀w' A c L,j A c L->St w0 Z M w' m (ds++[D A c L])->∀a',Reg a' N ((d,V A c L)::l)->Next a' w') (hd:o.dst=some d:=by exact rfl) (p:o.op=.call { callee:=.value (.func f),args:=xs.toArray,argTypes:=ts }:=by exact rfl) (n:evs l xs=some vs:=by exact rfl) (g:d<N:=by decide):X:=
 k_call hs r hd p n g hf hc fun _ w' ⟨A,c,L,q,b,h,hp⟩=>⟨_,q,k w' A c L hp (i.dN (i.below b.below) h)⟩
def k2{V:α->β->Value}{D:α->β->Dat}(hs:Ste P X Next o a w)(q:Reg a N l)(i:St w0 Z M w m ds)(hf:FOK P f)(hc:Calls P f vs.toArray w (fun e w'=>∃A c,e=.returned (V A c)/\Fr Be w w'/\(D A c).φ w' (nxt (imm Z w0 m w) w w')))
  (k:∀w' A c,St w0 Z M w' m (ds++[D A c])->∀a',Reg a' N ((d,V A c)::l)->Next a' w') (hd:o.dst=some d:=by exact rfl) (n:o.op=.call { callee:=.value (.func f),args:=xs.toArray,argTypes:=ts }:=by exact rfl) (j:evs l xs=some vs:=by exact rfl) (g:d<N:=by decide):X:=
 k_call hs q hd n j g hf hc fun _ w' ⟨A,c,p,b,h⟩=>⟨_,p,k w' A c (i.dN (i.below b.below) h)⟩
end
def cre{u:Value}(h:u=v): Ending.returned u=Ending.returned v:=congrArg _ h
section
variable {l:zD} {i2 j2:Nat} {u u2 v2:Value}
def rc2(h:Qa l l')(b:l.lookup i=some u:=by exact rfl)(a:l.lookup j=some v:=by exact rfl): Qa l ((i,u)::(j,v)::l'):=⟨b,a,h⟩
def rc4(h:Qa l l')(d:l.lookup i=some u:=by exact rfl)(c:l.lookup j=some v:=by exact rfl)(b:l.lookup i2=some u2:=by exact rfl)(a:l.lookup j2=some v2:=by exact rfl): Qa l ((i,u)::(j,v)::(i2,u2)::(j2,v2)::l'):=⟨d,c,b,a,h⟩
end
end
section
open Go Go.RowKit
def Mq{α:Type}: Nat->List α->Option (List α)
 | 0,l=>some l
 | _+1,[]=>none
 | n+1,_::l=>Mq n l
def VI(d:Nat): zD->Option zD
 | []=>none
 | (i,v)::l=>cond (Nat.beq i d) (some ((i,v)::l)) (VI d l)
def upJ(d:Nat): zD->zD
 | []=>[]
 | (i,v)::l=>cond (Nat.beq i d) [] ((i,v)::upJ d l)
def Si{d:Nat}:∀{l r:zD},VI d l=some r->l=upJ d l++r
 | [],_,h=>by cases h
 | (i,v)::l,r,h=>by
  unfold VI at h;unfold upJ;cases hb:Nat.beq i d with
  | true=>rw [hb] at h;cases h;rfl
  | false=>rw [hb] at h;rw [cond_false,List.cons_append,<-Si (l:=l) h]
def newK(a:Nat)(l m:zD): Bool:=m.all fun p=>!Nat.beq p.1 a&&(l.lookup p.1).isNone
def MG{i:Nat}{r:zD}:∀{m:zD},(∀p∈m,p.1≠i)->(m++r).lookup i=r.lookup i
 | [],_=>rfl
 | (d,v)::m,h=>by
  rw [List.cons_append,BW (Ne.symm (h (d,v) yB))];exact MG fun p hp=>h p (by simp [hp])
def gOK(j a:Nat)(q:Bool)(N:Nat)(l:zD)(o:Oper): Bool:=
 (match o.guard with|some (j',q')=>Nat.beq j' j&&q' == q|none=>false)&&
 (match o.dst with|some d=>decide (d<N)&&!Nat.beq d a&&(l.lookup d).isNone|none=>false)
section
variable {l:zD} {dp n:Nat} {q x:Bool} {X:zJ}
def Y8(h:Reg a N (m++(dj,.bool q)::l))(hm:newK dj l m=true)(hv:l.lookup dj=some (.bool b))(hb:b=q): Reg a N l:=by
 have d:∀i u,l.lookup i=some u->∀p∈m,p.1≠i/\p.1≠dj:=fun i u hi p hp=>by
  have c:=List.all_eq_true.1 hm p hp;simp only [A5,Cn] at c;exact ⟨fun e=>by rw [e,hi] at c;simp at c,fun e=>by rw [e] at c;simp at c⟩
 have hl:∀i u,l.lookup i=some u->(m++(dj,.bool q)::l).lookup i=some u:=fun i u hi=>by
  rw [MG fun p hp=>(d i u hi p hp).1];by_cases e:i=dj
  ·subst e;rw [Ce,<-hb,<-hv,hi]
  ·rw [BW e];exact hi
 exact ⟨fun q=>h.dfr (hl _ _ q),fun D q=>h.dfr1 D (hl _ _ q),h.top,h.size,fun i u hi f=>h.get i u hi (hl _ _ f)⟩
def Reg.pop(h:Reg a N ((d,v)::l))(hd:l.lookup d=none): Reg a N l:=by
 have hl:∀i u,l.lookup i=some u->((d,v)::l).lookup i=some u:=fun i u hi=>by
  rw [BW (fun e=>by rw [e,hd] at hi;cases hi)];exact hi
 exact ⟨fun q=>h.dfr (hl _ _ q),fun D q=>h.dfr1 D (hl _ _ q),h.top,h.size,fun i u hi b=>h.get i u hi (hl _ _ b)⟩
def gEnd(N a dp:Nat)(q x:Bool)(l:zD)(F:Act->Prop): Prop:=
 ∀(a':Act) (l2:zD),Reg a' N l2->VI a l2=some ((a,.bool q)::l)->newK a l (upJ a l2)=true->l2.lookup dp=some (.bool x)->F a'
def gEnd.fin(h:gEnd N dj dp q x l F)(b:Reg a N l2)(e:VI dj l2=some ((dj,.bool q)::l):=by exact rfl)(d:newK dj l (upJ dj l2)=true:=by kernel_rfl)(c:l2.lookup dp=some (.bool x):=by exact rfl): F a:=h a l2 b e d c
def gEnd.mk(hv:l.lookup dj=some (.bool b))(hb:b=q)(k:∀a',Reg a' N ((dp,.bool x)::l)->F a'): gEnd N dj dp q x l F:=fun a' l2 hR d c a=>
 k a' (hR.cons (Y8 (m:=upJ dj l2) (by rw [<-Si d];exact hR) c hv hb) a)
def UX(hj:ops[j]?=some oj)(f:oj.dst=some dj)(i:dj<N)(hv:l.lookup dj=some (.bool b))(hb:(b == q)=false):
  ∀(n:Nat) {L rest:List Oper} {a:Act},Reg a N l->(L.take n).all (gOK j dj q N l)=true->Mq n L=some rest->(∀a',Reg a' N l->wpList P ops Q rest a' w)->wpList P ops Q L a w
 | 0,L,rest,a,hR,_,h,k=>by cases h;exact k a hR
 | n+1,[],rest,a,_,_,h,_=>by cases h
 | n+1,o::L,rest,a,hR,hg,h,k=>by
  simp only [List.take_succ_cons,List.all_cons,A5,gOK] at hg;obtain ⟨⟨e,c⟩,p⟩:=hg;cases hgd:o.guard with
  | none=>rw [hgd] at e;cases e
  | some g=>
   obtain ⟨j',r⟩:=g;rw [hgd] at e;simp only [A5,beq_iff_eq] at e;rw [e.2,Nat.eq_of_beq_eq_true e.1] at hgd;cases hd:o.dst with
   | none=>rw [hd] at c;cases c
   | some d=>
    rw [hd] at c;simp only [A5,A9,Option.isNone_iff_eq_none] at c;refine YS hR hd c.1.1 (TW hR hgd hj f i hv hb) fun a' m=>?_;exact UX hj f i hv hb n (m.pop c.2) p h k
def NU(n:Nat)(x:Bool)(m:Reg a N l)(p:b=true->Reg a N ((dj,.bool true)::l)->gEnd N dj dp true x l (fun a'=>wpList P ops Q rest a' w)->wpList P ops Q L a w)
  (k:∀a',Reg a' N ((dp,.bool (b&&x))::l)->wpList P ops Q rest a' w)
  (h0:L.head?.bind (·.guard)=some (j,true):=by exact rfl) (hj:ops[j]?=some oj:=by exact rfl) (g:oj.dst=some dj:=by exact rfl) (hv:l.lookup dj=some (.bool b):=by exact rfl) (c:Mq (n+1) L=some rest:=by exact rfl)
  (e:Mq n L=some (op::rest):=by exact rfl) (hg:op.guard=none:=by exact rfl) (hd:op.dst=some dp:=by exact rfl) (o:op.op=.pick (.tmp dj) X (.const (.bool false)):=by exact rfl)
  (i:dj<N:=by decide) (d:dp<N:=by decide) (f:(L.take n).all (gOK j dj true N l)=true:=by kernel_rfl) (hc:Nat.beq dj 1000000=false:=by exact rfl):wpList P ops Q L a w:=by
 cases hb:b with
 | true=>
  refine p hb (m.setb hv hb) (.mk hv hb fun a' h=>k a' ?_);rw [hb,Bool.true_and];exact h
 | false=>
  refine UX hj g i (q:=true) hv (by rw [hb];rfl) n m f e fun u s=>?_;refine R5 (IY hg) s hd o (by show cond (Nat.beq dj 1000000) none _=_;rw [hc];simp only [cond_false];rw [hv,hb]) rfl d fun t r=>k t ?_;rw [hb,Bool.false_and];exact r
def l_or(n:Nat)(x:Bool)(m:Reg a N l)(p:b=false->Reg a N ((dj,.bool false)::l)->gEnd N dj dp false x l (fun a'=>wpList P ops Q rest a' w)->wpList P ops Q L a w)
  (k:∀a',Reg a' N ((dp,.bool (b||x))::l)->wpList P ops Q rest a' w)
  (h0:L.head?.bind (·.guard)=some (j,false):=by exact rfl) (hj:ops[j]?=some oj:=by exact rfl) (g:oj.dst=some dj:=by exact rfl) (hv:l.lookup dj=some (.bool b):=by exact rfl) (c:Mq (n+1) L=some rest:=by exact rfl)
  (e:Mq n L=some (op::rest):=by exact rfl) (hg:op.guard=none:=by exact rfl) (hd:op.dst=some dp:=by exact rfl) (o:op.op=.pick (.tmp dj) (.const (.bool true)) Y:=by exact rfl)
  (i:dj<N:=by decide) (d:dp<N:=by decide) (f:(L.take n).all (gOK j dj false N l)=true:=by kernel_rfl) (hc:Nat.beq dj 1000000=false:=by exact rfl):wpList P ops Q L a w:=by
 cases hb:b with
 | false=>
  refine p hb (m.setb hv hb) (.mk hv hb fun a' h=>k a' ?_);rw [hb,Bool.false_or];exact h
 | true=>
  refine UX hj g i (q:=false) hv (by rw [hb];rfl) n m f e fun u s=>?_;refine Fj (IY hg) s hd o (by show cond (Nat.beq dj 1000000) none _=_;rw [hc];simp only [cond_false];rw [hv,hb]) rfl d fun t r=>k t ?_;rw [hb,Bool.true_or];exact r
end
def Aak:Nat->Nat->Option Nat
 | 0,F=>some F
 | n+1,F+1=>Aak n F
 | _+1,0=>none
def Qk:∀{n F f:Nat},Aak n F=some f->F=f+n
 | 0,_,_,h=>by cases h;rfl
 | n+1,F+1,f,h=>by rw [Qk (n:=n) (F:=F) h];omega
 | _+1,0,_,h=>by cases h
def Xg(ops:Array Oper): List Nat->Array Bool->Bool
 | [],_=>true
 | i::is,L=>Region.free .any ops L i&&(Region.ready .any ops L).contains i&&Xg ops is (L.setIfInBounds i true)
def gAt(ops:Array Oper)(j a:Nat)(q:Bool)(N:Nat)(l:zD)(i:Nat): Bool:=match ops[i]? with|some o=>gOK j a q N l o|none=>false
def VE(a:List Nat)(L:Array Bool): Array Bool:=a.foldl (fun L i=>L.setIfInBounds i true) L
def Ng(f:Nat):∀n,Aak n (f+n)=some f
 | 0=>rfl
 | n+1=>Ng f n
def NY{ops:Array Oper}{a:Nat}:∀{is:List Nat} {L:Array Bool},Xg ops (is++[a]) L=true->Xg ops is L=true/\Region.free .any ops (VE is L) a=true/\(Region.ready .any ops (VE is L)).contains a=true
 | [],L,h=>by simp only [List.nil_append,Xg,A5] at h;exact ⟨rfl,h.1.1,h.1.2⟩
 | i::is,L,h=>by
  simp only [List.cons_append,Xg,A5] at h ⊢;have b:=NY h.2;exact ⟨⟨h.1,b.1⟩,b.2⟩
section
variable {l:zD} {dp:Nat} {q x:Bool} {F:Nat} {X:zJ}
def Q4(s:D6 Q)(hs:Region.noSelect ops=true)(r:S w)(hj:ops[j]?=some oj)(m:oj.dst=some dj)(n:dj<N)(hv:l.lookup dj=some (.bool b))(hb:(b == q)=false):
  ∀(is:List Nat) {listed:Array Bool} {a:Act} {F:Nat},Reg a N l->is.all (gAt ops j dj q N l)=true->Xg ops is listed=true->Aak is.length F=some fuel->(∀a',Reg a' N l->wpAnyH P .any ops Q S fuel (VE is listed) a' w)->wpAnyH P .any ops Q S F listed a w
 | [],listed,a,F,hR,_,_,h,k=>by cases h;exact k a hR
 | i::is,listed,a,F,hR,hg,hq,h,k=>by
  simp only [List.all_cons,A5,gAt] at hg;obtain ⟨hg,t⟩:=hg;cases hi:ops[i]? with
  | none=>rw [hi] at hg;cases hg
  | some o=>
   rw [hi] at hg;simp only [gOK,A5] at hg;obtain ⟨f,e⟩:=hg;cases hgd:o.guard with
   | none=>rw [hgd] at f;cases f
   | some g=>
    obtain ⟨j',u⟩:=g;rw [hgd] at f;simp only [A5,beq_iff_eq] at f;rw [f.2,Nat.eq_of_beq_eq_true f.1] at hgd;cases hd:o.dst with
    | none=>rw [hd] at e;cases e
    | some d=>
     rw [hd] at e;simp only [A5,A9,Option.isNone_iff_eq_none] at e;simp only [Xg,A5] at hq;cases F with
     | zero=>cases h
     | succ F=>
      refine ZG hi hs hq.1.1 hq.1.2 (fun c a w h=>s c _ _ _ _ h) hd e.1.1 hR (TW hR hgd hj m n hv hb) r fun a' p=>?_;exact Q4 s hs r hj m n hv hb is (p.pop e.2) t hq.2 h k
def d_and(f:Nat)(d:List Nat)(g:Nat)(x:Bool)(u:D6 Q)(t:Reg a N l)(s:S w)(C:b=true->Reg a N ((dj,.bool true)::l)->gEnd N dj dp true x l (fun a'=>wpAnyH P .any ops Q S fuel ((VE (f::d) listed).setIfInBounds g true) a' w)->wpAnyH P .any ops Q S F listed a w)
  (k:∀a',Reg a' N ((dp,.bool (b&&x))::l)->wpAnyH P .any ops Q S fuel ((VE (f::d) listed).setIfInBounds g true) a' w)
  (hi:ops[f]?=some o:=by exact rfl) (h0:o.guard=some (j,true):=by exact rfl) (hj:ops[j]?=some oj:=by exact rfl) (n:oj.dst=some dj:=by exact rfl) (hv:l.lookup dj=some (.bool b):=by exact rfl)
  (i:ops[g]?=some op:=by exact rfl) (hg:op.guard=none:=by exact rfl) (hd:op.dst=some dp:=by exact rfl) (B:op.op=.pick (.tmp dj) X (.const (.bool false)):=by exact rfl) (D:Aak (d.length+2) F=some fuel:=by exact rfl)
  (p:dj<N:=by decide) (e:dp<N:=by decide) (m:(f::d).all (gAt ops j dj true N l)=true:=by kernel_rfl) (hc:Nat.beq dj 1000000=false:=by exact rfl) (hne:dp≠1000000:=by decide) (hs:Region.noSelect ops=true:=by kernel_rfl) (A:Xg ops ((f::d)++[g]) listed=true:=by kernel_rfl):wpAnyH P .any ops Q S F listed a w:=by
 cases hb:b with
 | true=>
  refine C hb (t.setb hv hb) (.mk hv hb fun a' h=>k a' ?_);rw [hb,Bool.true_and];exact h
 | false=>
  obtain ⟨z,y,v⟩:=NY A;obtain rfl:F=fuel+1+(d.length+1):=by rw [Qk D];omega
  refine Q4 (fuel:=fuel+1) u hs s hj n p (q:=true) hv (by rw [hb];rfl) (f::d) t m z (Ng _ _) fun H r=>?_;refine Wr i hs y v (fun c a w h=>u c _ _ _ _ h) hd e r (A4 hg) (fun _ _=>R5 (sy r hd e) r hd B (by show cond (Nat.beq dj 1000000) none _=_;rw [hc];simp only [cond_false];rw [hv,hb]) rfl e (gt hne)) s fun G E=>k G ?_;rw [hb,Bool.false_and];exact E
def d_or(f:Nat)(d:List Nat)(g:Nat)(x:Bool)(u:D6 Q)(t:Reg a N l)(s:S w)(C:b=false->Reg a N ((dj,.bool false)::l)->gEnd N dj dp false x l (fun a'=>wpAnyH P .any ops Q S fuel ((VE (f::d) listed).setIfInBounds g true) a' w)->wpAnyH P .any ops Q S F listed a w)
  (k:∀a',Reg a' N ((dp,.bool (b||x))::l)->wpAnyH P .any ops Q S fuel ((VE (f::d) listed).setIfInBounds g true) a' w)
  (hi:ops[f]?=some o:=by exact rfl) (h0:o.guard=some (j,false):=by exact rfl) (hj:ops[j]?=some oj:=by exact rfl) (n:oj.dst=some dj:=by exact rfl) (hv:l.lookup dj=some (.bool b):=by exact rfl)
  (i:ops[g]?=some op:=by exact rfl) (hg:op.guard=none:=by exact rfl) (hd:op.dst=some dp:=by exact rfl) (B:op.op=.pick (.tmp dj) (.const (.bool true)) Y:=by exact rfl) (D:Aak (d.length+2) F=some fuel:=by exact rfl)
  (p:dj<N:=by decide) (e:dp<N:=by decide) (m:(f::d).all (gAt ops j dj false N l)=true:=by kernel_rfl) (hc:Nat.beq dj 1000000=false:=by exact rfl) (hne:dp≠1000000:=by decide) (hs:Region.noSelect ops=true:=by kernel_rfl) (A:Xg ops ((f::d)++[g]) listed=true:=by kernel_rfl):wpAnyH P .any ops Q S F listed a w:=by
 cases hb:b with
 | false=>
  refine C hb (t.setb hv hb) (.mk hv hb fun a' h=>k a' ?_);rw [hb,Bool.false_or];exact h
 | true=>
  obtain ⟨z,y,v⟩:=NY A;obtain rfl:F=fuel+1+(d.length+1):=by rw [Qk D];omega
  refine Q4 (fuel:=fuel+1) u hs s hj n p (q:=false) hv (by rw [hb];rfl) (f::d) t m z (Ng _ _) fun H r=>?_;refine Wr i hs y v (fun c a w h=>u c _ _ _ _ h) hd e r (A4 hg) (fun _ _=>Fj (sy r hd e) r hd B (by show cond (Nat.beq dj 1000000) none _=_;rw [hc];simp only [cond_false];rw [hv,hb]) rfl e (gt hne)) s fun G E=>k G ?_;rw [hb,Bool.true_or];exact E
end
end
section
open Go Go.RowKit
def pvI:BinOp->Int->Int->Option Value
 | .lss,p,q=>some (.bool (decide (p<q)))
 | .leq,p,q=>some (.bool (decide (p<=q)))
 | .gtr,p,q=>some (.bool (decide (q<p)))
 | .geq,p,q=>some (.bool (decide (q<=p)))
 | .eql,p,q=>some (.bool (decide (p=q)))
 | .neq,p,q=>some (.bool (!decide (p=q)))
 | _,_,_=>none
def pvB(a:BinOp): Option Value->Option Value->Option Value
 | some (.int .i64 p),some (.int .i64 q)=>pvI a p q
 | some (.int .u8 p),some (.int .u8 q)=>pvI a p q
 | some (.string s),some (.string s')=>match a with
  | .eql=>some (.bool (decide (s=s')))
  | .neq=>some (.bool (!decide (s=s')))
  | _=>none
 | _,_=>none
def pvP(x y:Option Value): Option Value->Option Value
 | some (.bool true)=>x
 | some (.bool false)=>y
 | _=>none
def pvN:Option Value->Option Value
 | some (.bool b)=>some (.bool (!b))
 | _=>none
def pvX(i:Nat): Option Value->Option Value
 | some (.tuple vs)=>vs[i]?
 | _=>none
def pvC:Option Value->Option Value
 | some (.pointer (some p))=>some (.pointer (some p))
 | _=>none
def pv(l:zD): Op->Option Value
 | .move x=>ev l x
 | .assign x=>ev l x
 | .pick c x y=>pvP (ev l x) (ev l y) (ev l c)
 | .unOp .not _ x=>pvN (ev l x)
 | .extract x i=>pvX i (ev l x)
 | .nilCheck x=>pvC (ev l x)
 | .binOp op _ x y _=>pvB op (ev l x) (ev l y)
 | _=>none
section
variable {l:zD}
def Aa8{b:BinOp}(d:Reg a N l)(c:o.op=.binOp b t x y u)(h:pvB b (ev l x) (ev l y)=some v)(w:zH): (execOp a.eval o).run P w=.ok (.value v) w:=by
 unfold pvB at h;split at h;case h_1 p q h1 h2|h_2 p q h1 h2=>
  refine Gq d c h1 h2 ?_;unfold pvI at h;split at h<;>first
   | (cases h;done)
   | (cases h;simp [binOp,Op.intCmp];done)
   | (cases h;simp [binOp,Op.intCmp];rfl)
 case h_3 s s' h1 h2=>
  refine Aaw d c h1 h2 ?_;split at h<;>first
   | (cases h;simp only [Op.stringOp,toList_eq];rfl)
   | cases h
 case h_4=>cases h
def Ze(d:Reg a N l)(h:pv l o.op=some v)(w:zH): (execOp a.eval o).run P w=.ok (.value v) w:=by
 cases ho:o.op with
 | move x=>rw [ho] at h;unfold execOp;rw [ho];simp only [d.ev (show ev l x=some v from h)];rfl
 | assign x=>rw [ho] at h;unfold execOp;rw [ho];simp only [d.ev (show ev l x=some v from h)];rfl
 | binOp op t x y u=>rw [ho] at h;exact Aa8 d ho h w
 | unOp op t x=>
  rw [ho] at h;cases op with
  | not=>
   have h:pvN (ev l x)=some v:=h;unfold pvN at h;split at h
   ·rename_i b e;cases h;unfold execOp;rw [ho];simp only [d.ev e];rfl
   ·cases h
  | _=>cases h
 | extract x i=>
  rw [ho] at h;have h:pvX i (ev l x)=some v:=h;unfold pvX at h;split at h
  ·rename_i vs e;unfold execOp;rw [ho];simp only [d.ev e,Instr.extract,h];rfl
  ·cases h
 | nilCheck x=>
  rw [ho] at h;have h:pvC (ev l x)=some v:=h;unfold pvC at h;split at h
  ·rename_i p e;cases h;unfold execOp;rw [ho];simp only [d.ev e];rfl
  ·cases h
 | pick c x y=>
  rw [ho] at h;have h:pvP (ev l x) (ev l y) (ev l c)=some v:=h;unfold pvP at h;split at h
  ·rename_i hc;unfold execOp;rw [ho];simp only [d.ev hc,d.ev h];rfl
  ·rename_i hc;unfold execOp;rw [ho];simp only [d.ev hc,d.ev h];rfl
  ·cases h
 | _=>rw [ho] at h;cases h
end
def Tb:Nat->Nat->zF->Option zF
 | 0,0,_=>some []
 | 0,n+1,c::cs=>match Tb 0 n cs with|some r=>some (c::r)|none=>none
 | j+1,n,_::cs=>Tb j n cs
 | _,_,[]=>none
def N0:∀{j n:Nat} {cs vs:zF},Tb j n cs=some vs->(cs.drop j).take n=vs/\n=vs.length
 | 0,0,_,_,h=>by simp only [Tb,Cm] at h;subst h;simp
 | 0,n+1,c::cs,vs,h=>by
  unfold Tb at h;split at h
  ·rename_i r a;cases h;have:=N0 a;rw [List.drop_zero] at this;exact ⟨by rw [List.drop_zero,List.take_succ_cons,this.1],by rw [Af,<-this.2]⟩
  ·cases h
 | j+1,n,c::cs,vs,h=>by
  have:=N0 (j:=j) (n:=n) (cs:=cs) h;simpa using this
 | 0,_+1,[],_,h=>by cases h
 | _+1,0,[],_,h=>by cases h
 | _+1,_+1,[],_,h=>by cases h
def Yl(P:Program)(S:zH->Prop)(ops:Array Oper)(a:Act)(o:Oper)(v:Value): Prop:=
 (Region.wanted o (yielded ops a.tmps)=true/\∀x,S x->(execOp a.eval o).run P x=.ok (.value v) x)\/(Region.wanted o (yielded ops a.tmps)=false/\v=undef)
section
variable {m:zO} {ds:zP} {l:zD} {g f n c F:Nat} {s:ByteArray}
def AbN(c:Reg a N l)(hv:pv l o.op=some v:=by exact rfl)(b:Region.wanted o (yielded ops a.tmps)=true:=by first|exact A4 rfl|exact wt ‹_›): Yl P S ops a o v:=.inl ⟨b,fun x _=>Ze c hv x⟩
def AbO(b:Region.wanted o (yielded ops a.tmps)=false:=by first|exact wff ‹_›|exact wu ‹_›): Yl P S ops a o undef:=.inr ⟨b,rfl⟩
def TH(c:Reg a N l)(hd:o.dst=some d)(b:d<N)(f:Region.wanted o (yielded ops a.tmps)=true)
  (h:∀x,S x->∀{X:Prop} {Next:zC},SteV P X Next o a x->(∀a',Reg a' N ((d,v)::l)->Next a' x)->X):Yl P S ops a o v:=
 .inl ⟨f,fun x e=>h x e (sy c hd b) (gt (by have:=c.top;omega))⟩
def AbQ(e:Reg a N l)(p:o.op=.fieldAddr t x f:=by exact rfl)(i:ev l x=some (.pointer (some ⟨g,j,none⟩)):=by exact rfl)(n:Fld P t f c:=by infer_instance)(hj:NF (j+c) j':=by first|(dsimp only [Nat.reduceAdd];exact NF.mk)|exact NF.mk)
  (hd:o.dst=some d:=by exact rfl) (b:d<N:=by decide) (m:Region.wanted o (yielded ops a.tmps)=true:=by first|exact A4 rfl|exact wt ‹_›):Yl P S ops a o (.pointer (some ⟨g,j',none⟩)):=
 have ⟨_,_,_,v,u,s,r,q⟩:=n.h
 TH e hd b m fun _ _ _ _ hs k=>L6 hs e hd p i v u r q (by unfold NF at hj;rw [s,hj];simp) b k
def Xz(a:St w0 Z M w m ds)(hi:Res.box g e cs∈m)(hv:cs[j]?=some v): w.cell? ⟨g,j,none⟩=some v:=by
 have hb:w.heap[g]?=some (.cells cs.toArray e (0,0)):=a.hold _ hi;rw [cell_of_row w g j cs.toArray e (0,0) hb];simpa using hv
def Yl.l_(f:Reg a N l)(r:St w0 Z M w m ds)(q:o.op=.load t x:=by exact rfl)(i:ev l x=some (.pointer (some ⟨g,j,none⟩)):=by exact rfl)(hi:Res.box g e cs∈m:=by repeat (first|exact List.Mem.head _|refine List.Mem.tail _ ?_))(hv:cs[j]?=some v:=by exact rfl)
  (p:NAg P t:=by infer_instance) (hd:o.dst=some d:=by exact rfl) (b:d<N:=by decide) (n:Region.wanted o (yielded ops a.tmps)=true:=by first|exact A4 rfl|exact wt ‹_›):Yl P (fun x=>x=w) ops a o v:=
 have ⟨_,u,s⟩:=p.h
 TH f hd b n fun _ c _ _ hs k=>CE hs f hd q i (c▸Xz r hi hv) u s b k
def Yl.a_(f:Reg a N l)(r:St w0 Z M w m ds)(q:o.op=.load t x:=by exact rfl)(i:ev l x=some (.pointer (some ⟨g,j,none⟩)):=by exact rfl)(hi:Res.box g e cs∈m:=by repeat (first|exact List.Mem.head _|refine List.Mem.tail _ ?_))
  (p:Agg P t sz:=by infer_instance) (hn:Tb j sz cs=some vs:=by exact rfl) (hd:o.dst=some d:=by exact rfl) (b:d<N:=by decide) (n:Region.wanted o (yielded ops a.tmps)=true:=by first|exact A4 rfl|exact wt ‹_›):Yl P (fun x=>x=w) ops a o (.agg vs.toArray):=
 have ⟨_,A,z,y⟩:=p.h;have ⟨v,u⟩:=N0 hn
 TH f hd b n fun _ c _ _ hs k=>Dq hs f hd q i (c▸(by
  have h6:=((FL (r.hold _ hi)).drop j).take sz;rw [v] at h6;have s:(⟨g,0,none⟩:Addr).add j=⟨g,j,none⟩:=by unfold Addr.add;by_cases h0:j=0<;>simp [h0]
  rw [s] at h6
  exact h6)) A z (by rw [y,u]) b k
def Yl.c_(f:Reg a N l)(r:o.op=.load t x:=by exact rfl)(n:ev l x=some (.pointer (some ⟨g,j,none⟩)):=by exact rfl)(hk:cel g j v∈ps:=by repeat (first|exact List.Mem.head _|refine List.Mem.tail _ ?_))
  (q:NAg P t:=by infer_instance) (hd:o.dst=some d:=by exact rfl) (b:d<N:=by decide) (p:Region.wanted o (yielded ops a.tmps)=true:=by first|exact A4 rfl|exact wt ‹_›):Yl P (sW w1 J ps) ops a o v:=
 have ⟨_,u,s⟩:=q.h;have ⟨i,e⟩:=List.mem_iff_getElem?.1 hk
 TH f hd b p fun _ m _ _ hs k=>CE hs f hd r n (m.c i e) u s b k
def AbP(f:Reg a N l)(m:o.op=.call { callee:=.builtin .len,args:=#[x],argTypes:=#[t] }:=by exact rfl)(g:ev l x=some (.slice A n c):=by exact rfl)
  (j:Slc P t e:=by infer_instance) (hd:o.dst=some d:=by exact rfl) (b:d<N:=by decide) (i:Region.wanted o (yielded ops a.tmps)=true:=by first|exact A4 rfl|exact wt ‹_›):Yl P S ops a o (.int .i64 (n:Int)):=
 TH f hd b i fun _ _ _ _ hs k=>r_len hs f hd m rfl g j.h b k
def Yl.s_(c:Reg a N l)(i:o.op=.call { callee:=.builtin .len,args:=#[x],argTypes:=#[t] }:=by exact rfl)(e:ev l x=some (.string s):=by exact rfl)
  (g:StrT P t:=by infer_instance) (hd:o.dst=some d:=by exact rfl) (b:d<N:=by decide) (f:Region.wanted o (yielded ops a.tmps)=true:=by first|exact A4 rfl|exact wt ‹_›):Yl P S ops a o (.int .i64 (s.size:Int)):=
 TH c hd b f fun _ _ _ _ hs k=>r_lenS hs c hd i rfl e g.h b k
def lst(e:Reg a N l)(k:∀a',Reg a' N ((d,v)::l)->wpList P ops Q rest a' w)(f:Yl P (fun x=>x=w) ops a o v:=by first|exact AbN ‹_›|exact AbQ ‹_›|exact Yl.l_ ‹_› ‹_›|exact AbO|exact AbP ‹_›|exact Yl.s_ ‹_›|exact Yl.a_ ‹_› ‹_›)(hd:o.dst=some d:=by exact rfl)(b:d<N:=by decide):
  wpList P ops Q (o::rest) a w:=by
 rcases f with ⟨c,g⟩|⟨c,rfl⟩
 ·exact C6 (AH c) e hd b (g w rfl) k
 ·exact YS e hd b c k
def lR(b:Reg a N l)(k:∀a',Reg a' N l'->G a')
  (c:(∀a',Reg a' N l'->G a')->∀a,Reg a N l->wpList P ops Q L a w:=by intro d _ b;(repeat refine lst b fun _ b=>?_);exact d _ b):wpList P ops Q L a w:=c k a b
def dGo(a:List Nat)(X:Prop): Prop:=X
def gE(h:X): dGo [] X:=h
def gst(g:D6 Q)(f:Reg a N l)(e:sW w1 J ps w)(k:∀a',Reg a' N ((d,v)::l)->dGo is (wpAnyH P .any ops Q (sW w1 J ps) fuel (listed.setIfInBounds i true) a' w))(hi:ops[i]?=some o:=by exact rfl)
  (h:Yl P (sW w1 J ps) ops a o v:=by first|exact AbN ‹_›|exact AbQ ‹_›|exact Yl.c_ ‹_›|exact AbO|exact AbP ‹_›) (hd:o.dst=some d:=by exact rfl) (b:d<N:=by decide) (hs:Region.noSelect ops=true:=by kernel_rfl) (hf:Region.free .any ops listed i=true:=by kernel_rfl) (hr:(Region.ready .any ops listed).contains i=true:=by kernel_rfl):
  dGo (i::is) (wpAnyH P .any ops Q (sW w1 J ps) (fuel+1) listed a w):=by
 rcases h with ⟨c,j⟩|⟨c,rfl⟩
 ·exact dt i hi g f c j e k hd b hs hf hr
 ·exact dp i hi g f c e k hd b hs hf hr
def dR(g:List Nat)(b:Reg a N l)(k:∀a',Reg a' N l'->G a')(e:D6 Q:=by assumption)(d:sW w1 J ps w:=by assumption)
  (c:(∀a',Reg a' N l'->G a')->D6 Q->sW w1 J ps w->∀a,Reg a N l->dGo g (wpAnyH P .any ops Q (sW w1 J ps) F listed a w):=by intro f e d _ b;(repeat refine gst e b d fun _ b=>?_);exact gE (f _ b)):wpAnyH P .any ops Q (sW w1 J ps) F listed a w:=c k e d a b
end
section
variable {l:zD} {dp:Nat} {q x:Bool} {F:Nat} {X:zJ}
def gRun(X:Prop): Prop:=X
def Z9 (h:Reg a N ((dj,.bool q)::l)->gEnd N dj dp q x l (fun a'=>wpList P ops Q rest a' w)->wpList P ops Q L a w:=by
  (intro hR b;(repeat (first|exact b.fin hR|refine lst hR fun _ hR=>?_));done)):
  gRun (Reg a N ((dj,.bool q)::l)->gEnd N dj dp q x l (fun a'=>wpList P ops Q rest a' w)->wpList P ops Q L a w):=h
def gRun_d (h:D6 Q->sW w1 J ps w->Reg a N ((dj,.bool q)::l)->gEnd N dj dp q x l (fun a'=>wpAnyH P .any ops Q (sW w1 J ps) fuel ((VE is listed).setIfInBounds i0 true) a' w)->dGo (is++[i0]) (wpAnyH P .any ops Q (sW w1 J ps) F listed a w):=by
  (intro d c hR b;(repeat refine gst d hR c fun _ hR=>?_);exact gE (b.fin hR))):
  gRun (D6 Q->sW w1 J ps w->Reg a N ((dj,.bool q)::l)->gEnd N dj dp q x l (fun a'=>wpAnyH P .any ops Q (sW w1 J ps) fuel ((VE is listed).setIfInBounds i0 true) a' w)->dGo (is++[i0]) (wpAnyH P .any ops Q (sW w1 J ps) F listed a w)):=h
def lAn(n:Nat)(x:Bool)(o:Reg a N l)(k:∀a',Reg a' N ((dp,.bool (b&&x))::l)->wpList P ops Q rest a' w)
  (h0:L.head?.bind (·.guard)=some (j,true):=by exact rfl) (hj:ops[j]?=some oj:=by exact rfl) (h:oj.dst=some dj:=by exact rfl) (hv:l.lookup dj=some (.bool b):=by exact rfl) (c:Mq (n+1) L=some rest:=by exact rfl)
  (f:Mq n L=some (op::rest):=by exact rfl) (hg:op.guard=none:=by exact rfl) (hd:op.dst=some dp:=by exact rfl) (m:op.op=.pick (.tmp dj) X (.const (.bool false)):=by exact rfl)
  (d:gRun (Reg a N ((dj,.bool true)::l)->gEnd N dj dp true x l (fun a'=>wpList P ops Q rest a' w)->wpList P ops Q L a w):=by exact Z9) (i:dj<N:=by decide) (e:dp<N:=by decide) (g:(L.take n).all (gOK j dj true N l)=true:=by kernel_rfl) (hc:Nat.beq dj 1000000=false:=by exact rfl):wpList P ops Q L a w:=
 NU n x o (fun _=>d) k h0 hj h hv c f hg hd m i e g hc
def lOr(n:Nat)(x:Bool)(o:Reg a N l)(k:∀a',Reg a' N ((dp,.bool (b||x))::l)->wpList P ops Q rest a' w)
  (h0:L.head?.bind (·.guard)=some (j,false):=by exact rfl) (hj:ops[j]?=some oj:=by exact rfl) (h:oj.dst=some dj:=by exact rfl) (hv:l.lookup dj=some (.bool b):=by exact rfl) (c:Mq (n+1) L=some rest:=by exact rfl)
  (f:Mq n L=some (op::rest):=by exact rfl) (hg:op.guard=none:=by exact rfl) (hd:op.dst=some dp:=by exact rfl) (m:op.op=.pick (.tmp dj) (.const (.bool true)) Y:=by exact rfl)
  (d:gRun (Reg a N ((dj,.bool false)::l)->gEnd N dj dp false x l (fun a'=>wpList P ops Q rest a' w)->wpList P ops Q L a w):=by exact Z9) (i:dj<N:=by decide) (e:dp<N:=by decide) (g:(L.take n).all (gOK j dj false N l)=true:=by kernel_rfl) (hc:Nat.beq dj 1000000=false:=by exact rfl):wpList P ops Q L a w:=
 l_or n x o (fun _=>d) k h0 hj h hv c f hg hd m i e g hc
def dAn(d:Nat)(c:List Nat)(e:Nat)(x:Bool)(t:Reg a N l)(k:∀a',Reg a' N ((dp,.bool (b&&x))::l)->wpAnyH P .any ops Q (sW w1 J ps) fuel ((VE (d::c) listed).setIfInBounds e true) a' w)(q:D6 Q:=by assumption)(p:sW w1 J ps w:=by assumption)
  (hi:ops[d]?=some o:=by exact rfl) (h0:o.guard=some (j,true):=by exact rfl) (hj:ops[j]?=some oj:=by exact rfl) (m:oj.dst=some dj:=by exact rfl) (hv:l.lookup dj=some (.bool b):=by exact rfl)
  (h:ops[e]?=some op:=by exact rfl) (hg:op.guard=none:=by exact rfl) (hd:op.dst=some dp:=by exact rfl) (s:op.op=.pick (.tmp dj) X (.const (.bool false)):=by exact rfl) (u:Aak (c.length+2) F=some fuel:=by exact rfl)
  (f:gRun (D6 Q->sW w1 J ps w->Reg a N ((dj,.bool true)::l)->gEnd N dj dp true x l (fun a'=>wpAnyH P .any ops Q (sW w1 J ps) fuel ((VE (d::c) listed).setIfInBounds e true) a' w)->dGo ((d::c)++[e]) (wpAnyH P .any ops Q (sW w1 J ps) F listed a w)):=by exact gRun_d)
  (n:dj<N:=by decide) (g:dp<N:=by decide) (i:(d::c).all (gAt ops j dj true N l)=true:=by kernel_rfl) (hc:Nat.beq dj 1000000=false:=by exact rfl) (hne:dp≠1000000:=by decide) (hs:Region.noSelect ops=true:=by kernel_rfl) (r:Xg ops ((d::c)++[e]) listed=true:=by kernel_rfl):wpAnyH P .any ops Q (sW w1 J ps) F listed a w:=
 d_and d c e x q t p (fun _=>f q p) k hi h0 hj m hv h hg hd s u n g i hc hne hs r
end
end
section
variable {t:zK}
def lvIndex:zK->Int
 | []=>-1
 | n::t=>if 0<=n/\n<=9 then (let r:=lvIndex t;if r<0 then r else r+1) else 0
def Kz(n:Int): Int:=if 0<=n/\n<=9 then 0 else 1
def P5(hk:k<t.length): t.drop k=C7 t k::t.drop (k+1):=by
 rw [List.drop_eq_getElem_cons hk];simp [C7,hk]
def Po(hi:lvIndex t=(let r:=lvIndex (t.drop k);if r<0 then r else r+(k:Int)))(hk:k<t.length)(h:0<=C7 t k/\C7 t k<=9):
  lvIndex t=(let r:=lvIndex (t.drop (k+1));if r<0 then r else r+((k+1:Nat):Int)):=by
 rw [P5 hk] at hi;simp only [lvIndex,Ae h] at hi;rw [hi];simp only;generalize lvIndex (t.drop (k+1))=r;by_cases h0:r<0
 ·simp [h0]
 ·simp [h0,show ¬(r+1<0) by omega];omega
def Pq(hi:lvIndex t=(let r:=lvIndex (t.drop k);if r<0 then r else r+(k:Int)))(hk:k<t.length)(h:0<=C7 t k->9<C7 t k): lvIndex t=(k:Int):=by
 rw [P5 hk] at hi;simp only [lvIndex,Ac (show ¬(0<=C7 t k/\C7 t k<=9) by omega)] at hi;rw [hi];simp
def Pp(hi:lvIndex t=(let r:=lvIndex (t.drop k);if r<0 then r else r+(k:Int)))(hk:t.length<=k): lvIndex t = -1:=by
 rw [List.drop_eq_nil_of_le hk] at hi;rw [hi];simp [lvIndex]
def V0{n:Int}(h:0<=lvIndex [n]): Kz n=1:=by
 unfold Kz;simp only [lvIndex] at h;split<;>simp_all
def Tp{n:Int}(h:lvIndex [n]<0): Kz n=0:=by
 unfold Kz;simp only [lvIndex] at h;split<;>simp_all
def okC(c i:Nat): Prop:=(97<=orB c 32/\orB c 32<=122)\/c=95\/(i≠0/\48<=c/\c<=57)
def Ke(s:ByteArray)(k:Nat): Prop:=∀i,i<k->okC (Dd s i) i
def L0(s:ByteArray): Ke s 0:=fun i h=>by omega
def L1{s:ByteArray}(hi:Ke s k)(h:okC (Dd s k) k): Ke s (k+1):=fun i hk=>by
 by_cases a:i=k
 ·subst a;exact h
 ·exact hi i zQ
set_option maxRecDepth 100000 in
def N6(c:UInt8)(i:Nat): okC c.toNat i↔(letter c=true\/(i≠0/\Yo c=true)):=by
 have h:=V2 ⟨c.toNat,UInt8.toNat_lt c⟩;simp only [UInt8.ofNat_toNat] at h;have hd:Yo c=true↔48<=c.toNat/\c.toNat<=57:=by
  unfold Yo;simp [UInt8.le_iff_toNat_le]
 unfold okC;rw [<-h,hd];omega
def LK{s:ByteArray}{c:UInt8}(h:s.data.toList[i]?=some c): Dd s i=c.toNat:=by
 obtain ⟨hlt,a⟩:=List.getElem?_eq_some_iff.1 h;have hl:i<s.size:=by rw [Array.length_toList] at hlt;exact hlt
 unfold Dd;rw [dif_pos hl];congr 1
def KD(s:ByteArray): EG s=true↔0<s.size/\s.size<=16/\Ke s s.size:=by
 have a:s.size=s.data.toList.length:=by rw [Array.length_toList];rfl
 unfold EG;cases hl:s.data.toList with
 | nil=>
  rw [hl] at a;simp at a;simp [a]
 | cons c r=>
  have h0:Dd s 0=c.toNat:=LK (by rw [hl];rfl);rw [hl] at a;have f:s.size=r.length+1:=a;clear a;simp only [A5,A9,List.all_eq_true,Hp];constructor
  ·
   rintro ⟨⟨e,d⟩,b⟩;refine ⟨by omega,e,fun i hi=>?_⟩;cases i with
   | zero=>rw [h0,N6];exact .inl d
   | succ i=>
    have hlt:i<r.length:=by omega
    rw [LK (c:=r[i]) (by rw [hl];simp [hlt]),N6];rcases b _ (List.getElem_mem hlt) with h|h
    ·exact .inl h
    ·exact .inr ⟨by omega,h⟩
  ·
   rintro ⟨e,d,b⟩;refine ⟨⟨d,?_⟩,fun x g=>?_⟩
   ·
    have:=b 0 e;rw [h0,N6] at this;rcases this with h|h
    ·exact h
    ·exact absurd rfl h.1
   ·
    obtain ⟨i,hlt,rfl⟩:=List.mem_iff_getElem.1 g;have:=b (i+1) zQ;rw [LK (c:=r[i]) (by rw [hl];simp [hlt]),N6] at this;rcases this with h|h
    ·exact .inl h
    ·exact .inr h.2
def RT{s:ByteArray}(hk:k<s.size)(h:¬okC (Dd s k) k): EG s=false:=by
 rw [Bool.eq_false_iff];intro e;exact h ((KD s).1 e |>.2.2 k hk)
def HI{s:ByteArray}: s=(⟨#[]⟩:ByteArray)↔s.size=0:=by
 constructor
 ·rintro rfl;rfl
 ·
  intro h;cases s with
  | mk d=>
   have a:d.size=0:=h;rw [Array.size_eq_zero_iff.1 a]
def XO{s:ByteArray}(hi:Ke s k)(hk:s.size<=k): EG s=((!decide (s=(⟨#[]⟩:ByteArray)))&&decide (((s.size:Nat):Int)<=16)):=by
 rw [Bool.eq_iff_iff,KD];simp only [A5,Cn,A9,BI,HI];constructor
 ·rintro ⟨b,a,_⟩;omega
 ·rintro ⟨b,a⟩;exact ⟨by omega,by omega,fun i h=>hi i zQ⟩
def XS(c:Nat): Bool:=((decide ((97:Int)<=c)&&decide ((c:Int)<=122))||(decide ((65:Int)<=c)&&decide ((c:Int)<=90)))||decide ((c:Int)=95)
def RH(n:Nd): Bool:=decide (n.N=0)&&decide (n.M=0)&&decide (n.S=(⟨#[]⟩:ByteArray))
set_option maxRecDepth 100000 in
def Abf:∀c:Fin 256,XS c.val=true↔((97<=orB c.val 32/\orB c.val 32<=122)\/c.val=95):=by decide
def Vc{c:Nat}(hc:c<256): okC c i↔(XS c=true\/(i≠0/\48<=c/\c<=57)):=by
 have h:=Abf ⟨c,hc⟩;simp only at h;unfold okC;rw [h];omega
def Ca(n:Nd): zK:=if n.K=26\/n.K=27 then (if right n then binds n else []) else if 0<=n.K/\n.K<30 then (shp n.K.toNat).b else []
def IF{n:Nd}(h:right n=true): Ca n=binds n:=by
 have:=Qw h;unfold Ca binds;by_cases b:n.K=26
 ·simp [b,h,binds]
 ·
  by_cases a:n.K=27
  ·simp [a,h,binds]
  ·simp [b,a,this]
def E3(n:Nd): Bool:=
 (((!((shp (n.K).toNat).n))&&(!(decide (n.N=0))))||(((!((shp (n.K).toNat).m))&&(!(decide (n.M=0))))||(((!((shp (n.K).toNat).s))&&(!(decide (n.S=(⟨#[]⟩:ByteArray)))))||((shp (n.K).toNat).s&&(!(EG n.S))))))
def DT(n:Nd): right n=true↔(0<=n.K/\n.K<30)/\E3 n=false/\((shp n.K.toNat).n=true->0<=n.N/\n.N<=if n.K=2 then 9 else most n.K)/\((shp n.K.toNat).m=true->0<=n.M/\n.M<=6):=by
 unfold right E3;have b:n.S=(⟨#[]⟩:ByteArray)↔n.S.size=0:=HI;simp only [A5,A9];rw [and_assoc,and_assoc,<-and_assoc (a:=0<=n.K)];refine and_congr_right fun _=>?_;cases h1:(shp n.K.toNat).n<;>cases h2:(shp n.K.toNat).m<;>cases h3:(shp n.K.toNat).s<;>simp [b]<;>try (constructor<;>(rintro ⟨d,c,h6⟩;simp_all))
def shp_m(k:Nat): (shp k).m=true↔k=26\/k=27:=by
 unfold shp;split<;>simp_all
def OL{n:Nd}(h:n.K<0\/30<=n.K): right n=false:=by
 rw [Bool.eq_false_iff];intro e;have:=((DT n).1 e).1;omega
def UB{n:Nd}(h:E3 n=true): right n=false:=by
 rw [Bool.eq_false_iff];intro e;have:=((DT n).1 e).2.1;rw [h] at this;cases this
def ST{n:Nd}(h:E3 n=false)(hk:n.K=2): right n=decide (Kz n.N=0):=by
 rw [Bool.eq_iff_iff,DT];simp [h,hk,shp,Kz]
def M3{n:Nd}(h:E3 n=false)(hk:n.K=26): right n=decide (0<=n.N/\n.N<=most n.K/\0<=n.M/\n.M<=6):=by
 rw [Bool.eq_iff_iff,DT];simp [h,hk,shp];omega
def Qu{n:Nd}(h:E3 n=false)(hk:n.K=27): right n=decide (0<=n.M/\n.M<=6):=by
 rw [Bool.eq_iff_iff,DT];simp [h,hk,shp]
def Lg{n:Nd}(h:E3 n=false)(h0:0<=n.K)(b:n.K<30)(hk:¬n.K=2)(a:¬n.K=26)(hk2:¬n.K=27): right n=(!(shp n.K.toNat).n||decide (0<=n.N/\n.N<=most n.K)):=by
 have hm:(shp n.K.toNat).m=false:=by
  rw [Bool.eq_false_iff];intro e;rw [shp_m] at e;omega
 rw [Bool.eq_iff_iff,DT];simp only [h,hk,hm,h0,b];cases (shp n.K.toNat).n<;>simp
def SR{s:ByteArray}(h0:XS (Dd s 0)=true)(h:XS (Dd s k)=true\/(48<=Dd s k/\Dd s k<=57)): okC (Dd s k) k:=by
 rw [Vc (H9 _ _)];by_cases hk:k=0
 ·subst hk;exact .inl h0
 ·
  rcases h with h|h
  ·exact .inl h
  ·exact .inr ⟨hk,h⟩
def U8{s:ByteArray}(hk:k<s.size)(a:XS (Dd s k)=false)(b:Dd s k<48\/57<Dd s k): EG s=false:=by
 refine RT hk ?_;rw [Vc (H9 _ _),a];simp;omega
def SS{s:ByteArray}(h:(s.size<1\/16<s.size)\/XS (Dd s 0)=false): EG s=false:=by
 rw [Bool.eq_false_iff];intro e;obtain ⟨b,c,a⟩:=(KD s).1 e;rcases h with h|h
 ·omega
 ·have:=(Vc (H9 s 0)).1 (a 0 b);rw [h] at this;simp at this
def U7{s:ByteArray}(hi:Ke s k)(hk:s.size<=k)(b:1<=s.size)(a:s.size<=16): EG s=true:=
 (KD s).2 ⟨by omega,a,fun i h=>hi i zQ⟩
def Jf{n:Nd}(h:n.K=0): right n=decide (0<=n.N/\n.N<=99/\n.M=0/\n.S=(⟨#[]⟩:ByteArray)):=by
 rw [Bool.eq_iff_iff];simp [right,h,shp,most,HI,and_assoc]
def UA{n:Nd}(h:n.K=1\/n.K=25): right n=decide (n.N=0/\n.M=0/\EG n.S=true):=by
 rw [Bool.eq_iff_iff];rcases h with h|h<;>simp [right,h,shp,and_assoc]
def Ir{n:Nd}(h:n.K=2): right n=decide (Kz n.N=0/\n.M=0/\n.S=(⟨#[]⟩:ByteArray)):=by
 rw [Bool.eq_iff_iff];simp [right,h,shp,Kz,HI,and_assoc]
def Ns{n:Nd}(h:n.K=3\/n.K=6): right n=decide (0<=n.N/\n.N<=3/\n.M=0/\n.S=(⟨#[]⟩:ByteArray)):=by
 rw [Bool.eq_iff_iff];rcases h with h|h<;>simp [right,h,shp,most,HI,and_assoc]
def HL{n:Nd}(h:n.K=26): right n=decide (EG n.S=true/\0<=n.N/\n.N<6/\0<=n.M/\n.M<=6):=by
 rw [Bool.eq_iff_iff];simp [right,h,shp,most];constructor
 ·rintro ⟨⟨⟨d,e⟩,c,b⟩,a⟩;exact ⟨a,d,by omega,c,b⟩
 ·rintro ⟨a,d,e,c,b⟩;exact ⟨⟨⟨d,by omega⟩,c,b⟩,a⟩
def FC{n:Nd}(h:n.K=27): right n=decide (EG n.S=true/\n.N=0/\0<=n.M/\n.M<=6):=by
 rw [Bool.eq_iff_iff];simp [right,h,shp];constructor
 ·rintro ⟨⟨d,c,b⟩,a⟩;exact ⟨a,d,c,b⟩
 ·rintro ⟨a,d,c,b⟩;exact ⟨⟨d,c,b⟩,a⟩
def Ux(k:Nat)(h:k≠0/\k≠1/\k≠2/\k≠3/\k≠6/\k≠25/\k≠26/\k≠27): (shp k).n=false/\(shp k).m=false/\(shp k).s=false:=by
 unfold shp;split<;>simp_all
def Dz{n:Nd}(e:0<=n.K)(d:n.K<30)(h:n.K≠0/\n.K≠1/\n.K≠2/\n.K≠3/\n.K≠6/\n.K≠25/\n.K≠26/\n.K≠27): right n=RH n:=by
 obtain ⟨c,b,a⟩:=Ux n.K.toNat zQ;rw [Bool.eq_iff_iff];simp [right,RH,e,d,c,b,a,HI]
def TD{n:Nd}(h:n.K<0\/30<=n.K): Ca n=[]:=by
 unfold Ca;rw [Ac zQ,Ac zQ]
def PP{n:Nd}(h:n.K=26\/n.K=27)(hr:right n=false): Ca n=[]:=by
 unfold Ca;rw [Ae h,Ac (by simp [hr])]
def WI{n:Nd}(h:n.K=26)(hr:right n=true): Ca n=List.replicate n.M.toNat 0:=by
 unfold Ca;rw [Ae (.inl h),Ae hr];simp [binds,h]
def TE{n:Nd}(h:n.K=27)(hr:right n=true): Ca n=[1]++List.replicate (n.M.toNat+1) 0:=by
 unfold Ca;rw [Ae (.inr h),Ae hr];simp [binds,h]
end
end Go.Proofs.YtgddkjdhnolahaaGreatDoor
