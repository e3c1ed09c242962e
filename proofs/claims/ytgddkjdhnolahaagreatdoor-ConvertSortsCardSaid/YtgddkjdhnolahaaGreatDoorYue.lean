import Derived.Test.YtgddkjdhnolahaaGreatDoorYud
import Derived.ChangeKeysEq
import Derived.Test.YtgddkjdhnolahaaGreatDoorCards
import Derived.Test.YtgddkjdhnolahaaGreatDoorTie
import Derived.ProofKit
import Derived.OpenShut
import Derived.ReadAgain
import Derived.Deep.DeepHandedRow
import Derived.Deep.Slices
import Derived.Lib.LaidTab
import Derived.Deep.DeepWitnessRowRef
set_option linter.defProp false
namespace Go.Proofs.YtgddkjdhnolahaaGreatDoor
open Go Go.RowKit
def An := @of_decide_eq_false
def Co := @Tryz.underlying171
def Ex := @Tryz.underlying5
end Go.Proofs.YtgddkjdhnolahaaGreatDoor
namespace Go.Proofs.YtgddkjdhnolahaaGreatDoor
set_option linter.unusedSimpArgs false
set_option linter.unusedVariables false
open _root_.Go.Proofs.Tryz
variable {A a b t u:zM}{D:Bd}{H:Type}{K e k m:Int}{L R:zM×Int}{N b0 d i:Nat}{P:Program}{W:World}{X:zM->zM->Bool×Int}{cs:zF}{f:Func}{held:Bool}{l':Nat->Bd}{nd:Nd}{o:Oper}{o1 o2:Option (zM×Int)}{sp:Nat->Bool}{v:Value}{w w0:zH}
section
open Go Go.RowKit
def RQ(t:zM): chk t≠120:=by
 unfold chk;split
 ·decide
 ·
  split
  ·split<;>decide
  ·decide
def ne_ck:∀l,ckE l≠120
 | []=>by decide
 | x::l=>by
  unfold ckE;split
  ·exact ne_ck l
  ·exact RQ x
def ge_ne(h:GE e): e≠120:=fun q=>by
 subst q;rcases h with h|h|h|h<;>cases h
def ne_sf{n:Int}(hn:0<=n): sfE t n k≠120:=by
 by_cases hc:chk t=0
 ·rcases U1 (f:=k) hc hn with q|q<;>rw [q]<;>decide
 ·rw [(Ii hc).1];exact RQ t
def ne_i{l:zL}: inE t l≠120:=by
 by_cases hc:ckE (t::l)=0
 ·have h:=ck_oks hc;rw [(Tt hc).1];exact ge_ne (po_G (h t List.mem_cons_self) fun p hp=>h p (List.mem_cons_of_mem _ hp))
 ·rw [(MK hc).1];exact ne_ck _
section
variable {n:Int} {x y z:zM} {l:zL} {a b c:Bd}
def EX(a:e≠120)(hn:0<=n): upE e t n k≠120:=by
 unfold upE;split
 ·exact ne_sf hn
 ·exact a
def Mm(a:e≠120): inQ e t l≠120:=by
 unfold inQ;split
 ·exact ne_i
 ·exact a
def JG:(0:Int)≠120:=by decide
def QB(b:Bd)(t:zM): Prop:=b.2≠120/\(b.2=0->b.1=t)
def QL:List Bd->zL->Prop
 | [],[]=>True
 | b::l,t::m=>QB b t/\QL l m
 | _,_=>False
def ql_f:∀{l:List Bd} {m:zL},QL l m->(fsE l).2≠120/\((fsE l).2=0->l.map (·.1)=m)
 | [],[],_=>⟨JG,fun _=>rfl⟩
 | b::l,t::m,h=>by
  obtain ⟨a,e⟩:=h;obtain ⟨d,c⟩:=ql_f e;unfold fsE;split
  ·rename_i h0;exact ⟨d,fun q=>by rw [AA,a.2 h0,c q]⟩
  ·rename_i h0;exact ⟨a.1,fun q=>absurd q h0⟩
def q_l:QB ([nd],0) (noL 0 nd []):=⟨JG,fun _=>rfl⟩
def q_p:QB (t,0) t:=⟨JG,fun _=>rfl⟩
def q_of{L:List Bd}(h:QL L l): QB (bOf nd L) (noL 0 nd l):=by
 obtain ⟨b,a⟩:=ql_f h;unfold bOf;split
 ·rename_i h0;exact ⟨JG,fun _=>by rw [a h0];rfl⟩
 ·rename_i h0;exact ⟨b,fun q=>absurd q h0⟩
def q_1(b:QB a x): QB (bOf nd [a]) (noL 0 nd [x]):=q_of ⟨b,trivial⟩
def q_2(c:QB a x)(hb:QB b y): QB (bOf nd [a,b]) (noL 0 nd [x,y]):=q_of ⟨c,hb,trivial⟩
def q_3(d:QB a x)(hb:QB b y)(hc:QB c z): QB (bOf nd [a,b,c]) (noL 0 nd [x,y,z]):=q_of ⟨d,hb,hc,trivial⟩
def q_e(d:QB a x)(hb:QB b y)(hc:QB c z): QB (bEq a b c) (noL 0 (kN 18 0) [x,y,z]):=q_3 d hb hc
def q_c(d:QB a x)(hb:QB b y)(hc:QB c z): QB (bCa a b c) (caL 0 x y z):=q_of ⟨d,hb,q_l,hc,trivial⟩
def q_u(hn:0<=n)(b:QB a x): QB (bUp a n k) (upL 0 x n k):=by
 unfold bUp;split
 ·rename_i h0;exact ⟨ne_sf hn,fun _=>by rw [Xq,b.2 h0]⟩
 ·rename_i h0;exact ⟨b.1,fun q=>absurd q h0⟩
def q_at{L:List Bd}(c:QB a x)(h:QL L l): QB (bAt a L) (inL 0 x l):=by
 obtain ⟨e,d⟩:=ql_f h;unfold bAt;split
 ·rename_i h0;exact ⟨c.1,fun q=>absurd q h0⟩
 ·
  rename_i h0;split
  ·rename_i b;exact ⟨e,fun q=>absurd q b⟩
  ·rename_i b;exact ⟨ne_i,fun _=>by rw [XX,c.2 (Classical.not_not.1 h0),d (Classical.not_not.1 b)]⟩
def q_w(c:QB a x)(hb:QB b y): QB (bAt a [b]) (inL 0 x [y]):=q_at c ⟨hb,trivial⟩
def q_w2(d:QB a x)(hb:QB b y)(hc:QB c z): QB (bAt a [b,c]) (inL 0 x [y,z]):=q_at d ⟨hb,hc,trivial⟩
def mk4{P:Int->Prop}(h0:0<=m)(a:m<4)(h:P 0/\P 1/\P 2/\P 3): P m:=by
 obtain rfl|rfl|rfl|rfl:m=0\/m=1\/m=2\/m=3:=by omega
 ·exact h.1
 ·exact h.2.1
 ·exact h.2.2.1
 ·exact h.2.2.2
def mk_2(h0:0<=m)(a:m<4): m.tdiv 2=1↔0<EN m 2:=mk4 (P:=fun m=>m.tdiv 2=1↔0<EN m 2) h0 a zS
def mk_1(h0:0<=m)(a:m<4): m.tmod 2=1↔0<EN m 1:=mk4 (P:=fun m=>m.tmod 2=1↔0<EN m 1) h0 a zS
def mk_0(h0:0<=m)(a:m<4): m.tmod 2=0↔EN m 1=0:=mk4 (P:=fun m=>m.tmod 2=0↔EN m 1=0) h0 a zS
def mk_o(h0:0<=m)(a:m<4): orI m 1=m.tdiv 2*2+1:=mk4 (P:=fun m=>orI m 1=m.tdiv 2*2+1) h0 a zS
def Aa7(h0:0<=m)(b:m<4)(c:QB a x): QB (bPl m a) (plL 0 m x):=by
 unfold bPl plL;by_cases h:m.tdiv 2=1
 ·rw [Ae h,Ae ((mk_2 h0 b).1 h)];exact q_l
 ·rw [Ac h,Ac fun q=>h ((mk_2 h0 b).2 q)];exact c
def R2(D:Bd)(L:zM×Int): Prop:=(D=([],120)/\L.2=120)\/(D.2≠120/\L.2≠120/\(D.2=0->L.2=0->D.1=L.1))
def XB{p q:Prop}[Decidable p][Decidable q]{b a:Bd}(h:p↔q)(d:p->R2 b (o1.getD ([],120)))(c:¬p->R2 a (o2.getD ([],120))): R2 (if p then b else a) ((if q then o1 else o2).getD ([],120)):=by
 by_cases hp:p
 ·rw [Ae hp,Ae (h.1 hp)];exact d hp
 ·rw [Ac hp,Ac fun k=>hp (h.2 k)];exact c hp
def LU(h:L.2=120): R2 ([],120) L:=.inl ⟨rfl,h⟩
def R2.of(h:QB D t)(b:L.2≠120)(a:L.2=0->L.1=t): R2 D L:=.inr ⟨h.1,b,fun q r=>(h.2 q).trans (a r).symm⟩
def R2.end{E:Int}(h:R2 D L)(d:E=if L.2=0 then chk L.1 else L.2)(i:A=if (if L.2=0 then chk L.1 else L.2)=0 then L.1 else []): ag2 (EY D) (A,E):=by
 rcases h with ⟨f,e⟩|⟨f,e,j⟩
 ·
  intro _ _;have:E=120:=by rw [d,e,Ac zS]
  rw [f];exact ⟨this.symm,fun q=>by cases q⟩
 ·
  intro p q;have g:D.2=0/\chk D.1=0/\EY D=(D.1,0):=by
   unfold EY at p ⊢;by_cases a:D.2=0
   ·
    rw [Ae a] at p ⊢;by_cases c:chk D.1=0
    ·rw [Ae c];exact ⟨a,c,rfl⟩
    ·
     rw [Ac c] at p;rcases p with p|p
     ·exact absurd p c
     ·exact absurd p (RQ _)
   ·
    rw [Ac a] at p;rcases p with p|p
    ·exact absurd p a
    ·exact absurd p f
  have b:L.2=0/\chk L.1=0:=by
   by_cases a:L.2=0
   ·
    refine ⟨a,?_⟩;have:E=chk L.1:=by rw [d,Ae a]
    rcases q with q|q
    ·rw [<-this];exact q
    ·exact absurd (this.symm.trans q) (RQ _)
   ·
    have:E=L.2:=by rw [d,Ac a]
    rcases q with q|q
    ·exact absurd (this.symm.trans q) a
    ·exact absurd (this.symm.trans q) e
  have l:E=0:=by rw [d,Ae b.1];exact b.2
  have k:A=L.1:=by rw [i,Ae b.1,Ae b.2]
  rw [g.2.2,l,k];exact ⟨rfl,fun _=>j g.1 b.1⟩
def Np(hv:Vd t): right (rtn t)=true:=Cy (Br hv.1) (by have:=B0 hv.1;omega)
def AaU{n:Nd}{N:Int}(d:n.K=K)(c:n.N=N)(b:n.M=0)(a:n.S=(⟨#[]⟩:ByteArray)): n=kN K N:=by
 cases n;simp_all
def Me(hv:Vd t)(hk:(rtn t).K=3\/(rtn t).K=6): 0<=(rtn t).N/\(rtn t).N<4/\rtn t=kN (rtn t).K (rtn t).N:=by
 have h:=Np hv;rw [Ns hk,A9] at h;obtain ⟨c,d,b,a⟩:=h;exact ⟨c,by omega,AaU rfl rfl b a⟩
def Aay(hv:Vd t)(hk:(rtn t).K=2): rtn t=kN 2 (rtn t).N:=by
 have h:=Np hv;rw [Ir hk,A9] at h;exact AaU hk rfl h.2.1 h.2.2
def K7(hv:Vd t)(hk:(rtn t).K=K)(h:K=10\/K=22\/K=23): rtn t=kN K 0:=by
 have h0:=Np hv;subst hk;rw [Dz zQ zQ (by rcases h with h|h|h<;>rw [h]<;>decide)] at h0;simp only [RH,A5,A9] at h0;exact AaU rfl h0.1.1 h0.1.2 h0.2
def Aaf(hv:Vd t)(h:many (rtn t)=0): t=[rtn t]:=by
 have a:=M5 (Br hv.1);have c:=Cl (Br hv.1);have b:ptL t=[]:=Bw (by rw [c];exact h);rw [b] at a;exact a
def II(hv:Vd t)(j:Nat): Bv (agA t) j=Bv (ptL t) j:=by rw [EW hv.1]
end
section
variable {n:Nd} {p q:zL} {l:Nat->Bd}
def q_f(hl:∀k,l k=(Bv p k,0))(k:Nat): QB (l k) (Bv p k):=by rw [hl];exact q_p
def e_pi(h0:0<=m)(a:m<4)(hl:∀k,l k=(Bv p k,0)): R2 (rpi (kN 3 m) l (t,0) (u,0)) (epL 0 (kN 3 m) p t u):=by
 have f:=q_f hl;have d:QB (rpi (kN 3 m) l (t,0) (u,0)) _:=q_2 (f 0) (q_e (f 1) (q_2 (q_u zS q_p) (Aa7 h0 a q_l)) (q_2 (q_u zS q_p) (Aa7 h0 a q_l)));refine .of d (EX (EX JG zS) zS) fun h=>?_;obtain ⟨b,_⟩:=DA h;show noL (upE (upE 0 t 1 0) u 1 0) _ _=_;have c:upE (upE 0 t 1 0) u 1 0=0:=h;rw [b] at c;simp only [epA,epX,orN,b,c,mk_o h0 a]
def e_sg(hl:∀k,l k=(Bv p k,0)): R2 (rsg m (l 0) (l 1) (t,0) (u,0)) (esL 0 m p t u):=by
 have f:=q_f hl;unfold rsg esL;by_cases a:m=1
 ·rw [Ae a,Ae a];exact .of (q_e (f 0) (q_1 q_p) (q_1 q_p)) JG fun _=>rfl
 ·
  rw [Ac a,Ac a];by_cases b:m=2
  ·rw [Ae b,Ae b];refine .of (q_e (q_w (f 1) q_l) (q_1 q_p) (q_1 q_p)) (Mm JG) fun h=>?_;have c:inQ 0 (Bv p 1) [noL 0 (kN 29 0) []]=0:=h;simp only [c]
  ·rw [Ac b,Ac b];refine .of (q_2 (q_e (f 0) (q_1 q_p) (q_1 q_p)) (q_u zS (q_e (q_w (f 1) (q_1 q_p)) (q_c (q_w (f 1) (q_1 q_p)) (q_w (f 1) (q_1 q_p)) (q_1 q_p)) (q_1 q_p)))) (EX (Mm (Mm JG)) zS) fun h=>?_;dsimp only at h ⊢;obtain ⟨a,_⟩:=DA h;obtain ⟨b,_⟩:=JL a;simp only [b] at a h ⊢;simp only [a] at h ⊢;simp only [h]
def e_nt(c:Vd a)(hk:(rtn a).K=10)(f:Vd t)(e:Vd u): R2 (rnt t u) (ntL 0 a t u,ntE 0 t u):=by
 have ea:a=noL 0 (kN 10 0) []:=by
  have d:=Aaf c (H3 hk (.inr (.inl rfl)));rw [K7 c hk (.inl rfl)] at d;exact d
 unfold rnt ntL ntE;rcases Lx t with kt|kt|kt<;>rcases Lx u with b|b|b<;>rw [kt,b]
 ·exact LU rfl
 ·exact LU rfl
 ·exact LU rfl
 ·exact LU rfl
 ·exact R2.of q_l JG fun _=>rfl
 ·exact R2.of q_l JG fun _=>rfl
 ·exact LU rfl
 ·exact R2.of q_l JG fun _=>rfl
 ·refine R2.of (q_e q_l q_p q_p) JG fun _=>?_;simp only [II f,II e];rw [<-ea];rfl
def e_dt{s:ByteArray}{x y:Nd}: R2 (rdt s x y) (edL 0 s x y):=by
 unfold rdt edL;split
 ·exact .of q_l JG fun _=>rfl
 ·exact LU rfl
def e_qu(d:Vd a)(c:Vd t)(b:Vd u): R2 (if (rtn t).K=23/\(rtn u).K=23 then bAt (bP0 a 1) [bP0 u 1,bP0 t 1] else ([],120)) (eqL 0 a t u):=by
 unfold eqL;split
 ·refine .of (q_w2 q_p q_p q_p) (Mm JG) fun _=>?_;simp only [II c,II b,II d]
 ·exact LU rfl
def e_pr:R2 (rpr (t,0) (u,0)) (e0L 0 t u):=by
 refine .of (q_2 (q_2 q_p (q_u zS q_p)) (q_u zS (q_2 q_p (q_u zS q_p)))) (EX (EX (EX JG zS) zS) zS) fun h=>?_;unfold e0L at h ⊢;dsimp only at h ⊢;obtain ⟨a,_⟩:=DA h;obtain ⟨b,_⟩:=DA a;simp only [b] at a h ⊢;simp only [a] at h ⊢;simp only [h]
def sr_q{n:Int}{k:Nat}{b:Bool}(h:b=true↔0<EN m k): QB (rsr n b) (noL 0 (srN (kN 2 n) m k) []):=by
 unfold rsr srN;by_cases hb:b=true
 ·rw [Ae hb,Ae (h.1 hb)];exact q_l
 ·rw [Ac hb,Ac fun q=>hb (h.2 q)];exact q_l
def sr_f{n:Int}: QB (rsr n false) (noL 0 (kN 2 n) []):=q_l
def e_tP{n:Int}(h0:0<=m)(o:m<4)(hl:∀k,l k=(Bv p k,0))(i:∀k,l' k=(Bv q k,0)): R2 (rtP n m l l') (etP 0 (kN 2 n) m p q):=by
 have f:=q_f hl;have g:=q_f i;have d:(0:Int)<=1:=by decide
 have a:(0:Int)<=2:=by decide
 have v:=Aa7 h0 o (q_c (q_u (k:=0) a (g 0)) (q_u (k:=0) a (f 0)) (q_l (nd:=kN 0 0)));have r:QB (rtP n m l l') _:=q_2 (q_e (sr_q (k:=2) (m:=m) (by rw [A9];exact mk_2 h0 o)) (g 0) (f 0)) (q_2 (q_u d (g 0)) (q_e sr_f (q_w (q_u a (f 1)) v) (q_u d (g 1))));refine .of r (EX (EX (Mm (EX (EX (EX JG a) a) a)) d) d) fun h=>?_;unfold etP at h ⊢;dsimp only at h ⊢;obtain ⟨b,_⟩:=DA h;obtain ⟨c,_⟩:=DA b;obtain ⟨e,_⟩:=JL c;obtain ⟨j,_⟩:=DA e;obtain ⟨h6,_⟩:=DA j;simp only [h6] at j e c b h ⊢;simp only [j] at e c b h ⊢;simp only [e] at c b h ⊢;simp only [c] at b h ⊢;simp only [b] at h ⊢;simp only [h,mk_o h0 o,Int.add_comm]
def e_tS{n:Int}(h0:0<=m)(e:m<4)(hl:∀k,l k=(Bv p k,0))(j:∀k,l' k=(Bv q k,0)): R2 (rtS n m l l') (etS 0 (kN 2 n) m p q):=by
 have f:=q_f hl;have g:=q_f j;have d:(0:Int)<=1:=by decide
 have a:(0:Int)<=2:=by decide
 have v:=Aa7 h0 e (q_c (q_u (k:=0) a (f 0)) (q_u (k:=0) a (g 0)) (q_l (nd:=kN 0 0)));have r:QB (rtS n m l l') _:=q_2 (q_e (sr_q (k:=2) (m:=m) (by rw [A9];exact mk_2 h0 e)) (f 0) (g 0)) (q_2 (q_u d (f 0)) (q_e (sr_q (k:=1) (m:=m) (by rw [A9];exact mk_1 h0 e)) (q_u d (f 1)) (q_w (q_u a (g 1)) v)));refine .of r (EX (Mm (EX (EX (EX (EX JG a) a) d) a)) d) fun h=>?_;unfold etS at h ⊢;dsimp only at h ⊢;obtain ⟨b,_⟩:=DA h;obtain ⟨c,_⟩:=JL b;obtain ⟨i,_⟩:=DA c;obtain ⟨o,_⟩:=DA i;obtain ⟨h6,_⟩:=DA o;simp only [h6] at o i c b h ⊢;simp only [o] at i c b h ⊢;simp only [i] at c b h ⊢;simp only [c] at b h ⊢;simp only [b] at h ⊢;simp only [h,mk_o h0 e,Int.add_comm]
def e_tQ{n:Int}(hl:∀k,l k=(Bv p k,0))(o:∀k,l' k=(Bv q k,0)): R2 (rtQ n l l') (etQ 0 (kN 2 n) p q):=by
 have f:=q_f hl;have g:=q_f o;have j:(0:Int)<=1:=by decide
 have s:(0:Int)<=2:=by decide
 have b:(0:Int)<=3:=by decide
 have v:=fun i=>q_c (q_u (k:=0) b (f 0)) (q_u (k:=0) b (g 0)) (q_l (nd:=kN 0 i));have t:QB (rtQ n l l') _:=q_2 (q_e sr_f (f 0) (g 0)) (q_2 (q_u j (f 0)) (q_2 (q_u s (f 0)) (q_e sr_f (q_u j (f 1)) (q_w2 (q_u b (g 1)) (v 0) (v 1)))));refine .of t (EX (EX (Mm (EX (EX (EX (EX (EX (EX JG j) b) b) b) b) b)) j) s) fun h=>?_;unfold etQ etT at h ⊢;dsimp only at h ⊢;obtain ⟨a,_⟩:=DA h;obtain ⟨c,_⟩:=DA a;obtain ⟨d,_⟩:=JL c;obtain ⟨e,_⟩:=DA d;obtain ⟨h6,_⟩:=DA e;obtain ⟨m,_⟩:=DA h6;obtain ⟨r,_⟩:=DA m;obtain ⟨u,_⟩:=DA r;simp only [u] at r m h6 e d c a h ⊢;simp only [r] at m h6 e d c a h ⊢;simp only [m] at h6 e d c a h ⊢;simp only [h6] at e d c a h ⊢;simp only [e] at d c a h ⊢;simp only [d] at c a h ⊢;simp only [c] at a h ⊢;simp only [a] at h ⊢;simp only [h]
def st_eq(hv:Vd a): YL (rtn a)=Qb (rtn a):=by
 unfold YL Qb;by_cases b:(rtn a).K=3
 ·
  obtain ⟨x,y,_⟩:=Me hv (.inl b);have e:decide ((rtn a).N.tmod 2=1)=decide (0<EN (rtn a).N 1):=by rw [decide_eq_decide];exact mk_1 x y
  rw [e]
 ·simp [b]
def hd_eq(hv:Vd a): hdR (rtn a)=hdB (rtn a):=by
 unfold hdR hdB Qb;by_cases f:(rtn a).K=3
 ·
  obtain ⟨x,y,_⟩:=Me hv (.inl f);have e:decide ((rtn a).N.tmod 2=0)=!decide (0<EN (rtn a).N 1):=by
   rw [Bool.eq_iff_iff];simp only [A9,Cn,BI];rw [<-mk_1 x y];rcases Int.emod_two_eq (rtn a).N with q|q<;>rw [Int.tmod_eq_emod_of_nonneg x]<;>omega
  rw [e];simp [f]
 ·
  by_cases h6:(rtn a).K=6
  ·simp [h6]
  ·
   by_cases g:(rtn a).K=2
   ·simp [g]
   ·
    by_cases d:(rtn a).K=10
    ·simp [d]
    ·
     by_cases b:(rtn a).K=25
     ·simp [b]
     ·
      by_cases c:(rtn a).K=22
      ·simp [c]
      ·simp [f,h6,g,d,b,c]
def e_ty{n:Int}(e:Vd t)(h:Vd u): R2 (rty n t u) (etL 0 (kN 2 n) t u):=by
 have g:∀k,bP0 t k=(Bv (agA t) k,0):=fun k=>by rw [II e]
 have f:∀k,bP0 u k=(Bv (agA u) k,0):=fun k=>by rw [II h]
 unfold rty etL;dsimp only;rw [hd_eq e,hd_eq h];by_cases d:hdB (rtn t)=false\/hdB (rtn u)=false
 ·rw [Ae d,Ae d];exact LU rfl
 ·
  rw [Ac d,Ac d];have i:hdB (rtn t)=true/\hdB (rtn u)=true:=by
   constructor
   ·
    cases hh:hdB (rtn t)
    ·exact absurd (.inl hh) d
    ·rfl
   ·
    cases hh:hdB (rtn u)
    ·exact absurd (.inr hh) d
    ·rfl
  by_cases c:rtn t=rtn u
  ·
   rw [Ac (by rintro (q|⟨q,_⟩);exact q (congrArg Nd.K c);exact q c),Ac (CX c)];by_cases b:(rtn t).K=3
   ·obtain ⟨x,y,_⟩:=Me e (.inl b);rw [Ac (by rw [Js b];decide),Ae b,Ae b];exact e_tP x y g f
   ·
    rw [Ac b,Ac b];by_cases h6:(rtn t).K=6
    ·obtain ⟨x,y,_⟩:=Me e (.inr h6);rw [Ac (by rw [Jr h6];decide),Ae h6,Ae h6];exact e_tS x y g f
    ·
     rw [Ac h6,Ac h6];by_cases a:(rtn t).K=22
     ·rw [Ac (by rw [Gr a];decide),Ae a];exact e_tQ g f
     ·
      have hk:(rtn t).K=2\/(rtn t).K=10\/(rtn t).K=25:=by
       have:=i.1;unfold hdB at this;simp [b,h6,a] at this;omega
      rw [Ae (H3 rfl hk),Ac a];exact .of q_l JG fun _=>rfl
  ·
   rw [Ae c];have:¬(rtn t).K=(rtn u).K\/(¬rtn t=rtn u/\¬(rtn t).K=22):=by
    by_cases hk:(rtn t).K=(rtn u).K
    ·refine .inr ⟨c,fun a=>c ?_⟩;rw [K7 e a (.inr (.inl rfl)),K7 h (hk.symm.trans a) (.inr (.inl rfl))]
    ·exact .inl hk
   rw [Ae this];exact .of q_l JG fun _=>rfl
def e_all(e:Vd a)(j:Vd t)(i:Vd u): R2 (reB a t u) (eyL a t u):=by
 have l:∀k,bP0 a k=(Bv (agA a) k,0):=fun k=>by rw [II e]
 unfold reB eyL;dsimp only;rw [st_eq e];by_cases h0:(rtn t).K=29\/(rtn u).K=29\/Qb (rtn a)=true
 ·rw [Ae h0,Ae h0];exact .of q_l JG fun _=>rfl
 rw [Ac h0,Ac h0];by_cases f:(rtn a).K=3
 ·obtain ⟨x,y,z⟩:=Me e (.inl f);rw [Ae f,Ae f];rw [f] at z;have:=e_pi (t:=t) (u:=u) x y l;rw [<-z] at this;exact this
 rw [Ac f,Ac f];by_cases h6:(rtn a).K=6
 ·rw [Ae h6,Ae h6];exact e_sg l
 rw [Ac h6,Ac h6];by_cases b:(rtn a).K=10
 ·rw [Ae b,Ae b];exact e_nt e b j i
 rw [Ac b,Ac b];by_cases c:(rtn a).K=25
 ·rw [Ae c,Ae c];exact e_dt
 rw [Ac c,Ac c];by_cases d:(rtn a).K=22
 ·rw [Ae d,Ae d];exact e_qu e j i
 rw [Ac d,Ac d];by_cases g:(rtn a).K=2
 ·
  rw [Ae g,Ae g];by_cases h:0<(rtn a).N
  ·rw [Ae h,Ae h];have:=e_ty (n:=(rtn a).N) j i;rw [<-Aay e g] at this;exact this
  ·rw [Ac h,Ac h];exact e_pr
 ·rw [Ac g,Ac g];exact LU rfl
end
section
def c_pi(o:Vd a)(hb:Vd b)(h0:0<=m)(r:m<4): R2 (Zb m (bP0 a) (bP0 b) (t,0)) (piL 0 (agA a) (agA b) t m,TK 0 (agA a) (agA b) t m):=by
 have f:∀k,QB (bP0 a k) (Bv (agA a) k):=fun k=>by rw [II o];exact q_p
 have g:∀k,QB (bP0 b k) (Bv (agA b) k):=fun k=>by rw [II hb];exact q_p
 have c:(0:Int)<=1:=by decide
 have y:=Aa7 h0 r (q_c (q_u (k:=0) c (g 0)) (q_u (k:=0) c (f 0)) (q_l (nd:=kN 0 0)));have p:QB (Zb m (bP0 a) (bP0 b) (t,0)) _:=q_2 (g 0) (q_c (q_w (q_u c (f 1)) y) (g 1) (q_2 (q_u c q_p) y));refine .of p (Mm (EX (EX (EX (EX JG c) c) c) c)) fun h=>?_;dsimp only at h ⊢;unfold TK at h;obtain ⟨n,_⟩:=JL h;have i:upE (piE3 0 (agA a) (agA b) t) (Bv (agA a) 1) 1 1=0:=n;obtain ⟨l,_⟩:=DA i;have e:upE (Xd 0 (agA a) (agA b)) t 1 0=0:=l;obtain ⟨j,_⟩:=DA e;have d:upE (piE1 0 (agA b)) (Bv (agA a) 0) 1 0=0:=j;obtain ⟨q,_⟩:=DA d;have s:piY 0 (agA a) (agA b) m=_:=rfl;have h6:TK 0 (agA a) (agA b) t m=0:=h;unfold piL piG piU piY;rw [h6,n,l,j,q]
def c_sg(j:Vd a)(hb:Vd b)(h0:0<=m)(e:m<4): R2 (TJ m b (bP0 a) (bP0 b) (t,0)) (sgL 0 (agA a) (agA b) b t m,sgE 0 (agA a) (agA b) t m):=by
 have f:∀k,QB (bP0 a k) (Bv (agA a) k):=fun k=>by rw [II j];exact q_p
 have g:∀k,QB (bP0 b k) (Bv (agA b) k):=fun k=>by rw [II hb];exact q_p
 have x:=Aa7 h0 e (q_1 (nd:=kN 8 0) (q_p (t:=t)));have d:=Aa7 h0 e (q_c (f 0) (g 0) (q_1 (nd:=kN 8 0) (q_p (t:=t))));have o:plL 0 m (caL 0 (Bv (agA a) 0) (Bv (agA b) 0) (noL 0 (kN 8 0) [t]))=sgC 0 (agA a) (agA b) t m:=by
  unfold sgC sgF plL;split
  ·rfl
  ·rfl
 rw [o] at d;have i:sgE 0 (agA a) (agA b) t m≠120:=by
  unfold sgE;split
  ·exact Mm (Mm JG)
  ·exact JG
 unfold TJ;by_cases hm:m.tmod 2=0
 ·have c:=(mk_0 h0 e).1 hm;rw [Ae hm];refine .of (q_3 q_p d (q_c (q_w (f 1) x) (q_w (g 1) d) (q_1 q_p))) i fun h=>?_;dsimp only at h ⊢;have h6:=h;unfold sgE at h;rw [Ae c] at h;have n:inQ (sgE1 0 (agA a) t m) (Bv (agA b) 1) [sgC 0 (agA a) (agA b) t m]=0:=h;obtain ⟨l,_⟩:=JL n;unfold sgL sgS;rw [h6,h,l,Ae c];rfl
 ·have c:¬EN m 1=0:=fun q=>hm ((mk_0 h0 e).2 q);rw [Ac hm];refine .of (q_3 q_p d q_l) i fun h=>?_;dsimp only at h ⊢;unfold sgL;rw [h,Ac c]
def c_all(d:Vd a)(hb:Vd b)(f:Vd t): R2 (R9 a b t) ((crQ a b t).getD ([],120)):=by
 unfold R9 crQ;dsimp only;by_cases c:(rtn t).K=29
 ·rw [Ae c,Ae c];exact .of q_l JG fun _=>rfl
 rw [Ac c,Ac c];by_cases e:rtn a=rtn b
 ·
  rw [Ac (CX e),Ae e.symm];refine XB (by simp [or_assoc]) (fun _=>.of q_p JG fun _=>rfl) fun _=>?_;refine XB (by simp only [A5,A9];exact and_congr_right fun h=>mk_0 (Me d (.inl h)).1 (Me d (.inl h)).2.1) (fun h=>?_) fun _=>?_
  ·simp only [A5,A9] at h;obtain ⟨x,y,_⟩:=Me d (.inl h.1);exact c_pi d hb x y
  refine XB (by simp only [A5,Cn,A9,BI];exact and_congr_right fun h=>by obtain ⟨x,y,_⟩:=Me d (.inr h);show ¬(rtn a).N=3↔(rtn a).N<3;omega) (fun h=>?_) fun _=>?_
  ·simp only [A5,A9] at h;obtain ⟨x,y,_⟩:=Me d (.inr h.1);exact c_sg d hb x y
  refine XB yB (fun h=>?_) fun _=>LU rfl;simp only [A5,A9] at h;refine .of (q_2 q_p (q_c q_p q_p q_p)) JG fun _=>?_;show quL 0 a b t=_;unfold quL;rw [II d,II hb,II f];rw [show nth t (t.length-1)=kN 23 0 from K7 f h.2 (.inr (.inr rfl))]
 ·rw [Ae e,Ac fun q=>e q.symm];exact LU rfl
def cr_all(g:Vd a)(hb:Vd b)(f:Vd t)(h:R=(crQ a b t).getD ([],120)): crE a b t=(if R.2=0 then chk R.1 else R.2)/\crA a b t=if (if R.2=0 then chk R.1 else R.2)=0 then R.1 else []:=by
 cases hq:crQ a b t with
 | none=>
  have e:R=([],120):=by rw [h,hq];rfl
  obtain ⟨d,c⟩:=Of g.1 hb.1 f.1 hq;rw [e,d,c];exact ⟨rfl,rfl⟩
 | some y=>
  have e:R=y:=by rw [h,hq];rfl
  obtain ⟨x,i⟩:=y;obtain ⟨d,c⟩:=Ew g.1 hb.1 f.1 hq;rw [e,d,c];exact ⟨rfl,rfl⟩
end
def rrP:RR DR PR where
 U {t} _:=by
  show ag2 (MS t) (urA t,urE t);rw [ZN];exact fun _ _=>⟨rfl,fun _=>rfl⟩
 E {a t u} ha ht hu:=by
  show ag2 (reQ a t u) (eyA a t u,eyE a t u);obtain ⟨d,c⟩:=Ee ha.1 ht.1 hu.1 (R:=eyL a t u) rfl;rw [XA ha.1 ht.1 hu.1];exact (e_all ha ht hu).end d c
 C {a b t} ha hb ht:=by
  show ag2 (LV a b t) (crA a b t,crE a b t);obtain ⟨d,c⟩:=cr_all ha hb ht rfl;rw [R8 ha.1 hb.1 ht.1];exact (c_all ha hb ht).end d c
end
section
open Go Go.RowKit
def lbP(a b:Int): Bool:=decide ((0<=a/\a<=9)/\(0<=b/\b<=9)/\(a=0↔b=0)/\a<=b)
def Pn(a b:Int): 0<=lvIndex [a,b]↔¬((0<=a/\a<=9)/\(0<=b/\b<=9)):=by
 simp only [lvIndex];by_cases d:0<=a/\a<=9<;>by_cases c:0<=b/\b<=9<;>simp [d,c]
def smX(a b:zM): Bool×Int:=((cv (Aq a) (Aq b)).2,(cv (Aq a) (Aq b)).1)
def blX(a b:zM): Bool×Int:=if (rtn a).K=2/\(rtn b).K=2 then (lbP (rtn a).N (rtn b).N,0) else smX a b
def ZK(h:(decide ((nth a (a.length-1)).K=2)&&decide ((nth b (b.length-1)).K=2))=true): blX a b=(lbP (rtn a).N (rtn b).N,0):=Ae (by simpa using h)
def ZL(h:(decide ((nth a (a.length-1)).K=2)&&decide ((nth b (b.length-1)).K=2))=false): blX a b=smX a b:=Ac (by simpa using h)
def cnF(X:zM->zM->Bool×Int)(t u:zM)(k:Int): Bool×Int:=
 if ¬(nrF PR t k).2.2=0 then (false,(nrF PR t k).2.2) else if ¬(nrF PR u k).2.2=0 then (false,(nrF PR u k).2.2) else X (nrF PR t k).1 (nrF PR u k).1
section
variable {R:Rls}
def T6(h:¬(nrF PR t k).2.2=0): cnF X t u k=(false,(nrF PR t k).2.2):=Ae h
def T5(h:(nrF PR t k).2.2=0)(a:¬(nrF PR u k).2.2=0): cnF X t u k=(false,(nrF PR u k).2.2):=(Ac (CX h)).trans (Ae a)
def Kl(h:(nrF PR t k).2.2=0)(a:(nrF PR u k).2.2=0): cnF X t u k=X (nrF PR t k).1 (nrF PR u k).1:=(Ac (CX h)).trans (Ac (CX a))
def AaR(h:(nrF R t k).2.2=0): chk t=0/\(nmT R k 0 (erA t)).2.1=0/\chk (nmT R k 0 (erA t)).1=0/\(nrF R t k).1=(nmT R k 0 (erA t)).1:=by
 by_cases h0:chk t=0
 ·
  by_cases a:(nmT R k 0 (erA t)).2.1=0
  ·
   by_cases b:chk (nmT R k 0 (erA t)).1=0
   ·exact ⟨h0,a,b,by rw [nr_3 h0 a b]⟩
   ·rw [nr_2 h0 a b] at h;exact absurd h b
  ·rw [nr_1 h0 a] at h;exact absurd h a
 ·rw [nr_0 h0] at h;exact absurd h h0
def Tg(a:RF R)(hs:sml t)(hk:0<=k)(h:(nrF R t k).2.2=0): Vd (nrF R t k).1:=by
 obtain ⟨h0,d,c,b⟩:=AaR h;rw [b];exact ⟨c,(QG (R:=R) (F:=k) (n:=0) a hk (VZ h0 hs)).2.2.2⟩
def Vl(d:RF R)(hs:sml t)(hk:0<=k)(h:(nrF R t k).2.2=0): (hdT R k 0 (erA t)).2.1=0/\rtn (nrF R t k).1=rtn (hdT R k 0 (erA t)).1:=by
 obtain ⟨h0,a,f,e⟩:=AaR h;have hv:=VZ h0 hs;rw [e];rw [RP d hv hk] at a ⊢;unfold nm1 at a ⊢;simp only at a ⊢;split at a
 ·
  rename_i b;refine ⟨b,?_⟩;rw [Ae b];split at a
  ·rename_i c;rw [Ae c];exact FA _ _
  ·rename_i c;exact absurd a c
 ·rename_i b;exact absurd a b
def Aaq(hs:sml t)(hk:0<=k)(h:(nrF DR t k).2.2=0)(c:(nrF PR t k).2.2=0): rtn (nrF PR t k).1=rtn (nrF DR t k).1:=by
 obtain ⟨a,b⟩:=Vl rfD hs hk h;obtain ⟨a',b'⟩:=Vl rfP hs hk c;rw [b,b',hdT_2 rfD rfP rrP 0 (erA t) hk (VZ (AaR h).1 hs) a a']
def so_law(hs:sml t)(hk:0<=k)(h:(nrF DR t k).2.2=0)(c:¬(rtn (nrF DR t k).1).K=2): cnF blX t u k=cnF smX t u k:=by
 by_cases a:(nrF PR t k).2.2=0
 ·
  by_cases b:(nrF PR u k).2.2=0
  ·rw [Kl a b,Kl a b];refine Ac fun q=>c ?_;rw [<-Aaq hs hk h a];exact q.1
  ·rw [T5 a b,T5 a b]
 ·rw [T6 a,T6 a]
end
section
variable {n:Int} (hm:0<=m/\m<=9) (hn:0<=n/\n<=9)
abbrev soL(m:Int): zM:=[kN 2 m]
include hm
def Aap:right (kN 2 m)=true:=by
 rw [Ir rfl,A9];exact ⟨Ae hm,rfl,rfl⟩
def SL:chk (soL m)=0/\Aq (soL m)=.mk (kN 2 m) []:=Ab4 (Aap hm) (H3 rfl (.inl rfl))
omit hm in
def Uv:sml (soL m):=(BD (e:=0) (n:=kN 2 m) e0S (p:=[]) zY:sml (noL 0 (kN 2 m) []))
def so_vd:Vd (soL m):=⟨(SL hm).1,Uv⟩
def so_er:erA (soL m)=soL m:=by
 rw [Sp (SL hm).1];unfold erL;rw [(SL hm).2];simp [erT,K2,T.flat,Az]
def OB:nrF PR (soL m) 0=(soL m,0,0):=by
 have hv:=so_vd hm;have b:rtn (soL m)=kN 2 m:=rfl;have c:wt_ (soL m) 0=none:=by unfold wt_;simp only [b];simp [tgK]
 have hl:rl_ PR (soL m)=([],120):=by unfold rl_;simp only [b];simp [tgK]
 have a:hdT PR 0 0 (soL m)=(soL m,0,0):=by
  rw [VC rfP hv (Int.le_refl 0),Gs c,hl];exact fi_ok rfl hv.1
 have hp:ptL (soL m)=[]:=by unfold ptL;rw [(SL hm).2];rfl
 have hn:nmT PR 0 0 (soL m)=(soL m,0,0):=by
  rw [AaT rfP hv (Int.le_refl 0) (by rw [a]) (l:=[]) (m:=0) (by rw [a,hp];rfl),a];rfl
 have e:=so_er hm;have d:=nr_3 (R:=PR) (k:=0) hv.1 (by rw [e,hn]) (by rw [e,hn];exact hv.1);rw [d,e,hn]
include hn
def so_cv:smX (soL m) (soL n)=(decide (m=n),0):=by
 have b:(T.mk (kN 2 m) []).wf=true:=by simp [T.wf,T.wfs,Aap hm,H3 (n:=kN 2 m) rfl (.inl rfl)]
 have a:(T.mk (kN 2 n) []).wf=true:=by simp [T.wf,T.wfs,Aap hn,H3 (n:=kN 2 n) rfl (.inl rfl)]
 have d2:¬(2:Int)=29/\¬(2:Int)=20/\¬(2:Int)=4/\¬(2:Int)=7:=by decide
 have e:cv (T.mk (kN 2 m) []) (T.mk (kN 2 n) [])=if kN 2 m=kN 2 n then J9 cv (H5 (T.mk (kN 2 m) []) (T.mk (kN 2 n) []) 0) else (0,false):=Yt b a d2 d2;unfold smX;rw [(SL hm).2,(SL hn).2,e];by_cases h:m=n
 ·subst h;rw [Ae rfl,AF rfl];rfl
 ·rw [Ac (fun q=>h (congrArg Nd.N q)),As h]
def so_b0:cnF blX (soL m) (soL n) 0=(lbP m n,0):=by
 rw [Kl (by rw [OB hm]) (by rw [OB hn]),OB hm,OB hn];exact Ae ⟨rfl,rfl⟩
def so_c0:cnF smX (soL m) (soL n) 0=(decide (m=n),0):=by
 rw [Kl (by rw [OB hm]) (by rw [OB hn]),OB hm,OB hn];exact so_cv hm hn
end
end
section
open Go Go.RowKit
section
variable {X:Prop} {Next:zC} {a:Act} {l:zD}
def Q6(w:zH)(a b c e:Int): (Op.equalIn 10000 199 (.agg #[.int .i64 a,.int .i64 b]) (.agg #[.int .i64 c,.int .i64 e])).run prog w=.ok (decide (a=c)&&decide (b=e)) w:=by
 have d:prog.cellsOf 3=1:=by kernel_rfl
 have hi:∃i,prog.info? 3=some i:=by
  cases h:prog.info? 3 with
  | none=>exact absurd (show (prog.info? 3).isSome=true by kernel_rfl) (by rw [h];simp)
  | some i=>exact ⟨i,rfl⟩
 obtain ⟨i,hi⟩:=hi;have hg:∀w,(isAgg 3).run prog w=.ok false w:=fun w=>Hv A8 w;have f:∀w x y,(Op.equalIn 9999 3 (.int .i64 x) (.int .i64 y)).run prog w=.ok (x == y) w:=fun w x y=>run_equalIn_int w 9998 _ _ _ _ _ A8;rw [run_equalIn_array w 9999 _ _ Tryz.underlying199 hi,d];simp only [show List.range 2=[0,1] from rfl,Op.eqItems,part,AB,hg,Ay,Bool.false_eq_true,if_false,List.getElem?_toArray,List.getElem?_cons_zero,List.getElem?_cons_succ,Ba,f,Nat.zero_mul,Nat.one_mul];by_cases j:a=c<;>by_cases g:b=e<;>simp [j,g,f]
def QV(a:BinOp)(x y:zJ)(xs ys:Array Value): (eqGuard a 199 x y (.agg xs) (.agg ys)).run prog w=.ok () w:=
 run_eqGuard_agg w a _ x y _ _ zU
def Lm{x y:zJ}{u:zI}{p q r s:Int}(hs:SteV prog X Next o a w)(c:Reg a N l)(hd:o.dst=some d)(g:o.op=.binOp .eql 199 x y u)(f:ev l x=some (.agg #[.int .i64 p,.int .i64 q]))(e:ev l y=some (.agg #[.int .i64 r,.int .i64 s]))(b:d<N)
  (k:∀a',Reg a' N ((d,.bool (decide (p=r)&&decide (q=s)))::l)->Next a' w):X:=by
 refine C6 hs c hd b ?_ k;unfold execOp;rw [g];simp only [c.ev f,c.ev e,AB,QV,Ay,run_eql_struct,Q6,Ba]
end
end
section
open Go.RowKit
def Hw:List MapEntry:=[⟨.int .i64 3,.func (.func 156) #[] #[],0⟩,⟨.int .i64 6,.func (.func 157) #[] #[],1⟩,⟨.int .i64 10,.func (.func 158) #[] #[],2⟩,⟨.int .i64 25,.func (.func 159) #[] #[],3⟩,⟨.int .i64 22,.func (.func 160) #[] #[],4⟩,⟨.int .i64 2,.func (.func 161) #[] #[],5⟩]
def Qs{z:Int}(f:¬z=3)(d:¬z=6)(c:¬z=10)(a:¬z=25)(b:¬z=22)(g:¬z=2): Instr.findNow (.int .i64) (.int .i64 z) Hw 0=some none:=by
 have e:∀k:Int,¬z=k->(z == k)=false:=fun k h=>by simpa using h
 simp [Hw,Instr.findNow,Instr.sameNow,e _ f,e _ d,e _ c,e _ a,e _ b,e _ g]
set_option maxRecDepth 100000 in
def Qr(w0:zH)(Z:zG)(i:∀k,Z k->k<w0.heap.size): Calls prog 140 ([]:zF).toArray w0 (fun e w'=>∃b,e=.returned (.map (some b))/\Fr Be w0 w'/\(Sw b Hw 6).φ w' (nxt Z w0 w')):=by
 refine Gw func140 rfl ntmps140 rfl (fun d a=>?_);refine wsc (fun l g=>?_);refine asg a (fun d a=>?_);refine Bm (Bl (g _ _ ?_));refine wsc (fun j f=>?_);refine Vx sv a rfl rfl zS (fun d a=>?_);refine HT se a rfl rfl rfl rfl rfl Co A8 rfl (fun d a=>?_);refine HT se a rfl rfl rfl rfl rfl Co A8 rfl (fun d a=>?_);refine HT se a rfl rfl rfl rfl rfl Co A8 rfl (fun d a=>?_);refine HT se a rfl rfl rfl rfl rfl Co A8 rfl (fun d a=>?_);refine HT se a rfl rfl rfl rfl rfl Co A8 rfl (fun d a=>?_);refine HT se a rfl rfl rfl rfl rfl Co A8 rfl (fun d a=>?_);refine mv a (fun d a=>?_);refine asg a (fun d a=>?_);refine Bm (Bl (f _ _ ?_));refine wp_ret ?_;refine Wn a rfl rfl rfl ?_;have h:=AaW (es:=Hw) (c:=6) (Z:=Z) w0;exact ⟨_,rfl,h.1,h.2⟩
end
section
open Go Go.RowKit
section
variable {w':zH} {Z M:zG} {m:zO} {ds ds':zP} {r:Res}
def Abm(d:Dat)(hi:m[i]?=some r)(h:d.φ w (imm Z w0 m w)): d.φ w (imm Z w0 [r] w):=
 d.mono _ _ _ _ (Ag _) h fun k hk=>⟨⟨hk.1,hk.2.1,fun s hs=>by rw [A7.1 hs];exact hk.2.2 r (A0 hi)⟩,rfl⟩
def St.dO{d:Dat}(h0:St w0 Z M w m ds)(h:St w0 Z M w' (m++[r]) ds')(hd:d.φ w' (imm (imm Z w0 m w) w [r] w')): St w0 Z M w' (m++[r]) (ds'++[d]):=
 h.data d (d.mono _ _ _ _ (Ag _) hd fun k hk=>⟨by
  have q:=QC h0 (k:=k) ⟨hk.1,hk.2.1⟩;refine ⟨q.1,q.2.1,fun s hs=>?_⟩;rcases Bi.1 hs with hs|hs
  ·exact q.2.2 s hs
  ·rw [A7.1 hs];exact hk.2.2 r List.mem_cons_self,rfl⟩)
end
end
section
open Go Go.RowKit Go.WideShapes Go.ChangeShapes
def kids:Kids prog (·<prog.types.size):=kids_rows zU zU
def SN:∀t e,t<prog.types.size->prog.underlying t=some (.slice e)->0<prog.cellsOf e:=slices_full_of prog zU
def Q7:ownKnob prog.godebug=none:=by kernel_rfl
section
variable {enc:TypeId×Value->H} {W W':zH}
def IU{b:Nat}{d:Nat->Bool}{a:Bool}:∀{ts:List zI} {vs:zF} {ds:List (DataW H)} {ps:List MemPlace},
  DataW.TrodAll enc P W b d a ts vs ds ps->(∀p∈ps,W.sameAt W' p)->DataW.TrodAll enc P W' b d a ts vs ds ps
 | [],[],[],_,h,_=>h
 | _::_,_::_,_::_,_,⟨p,q,⟨n,h1⟩,h2,e⟩,hs=>
  ⟨p,q,⟨n,DataW.trod_carry n _ _ _ h1 (fun x c=>hs x (by rw [e];exact List.mem_append_left _ c))⟩,
   IU h2 (fun x c=>hs x (by rw [e];exact List.mem_append_right _ c)),e⟩
 | [],[],_::_,_,h,_=>h.elim
 | [],_::_,_,_,h,_=>h.elim
 | _::_,[],_,_,h,_=>h.elim
 | _::_,_::_,[],_,h,_=>h.elim
def OH(hb:Below W.heap.size W W'){p:MemPlace}(a:p.block<W.heap.size): W.sameAt W' p:=by
 cases p with
 | cell b off=>exact hb.cell (p:=⟨b,off,none⟩) a
 | map b=>exact hb.block b a
def UW{s:ChangeSpec}{g l d m:Bool}{args:Array Value}{h:List (DataW H)}{a:List MemPlace}
  (K:Kids P (·<P.types.size)) (E:∀t e,t<P.types.size->P.underlying t=some (.slice e)->0<P.cellsOf e) (y:∀t∈f.params.toList,t<P.types.size)
  (c:s.vars=[]) (A:DataW.Whole enc P f.params.toList s.vars g W args.toList h [] a)
  {B:zI} (j:f.resultTypes=#[B]) (i:P.underlying B=some .bool)
  (k:(s.fn H h).results=[.lit (.bool true)]/\(s.fn H h).args=h/\(s.fn H h).vars=[]) (hb:Below W.heap.size W W'):
  s.post enc P f g l d m W args (.bool true) W':=by
 have hlt:∀p∈a,p.block<W.heap.size:=fun p hp=>A.lt p hp;have o:∀p∈a,(fun b=>decide (b<W.heap.size)) p.block=true:=fun p hp=>by simpa using hlt p hp
 have z:=A;obtain ⟨p,q,F,D,C,v,hn⟩:=z;rw [c] at D;have hq:q=[]:=D;subst hq;rw [BT] at C;subst C;have u:=IU (W':=W') F (fun x w=>OH hb (hlt x w));have n:∀(b:Nat) (sp:Nat->Bool) (hd:Bool),DataW.TrodAll enc P W' b sp hd f.resultTypes.toList ((Value.bool true).resultList f.resultTypes.size) (s.fn H h).results []:=fun b sp hd=>by
  rw [k.1,j];exact trodAll_mk1 (shut_bool i true)
 refine ⟨h,[],a,[],a,[],A,?_,?_,?_,World.keptBut_mono (fun p hp=>⟨hp,.inr (.inl hp)⟩) (hb.frame (·∈a)),fun _=>⟨?_,?_⟩⟩
 ·rw [BT];exact n _ _ _
 ·rw [BT,k.2.1];exact DataW.TrodAll.respare K E y u o
 ·rw [BT,k.2.2,c];exact rfl
 ·exact ok_one j rfl (okWide_bool_mk i true)
 ·
  refine ⟨[.lit (.bool true)]++h,[],[]++a,⟨[]++a,[],?_,?_,by simp,?_,?_⟩,?_⟩
  ·rw [j];exact trodAll_append u (trodAll_mk1 (shut_bool i true))
  ·rw [c];exact rfl
  ·
   intro b off hp;have r:MemPlace.cell b off∈a:=by simpa using hp
   rw [hb.frozen (hlt _ r)];exact v b off r
  ·intro ha;simpa using hn ha
  ·intro x w _;simpa using w
end
section
variable {enc:TypeId×Value->H}
def JI{p:Addr}(h:w.cell? p=some v): p.block<w.heap.size:=by
 unfold World.cell? at h;cases ho:w.heap[p.block]? with
 | none=>simp [ho] at h
 | some o=>exact (AO.1 ho).1
set_option maxRecDepth 100000 in
def Tj{e:Nat}{n:Nat}{x:DataW H×List MemPlace}(h:DataW.trod enc prog w e sp held n 26 cs=some x):∃nd:Nd,cs=Ei nd:=by
 have u:prog.underlying 26=some (.struct (prog.fieldsOf 26)):=by kernel_rfl
 have z:(prog.fieldsOf 26).toList.map (fun f=>(f.type,f.offset))=[(3,0),(3,1),(3,2),(9,3)]:=by kernel_rfl
 have p:prog.cellsOf 3=1:=by kernel_rfl
 have l:prog.cellsOf 9=1:=by kernel_rfl
 have o:prog.cellsOf 26=4:=by kernel_rfl
 obtain ⟨xs,m,_,_,hl,_,hg⟩:=DataW.trod_struct u h;rw [o] at hl;have d:∀(j:Nat) (t:zI) (off:Nat),((prog.fieldsOf 26).toList.map (fun f=>(f.type,f.offset)))[j]?=some (t,off)->∃y,DataW.trod enc prog w e sp held m t ((cs.drop off).take (prog.cellsOf t))=some y:=by
  intro j t off g;rw [FT] at g;cases hfj:(prog.fieldsOf 26).toList[j]? with
  | none=>rw [hfj] at g;cases g
  | some f=>
   rw [hfj] at g;simp only [C2,Cm,Ed] at g;obtain ⟨rfl,rfl⟩:=g;have i:=hg j f (by rw [<-Array.getElem?_toList];exact hfj);have v:j<(prog.fieldsOf 26).size:=by
    have:=(List.getElem?_eq_some_iff.1 hfj).1;simpa using this
   have k:j<xs.length:=by omega
   exact ⟨xs[j],by rw [i];exact Bk k⟩
 rw [z] at d;match cs,hl with
 | [c0,c1,c2,c3],_=>
  obtain ⟨D,h0⟩:=d 0 _ _ rfl;obtain ⟨C,i⟩:=d 1 _ _ rfl;obtain ⟨B,r⟩:=d 2 _ _ rfl;obtain ⟨A,q⟩:=d 3 _ _ rfl;rw [p] at h0 i r;rw [l] at q;obtain ⟨a,ha,_⟩:=DataW.trod_int A8 h0;obtain ⟨b,hb,_⟩:=DataW.trod_int A8 i;obtain ⟨c,hc,_⟩:=DataW.trod_int A8 r;obtain ⟨s,hs,_⟩:=DataW.trod_string D7 q;simp at ha hb hc hs;exact ⟨⟨a,b,c,s⟩,by simp [Ei,ha,hb,hc,hs]⟩
set_option maxRecDepth 100000 in
def M7{r:Reach}{e:Nat}{d:DataW H}{ps:List MemPlace}(o:Value.okWide prog w r b0 22 v)(hd:DataW.Trod enc prog w e sp held 22 v d ps):
  ∃(A:zE) (c:Nat) (t:zM),v=.slice A t.length c/\(B6 4 A t.length c (B2 t)).φ w (fun k=>k<w.heap.size):=by
 obtain ⟨A,len,cap,rfl⟩:=okWide_slice Aw o;obtain ⟨fuel,L⟩:=hd;have C:prog.cellsOf 26=4:=by kernel_rfl
 rcases Deep.open_slice Aw L with ⟨b,_⟩|⟨a,E,I,m,n,D,P,b,_,hl,_,hm,_,hi⟩
 ·simp [Value.cells] at b;obtain ⟨rfl,rfl,rfl⟩:=b;exact ⟨none,0,[],rfl,Ag _,rfl,fun h=>absurd h yB⟩
 ·
  simp [Value.cells] at b;obtain ⟨rfl,rfl,rfl⟩:=b;have J:len<=m:=by rw [hm];split<;>omega
  have z:∀i,∃nd:Nd,i<len->w.cells? e (a.add (i*4)) 4=some (Ei nd):=by
   intro i;by_cases B:i<len
   ·obtain ⟨cs',hc,ht⟩:=hi i zQ;obtain ⟨nd,rfl⟩:=Tj ht;rw [C] at hc;exact ⟨nd,fun _=>hc⟩
   ·exact ⟨ndz,fun h=>absurd h B⟩
  obtain ⟨f,s⟩:=Classical.axiomOfChoice z;refine ⟨some a,cap,(List.range len).map f,by simp,?_,?_,fun q=>⟨a,rfl,?_,?_⟩⟩
  ·simpa using hl
  ·exact Kh _
  ·
   have y:0<len:=by simpa using q
   obtain ⟨_,_,l⟩:=World.cells?_some (s 0 y);have h0:=l 0 zQ;rw [EJ] at h0;have:=JI (w:=w) (p:=a.add (0*4+0)) (by rw [h0];rfl);rwa [Ft] at this
  ·
   intro j u F;have K:j<len*4:=by
    have x:=(List.getElem?_eq_some_iff.1 F).1;rw [Kh] at x;simpa using x
   have g:j / 4<len:=by omega
   obtain ⟨_,M,l⟩:=World.cells?_some (s (j / 4) g);have x:=l (j%4) zQ;rw [EJ,show j / 4*4+j%4=j by omega] at x;rw [x,<-F];have G:=Hi BQ ((List.range len).map f) (j / 4) (by simpa using g) ndz;have O:((List.range len).map f).getD (j / 4) ndz=f (j / 4):=by simp [g]
   rw [O] at G;have N:(B2 ((List.range len).map f))[j]?=(((((List.range len).map f).flatMap Ei).drop (j / 4*4)).take 4)[j%4]?:=by
    rw [List.getElem?_take_of_lt zQ,List.getElem?_drop,show j / 4*4+j%4=j by omega];rfl
   rw [N,G]
end
end
section
open Go Go.RowKit Go.WideShapes Go.ChangeShapes
section
def QA{t:zI}{r:Reach}(a:P.underlying t=some (.int .u8))(h:Value.okWide P w r b0 t v):∃b:Nat,v=.int .u8 (b:Int)/\b<256:=by
 have h0:=h;obtain ⟨n,rfl⟩:=okWide_int a h;simp only [Value.okWide,a,Cell.okWide] at h0;have d:IntKind.u8.has n:=by simpa [Cell.ok,a] using h0
 have c:(0:Int)<=n/\n<=255:=d;exact ⟨n.toNat,by rw [Fa c.1],by omega⟩
end
set_option maxRecDepth 100000 in
def Lw{r:Reach}(a:Value.okWide prog w r b0 5 v):∃b:Nat,v=.int .u8 (b:Int)/\b<256:=QA Ex a
end
section
open Go Go.RowKit Go.WideShapes Go.ChangeShapes
set_option maxRecDepth 100000
def Mz(k:Nat): DataW Unit:=.agg [(match (shp k).b with|[]=>.nil|b=>.slice (lits .i64 b) []),.lit (.bool (shp k).n),.lit (.bool (shp k).m),.lit (.bool (shp k).s)]
def Abg:(Rows.laid_cornice_term_shapes:DataW Unit)=.agg ((List.range 30).map Mz):=by kernel_rfl
def Wm(l:zK): Ci l=l.map (fun n=>Value.int .i64 n):=by
 induction l with
 | nil=>rfl
 | cons x t ih=>rw [AA,<-ih];rfl
def Qo{o:Nat}{n:Nat}{k:Nat}{p:List MemPlace}
  (h:DataW.trod (fun _=>()) prog w o sp held n 119 cs=some (Mz k,p)):
  ∃(A:zE) (cap:Nat),cs=[.slice A (shp k).b.length cap,.bool (shp k).n,.bool (shp k).m,.bool (shp k).s]/\(shp k).b.length<=cap/\RowI w (fun k=>k<w.heap.size) 1 A (shp k).b.length (Ci (shp k).b):=by
 have g:prog.underlying 119=some (.struct (prog.fieldsOf 119)):=by kernel_rfl
 have W:(prog.fieldsOf 119).toList.map (fun f=>(f.type,f.offset))=[(68,0),(4,1),(4,2),(4,3)]:=by kernel_rfl
 have L:prog.cellsOf 68=1:=by kernel_rfl
 have C:prog.cellsOf 3=1:=by kernel_rfl
 have J:prog.cellsOf 4=1:=by kernel_rfl
 have K:prog.cellsOf 119=4:=by kernel_rfl
 obtain ⟨xs,m,_,V,hl,U,hg⟩:=DataW.trod_struct g h;rw [K] at hl;have hd:xs.map (·.1)=[(match (shp k).b with|[]=>.nil|b=>.slice (lits .i64 b) []),.lit (.bool (shp k).n),.lit (.bool (shp k).m),.lit (.bool (shp k).s)]:=by
  have:=congrArg Prod.fst V;simp only [Mz] at this;injection this with D;exact D.symm
 have e:∀(j:Nat) (t:zI) (off:Nat),((prog.fieldsOf 119).toList.map (fun f=>(f.type,f.offset)))[j]?=some (t,off)->DataW.trod (fun _=>()) prog w o sp held m t ((cs.drop off).take (prog.cellsOf t))=xs[j]?:=by
  intro j t off v;rw [FT] at v;cases hfj:(prog.fieldsOf 119).toList[j]? with
  | none=>rw [hfj] at v;cases v
  | some f=>
   rw [hfj] at v;simp only [C2,Cm,Ed] at v;obtain ⟨rfl,rfl⟩:=v;exact hg j f (by rw [<-Array.getElem?_toList];exact hfj)
 rw [W] at e;match cs,hl,xs,hd with
 | [c0,c1,c2,c3],_,[y0,y1,y2,y3],hd=>
  simp only [AA,AP,List.cons.injEq,and_true] at hd;obtain ⟨i,d1,d2,S⟩:=hd;have h0:=e 0 _ _ rfl;have D:=e 1 _ _ rfl;have N:=e 2 _ _ rfl;have M:=e 3 _ _ rfl;rw [L] at h0;rw [J] at D N M;obtain ⟨b1,Q,f1⟩:=DataW.trod_bool CV D;obtain ⟨b2,P,f2⟩:=DataW.trod_bool CV N;obtain ⟨b3,O,f3⟩:=DataW.trod_bool CV M;simp at Q P O;simp [f1] at d1;simp [f2] at d2;simp [f3] at S;subst Q P O d1 d2 S;rcases open_ints Bj A8 C h0 with ⟨c,F⟩|⟨a,len,cap,zs,c,_,H,_,r,F,d,_⟩
  ·
   simp at c;subst c;rw [F] at i;cases hb:(shp k).b with
   | nil=>exact ⟨none,0,by simp,by simp,by simp [Ci],fun h=>absurd h yB⟩
   | cons z zs=>rw [hb] at i;simp at i
  ·
   simp at c;subst c;rw [F] at i;cases hb:(shp k).b with
   | nil=>rw [hb] at i;simp at i
   | cons z l=>
    rw [hb] at i;simp only [DataW.slice.injEq] at i;obtain ⟨d4,d5⟩:=i;have B:∀a b:zK,(lits .i64 a:List (DataW Unit))=lits .i64 b->a=b:=by
     intro a;induction a with
     | nil=>intro b hb;cases b with
      | nil=>rfl
      | cons _ _=>simp [lits] at hb
     | cons x a ih=>intro b hb;cases b with
      | nil=>simp [lits] at hb
      | cons y b=>
       simp only [lits,AA,List.cons.injEq,DataW.lit.injEq,Lit.int.injEq,true_and] at hb;rw [hb.1,ih b hb.2]
    have R:=B _ _ d4;have G:len=(z::l).length:=by
     have:=congrArg List.length R;rw [Ak] at this;have hz:len<=zs.length:=by rw [r];split<;>omega
     omega
    subst G;refine ⟨some a,cap,rfl,H,by simp [Ki],fun _=>⟨a,rfl,?_,?_⟩⟩
    ·have X:=d 0 (by have E:(z::l).length<=zs.length:=(by rw [r];split<;>omega);rw [Af] at E;omega);have:=JI X;rwa [Ft] at this
    ·
     intro j u g;have I:j<(z::l).length:=by
      have:=(List.getElem?_eq_some_iff.1 g).1;rw [Ki] at this;simpa using this
     have T:(z::l).length<=zs.length:=by rw [r];split<;>omega
     rw [d j zQ];have Y:(z::l)[j]?=zs[j]?:=by rw [<-R,List.getElem?_take_of_lt I]
     have Z:=Wm (z::l);rw [Z,FT,Y] at g;cases hq:zs[j]? with
     | none=>rw [hq] at g;simp at g
     | some q=>
      rw [hq] at g;simp only [C2,Cm] at g;rw [<-g,AC,hq];rfl
def Mb(h : laidMetH prog [("cornice/term.shapes", Rows.laid_cornice_term_shapes)] W) : B9 W (fun k => k < W.heap.size) := by
 have h' : laidMet prog [("cornice/term.shapes", Rows.laid_cornice_term_shapes)] W := h
 obtain ⟨ps,⟨g,t,cs,fuel,p,q,hg,ht,hvar,hd,_,_⟩,_⟩:=h'
 have hg0 : prog.globalNamed "cornice/term.shapes" = some 0 := by kernel_rfl
 have ht0:(prog.globals[0]?).map (·.type)=some 120:=by kernel_rfl
 obtain rfl:0=g:=Bc (hg0.symm.trans hg);obtain rfl:120=t:=Bc (ht0.symm.trans ht);have hcn:prog.cellsOf 119=4:=by kernel_rfl
 have hct:prog.cellsOf 120=120:=by kernel_rfl
 obtain ⟨xs,m,_,hx,hl,hxl,hi⟩:=DataW.trod_array Tryz.underlying120 hd;rw [hct] at hl;have hxd:xs.map (·.1)=(List.range 30).map Mz:=by
  have:=congrArg Prod.fst hx;simp only [Abg] at this;injection this with h1;exact h1.symm
 intro k hk;have h1:=hi k hk;rw [hcn] at h1;have hkx:k<xs.length:=by omega
 have h2:xs[k]?=some (Mz k,(xs[k]).2):=by
  rw [Bk hkx];have h3:(xs.map (·.1))[k]?=some (Mz k):=by rw [hxd];simp [hk]
  rw [FT,Bk hkx] at h3;simp only [C2,Cm] at h3;rw [<-h3]
 rw [h2] at h1;obtain ⟨A,cap,hcs,hle,hrow⟩:=Qo h1;refine ⟨A,cap,⟨hle,hrow⟩,?_,?_⟩
 ·
  have h4:=World.var?_cell hg hvar 0;have h5:cs[0]?≠none:=by
   intro e;rw [<-Array.getElem?_toList,List.getElem?_eq_none_iff] at e;omega
  cases h6:cs[0]? with
  | none=>exact absurd h6 h5
  | some v=>rw [h6] at h4;exact JI h4
 ·
  intro j u hu;have hj:j<4:=by
   have:=(List.getElem?_eq_some_iff.1 hu).1;simpa using this
  have h4:=World.var?_cell hg hvar (k*4+j);rw [<-hcs,List.getElem?_take_of_lt hj,List.getElem?_drop,Array.getElem?_toList] at hu;rw [hu] at h4;rw [EJ];have:(⟨0,0,none⟩:Addr).add (k*4+j)=⟨0,k*4+j,none⟩:=by unfold Addr.add;split<;>simp_all
  rw [this];exact h4
noncomputable def LA(os:Os): World:=
 { World.holding prog os ⟨#[.cells #[.int .i64 0,.int .i64 1,.int .i64 0,.int .i64 1,.int .i64 0,.int .i64 0,.int .i64 0,.int .i64 1,.int .i64 0,.int .i64 0,.int .i64 0,.int .i64 0,.int .i64 0,.int .i64 0,.int .i64 1,.int .i64 0,.int .i64 2,.int .i64 0,.int .i64 0,.int .i64 0,.int .i64 0,.int .i64 0,.int .i64 0,.int .i64 0,.int .i64 0,.int .i64 0,.int .i64 0,.int .i64 0,.int .i64 0,.int .i64 0,.int .i64 0,.int .i64 1,.int .i64 0,.int .i64 0,.int .i64 0,.int .i64 0,.int .i64 2,.int .i64 0,.int .i64 0,.int .i64 0,.int .i64 0,.int .i64 0,.int .i64 0,.int .i64 1,.int .i64 0,.int .i64 0,.int .i64 0] 3],#[],[]⟩ with heap:=(World.holding prog os ⟨#[.cells #[.int .i64 0,.int .i64 1,.int .i64 0,.int .i64 1,.int .i64 0,.int .i64 0,.int .i64 0,.int .i64 1,.int .i64 0,.int .i64 0,.int .i64 0,.int .i64 0,.int .i64 0,.int .i64 0,.int .i64 1,.int .i64 0,.int .i64 2,.int .i64 0,.int .i64 0,.int .i64 0,.int .i64 0,.int .i64 0,.int .i64 0,.int .i64 0,.int .i64 0,.int .i64 0,.int .i64 0,.int .i64 0,.int .i64 0,.int .i64 0,.int .i64 0,.int .i64 1,.int .i64 0,.int .i64 0,.int .i64 0,.int .i64 0,.int .i64 2,.int .i64 0,.int .i64 0,.int .i64 0,.int .i64 0,.int .i64 0,.int .i64 0,.int .i64 1,.int .i64 0,.int .i64 0,.int .i64 0] 3],#[],[]⟩).heap.modify 0 fun
   | .cells _ t frozen=>.cells #[.slice none 0 0,.bool true,.bool false,.bool false,.slice none 0 0,.bool false,.bool false,.bool true,.slice none 0 0,.bool true,.bool false,.bool false,.slice (some ⟨6,0,none⟩) 2 2,.bool true,.bool false,.bool false,.slice (some ⟨6,2,none⟩) 2 2,.bool false,.bool false,.bool false,.slice (some ⟨6,4,none⟩) 2 2,.bool false,.bool false,.bool false,.slice (some ⟨6,6,none⟩) 2 2,.bool true,.bool false,.bool false,.slice (some ⟨6,8,none⟩) 3 3,.bool false,.bool false,.bool false,.slice (some ⟨6,11,none⟩) 1 1,.bool false,.bool false,.bool false,.slice (some ⟨6,12,none⟩) 1 1,.bool false,.bool false,.bool false,.slice none 0 0,.bool false,.bool false,.bool false,.slice none 0 0,.bool false,.bool false,.bool false,.slice (some ⟨6,13,none⟩) 1 1,.bool false,.bool false,.bool false,.slice (some ⟨6,14,none⟩) 4 4,.bool false,.bool false,.bool false,.slice none 0 0,.bool false,.bool false,.bool false,.slice (some ⟨6,18,none⟩) 2 2,.bool false,.bool false,.bool false,.slice none 0 0,.bool false,.bool false,.bool false,.slice none 0 0,.bool false,.bool false,.bool false,.slice (some ⟨6,20,none⟩) 3 3,.bool false,.bool false,.bool false,.slice (some ⟨6,23,none⟩) 2 2,.bool false,.bool false,.bool false,.slice (some ⟨6,25,none⟩) 4 4,.bool false,.bool false,.bool false,.slice (some ⟨6,29,none⟩) 6 6,.bool false,.bool false,.bool false,.slice (some ⟨6,35,none⟩) 5 5,.bool false,.bool false,.bool false,.slice (some ⟨6,40,none⟩) 2 2,.bool false,.bool false,.bool false,.slice (some ⟨6,42,none⟩) 4 4,.bool false,.bool false,.bool false,.slice none 0 0,.bool false,.bool false,.bool true,.slice none 0 0,.bool true,.bool true,.bool true,.slice none 0 0,.bool false,.bool true,.bool true,.slice (some ⟨6,46,none⟩) 1 1,.bool false,.bool false,.bool false,.slice none 0 0,.bool false,.bool false,.bool false] t frozen
   | o=>o }
end
end Go.Proofs.YtgddkjdhnolahaaGreatDoor
namespace Go.Proofs.YtgddkjdhnolahaaGreatDoor
open Go Go.RowKit
set_option linter.unusedSimpArgs false
set_option linter.unusedVariables false
set_option maxRecDepth 100000
set_option maxHeartbeats 4000000
open _root_.Go.Proofs.Tryz
variable {Z : Nat → Prop} {ai e tc : Nat} {ce n un : Int} {pA tA uA : Option Addr} {t u : List Nd} {w0 : World}
def XQ(a:HZ w0 Z):
    CP 42 [vI n] w0 (fun e w'=>e=.returned (.bool (!decide (0<=n/\n<=9)))/\Fr Be w0 w'):=by
 have b:=sTn a zn;refine cen ntmps42 fun c=>?_;refine lOr 2 (decide (9<n)) c fun d f=>?_;refine gr f ?_;refine ⟨?_,b.fr⟩;exact cre (Bx (by rw [Bool.eq_iff_iff];simp []<;>omega))
def NL(g:HZ w0 Z)(t:zK)(e:(B6 1 tA t.length tc (Ci t)).φ w0 Z)(hl:t.length<=1000000:=by exact ax):
    CA 55 [vS tA t tc,.func (.func 42) #[] #[]] w0 (vI (lvIndex t)):=by
 have b:=sTn g (zc e zn);refine cen ntmps55 fun c=>?_;refine AV (fun gn l gw=>∃k:Nat,Reg l 19 [rZ,(0,vS tA t tc),(1,.func (.func 42) #[] #[]),(7,vI (t.length:Int)),(8,vI (k:Int))]/\St w0 Z Be gw [] [B6 1 tA t.length tc (Ci t)]/\(k<=t.length)/\(lvIndex t=(let r:=lvIndex (t.drop k);if r<0 then r else r+(k:Int)))/\(t.length-k)=gn) _ ⟨0,rz c,b,by omega,by simp,rfl⟩ ?_;rintro c b d ⟨k,f,h,hk,hi,i⟩;refine go f fun i=>?_;refine wcD i (fun f d=>?_) fun f b=>?_;refine ixe d (eI k (h.ro 0)) fun f a=>?_;refine lee f a fun d=>?_;refine kAV d h (XQ h.il (n:=C7 t k)) fun f i=>?_;refine wcG i (fun d c=>?_) fun d j=>?_;have i:=Jn d;have m:=An i;refine er1 c ?_;refine ⟨?_,f.fr⟩;exact cre (AR (by exact (Pq (k:=k) hi zQ (by intro c;have q:=m;simp at q;omega)).symm));have c:=DM d;have d:=Ad c;refine adG ((k+1:Nat):Int) j fun c=>?_;exact ⟨_,by omega,k+1,rz c,f,by omega,Po hi zQ (by have q:=d;simpa using q),rfl⟩;refine er1 b ?_;refine ⟨?_,h.fr⟩;exact cre (AR (by exact (Pp hi zQ).symm))
def Ky(e:HZ w0 Z)(t:zK)(a:(B6 1 tA t.length tc (Ci t)).φ w0 Z)(hl:t.length<=1000000:=by exact ax):
    CA 41 [vS tA t tc,.func (.func 42) #[] #[]] w0 (.bool (decide (0<=lvIndex t))):=by
 have b:=sTn e (zc a zn);refine cen ntmps41 fun c=>?_;refine kA c b (NL b.il _ (b.g 0)) fun d f=>?_;refine er1 f ?_;refine ⟨?_,d.fr⟩;exact cre (Bx zW)
def L7(e:HZ w0 Z)(t:zK)(a:(B6 1 tA t.length tc (Ci t)).φ w0 Z)(hl:t.length<=1000000:=by exact ax):
    CA 27 [vS tA t tc] w0 (.bool (!decide (0<=lvIndex t))):=by
 have b:=sTn e (zc a zn);refine cen ntmps27 fun c=>?_;refine kA c b (Ky b.il _ (b.g 0)) fun d f=>?_;refine er1 f ?_;refine ⟨?_,d.fr⟩;exact cre (Bx zW)
def NM(a:HZ w0 Z):
    CA 92 [vI n] w0 (vI (Kz n)):=by
 have b:=sTn a zn;refine cen ntmps92 fun c=>?_;refine bsG c b fun d f h=>?_;have c:=h.pub 0 (B6 1 (oP d) 1 1 (Ci ([n])));refine kA f c (L7 c.il ([n]) (c.g 0)) fun h d=>?_;refine wcH d (fun c f=>?_) fun c b=>?_;have d:=Jn c;have i:=An d;refine er1 f ?_;refine ⟨?_,h.fr⟩;exact cre (AR (by exact (Tp (by have q:=i;simpa using q)).symm));have i:=DM c;have c:=Ad i;refine er1 b ?_;refine ⟨?_,h.fr⟩;exact cre (AR (by exact (V0 (by have q:=c;simpa using q)).symm))
def MB(a:HZ w0 Z)(k:Int):
    CA 93 [vI k] w0 (vI (most k)):=by
 have b:=sTn a zn;refine cen ntmps93 fun c=>?_;refine wcd c (fun d f=>?_) fun d h=>?_;refine gr f ?_;refine ⟨?_,b.fr⟩;exact cre (AR (by have f:=d;(try simp at f); unfold most;(repeat' split)<;>omega));refine F1 (fun e gw=>Reg e 9 [(2,vI 0),(6,.bool (decide (k=3)||decide (k=6))),rZ]/\St w0 Z Be gw [] []) ?_ ?_;refine go h fun c=>?_;refine wcD c (fun h i=>?_) fun h j=>?_;exact ⟨rzf i h,b⟩;exact ⟨rzf j h,b⟩;rintro j h ⟨b,i⟩;refine wcG b (fun h j=>?_) fun h c=>?_;have b:=h;try simp only [bz] at b
 refine er1 j ?_;refine ⟨?_,i.fr⟩;exact cre (AR (by have f:=d;(try simp at f);have j:=h;(try simp at j); unfold most;(repeat' split)<;>omega));have b:=Ct h;have m:=An b;have b:=Cs h;have n:=An b;refine er1 c ?_;refine ⟨?_,i.fr⟩;exact cre (AR (by have f:=d;(try simp at f);have j:=h;(try simp at j);have i:=m;(try simp at i);have c:=n;(try simp at c); unfold most;(repeat' split)<;>omega))
def G8(e:HZ w0 Z)(n:Nd)(a:B9 w0 Z)(hr:right n=true:=by exact ax):
    CA 73 [.agg #[vI n.K,vI n.N,vI n.M,.string n.S]] w0 (vI ((many n:Nat):Int)):=by
 have c:=sTn e (zc (d:=A6) a zn);obtain ⟨f,h⟩:=Qw hr;refine cen ntmps73 fun h=>?_;refine bxG h c fun f m o=>?_;refine wcD m (fun f h=>?_) fun f c=>?_;refine er1 h ?_;refine ⟨?_,o.fr⟩;exact cre (AR (by exact RY hr zQ));refine wcD c (fun h f=>?_) fun h m=>?_;obtain ⟨c,p⟩:=HK hr h;refine adG (n.M+2) f fun p=>?_;refine er1 p ?_;refine ⟨?_,o.fr⟩;exact cre (AR (by first|exact L3 hr zQ|exact NH zQ zQ));refine NK (i:=(n.K).toNat) (j:=(n.K).toNat*4) sv m rfl rfl rfl rfl Tryz.underlying120 Ur zQ zQ rfl zS fun p f=>?_;refine CT (j':=(n.K).toNat*4) sv f rfl rfl rfl rfl Ez rfl sz68 rfl rfl zS fun p m=>?_;obtain ⟨p,f,c,h⟩:=Lb (o.g 0) (n.K).toNat zQ;have q:=o.data (B6 1 p (shp (n.K).toNat).b.length f (Ci (shp (n.K).toNat).b)) c;refine I2 sv m rfl rfl rfl 0 ((n.K).toNat*4) h rfl rfl Bj rfl zS fun c f=>?_;refine gr f ?_;refine ⟨?_,q.fr⟩;exact cre (AR (by first|exact L3 hr zQ|exact NH zQ zQ))
def Tm(g:HZ w0 Z)(s:ByteArray)(hs:s.size<1000000:=by exact ax):
    CA 91 [.string s] w0 (.bool (EG s)):=by
 have c:=sTn g zn;refine cen ntmps91 fun d=>?_;refine AV (fun gn e gw=>∃k:Nat,Reg e 48 [rZ,(0,.string s),(7,vI (s.size:Int)),(8,vI (k:Int))]/\St w0 Z Be gw [] []/\(k<=s.size)/\Ke s k/\(s.size-k)=gn) _ ⟨0,rz d,c,by omega,L0 s,rfl⟩ ?_;rintro d c f ⟨k,h,j,hk,hi,m⟩;refine go h fun m=>?_;refine wcD m (fun h f=>?_) fun h c=>?_;refine OQ (i:=k) sv f rfl rfl rfl rfl D7 zQ zQ zS fun m d=>?_;refine go d fun m=>?_;refine It (v:=.int .u8 ((orB (Dd s k) 32:Nat):Int)) sv m rfl rfl rfl rfl zS (U5 (a:=Dd s k) (b:=32) (by exact H9 _ _) zQ) fun d f=>?_;refine go f fun d=>?_;refine NU 3 (decide (((orB (Dd s k) 32:Nat):Int)<=122)) d (fun f m n=>?_) fun o p=>?_;refine DQ (AH (wt m)) m rfl rfl rfl zS fun o f=>?_;refine It (v:=.int .u8 ((orB (Dd s k) 32:Nat):Int)) (AH (wt f)) f rfl rfl rfl rfl zS (U5 (a:=Dd s k) (b:=32) (by exact H9 _ _) zQ) fun o m=>?_;refine r_leq (AH (wt m)) m rfl rfl rfl rfl zS fun o f=>?_;refine Fj sv f rfl rfl rfl rfl zS fun o m=>?_;exact n.fin m;refine go p fun m=>?_;refine lOr 2 (decide (((Dd s k:Nat):Int)=95)) m fun p n=>?_;refine go n fun p=>?_;refine CH (fun e gw=>Reg e 48 [(0,.string s),(7,vI (s.size:Int)),(8,vI (k:Int)),(39,.bool ((!((decide (97<=((orB (Dd s k) 32:Nat):Int))&&decide (((orB (Dd s k) 32:Nat):Int)<=122))||decide (((Dd s k:Nat):Int)=95)))&&(decide ((k:Int)=0)||(decide (((Dd s k:Nat):Int)<48)||decide (57<((Dd s k:Nat):Int)))))),rZ]/\St w0 Z Be gw [] []) 11 ?_ ?_;refine sph 28 p (fun n m=>?_) fun n o=>?_;have p:=n;try simp only [bz] at p
 refine go m fun p=>?_;exact ⟨rzf p n,j⟩;have p:=Ct n;have m:=p;try simp only [bz] at m
 have m:=Cs n;refine go o fun m=>?_;refine spd 31 m (fun o p=>?_) fun o f=>?_;refine go p fun m=>?_;exact ⟨rzg m n o,j⟩;refine go f fun m=>?_;refine spd 35 m (fun f p=>?_) fun f d=>?_;refine go p fun m=>?_;exact ⟨m.sub (rc2 (rc rfl (rc (rb rfl (by simp only [n,As o,Ac o,AF f,Ae f,bl];done)) (rc rfl rnl)))),j⟩;refine go d fun m=>?_;exact ⟨m.sub (rc2 (rc rfl (rc (rb rfl (by simp only [n,As o,Ac o,As f,Ac f,bl];done)) (rc rfl rnl)))),j⟩;rintro m f ⟨o,n⟩;refine gp ?_;refine wcG o (fun f m=>?_) fun f d=>?_;have o:=Ck f;have p:=Jn o;have o:=Ct p;have q:=o;try simp only [bz] at q
 have q:=Cs p;have p:=An q;have q:=Cj f;have o:=q;try simp only [bz] at o
 refine er1 m ?_;refine ⟨?_,n.fr⟩;exact cre (Bx (by exact (RT (k:=k) zQ (by have m:=h;(try simp at m);have o:=f;(try simp at o);have q:=p;(try simp at q); unfold okC;omega)).symm));have q:=f;try simp only [bz] at q
 refine adG ((k+1:Nat):Int) d fun q=>?_;exact ⟨_,by omega,k+1,rz q,n,by omega,L1 hi (by have m:=h;(try simp at m);have o:=f;(try simp at o); unfold okC;omega),rfl⟩;refine lAn 3 (decide ((s.size:Int)<=16)) c fun q o=>?_;refine gr o ?_;refine ⟨?_,j.fr⟩;exact cre (Bx (by rw [XO hi zQ];done))
def Li(B:HZ w0 Z)(n:Nd)(k:B9 w0 Z)(hs:n.S.size<1000000:=by exact ax):
    CA 72 [.agg #[vI n.K,vI n.N,vI n.M,.string n.S]] w0 (.bool (right n)):=by
 have c:=sTn B (zc (d:=A6) k zn);refine cen ntmps72 fun f=>?_;refine bxG f c fun h o p=>?_;refine lOr 3 (decide (30<=n.K)) o fun f c=>?_;refine gp ?_;refine wcG c (fun f o=>?_) fun f q=>?_;have c:=f;try simp only [bz] at c
 refine er1 o ?_;refine ⟨?_,p.fr⟩;exact cre (Bx (by exact (OL zQ).symm));have o:=Ct f;have c:=An o;have o:=Cs f;have u:=An o;refine NK (i:=(n.K).toNat) (j:=(n.K).toNat*4) sv q rfl rfl rfl rfl Tryz.underlying120 Ur zQ zQ rfl zS fun o v=>?_;obtain ⟨o,q,x,y⟩:=Lb (p.g 0) (n.K).toNat zQ;have z:=p.data (B6 1 o (shp (n.K).toNat).b.length q (Ci (shp (n.K).toNat).b)) x;refine Bo sv v rfl rfl rfl y Ez rfl Ur zS fun x p=>?_;refine alG p z fun x y v=>?_;refine sto 1 y v fun p z a e=>?_;refine Bm (Bl ?_);refine wp_seq ?_;refine wp_block ?_;refine F1 (fun A gw=>Reg A 110 [(1,vP h),(2,.bool false),(3,vP x),(16,.bool (((!((shp (n.K).toNat).n))&&(!(decide (n.N=0))))||(((!((shp (n.K).toNat).m))&&(!(decide (n.M=0))))||(((!((shp (n.K).toNat).s))&&(!(decide (n.S=bE))))||((shp (n.K).toNat).s&&(!(EG n.S))))))),rZ]/\St w0 Z Be gw [.box h 26 [vI n.K,vI n.N,vI n.M,.string n.S],.box x 119 [.slice o (shp (n.K).toNat).b.length q,.bool (shp (n.K).toNat).n,.bool (shp (n.K).toNat).m,.bool (shp (n.K).toNat).s]] [A6,B6 1 o (shp (n.K).toNat).b.length q (Ci (shp (n.K).toNat).b)]) ?_ ?_;refine go a fun z=>?_;refine lAn 3 (!(decide (n.N=0))) z fun a p=>?_;refine go p fun a=>?_;refine wcG a (fun p z=>?_) fun p v=>?_;have a:=Ck p;have a:=Cj p;have y:=Jn a;exact ⟨rzf z p,e⟩;have z:=p;try simp only [bz] at z
 refine lAn 3 (!(decide (n.M=0))) v fun z y=>?_;refine go y fun z=>?_;refine wcG z (fun y v=>?_) fun y a=>?_;have z:=Ck y;have z:=Cj y;have l:=Jn z;exact ⟨rzg v p y,e⟩;have v:=y;try simp only [bz] at v
 refine lAn 3 (!(decide (n.S=bE))) a fun v l=>?_;refine go l fun v=>?_;refine wcG v (fun l a=>?_) fun l z=>?_;have v:=Ck l;have v:=Cj l;have t:=Jn v;exact ⟨a.sub (rc2 (rc rfl (rc (rb rfl (by simp only [p,y,l,bl];done)) (rc rfl rnl)))),e⟩;have a:=l;try simp only [bz] at a
 refine CH (fun A gw=>Reg A 110 [(1,vP h),(2,.bool false),(3,vP x),(16,.bool false),(48,.bool ((shp (n.K).toNat).s&&(!(EG n.S)))),rZ]/\St w0 Z Be gw [.box h 26 [vI n.K,vI n.N,vI n.M,.string n.S],.box x 119 [.slice o (shp (n.K).toNat).b.length q,.bool (shp (n.K).toNat).n,.bool (shp (n.K).toNat).m,.bool (shp (n.K).toNat).s]] [A6,B6 1 o (shp (n.K).toNat).b.length q (Ci (shp (n.K).toNat).b)]) 5 ?_ ?_;refine spg 43 z (fun x q=>?_) fun x o=>?_;refine go q fun z=>?_;refine kA z e (Tm e.il n.S) fun q h=>?_;exact ⟨rzf h x,q⟩;refine go o fun h=>?_;exact ⟨rzf h x,e⟩;rintro h x ⟨e,o⟩;refine go e fun x=>?_;exact ⟨x.sub (rc2 (rc rfl (rc (rb rfl (by simp only [p,y,l,bl];done)) (rc rfl rnl)))),o⟩;rintro x o ⟨l,y⟩;refine wcG l (fun o x=>?_) fun o p=>?_;have l:=o;try simp only [bz] at l
 refine er1 x ?_;refine ⟨?_,y.fr⟩;exact cre (Bx (by exact (UB o).symm));have x:=Ct o;have l:=x;try simp only [bz] at l
 have l:=Cs o;have x:=Ct l;have e:=x;try simp only [bz] at e
 have e:=Cs l;have l:=Ct e;have x:=l;try simp only [bz] at x
 have x:=Cs e;have e:=x;try simp only [bz] at e
 refine wcD p (fun e x=>?_) fun e l=>?_;refine kA x y (NM y.il (n:=n.N)) fun p h=>?_;refine er1 h ?_;refine ⟨?_,p.fr⟩;exact cre (Bx (by exact (ST o zR).symm));refine wcD l (fun p h=>?_) fun p x=>?_;refine dr3 22 y 2 (pB 0 0 pn) fun l q z a t=>?_;refine dR [0,1,2,3] h fun t q=>?_;refine spd 64 q (fun t h=>?_) fun t l=>?_;refine dR [4,5,6,7] h fun q v=>?_;refine d1 8 ?_;refine kA v a (MB a.il n.K) fun q h=>?_;refine dsw q fun v=>?_;refine dR [9,10,11] h fun v w=>?_;refine dAn 12 [13,14] 15 (decide (0<=n.M)) w fun v h=>?_;refine dR [16] h fun v w=>?_;refine dAn 17 [18,19] 20 (decide (n.M<=6)) w fun v h=>?_;refine dR [21] h fun v w=>?_;refine wdp z ?_;refine er1 w ?_;refine ⟨?_,q.fr⟩;exact cre (Bx (by rw [M3 o zR];first|rfl|(simp<;>omega)|(simp [f,c,u,o,e,p,t];done)|(rw [Bool.eq_iff_iff];simp<;>omega)));refine dR [4,5,6,7,8,9,10,11,12,13,14,15,16,17,18,19,20,21] l fun q w=>?_;refine wdp z ?_;refine er1 w ?_;refine ⟨?_,a.fr⟩;exact cre (Bx (by rw [M3 o zR];first|rfl|(simp<;>omega)|(simp [f,c,u,o,e,p,t];done)|(rw [Bool.eq_iff_iff];simp<;>omega)));refine wcD x (fun t a=>?_) fun t w=>?_;refine lAn 3 (decide (n.M<=6)) a fun x z=>?_;refine gr z ?_;refine ⟨?_,y.fr⟩;exact cre (Bx (by rw [Qu o zR];first|rfl|(simp<;>omega)|(simp [f,c,u,o,e,p,t];done)|(rw [Bool.eq_iff_iff];simp<;>omega)));refine dr3 17 y 2 (pB 0 0 (pB 1 0 pn)) fun z x a q l=>?_;refine dR [0,1,2,3] w fun l x=>?_;refine sph 97 x (fun l w=>?_) fun l z=>?_;refine dR [4,5,6,7] w fun x y=>?_;refine spd 101 y (fun x w=>?_) fun x v=>?_;refine dR [8,9,10,11] w fun y h=>?_;refine d1 12 ?_;refine kA h q (MB q.il n.K) fun y w=>?_;refine dsw y fun h=>?_;refine dR [13,14,15,16] w fun h r=>?_;refine wdp a ?_;refine er1 r ?_;refine ⟨?_,y.fr⟩;exact cre (Bx (by rw [Lg o zQ zQ zR zR zR];first|rfl|(simp<;>omega)|(simp [f,c,u,o,e,p,t,l,x];done)|(rw [Bool.eq_iff_iff];simp<;>omega)));refine dR [8,9,10,11,12,13,14,15,16] v fun y r=>?_;refine wdp a ?_;refine er1 r ?_;refine ⟨?_,q.fr⟩;exact cre (Bx (by rw [Lg o zQ zQ zR zR zR];first|rfl|(simp<;>omega)|(simp [f,c,u,o,e,p,t,l,x];done)|(rw [Bool.eq_iff_iff];simp<;>omega)));refine dR [4,5,6,7,8,9,10,11,12,13,14,15,16] z fun x r=>?_;refine wdp a ?_;refine er1 r ?_;refine ⟨?_,q.fr⟩;exact cre (Bx (by rw [Lg o zQ zQ zR zR zR];first|rfl|(simp<;>omega)|(simp [f,c,u,o,e,p,t,l];done)|(rw [Bool.eq_iff_iff];simp<;>omega)))
def Mn(hZ:HZ w0 Z)(Q:B9 w0 Z)(Y:N4 tA tc t w0 Z)(hl:t.length<=4000:=by exact ax)(hsm:sml t:=by exact ax):
    CP 50 [vS tA t tc] w0 (fun e w'=>∃(O:zE) (L:Nat),e=.returned (.tuple #[.slice O (DY t).length L,.bool (Bn t)])/\Fr Be w0 w'/\(B6 2 O (DY t).length L (Fe (DY t))).φ w' (nxt Z w0 w')):=by
 have m:=sTn hZ (zc (d:=A6) Q (zc Y zn));refine cen ntmps50 fun o=>?_;have p:=m.nilrow 83 2;have m:=p.nilrow 83 2;refine AV (fun gn J gw=>∃k:Nat,∃st:List T,∃F:zE,∃ca:Nat,∃H:zE,∃G:Nat,Reg J 73 [rZ,(12,vS tA t tc),(13,vI (t.length:Int)),(14,vI (k:Int)),(4,vS F (DJ 0 st) ca),(5,vS H (meas 0 st) G)]/\St w0 Z Be gw [.row F (DJ 0 st).length ca 83 2 (Fe (DJ 0 st)),.row H (meas 0 st).length G 83 2 (Fe (meas 0 st))] [A6,n4 tA tc t]/\(k<=t.length)/\(De [] (t.take k)=some st)/\(t.length-k)=gn) _ ⟨0,[],none,0,none,0,rz o,m,by omega,rfl,rfl⟩ ?_;rintro m o p ⟨k,st,F,ca,H,G,s,u,hk,A,v⟩;have W:=F6 A hk;have hml:=E9 0 st;have hal:=Gl 0 st;have hsl:=Gg st;refine go s fun v=>?_;refine wcD v (fun s p=>?_) fun s o=>?_;refine ixe p (eN k (u.ro 1)) fun s X=>?_;refine len s X fun p=>?_;refine alG p u fun s v m=>?_;refine stG 2 v m fun p y=>?_;refine kA p y (Li y.il (nth t k) (y.g 0) (hs:=hsm _ zQ)) fun m v=>?_;refine CH (fun J gw=>Reg J 73 [(4,vS F (DJ 0 st) ca),(5,vS H (meas 0 st) G),(6,vI (k:Int)),(7,vP s),(12,vS tA t tc),(13,vI (t.length:Int)),(14,vI (k:Int)),(28,.bool ((!(right (nth t k)))||decide (((meas 0 st).length:Int)<((many (nth t k):Nat):Int)))),rZ]/\St w0 Z Be gw [.row F (DJ 0 st).length ca 83 2 (Fe (DJ 0 st)),.row H (meas 0 st).length G 83 2 (Fe (meas 0 st)),.box s 26 [vI (nth t k).K,vI (nth t k).N,vI (nth t k).M,.string (nth t k).S]] [A6,n4 tA tc t]) 6 ?_ ?_;refine sph 22 v (fun y p=>?_) fun y a=>?_;refine go p fun v=>?_;refine kA v m (G8 m.il (nth t k) (m.g 0)) fun p l=>?_;exact ⟨rzf l y,p⟩;refine go a fun l=>?_;exact ⟨rzf l y,m⟩;rintro l y ⟨m,a⟩;refine gp ?_;refine wcG m (fun y l=>?_) fun y p=>?_;have m:=y;try simp only [bz] at m
 refine er2 l ?_;have l:DY t=[]:=(NE (IZ A zQ (Lo (by rcases m with h|h;exact .inl h;exact .inr zQ)))).1;rw [l];refine ⟨none,0,?_,a.fr,⟨Ag _,RowI.nil _ _ _ _⟩⟩;exact AJ rfl (Bx (by exact (NE (IZ A zQ (Lo (by rcases m with h|h;exact .inl h;exact .inr zQ)))).2.symm));have m:=Ct y;have l:=DM m;have l:=Cs y;have y:=An l;refine kA p a (G8 a.il (nth t k) (a.g 0)) fun y l=>?_;refine sbG (((meas 0 st).length:Int)-((many (nth t k):Nat):Int)) l fun p=>?_;refine alG p y fun l a m=>?_;refine stG 3 a m fun p y=>?_;have m:=ES (y.res (i:=1) rfl);refine Jt (lo:=some (.tmp 37)) (hi:=none) (vlo:=some (vI (((meas 0 st).length:Int)-((many (nth t k):Nat):Int)))) (vhi:=none) (kd:=.i64) (kd':=.i64) sv p rfl rfl rfl rfl rfl ((meas 0 st).length-many (nth t k)) (many (nth t k)) (.inl (by congr 2;omega)) (.inr ⟨rfl,by omega⟩) FP AbU zQ zS fun m a v w r B=>?_;refine go B fun w=>?_;refine AV (fun gn J gw=>∃j:Nat,Reg J 73 [(4,vS F (DJ 0 st) ca),(5,vS H (meas 0 st) G),(12,vS tA t tc),(13,vI (t.length:Int)),(14,vI (k:Int)),rZ,(8,vI (((meas 0 st).length:Int)-((many (nth t k):Nat):Int))),(9,vP l),(38,.slice a (many (nth t k)) v),(39,vI ((many (nth t k):Nat):Int)),(40,vI (j:Int))]/\St w0 Z Be gw [.row F (DJ 0 st).length ca 83 2 (Fe (DJ 0 st)),.row H (meas 0 st).length G 83 2 (Fe (meas 0 st)),.box s 26 [vI (nth t k).K,vI (nth t k).N,vI (nth t k).M,.string (nth t k).S],.box l 83 [vI (GZ k (meas 0 st) ((meas 0 st).length-many (nth t k)) j),vI (GF (meas 0 st) ((meas 0 st).length-many (nth t k)) j)]] [A6,n4 tA tc t]/\(j<=many (nth t k))/\(many (nth t k)-j)=gn) _ ⟨0,rz w,y,by omega,rfl⟩ ?_;rintro w y B ⟨j,m,p,hj,C⟩;obtain ⟨C,B⟩:=Yp (st:=st) (b:=(meas 0 st).length-many (nth t k)) (q:=j);obtain ⟨B,C⟩:=Kf (st:=st) (i:=((meas 0 st).length-many (nth t k))+j);refine go m fun C=>?_;refine wcD C (fun m B=>?_) fun m y=>?_;refine ix j (j*2) B (Cut.elem r zQ (Zh (t:=meas 0 st) (k:=((meas 0 st).length-many (nth t k))+j) (p.z 1) zQ)).some_ fun m C=>?_;refine Bo sv C rfl rfl rfl (Cut.elem r zQ (Zh (t:=meas 0 st) (k:=((meas 0 st).length-many (nth t k))+j) (p.z 1) zQ)) EO rfl AbU zS fun m B=>?_;refine alG B p fun m C r=>?_;refine sto 4 C r fun B w D E=>?_;refine Bm (Bl ?_);refine F1 (fun J gw=>Reg J 73 [(4,vS F (DJ 0 st) ca),(5,vS H (meas 0 st) G),(8,vI (((meas 0 st).length:Int)-((many (nth t k):Nat):Int))),(9,vP l),(11,vP m),(12,vS tA t tc),(13,vI (t.length:Int)),(14,vI (k:Int)),(38,.slice a (many (nth t k)) v),(39,vI ((many (nth t k):Nat):Int)),(40,vI (j:Int)),rZ]/\St w0 Z Be gw [.row F (DJ 0 st).length ca 83 2 (Fe (DJ 0 st)),.row H (meas 0 st).length G 83 2 (Fe (meas 0 st)),.box s 26 [vI (nth t k).K,vI (nth t k).N,vI (nth t k).M,.string (nth t k).S],.box l 83 [vI (if ((j:Int)=0) then (J6 (meas 0 st) (((meas 0 st).length-many (nth t k))+j)).1 else (GZ k (meas 0 st) ((meas 0 st).length-many (nth t k)) j)),vI (GF (meas 0 st) ((meas 0 st).length-many (nth t k)) j)],.box m 83 [vI (J6 (meas 0 st) (((meas 0 st).length-many (nth t k))+j)).1,vI (J6 (meas 0 st) (((meas 0 st).length-many (nth t k))+j)).2]] [A6,n4 tA tc t]) ?_ ?_;refine go D fun m=>?_;refine wcD m (fun D v=>?_) fun D a=>?_;refine stG 3 v E fun m l=>?_;have I:=l;exact ⟨rz m,by rw [(show ((if ((j:Int)=0) then (J6 (meas 0 st) (((meas 0 st).length-many (nth t k))+j)).1 else (GZ k (meas 0 st) ((meas 0 st).length-many (nth t k)) j)):Int)=(J6 (meas 0 st) (((meas 0 st).length-many (nth t k))+j)).1 by simp only [AF D,Ae D,bl];done)];exact I⟩;have I:=E;exact ⟨rz a,by rw [(show ((if ((j:Int)=0) then (J6 (meas 0 st) (((meas 0 st).length-many (nth t k))+j)).1 else (GZ k (meas 0 st) ((meas 0 st).length-many (nth t k)) j)):Int)=(GZ k (meas 0 st) ((meas 0 st).length-many (nth t k)) j) by simp only [As D,Ac D,bl];done)];exact I⟩;rintro a D ⟨E,m⟩;refine go E fun D=>?_;refine adG ((J6 (meas 0 st) (((meas 0 st).length-many (nth t k))+j)).2+1) D fun E=>?_;refine OO sv E rfl rfl rfl rfl rfl zS fun D a=>?_;refine go a fun D=>?_;refine stG 3 D m fun a E=>?_;refine adG ((j+1:Nat):Int) a fun D=>?_;have a:(if ((j:Int)=0) then (J6 (meas 0 st) (((meas 0 st).length-many (nth t k))+j)).1 else (GZ k (meas 0 st) ((meas 0 st).length-many (nth t k)) j))=GZ k (meas 0 st) ((meas 0 st).length-many (nth t k)) (j+1):=by unfold GZ;(repeat' split)<;>first|rfl|omega|(congr 2;omega)|(congr 3;omega)
 have m:=E;try dsimp only [vS] at m
 rw [a] at m;have a:max (GF (meas 0 st) ((meas 0 st).length-many (nth t k)) j) ((J6 (meas 0 st) (((meas 0 st).length-many (nth t k))+j)).2+1)=GF (meas 0 st) ((meas 0 st).length-many (nth t k)) (j+1):=rfl;have E:=m;try dsimp only [vS] at E
 rw [a] at E;have a:=E.erase 4;exact ⟨_,by omega,j+1,rz D,a,by omega,rfl⟩;refine dr3 7 p 2 (pB 3 0 pn) fun a D E m l=>?_;refine dR [0,1] y fun a p=>?_;refine dt 2 rfl D p (A4 rfl) (fun x R=>Fn (q:=(meas 0 st).length-many (nth t k)) (sy p) p rfl rfl rfl rfl zQ FP AbU zQ zS gt) l fun a y=>?_;refine dt 3 rfl D y (A4 rfl) (fun x R=>Dq (sy y) y rfl rfl rfl (AY (R.c 0) (AY (R.c 1) (CellsAt.nil _ _))) EO rfl AbU zS gt) l fun a p=>?_;refine d1 4 ?_;refine bsG p m fun a y l=>?_;refine dsw l fun a=>?_;refine d1 5 ?_;refine Pm (f:=Wl) (i:=1) (meas 0 st) ([(GZ k (meas 0 st) ((meas 0 st).length-many (nth t k)) j,GF (meas 0 st) ((meas 0 st).length-many (nth t k)) j)]) (Cw rfl (A4 rfl)) y l rfl rfl rfl rfl rfl zQ KI (Sq _) FP zi83 rfl rfl (B7 (f:=Wl) (l.z 4)) rfl zV zS fun a p m D v s w=>?_;have v:=w.erase 4;refine dsw v fun w=>?_;refine dR [6] s fun w p=>?_;refine wdn E p fun w=>?_;refine bsG w v fun p E s=>?_;refine Bz (f:=Wl) (i:=0) (DJ 0 st) ([(GZ k (meas 0 st) ((meas 0 st).length-many (nth t k)) j,GF (meas 0 st) ((meas 0 st).length-many (nth t k)) j)]) sv E s rfl rfl rfl rfl rfl KI (Sq _) FP zi83 rfl rfl (B7 (f:=Wl) (s.z 4)) rfl zV zS fun p w v a l y B=>?_;have l:=B.erase 4;refine go y fun B=>?_;refine adG ((k+1:Nat):Int) B fun y=>?_;obtain ⟨st',hp,hpl⟩:=Hz (st:=st) (n:=nth t k) zR zQ;obtain ⟨V,U⟩:=Lp hp W;have P:j=many (nth t k):=by omega
 have B:DJ 0 st++[(GZ k (meas 0 st) ((meas 0 st).length-many (nth t k)) j,GF (meas 0 st) ((meas 0 st).length-many (nth t k)) j)]=DJ 0 st':=by rw [U,P];try simp only [E9]
 have w:=y;have y:=l;rw [B] at w y;have B:(meas 0 st).take ((meas 0 st).length-many (nth t k))++[(GZ k (meas 0 st) ((meas 0 st).length-many (nth t k)) j,GF (meas 0 st) ((meas 0 st).length-many (nth t k)) j)]=meas 0 st':=by rw [V,P];try simp only [E9]
 have l:=w;have w:=y;rw [B] at l w;have B:=w.erase 3;have w:=B.erase 2;have B:=w.forget 2;exact ⟨_,by omega,k+1,st',v,a,m,D,rz l,B,by omega,(Fo A zQ).trans hp,rfl⟩;refine er2 o ?_;have o:DY t=DJ 0 st:=Vr (by rw [<-A,AM zQ]);rw [o];have o:=u.pub 0 (B6 2 F (DJ 0 st).length ca (Fe (DJ 0 st)));refine ⟨F,ca,?_,o.fr,o.rx 2⟩;exact AJ rfl (Bx (by rw [Pi (by rw [<-A,AM zQ]),E9];done))
def JJ(s:HZ w0 Z)(o:B9 w0 Z)(q:N4 tA tc t w0 Z)(hsm:sml t:=by exact ax)(hl:t.length<=1000000:=by exact ax):
    CP 37 [vS tA t tc] w0 (fun e w'=>∃(l:zE) (a:Nat),e=.returned (.tuple #[.slice l (Eu t).length a,vI (chk t)])/\Fr Be w0 w'/\(B6 2 l (Eu t).length a (Fe (Eu t))).φ w' (nxt Z w0 w')):=by
 have b:=sTn s (zc (d:=A6) o (zc q zn));refine cen ntmps37 fun c=>?_;refine wcD c (fun f h=>?_) fun f i=>?_;refine er2 h ?_;have h:Eu t=[]:=L9 (by rw [J3 zQ];omega);rw [h];refine ⟨none,0,?_,b.fr,⟨Ag _,RowI.nil _ _ _ _⟩⟩;exact AJ rfl (AR (by first|exact (J3 zQ).symm));refine kB i b (Mn b.il (b.g 0) (b.g 1)) fun h f c j=>?_;refine wcH j (fun i b=>?_) fun i m=>?_;have p:=Vq i;have r:=Kg i;refine sbG (((DY t).length:Int)-1) b fun i=>?_;refine ix ((DY t).length-1) (((DY t).length-1)*2) i (JH (t:=DY t) (k:=(DY t).length-1) (c.ro 2).2 zQ).some_ fun b j=>?_;refine CT (j':=((DY t).length-1)*2+1) sv j rfl rfl rfl (JH (t:=DY t) (k:=(DY t).length-1) (c.ro 2).2 zQ).some_ EO rfl sz3 rfl rfl zS fun b i=>?_;refine lde 1 (((DY t).length-1)*2) i (JH (t:=DY t) (k:=(DY t).length-1) (c.ro 2).2 zQ) fun b j=>?_;refine go j fun b=>?_;refine wcD b (fun j i=>?_) fun j n=>?_;refine er2 i ?_;have i:Eu t=[]:=L9 (by rw [Ok zQ zR zR];omega);rw [i];refine ⟨none,0,?_,c.fr,⟨Ag _,RowI.nil _ _ _ _⟩⟩;exact AJ rfl (AR (by first|exact (Ok zQ zR zR).symm));refine er2 n ?_;have n:Eu t=DY t:=JK (Oi zQ zR zR);rw [n];refine ⟨h,f,?_,c.fr,c.rx 2⟩;exact AJ rfl (AR (by first|exact (Oi zQ zR zR).symm));refine er2 m ?_;have m:Eu t=[]:=L9 (by rw [Oj zQ zR];omega);rw [m];refine ⟨none,0,?_,c.fr,⟨Ag _,RowI.nil _ _ _ _⟩⟩;exact AJ rfl (AR (by first|exact (Oj zQ zR).symm))
def Cx(k:HZ w0 Z)(t:zM)(a:B9 w0 Z)(e:N4 tA tc t w0 Z)(hsm:sml t:=by exact ax)(hl:t.length<=1000000:=by exact ax):
    CA 25 [vS tA t tc] w0 (vI (chk t)):=by
 have b:=sTn k (zc (d:=A6) a (zc e zn));refine cen ntmps25 fun c=>?_;refine kB c b (JJ b.il (b.g 0) (b.g 1)) fun f h i j=>?_;refine er1 j ?_;refine ⟨?_,i.fr⟩;exact cre (AR zW)
def PB(l:HZ w0 Z)(t:zK)(k:(B6 1 tA t.length tc (Ci t)).φ w0 Z)(hl:t.length<=1000000:=by exact ax):
    CP 81 [vS tA t tc] w0 (fun e w'=>∃(g:zE) (a:Nat),e=.returned (vS g t a)/\Fr Be w0 w'/\(B6 1 g t.length a (Ci t)).φ w' (nxt Z w0 w')):=by
 have b:=sTn l (zc k zn);refine cen ntmps81 fun c=>?_;refine K9 sv c rfl rfl rfl rfl Bj zS fun d h=>?_;refine gp ?_;refine wcG h (fun d c=>?_) fun d j=>?_;refine er1 c ?_;have c:t=[]:=Bw (NA k zR);rw [c];refine ⟨none,0,?_,b.fr,⟨Ag _,RowI.nil _ _ _ _⟩⟩;exact cre rfl;refine bsG j b fun c d h=>?_;refine Bz (f:=FX) (i:=0) ([]) t sv d h rfl rfl rfl rfl rfl Dk (DV _) Bj zi3 rfl rfl (h.ro 0).2.news rfl zV zS fun c j b m n o p=>?_;refine gr o ?_;have o:t=[]++t:=by simp
 rw [o];have o:=p.pub 0 (B6 1 b ([]++t:zK).length m (Ci ([]++t)));refine ⟨b,m,?_,o.fr,o.rx 1⟩;exact cre rfl
def H8(q:HZ w0 Z)(l:N4 tA tc t w0 Z)(hl:t.length<=1000000:=by exact ax):
    CP 74 [vS tA t tc] w0 (fun e w'=>∃(g:zE) (a:Nat),e=.returned (vS g t a)/\Fr Be w0 w'/\(Res.row g t.length a 26 4 (B2 t)).holds w'/\(∀k,(Res.row g t.length a 26 4 (B2 t)).blk=some k->w0.heap.size<=k)):=by
 have b:=sTn q (zc l zn);refine cen ntmps74 fun c=>?_;refine K9 sv c rfl rfl rfl rfl Aw zS fun d h=>?_;refine gp ?_;refine wcG h (fun d c=>?_) fun d j=>?_;refine er1 c ?_;have c:t=[]:=Bw (NA l zR);rw [c];refine ⟨none,0,?_,b.fr,Jp,Jo⟩;exact cre rfl;refine bsG j b fun c d h=>?_;refine Bz (f:=Ei) (i:=0) ([]) t sv d h rfl rfl rfl rfl rfl BQ (Df _) Aw Oy rfl rfl (h.ro 0).2.news rfl zV zS fun c j b m n o p=>?_;refine gr o ?_;have o:t=[]++t:=by simp
 rw [o];refine ⟨b,m,?_,p.fr,p.z 0,p.fresh (i:=0) rfl⟩;exact cre rfl
def EA(C:HZ w0 Z)(n:Nd)(w:B9 w0 Z)(hs:n.S.size<1000000:=by exact ax):
    CP 56 [.agg #[vI n.K,vI n.N,vI n.M,.string n.S]] w0 (fun e w'=>∃(r:zE) (k:Nat),e=.returned (.tuple #[.slice r (Bs n).length k,.bool (right n)])/\Fr Be w0 w'/\(B6 1 r (Bs n).length k (Ci (Bs n))).φ w' (nxt Z w0 w')):=by
 have c:=sTn C (zc (d:=A6) w zn);refine cen ntmps56 fun f=>?_;refine bxG f c fun h m o=>?_;refine kA m o (Li o.il n (o.g 0)) fun h f=>?_;refine wcH f (fun o m=>?_) fun o c=>?_;have hk:=Qw o;refine wcD m (fun f p=>?_) fun f q=>?_;have B:=Lh zR zQ;have m:n.M=((n.M.toNat:Nat):Int):=by omega
 refine MD (n:=n.M.toNat) sv p h rfl rfl rfl rfl m m Bj zi3 zQ zS fun s u v x y=>?_;refine go x fun u=>?_;refine er2 u ?_;have u:Bs n=List.replicate n.M.toNat (0:Int):=by unfold Bs;rw [Ae zR];simp [binds,f]
 rw [u];have u:=y.pub 1 (B6 1 (oP v) (List.replicate n.M.toNat (0:Int):zK).length (List.replicate n.M.toNat (0:Int):zK).length (Ci (List.replicate n.M.toNat (0:Int))));refine ⟨oP v,(List.replicate n.M.toNat (0:Int):zK).length,?_,u.fr,u.rx 1⟩;exact AJ rfl (Bx (by simp [o,f];done));refine wcD q (fun u v=>?_) fun u y=>?_;have A:=HK zR zQ;refine bsG v h fun q x s=>?_;refine adG (n.M+1) x fun q=>?_;have x:(n.M+1)=((n.M.toNat+1:Nat):Int):=by omega
 refine Pk (i:=1) ([1]) (n.M.toNat+1) sv q s rfl rfl rfl rfl rfl x zQ yB yH Bj A8 zi3 zS fun v m p z a l t=>?_;refine go l fun a=>?_;refine er2 a ?_;have a:Bs n=[1]++List.replicate (n.M.toNat+1) 0:=by unfold Bs;rw [Ae zR];simp [binds,f,u]
 rw [a];have a:=t.pub 1 (B6 1 p ([1]++List.replicate (n.M.toNat+1) 0:zK).length z (Ci ([1]++List.replicate (n.M.toNat+1) 0)));refine ⟨p,z,?_,a.fr,a.rx 1⟩;exact AJ rfl (Bx (by simp [o,f,u];done));refine NK (i:=(n.K).toNat) (j:=(n.K).toNat*4) sv y rfl rfl rfl rfl Tryz.underlying120 Ur zQ zQ rfl zS fun a z=>?_;refine CT (j':=(n.K).toNat*4) sv z rfl rfl rfl rfl Ez rfl sz68 rfl rfl zS fun a y=>?_;obtain ⟨a,z,p,t⟩:=Lb (h.g 0) (n.K).toNat zQ;have l:=h.data (B6 1 a (shp (n.K).toNat).b.length z (Ci (shp (n.K).toNat).b)) p;refine I2 sv y rfl rfl rfl 0 ((n.K).toNat*4) t rfl rfl Bj rfl zS fun p z=>?_;refine kB z l (PB l.il (shp (n.K).toNat).b (l.g 1) (hl:=Ax (YP _) zQ)) fun p t y a=>?_;refine er2 a ?_;have a:Bs n=(shp (n.K).toNat).b:=by unfold Bs;rw [Ae zR];simp [binds,f,u]
 rw [a];refine ⟨p,t,?_,y.fr,y.rx 2⟩;exact AJ rfl (Bx (by simp [o,f,u];done));refine er2 c ?_;have c:Bs n=[]:=by unfold Bs;rw [Ac (by simp [o])]
 rw [c];refine ⟨none,0,?_,h.fr,⟨Ag _,RowI.nil _ _ _ _⟩⟩;exact AJ rfl (Bx (by simp [o];done))
def Dy(g:HZ w0 Z)(e:N4 tA tc t w0 Z)(hl:t.length<=1000000:=by exact ax)(h0:0<t.length:=by exact ax):
    CA 16 [vS tA t tc] w0 (.agg #[vI (nth t (t.length-1)).K,vI (nth t (t.length-1)).N,vI (nth t (t.length-1)).M,.string (nth t (t.length-1)).S]):=by
 have b:=sTn g (zc e zn);refine cen ntmps16 fun c=>?_;refine alG c b fun d f h=>?_;refine sbG ((t.length:Int)-1) f fun d=>?_;refine ixe d (eN (t.length-1) (h.ro 0)) fun f a=>?_;refine len f a fun d=>?_;refine stG 0 d h fun f c=>?_;refine ecl 0 f c ?_;refine ⟨?_,c.fr⟩;exact cre rfl
def FZ(U:HZ w0 Z)(E:B9 w0 Z)(O:N4 tA tc t w0 Z)(hl:t.length<=1000000:=by exact ax)(hb:Bn t=true:=by exact ax):
    CP 44 [vS tA t tc] w0 (fun e w'=>∃(B:zE) (A:Nat) (l:zN),e=.returned (vS B l A)/\Fr Be w0 w'/\(B6 1 B l.length A (Bh l)).φ w' (nxt Z w0 w')/\(BS l).φ w' (nxt Z w0 w')/\AK l=ptL t):=by
 have b:=sTn U (zc (d:=A6) E (zc O zn));have P:=Cz hb;have D:=Cy hb (show t.length-1<t.length by omega);have R:=Eo D;have J:=MR D;refine cen ntmps44 fun c=>?_;refine sbG ((t.length:Int)-1) c fun h=>?_;refine ixe h (eN (t.length-1) (b.ro 1)) fun c y=>?_;refine len c y fun h=>?_;refine kB h b (EA b.il (nth t (t.length-1)) (b.g 0) (hs:=RV hb _ zQ)) fun c j m o=>?_;have h:((Bs (nth t (t.length-1))).length:Int)=((Bs (nth t (t.length-1))).length:Int):=by omega
 refine NJ (n:=(Bs (nth t (t.length-1))).length) sv o m rfl rfl rfl rfl h h AE Qc zS zQ zS fun b p q s u=>?_;have p:(List.replicate (Bs (nth t (t.length-1))).length slz).length=(Bs (nth t (t.length-1))).length:=by simp
 have p:=u.data (BS (List.replicate (Bs (nth t (t.length-1))).length slz)) (Ri _);refine go s fun u=>?_;refine sbG (((Bs (nth t (t.length-1))).length:Int)-1) u fun s=>?_;refine AV (fun gn K gw=>∃k:Nat,∃Lr:zN,∃w:zE,∃v:Nat,Reg K 61 [rZ,(0,vS tA t tc),(2,.slice none 0 0),(7,vI (((many (nth t (t.length-1)):Nat):Int)-(k:Int)-1)),(3,vI ((C3 t (t.length-1) k:Nat):Int)),(6,vS w Lr v)]/\St w0 Z Be gw [.row w Lr.length v 22 1 (Bh Lr)] [A6,n4 tA tc t,B6 1 c (Bs (nth t (t.length-1))).length j (Ci (Bs (nth t (t.length-1)))),BS Lr]/\(k<=many (nth t (t.length-1)))/\(Lr.length=many (nth t (t.length-1)))/\(AK (Lr.drop (many (nth t (t.length-1))-k))=ptD t k)/\(many (nth t (t.length-1))-k)=gn) _ ⟨0,List.replicate (Bs (nth t (t.length-1))).length slz,oP q,(List.replicate (Bs (nth t (t.length-1))).length slz).length,s.sub (rc2 (rc rfl (rc (ri rfl zQ) (rc (ri rfl (by rw [Jh hb zQ];omega)) (rc rfl rnl))))),p,by omega,by rw [BB];exact J,by rw [Nat.sub_zero,List.drop_eq_nil_of_le (by rw [BB];omega),KA];rfl,rfl⟩ ?_;rintro s p q ⟨k,Lr,w,v,u,b,hk,F,M,h⟩;refine go u fun h=>?_;refine wcD h (fun u q=>?_) fun u p=>?_;obtain ⟨u,h,s,o⟩:=Ji hb (show t.length-1<t.length by omega) (show k<many (nth t (t.length-1)) by omega);refine AV (fun gn K gw=>∃a:Nat,∃r:Nat,Reg K 61 [rZ,(0,vS tA t tc),(2,.slice none 0 0),(7,vI (((many (nth t (t.length-1)):Nat):Int)-(k:Int)-1)),(3,vI ((C3 t (t.length-1) k:Nat):Int)),(6,vS w Lr v),(8,vI (a:Int)),(9,vI (r:Int))]/\St w0 Z Be gw [.row w Lr.length v 22 1 (Bh Lr)] [A6,n4 tA tc t,B6 1 c (Bs (nth t (t.length-1))).length j (Ci (Bs (nth t (t.length-1)))),BS Lr]/\(a<=C3 t (t.length-1) k)/\psI t a r (C3 t (t.length-1) (k+1))/\a=gn) _ ⟨C3 t (t.length-1) k,1,rz q,b,by omega,UQ hb zQ,rfl⟩ ?_;rintro q j c ⟨a,r,o,s,ha,x,h⟩;have T:=UR zQ x;refine go o fun h=>?_;refine wcD h (fun o c=>?_) fun o j=>?_;obtain ⟨N,C,G⟩:=XG hb zQ zQ x;have S:=MR C;have Q:=Eo C;refine sbG ((a:Int)-1) c fun o=>?_;refine ixe o (eN (a-1) (s.ro 1)) fun c y=>?_;refine len c y fun o=>?_;refine kB o s (EA s.il (nth t (a-1)) (s.g 0) (hs:=RV hb _ zQ)) fun c h q u=>?_;refine adG ((r+(Bs (nth t (a-1))).length:Nat):Int) u fun h=>?_;refine sbG ((r:Int)+((Bs (nth t (a-1))).length:Int)-1) h fun u=>?_;have h:=q.forget 4;exact ⟨_,by omega,a-1,r-1+many (nth t (a-1)),rz u,h,by omega,G,rfl⟩;have H:=AaH zQ (show psI t a 0 _ from (show r=0 by omega)▸x);refine Sb (f:=Ei) (lo:=some (.tmp 55)) (hi:=some (.tmp 56)) (vlo:=some (vI (a:Int))) (vhi:=some (vI ((C3 t (t.length-1) k:Nat):Int))) (kd:=.i64) (kd':=.i64) sv j rfl rfl rfl rfl rfl a (C3 t (t.length-1) k-a) (.inl zW) (.inl (by congr 2;omega)) ((t.drop a).take (C3 t (t.length-1) k-a)) rfl BQ (s.ro 1) Aw Hr zQ zS fun h u q c o=>?_;have h:((t.drop a).take (C3 t (t.length-1) k-a)).length=C3 t (t.length-1) k-a:=by (simp only [BC,Ak];omega)
 have h:=s.data (B6 4 u ((t.drop a).take (C3 t (t.length-1) k-a)).length q (B2 ((t.drop a).take (C3 t (t.length-1) k-a)))) c;refine ix (many (nth t (t.length-1))-(k+1)) ((many (nth t (t.length-1))-(k+1))*1) o (oS (many (nth t (t.length-1))-(k+1)) (h.z 0)).some_ fun c s=>?_;refine Gf (f:=Gu) (i:=0) (k:=many (nth t (t.length-1))-(k+1)) (L:=Lr) (z:=((u,q,(t.drop a).take (C3 t (t.length-1) k-a)):Sl)) se s h rfl rfl rfl rfl rfl rfl zQ Dr (Td (f:=Gu) DF) rfl GK fun c o j m=>?_;have o:(Lr.set (many (nth t (t.length-1))-(k+1)) ((u,q,(t.drop a).take (C3 t (t.length-1) k-a)):Sl)).length=Lr.length:=by simp
 have o:=m.data (BS (Lr.set (many (nth t (t.length-1))-(k+1)) ((u,q,(t.drop a).take (C3 t (t.length-1) k-a)):Sl))) (Ou (k:=many (nth t (t.length-1))-(k+1)) (z:=((u,q,(t.drop a).take (C3 t (t.length-1) k-a)):Sl)) (m.g 3) (m.g 4));refine go j fun m=>?_;refine sbG (((many (nth t (t.length-1)):Nat):Int)-(k:Int)-2) m fun j=>?_;have m:=o.forget 4;have o:=m.forget 3;exact ⟨_,by omega,k+1,Lr.set (many (nth t (t.length-1))-(k+1)) ((u,q,(t.drop a).take (C3 t (t.length-1) k-a)):Sl),w,v,j.sub (rc2 (rc rfl (rc (ri rfl zQ) (rc (ri rfl zQ) (rc (rs rfl (by rw [List.length_set])) rnl))))),o,by omega,by rw [List.length_set];exact F,VN hb zQ F M zQ H zQ,rfl⟩;refine er1 p ?_;have p:=b.pub 0 (B6 1 w Lr.length v (Bh Lr));refine ⟨w,v,Lr,?_,p.fr,p.rx 4,p.rx 3,(by have I:k=many (nth t (t.length-1)):=zQ;have hq:=M;rw [I,Nat.sub_self,List.drop_zero] at hq;rw [hq,Nv hb])⟩;exact cre (Ch zW)
def F8(C:HZ w0 Z)(a:Int)(pc:Nat)(p:zN)(A:(B6 1 pA p.length pc (Bh p)).φ w0 Z)(hps:(BS p).φ w0 Z)(hl:p.length<=10:=by exact ax)(hb:(AK p).flatten.length<=50000000:=by exact ax):
    CP 46 [vI a,vS pA p pc] w0 (fun e w'=>∃(g:zE) (d:Nat) (b:zM),e=.returned (vS g b d)/\Fr Be w0 w'/\N4 g d b w' (nxt Z w0 w')/\b=(AK p).flatten++[cN a]):=by
 have c:=sTn C (zc A (zc hps zn));refine cen ntmps46 fun h=>?_;have j:=c.nilrow 26 4;refine AV (fun gn D gw=>∃k:Nat,∃w:zE,∃t:Nat,Reg D 23 [rZ,(0,vI a),(4,.slice none 0 0),(8,vS pA p pc),(9,vI (p.length:Int)),(10,vI (k:Int)),(5,vS w (AK (p.take k)).flatten t)]/\St w0 Z Be gw [.row w (AK (p.take k)).flatten.length t 26 4 (B2 (AK (p.take k)).flatten)] [B6 1 pA p.length pc (Bh p),BS p]/\(k<=p.length)/\(p.length-k)=gn) _ ⟨0,none,0,rz h,j,by omega,rfl⟩ ?_;rintro j h c ⟨k,w,t,m,n,hk,o⟩;have B:=HV p k;refine go m fun o=>?_;rcases BH ((k:Int)<(p.length:Int)) with m|m;have l:=HV p (k+1);rw [GC zQ,Ab] at l;refine wct o (AF m) fun c=>?_;refine gp ?_;refine ixe c (eS k (n.ro 0)) fun h r=>?_;refine lee h r fun c=>?_;have h:=n.el 1 k;refine Bz (f:=Ei) (i:=0) (AK (p.take k)).flatten (At p k).2.2 sv c h rfl rfl rfl rfl rfl BQ (Df _) Aw Oy rfl rfl (h.ro 2).2.news rfl zQ zS fun j q s u v x y=>?_;have v:((AK (p.take k)).flatten++(At p k).2.2).length=(AK (p.take k)).flatten.length+(At p k).2.2.length:=by (simp only [Ab,Ak,Af,Ar];done)
 refine go x fun v=>?_;refine adG ((k+1:Nat):Int) v fun x=>?_;have v:(AK (p.take k)).flatten++(At p k).2.2=(AK (p.take (k+1))).flatten:=(GC zQ).symm;have q:=x;have x:=y;rw [v] at q x;have v:=x.forget 2;exact ⟨_,by omega,k+1,s,u,rz q,v,by omega,rfl⟩;refine wcf o (As m) fun v=>?_;refine go v fun m=>?_;refine bsG m n fun v o q=>?_;refine Bz (f:=Ei) (i:=0) (AK (p.take k)).flatten ([(⟨a,0,0,bE⟩:Nd)]) sv o q rfl rfl rfl rfl rfl BQ (Df _) Aw Oy rfl rfl (B7 (f:=Ei) (q.z 1)) rfl zV zS fun v m n u s x y=>?_;have s:((AK (p.take k)).flatten++([(⟨a,0,0,bE⟩:Nd)]):zM).length=(AK (p.take k)).flatten.length+1:=by (simp only [Ab,Ak,Af,Ar];done)
 have s:=y.erase 1;refine gr x ?_;have x:=s.pub 0 (B6 4 n ((AK (p.take k)).flatten++([(⟨a,0,0,bE⟩:Nd)]):zM).length u (B2 ((AK (p.take k)).flatten++[(⟨a,0,0,bE⟩:Nd)])));refine ⟨n,u,(AK (p.take k)).flatten++[(⟨a,0,0,bE⟩:Nd)],?_,x.fr,x.rx 2,by rw [AM zQ];rfl⟩;exact cre (Ch zW)
def Qf(H:HZ w0 Z)(s C g q:Nat)(r uc:Nat)(hc:(Res.box g 57 [.map (some q),vI ce]).holds w0)(x:¬Z g)(E:(Res.row uA u.length uc 26 4 (B2 u)).holds w0)(v:∀k,rM uA k->¬Z k)(y:∀k,rM uA k->k≠g)(w:(CC s [.slice uA r uc]).φ w0 Z)(A:(CC C [vP g]).φ w0 Z)(D:u.length=r)(B:ai<u.length)(G:-1000000<=(nth u ai).N)(F:(nth u ai).N<=1000000):
    CP 82 [vI (ai:Int),vI un,vP s,vP C] w0 (fun e w'=>e=.returned (.tuple #[])/\Fr (M2 uA g) w0 w'/\(Res.box g 57 [.map (some q),vI (if (nth u ai).K=0/\un<=(nth u ai).N/\99<=(nth u ai).N then 2 else ce)]).holds w'/\(Res.row uA (u.set ai (icN un (nth u ai))).length uc 26 4 (B2 (u.set ai (icN un (nth u ai))))).holds w'):=by
 have a:∀k,Z k->imm Z w0 [.box g 57 [.map (some q),vI ce],.row uA u.length uc 26 4 (B2 u)] w0 k/\w0.heap[k]?=w0.heap[k]?:=fun k hk=>ML H x v hk;have b:St w0 Z (M2 uA g) w0 [.box g 57 [.map (some q),vI ce],.row uA u.length uc 26 4 (B2 u)] [CC s [.slice uA r uc],CC C [vP g]]:=PW hc E y (by
  intro d hd;simp only [Aj,Ah,or_false] at hd;rcases hd with rfl|rfl;exact Dat.mono _ _ _ _ _ (Ag _) w a;exact Dat.mono _ _ _ _ _ (Ag _) A a
  )
 refine cen ntmps82 fun c=>?_;refine CE sv c rfl rfl rfl (C5 (b.get (i:=0) rfl) rfl) Aw rfl zS fun f h=>?_;refine go h fun f=>?_;refine ix ai (ai*4) f (oN ai (b.z 1)).some_ fun h c=>?_;refine go c fun h=>?_;refine D0 sv h rfl rfl rfl (oN ai (b.z 1)).some_ zS fun c f=>?_;refine CT (j':=ai*4) sv f rfl rfl rfl (oN ai (b.z 1)).some_ Bq rfl sz3 rfl rfl zS fun c h=>?_;refine lde 0 (ai*4) h (oN ai (b.z 1)) fun c f=>?_;refine go f fun c=>?_;refine NU 6 (decide (un<=(nth u ai).N)) c (fun f h j=>?_) fun m n=>?_;have m:=Ad f;refine DQ (AH (wt h)) h rfl rfl rfl zS fun m f=>?_;refine D0 (AH (wt f)) f rfl rfl rfl (oN ai (b.z 1)).some_ zS fun m h=>?_;refine CT (j':=ai*4+1) (AH (wt h)) h rfl rfl rfl (oN ai (b.z 1)).some_ Bq rfl sz3 rfl rfl zS fun m f=>?_;refine lde 1 (ai*4) f (oN ai (b.z 1)) fun m h=>?_;refine DQ (AH (wt h)) h rfl rfl rfl zS fun m f=>?_;refine Aa4 (AH (wt f)) f rfl rfl rfl rfl zS fun m h=>?_;refine Fj sv h rfl rfl rfl rfl zS fun m f=>?_;exact j.fin f;refine gp ?_;refine wcG n (fun f j=>?_) fun f m=>?_;have n:=Ck f;have h:=Ad n;have h:=Cj f;have n:=Ad h;refine D0 sv j rfl rfl rfl (oN ai (b.z 1)).some_ zS fun n h=>?_;refine CT (j':=ai*4+1) sv h rfl rfl rfl (oN ai (b.z 1)).some_ Bq rfl sz3 rfl rfl zS fun n j=>?_;refine lde 1 (ai*4) j (oN ai (b.z 1)) fun n h=>?_;refine adG ((nth u ai).N+1) h fun n=>?_;refine D0 sv n rfl rfl rfl (oN ai (b.z 1)).some_ zS fun h j=>?_;refine CT (j':=ai*4+1) sv j rfl rfl rfl (oN ai (b.z 1)).some_ Bq rfl sz3 rfl rfl zS fun h n=>?_;refine Sa (i:=1) (k:=ai) (off:=1) (L:=u) (z:=(⟨(nth u ai).K,(nth u ai).N+1,(nth u ai).M,(nth u ai).S⟩:Nd)) se n b rfl rfl rfl rfl rfl zQ zQ zS rfl rfl rfl sz3 fun h j c o=>?_;have j:(u.set ai (⟨(nth u ai).K,(nth u ai).N+1,(nth u ai).M,(nth u ai).S⟩:Nd)).length=u.length:=by simp
 have j:nth (u.set ai (⟨(nth u ai).K,(nth u ai).N+1,(nth u ai).M,(nth u ai).S⟩:Nd)) ai=(⟨(nth u ai).K,(nth u ai).N+1,(nth u ai).M,(nth u ai).S⟩:Nd):=H1 zQ;have h:(nth (u.set ai (⟨(nth u ai).K,(nth u ai).N+1,(nth u ai).M,(nth u ai).S⟩:Nd)) ai).N=((nth u ai).N+1):=by rw [j]
 refine go c fun h=>?_;refine D0 sv h rfl rfl rfl (oN (t:=u.set ai (⟨(nth u ai).K,(nth u ai).N+1,(nth u ai).M,(nth u ai).S⟩:Nd)) ai (o.z 1)).some_ zS fun c j=>?_;refine CT (j':=ai*4+1) sv j rfl rfl rfl (oN (t:=u.set ai (⟨(nth u ai).K,(nth u ai).N+1,(nth u ai).M,(nth u ai).S⟩:Nd)) ai (o.z 1)).some_ Bq rfl sz3 rfl rfl zS fun c h=>?_;refine lde 1 (ai*4) h (oN (t:=u.set ai (⟨(nth u ai).K,(nth u ai).N+1,(nth u ai).M,(nth u ai).S⟩:Nd)) ai (o.z 1)) fun c j=>?_;refine go j fun c=>?_;refine wcD c (fun j h=>?_) fun j n=>?_;refine CE sv h rfl rfl rfl (C5 (o.get (i:=1) rfl) rfl) Tryz.underlying53 rfl zS fun j c=>?_;refine go c fun j=>?_;refine stG 0 j o fun c h=>?_;refine Kj c rfl rfl ?_;have p:(if (nth u ai).K=0/\un<=(nth u ai).N/\99<=(nth u ai).N then (2:Int) else ce)=2:=by (rw [Ae zQ];done)
 have l:u.set ai (icN un (nth u ai))=u.set ai (⟨(nth u ai).K,(nth u ai).N+1,(nth u ai).M,(nth u ai).S⟩:Nd):=Sj zR zR;refine ⟨rfl,h.fr,by rw [p];exact h.z 0,by rw [l];exact h.z 1⟩;refine Kj n rfl rfl ?_;have p:(if (nth u ai).K=0/\un<=(nth u ai).N/\99<=(nth u ai).N then (2:Int) else ce)=ce:=by (rw [Ac zQ];done)
 have l:u.set ai (icN un (nth u ai))=u.set ai (⟨(nth u ai).K,(nth u ai).N+1,(nth u ai).M,(nth u ai).S⟩:Nd):=Sj zR zR;refine ⟨rfl,o.fr,by rw [p];exact o.z 0,by rw [l];exact o.z 1⟩;have o:=f;try simp only [bz] at o
 refine Kj m rfl rfl ?_;have p:(if (nth u ai).K=0/\un<=(nth u ai).N/\99<=(nth u ai).N then (2:Int) else ce)=ce:=by (rw [Ac zQ];done)
 have l:u.set ai (icN un (nth u ai))=u:=Abs B zQ;refine ⟨rfl,b.fr,by rw [p];exact b.z 0,by rw [l];exact b.z 1⟩
def TZ(Q:Nat):∀(w0:zH) (Z:zG) (hZ:HZ w0 Z) (E F cg cb:Nat) (ce:Int) (uA:zE) (r uc:Nat) (Ap Bp:zM) (x:T) (e:Nat) (un:Int) (B:B9 w0 Z) (hc:(Res.box cg 57 [.map (some cb),vI ce]).holds w0) (L:¬Z cg) (hu:(Res.row uA (Ap++x.flat++Bp).length uc 26 4 (B2 (Ap++x.flat++Bp))).holds w0) (G:∀k,rM uA k->¬Z k) (M:∀k,rM uA k->k≠cg) (H:(CC E [.slice uA r uc]).φ w0 Z) (O:(CC F [vP cg]).φ w0 Z) (v:(Ap++x.flat++Bp).length=r) (y:e+1=Ap.length+x.flat.length) (A:x.wf=true) (S:0<=un) (R:un+2*x.flat.length<=10000000) (hl:r<=1000000) (U:x.flat.length=Q),
    CP 83 [.slice uA r uc,vI (e:Int),vI un,.func (.func 82) #[] #[vP E,vP F]] w0 (fun e w'=>e=.returned (vI (Ap.length:Int))/\Fr (M2 uA cg) w0 w'/\(Res.box cg 57 [.map (some cb),vI (if icE un x=true then 2 else ce)]).holds w'/\(Res.row uA (Ap++(icT un x).flat++Bp).length uc 26 4 (B2 (Ap++(icT un x).flat++Bp))).holds w'):=by
 induction Q using Nat.strongRecOn;rename_i Q ih;intro w0 Z hZ E F cg cb ce uA r uc Ap Bp x e un B hc L hu G M H O v y A S R hl U;have a:∀k,Z k->imm Z w0 [.box cg 57 [.map (some cb),vI ce],.row uA (Ap++x.flat++Bp).length uc 26 4 (B2 (Ap++x.flat++Bp))] w0 k/\w0.heap[k]?=w0.heap[k]?:=fun k hk=>ML hZ L G hk;have c:St w0 Z (M2 uA cg) w0 [.box cg 57 [.map (some cb),vI ce],.row uA (Ap++x.flat++Bp).length uc 26 4 (B2 (Ap++x.flat++Bp))] [A6,CC E [.slice uA r uc],CC F [vP cg]]:=PW hc hu M (by
  intro d hd;simp only [Aj,Ah,or_false] at hd;rcases hd with rfl|rfl|rfl;exact Dat.mono _ _ _ _ _ (Ag _) B a;exact Dat.mono _ _ _ _ _ (Ag _) H a;exact Dat.mono _ _ _ _ _ (Ag _) O a
  )
 refine cen ntmps83 fun f=>?_;obtain ⟨C,hmx,hwx⟩:=Fb A;have hNx:=Qv C;have hfx:=EK x;have ha8:=WM A;have w:=(Oz (Bp:=Bp) y).2;have j:=c.nf;refine k_callV (xs:=[.tmp 14,.tmp 15]) se f rfl rfl rfl rfl zS ok82 (Qf j.il _ _ _ _ _ _ (j.z 0) (ib 0) (j.z 1) (Ev (i:=1) rfl) (LT j) (j.g 1) (j.g 2) v (Oz y).2 (by rw [(Oz y).1];omega) (by rw [(Oz y).1];omega)) ?_;rintro f c ⟨rfl,m,o,I⟩;have c:=Ox j m o I;refine ⟨_,rfl,fun o m=>?_⟩;have o:=c.nf;have c:(Ap++x.flat++Bp).set e (icN un (nth (Ap++x.flat++Bp) e))=wkL Ap Bp x un x.args.length:=MY y;have j:=LS (m':=[.box cg 57 [.map (some cb),vI (if (nth (Ap++x.flat++Bp) e).K=0/\un<=(nth (Ap++x.flat++Bp) e).N/\99<=(nth (Ap++x.flat++Bp) e).N then 2 else ce)],.row uA (wkL Ap Bp x un x.args.length).length uc 26 4 (B2 (wkL Ap Bp x un x.args.length))]) o (by rw [c]);have c:=j.nf;have Y:(if (nth (Ap++x.flat++Bp) e).K=0/\un<=(nth (Ap++x.flat++Bp) e).N/\99<=(nth (Ap++x.flat++Bp) e).N then (2:Int) else ce)=if wkE x un x.args.length=true then 2 else ce:=by rw [(Oz y).1];exact TU
 have j:=c;rw [Y] at j;have J:nth (wkL Ap Bp x un x.args.length) e=icN un x.root:=ZW y;have l:=Ty (u:=un) C;rw [<-J] at l;have P:=congrArg List.length l;rw [wk_n A] at P;have hll:(wkL Ap Bp x un x.args.length).length=r:=by rw [<-MY y,List.length_set];exact v
 refine go m fun c=>?_;refine ixe c (oN (t:=wkL Ap Bp x un x.args.length) e (j.z 1)) fun m w=>?_;refine len m w fun c=>?_;have m:=j.nf;refine kB c m (EA m.il (nth (wkL Ap Bp x un x.args.length) e) (m.g 0) (hs:=by rw [J];exact Qt C)) fun j o f p=>?_;refine sbG (((Bs (nth (wkL Ap Bp x un x.args.length) e)).length:Int)-1) p fun m=>?_;refine AV (fun gn ga gw=>∃i:Nat,Reg ga 45 [rZ,(0,.slice uA r uc),(2,vI un),(3,.func (.func 82) #[] #[vP E,vP F]),(8,vI 0),(9,.slice j (Bs (nth (wkL Ap Bp x un x.args.length) e)).length o),(12,vI ((i:Int)-1)),(11,vI ((Ap++Az (x.args.take i)).length:Int))]/\St w0 Z (M2 uA cg) gw [.box cg 57 [.map (some cb),vI (if wkE x un i=true then 2 else ce)],.row uA (wkL Ap Bp x un i).length uc 26 4 (B2 (wkL Ap Bp x un i))] [A6,CC E [.slice uA r uc],CC F [vP cg],B6 1 j (Bs (nth (wkL Ap Bp x un x.args.length) e)).length o (Ci (Bs (nth (wkL Ap Bp x un x.args.length) e)))]/\(i<=x.args.length)/\i=gn) _ ⟨x.args.length,m.sub (rc4 (rc2 (rc (ri rfl (by rw [l,wk_n A])) (rc (ri rfl (by have:=wk_len (Ap:=Ap) (x:=x) rfl;omega)) rnl)))),f,Ag _,rfl⟩ ?_;rintro m f o ⟨i,j,p,hi,c⟩;have V:0<i->(Ap++Az (x.args.take i)).length=(Ap++Az (x.args.take (i-1))).length+(kid x (i-1)).flat.length:=fun h=>by have:=YA (Ap:=Ap) (x:=x) (i:=i-1) zQ;rwa [show i-1+1=i by omega] at this
 have hfp:=EK (kid x (i-1));have hwl:=wk_le (Ap:=Ap) (Bp:=Bp) (x:=x) (i:=i);refine go j fun c=>?_;refine wcD c (fun j o=>?_) fun j f=>?_;have j:0<i:=by omega
 have hpa1:=V j;have W:=GA (t:=x) (i:=i-1) A zQ;have hkf:=XU (x:=x) (i:=i-1) zQ;have hbn:=JT (n:=nth (wkL Ap Bp x un x.args.length) e) (i-1);refine sbi (((Ap++Az (x.args.take i)).length:Int)-1) o fun c m=>?_;have c:=Reg.cons m m (ri (i:=35) (b:=(((Ap++Az (x.args.take i)).length-1:Nat):Int)) rfl zQ);refine go c fun m=>?_;refine ixe m (eI (t:=Bs (nth (wkL Ap Bp x un x.args.length) e)) (i-1) (p.ro 3)) fun c w=>?_;refine lee c w fun m=>?_;refine adG (un+C7 (Bs (nth (wkL Ap Bp x un x.args.length) e)) (i-1)) m fun c=>?_;have m:=p.nf;have o:wkL Ap Bp x un i=(Ap++Az (x.args.take (i-1)))++(kid x (i-1)).flat++(Az (K0 (x.args.drop (i-1+1)) ((wkU x un).drop (i-1+1)))++icN un x.root::Bp):=by have:=TT (Ap:=Ap) (Bp:=Bp) (un:=un) (x:=x) (i:=i-1) zQ;rwa [show i-1+1=i by omega] at this ⊢
 have q:=LS (m':=[.box cg 57 [.map (some cb),vI (if wkE x un i=true then 2 else ce)],.row uA (Ap++Az (x.args.take (i-1))++(kid x (i-1)).flat++(Az (K0 (x.args.drop (i-1+1)) ((wkU x un).drop (i-1+1)))++icN un x.root::Bp)).length uc 26 4 (B2 (Ap++Az (x.args.take (i-1))++(kid x (i-1)).flat++(Az (K0 (x.args.drop (i-1+1)) ((wkU x un).drop (i-1+1)))++icN un x.root::Bp)))]) m (by rw [o]);have m:=q.nf;refine kcl c ok83 (ih (kid x (i-1)).flat.length zQ _ (imm Z w0 [.box cg 57 [.map (some cb),vI (if wkE x un i=true then 2 else ce)],.row uA (Ap++Az (x.args.take (i-1))++(kid x (i-1)).flat++(Az (K0 (x.args.drop (i-1+1)) ((wkU x un).drop (i-1+1)))++icN un x.root::Bp)).length uc 26 4 (B2 (Ap++Az (x.args.take (i-1))++(kid x (i-1)).flat++(Az (K0 (x.args.drop (i-1+1)) ((wkU x un).drop (i-1+1)))++icN un x.root::Bp)))] _) (fun _ h=>h.1) _ _ _ _ _ _ _ _ (Ap++Az (x.args.take (i-1))) (Az (K0 (x.args.drop (i-1+1)) ((wkU x un).drop (i-1+1)))++icN un x.root::Bp) (kid x (i-1)) ((Ap++Az (x.args.take i)).length-1) (un+C7 (Bs (nth (wkL Ap Bp x un x.args.length) e)) (i-1)) (m.g 0) (m.z 0) (ib 0) (m.z 1) (Ev (i:=1) rfl) (LT m) (m.g 1) (m.g 2) (by rw [<-o];exact ZX.trans v) zQ W zQ zQ hl rfl) ?_;rintro o c ⟨rfl,q,s,D⟩;have c:=Ox m q s D;refine ⟨_,rfl,fun s q=>?_⟩;have s:=c.nf;have c:(Ap++Az (x.args.take (i-1)))++(icT (un+C7 (Bs (nth (wkL Ap Bp x un x.args.length) e)) (i-1)) (kid x (i-1))).flat++(Az (K0 (x.args.drop (i-1+1)) ((wkU x un).drop (i-1+1)))++icN un x.root::Bp)=wkL Ap Bp x un (i-1):=(by rw [l];exact Xk A zQ);have m:=LS (m':=[.box cg 57 [.map (some cb),vI (if icE (un+C7 (Bs (nth (wkL Ap Bp x un x.args.length) e)) (i-1)) (kid x (i-1))=true then 2 else (if wkE x un i=true then 2 else ce))],.row uA (wkL Ap Bp x un (i-1)).length uc 26 4 (B2 (wkL Ap Bp x un (i-1)))]) s (by rw [c]);have c:=m.nf;have X:(if icE (un+C7 (Bs (nth (wkL Ap Bp x un x.args.length) e)) (i-1)) (kid x (i-1))=true then (2:Int) else (if wkE x un i=true then (2:Int) else ce))=if wkE x un (i-1)=true then 2 else ce:=by rw [l];have:=Xl (x:=x) (un:=un) (i:=i-1) A zQ (ce:=ce);rwa [show i-1+1=i by omega] at this
 have m:=c;rw [X] at m;refine go q fun c=>?_;refine sbG ((i:Int)-2) c fun q=>?_;exact ⟨_,by omega,i-1,rz q,m,by omega,rfl⟩;refine er1 f ?_;have j:i=0:=by omega
 subst j;refine ⟨?_,p.fr,(by have hq:=p.res (i:=0) rfl;rw [ZZ] at hq;exact hq),(by have hq:=p.res (i:=1) rfl;rw [ZY] at hq;exact hq)⟩;exact cre (AR (by rw [List.take_zero,AZ,BT]))
def Qe(t:HZ w0 Z)(d o a p:Nat)(b uc:Nat)(Ap Bp:zM)(x:T)(c:B9 w0 Z)(hc:(Res.box a 57 [.map (some p),vI ce]).holds w0)(l:¬Z a)(r:(Res.row uA (Ap++x.flat++Bp).length uc 26 4 (B2 (Ap++x.flat++Bp))).holds w0)(f:∀k,rM uA k->¬Z k)(m:∀k,rM uA k->k≠a)(h:(CC d [.slice uA b uc]).φ w0 Z)(n:(CC o [vP a]).φ w0 Z)(g:(Ap++x.flat++Bp).length=b)(s:e+1=Ap.length+x.flat.length)(q:x.wf=true)(j:0<=un)(i:un+2*x.flat.length<=10000000)(hl:b<=1000000):
    CP 83 [.slice uA b uc,vI (e:Int),vI un,.func (.func 82) #[] #[vP d,vP o]] w0 (fun e w'=>e=.returned (vI (Ap.length:Int))/\Fr (M2 uA a) w0 w'/\(Res.box a 57 [.map (some p),vI (if icE un x=true then 2 else ce)]).holds w'/\(Res.row uA (Ap++(icT un x).flat++Bp).length uc 26 4 (B2 (Ap++(icT un x).flat++Bp))).holds w'):=TZ _ w0 Z t d o a p ce uA b uc Ap Bp x e un c hc l r f m h n g s q j i hl rfl
end Go.Proofs.YtgddkjdhnolahaaGreatDoor
