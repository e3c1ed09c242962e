import Derived.Test.YtgddkjdhnolahaaGreatDoorYub
set_option linter.defProp false
namespace Go.Proofs.YtgddkjdhnolahaaGreatDoor
open Go Go.RowKit
def CX := @not_not_intro
def Dj := @wpAnyH_done
def EZ := @List.reverse_append
def Fa := @Int.toNat_of_nonneg
end Go.Proofs.YtgddkjdhnolahaaGreatDoor
namespace Go.Proofs.YtgddkjdhnolahaaGreatDoor
set_option linter.unusedSimpArgs false
set_option linter.unusedVariables false
open _root_.Go.Proofs.Tryz
variable {A A':zE}{B:Bool}{F F' N bytes c' cap d fuel i j k size:Nat}{G G1 G2:Act->Prop}{H:Nat->zC}{I J M Z:zG}{K:zC}{L:zL}{Ls:zN}{O b t:zM}{P:Program}{Q Q':zB}{R:Ending->zH->Prop}{S:zH->Prop}{V v v':Value}{X Y q:Prop}{a:Act}{ad:Addr}{c0 y:zJ}{cl us':Array Value}{cs cs' us vs zs:zF}{ds ds':zP}{e u:Int}{f:FuncId}{fn:Func}{how:Exit}{is late offs:List Nat}{ki kx ky:IntKind}{l':zD}{lg:Nat->zD}{listed:Array Bool}{m m':zO}{mg:Nat->zO}{o oi:Oper}{ok:Nat->Bool}{ops:Array Oper}{pre:List (Nd×Int)}{ps qs:List (zH->Prop)}{ps':List (Nat×Operand)}{r':Nat->Res}{rest:List Oper}{st':List T}{ts:Array zI}{w w0 w1:zH}{x:Nd×Int}{xs:List zJ}{α β γ:Type}
section
variable {R S:zM}
structure RevN (t R:zM) (k:Nat):Prop where
 len:R.length=t.length
 at_:∀i,i<t.length->nth R i=if i<k\/t.length-k<=i then nth t (t.length-1-i) else nth t i
def RevN.zero(t:zM): RevN t t 0:=⟨rfl,fun i hi=>by rw [Ac zQ]⟩
def RevN.step{u v:Nd}(h:RevN t R k)(hk:2*k+1<t.length)(hj:j=t.length-1-k)(c:u=nth R j)(hv:v=nth R k): RevN t ((R.set k u).set j v) (k+1):=by
 subst hj;obtain ⟨d,a⟩:=h;refine ⟨by simp [d],fun i hi=>?_⟩;rw [QD,QD,c,hv,a _ zQ,a _ zQ,a i hi];simp only [List.length_set];by_cases f:t.length-1-k=i
 ·subst f;rw [Ae ⟨rfl,by omega⟩,Ac zQ,Ae zQ];congr 1;omega
 ·
  rw [Ac zQ];by_cases e:k=i
  ·subst e;rw [Ae ⟨rfl,by omega⟩,Ac zQ,Ae zQ]
  ·
   rw [Ac zQ];by_cases b:i<k\/t.length-k<=i
   ·rw [Ae b,Ae zQ]
   ·rw [Ac b,Ac zQ]
def RevN.done(h:RevN t R k)(hk:t.length<=2*k+1): R=t.reverse:=by
 obtain ⟨f,e⟩:=h;apply List.ext_getElem
 ·simp [f]
 ·
  intro i hi a;have d:=e i zQ;have c:nth R i=R[i]:=by simp [nth,hi]
  have b:nth t (t.length-1-i)=t[t.length-1-i]:=by
   have:t.length-1-i<t.length:=by omega
   simp [nth,this]
  rw [List.getElem_reverse,<-c,d,<-b];split
  ·rfl
  ·congr 1;omega
def reE(l:zL)(x:Nd×Int): Int:=if x.1.K=0 then (puV 0 l x.1 x.2).1 else 0
def reL(l:zL)(x:Nd×Int): zM:=if x.1.K=0 then (puV 0 l x.1 x.2).2.flat else [x.1]
def reR(l:zL)(pre:List (Nd×Int)): zM:=pre.flatMap fun x=>(reL l x).reverse
def R4(l:zL)(pre:List (Nd×Int))(x:Nd×Int): reR l (pre++[x])=reR l pre++(reL l x).reverse:=by simp [reR]
def SV(l:zL)(p q:List (Nd×Int)): reR l (p++q)=reR l p++reR l q:=by simp [reR]
mutual
def YC(u:Int): T->List (Nd×Int)
 | .mk n l=>(n,u)::IP l ((binds n).map (u+·))
def IP:List T->zK->List (Nd×Int)
 | [],_=>[]
 | _::_,[]=>[]
 | t::l,u::us=>IP l us++YC u t
end
mutual
def vis_N(B:zM):∀(x:T) (A:zM) (u:Int) (C:zM),B=A++x.flat++C->(TI A.length u x).map (fun y=>(nth B y.1.toNat,y.2))=YC u x
 | .mk n l,A,u,C,h=>by
  have e:((A.length:Int)+((Az l).length:Int)).toNat=(A++Az l).length:=by rw [Ab];omega
  have a:B=(A++Az l)++[n]++C:=by rw [h,Bf];simp
  simp only [TI,AA,YC];rw [e];have hn:nth B (A++Az l).length=n:=by rw [a,Ve]
  rw [hn,YB B l A ((binds n).map (u+·)) ([n]++C) (by rw [a];simp)]
def YB(B:zM):∀(l:List T) (A:zM) (us:zK) (C:zM),B=A++Az l++C->(ER A.length l us).map (fun y=>(nth B y.1.toNat,y.2))=IP l us
 | [],_,_,_,_=>by simp [ER,IP]
 | _::_,_,[],_,_=>by simp [ER,IP]
 | x::l,A,u::us,C,h=>by
  have a:=YB B l (A++x.flat) us C (by rw [h,Bg];simp);have b:=vis_N B x A u (Az l++C) (by rw [h,Bg];simp);simp only [ER,Cq,IP];rw [Ab] at a;rw [<-a,<-b];simp
end
def M8(hc:chk t=0): D8 t=YC 0 (Aq t):=by
 obtain ⟨_,a,_⟩:=Dg hc;have:=vis_N t (Aq t) [] 0 [] (by simp [a]);exact this
mutual
def re_T(l:zL):∀(x:T) (u:Int),x.wf=true->((trE (puV 0 l) u x=0↔∀y∈YC u x,reE l y=0)/\reR l (YC u x)=(trT (puV 0 l) u x).flat.reverse)
 | .mk n ps,u,hw=>by
  obtain ⟨e,b,a⟩:=EQ hw;by_cases hk:n.K=0
  ·have hl:ps=[]:=Bw (by rw [<-b];simp [many,binds,hk,shp]);subst hl;simp [YC,IP,trE,trT,hk,reE,reR,reL]
  ·
   obtain ⟨d,c⟩:=re_Ts l ps ((binds n).map (u+·)) a;simp only [YC,trE,trT,hk,if_false,Aj,forall_eq_or_imp,Bf,EZ];constructor
   ·
    rw [d];have:reE l (n,u)=0:=by simp [reE,hk]
    simp [this]
   ·
    have:reR l ((n,u)::IP ps ((binds n).map (u+·)))=(reL l (n,u)).reverse++reR l (IP ps ((binds n).map (u+·))):=by simp [reR]
    rw [this,c];simp [reL,hk]
def re_Ts(l:zL):∀(ps:List T) (us:zK),T.wfs ps=true->((FO (puV 0 l) ps us=0↔∀y∈IP ps us,reE l y=0)/\reR l (IP ps us)=(Az (Hg (puV 0 l) ps us)).reverse)
 | [],_,_=>by simp [IP,FO,Hg,AZ,reR]
 | _::_,[],_=>by simp [IP,FO,Hg,AZ,reR]
 | x::ps,u::us,hw=>by
  obtain ⟨e,d⟩:=Fw hw;obtain ⟨c,i⟩:=re_T l x u e;obtain ⟨g,f⟩:=re_Ts l ps us d;simp only [IP,FO,Hg,Bi,Bg,EZ,SV];constructor
  ·
   by_cases b:trE (puV 0 l) u x=0
   ·
    rw [Ae b,g];constructor
    ·
     intro h y a;rcases a with a|a
     ·exact h y a
     ·exact c.1 b y a
    ·intro h y a;exact h y (.inl a)
   ·
    rw [Ac b];constructor
    ·intro h;exact absurd h b
    ·intro h;exact absurd (c.2 fun y a=>h y (.inr a)) b
  ·rw [i,f]
end
def U1{b f:Int}(hc:chk t=0)(hb:0<=b): sfE t b f=0\/sfE t b f=2:=by
 rw [(Ih hc).1];exact Un (Aau yU) _ _
def oks(l:zL): Prop:=∀p∈l,chk p=0
def AaQ{l:zL}(h:oks l)(hi:i<l.length): chk (Bv l i)=0:=h _ (Eh hi)
def pu_max{l:zL}(h:oks l)(n:Nd)(u:Int)(c:0<=u): (puV 0 l n u).1=0\/(puV 0 l n u).1=2:=by
 unfold puV;by_cases a:n.N-u<0
 ·simp [a]
 ·
  by_cases b:n.N-u<0+l.length
  ·
   simp only [a,b,if_true,if_false];have:(n.N-u-0).toNat<l.length:=by omega
   exact U1 (AaQ h this) zQ
  ·left;simp only [a,b,if_false]
mutual
def Q1{l:zL}(h:oks l):∀(x:T) (u:Int),0<=u->trE (puV 0 l) u x=0\/trE (puV 0 l) u x=2
 | .mk n ps,u,hu=>by
  simp only [trE];split
  ·exact pu_max h n u hu
  ·exact RA h ps _ (Ui hu)
def RA{l:zL}(h:oks l):∀(ps:List T) (us:zK),(∀v∈us,0<=v)->FO (puV 0 l) ps us=0\/FO (puV 0 l) ps us=2
 | [],_,_=>by simp [FO]
 | _::_,[],_=>by simp [FO]
 | x::ps,u::us,hu=>by
  simp only [FO];split
  ·exact RA h ps us (fun v hv=>hu v (by simp [hv]))
  ·exact Q1 h x u (hu u yB)
end
structure OutI (l:zL) (pre:List (Nd×Int)) (O:zM):Prop where
 er:∀y∈pre,reE l y=0
 out:O=reR l pre\/(8000<=O.length/\8000<(reR l pre).length)
 bd:O.length<=16000+pre.length
def OutI.nil(l:zL): OutI l [] []:=⟨(fun _ h=>by cases h),.inl rfl,by simp⟩
def Wb{l:zL}{pre:List (Nd×Int)}(h:∀y∈pre,reE l y=0)(b:reE l x=0):∀y∈pre++[x],reE l y=0:=by
 intro y a;rcases Bi.1 a with a|a
 ·exact h y a
 ·rw [A7] at a;subst a;exact b
def OutI.step{l:zL}(h:OutI l pre O)(b:reE l x=0)(c:S=(reL l x).reverse)(hn:(O++S).length<=16000\/S.length=1): OutI l (pre++[x]) (O++S):=by
 have hb:=h.bd;refine ⟨Wb h.er b,?_,?_⟩
 ·
  rw [R4,<-c];rcases h.out with a|⟨a,d⟩
  ·exact .inl (by rw [a])
  ·right;rw [Ab,Ab];omega
 ·rw [Ab] at hn;rw [Ab,Ab,AD];omega
def OutI.cut{l:zL}(h:OutI l pre O)(b:reE l x=0)(c:S=(reL l x).reverse)(hn:16000<(O++S).length): OutI l (pre++[x]) ((O++S).take 8000):=by
 have ht:((O++S).take 8000).length=8000:=by rw [Ak];omega
 refine ⟨Wb h.er b,?_,by rw [ht];omega⟩;rw [R4,<-c];right;rw [ht];rw [Ab] at hn ⊢;rcases h.out with a|⟨a,d⟩
 ·rw [a] at hn;omega
 ·omega
def OutI.len{l:zL}(h:OutI l pre O)(hc:chk t=0)(a:pre <+: D8 t): O.length<=20000:=by
 have e:=h.bd;have d:=a.length_le;have c:(D8 t).length=t.length:=by unfold D8;rw [BK,MA hc]
 have b:=(Dg hc).2.2.2;omega
def OutI.all{l:zL}(hc:chk t=0)(h:OutI l (D8 t) O):
  FU (puV 0 l) t 0=0/\(4000<O.length->4000<(trL (puV 0 l) t 0).length)/\(O.length<=4000->O.reverse=trL (puV 0 l) t 0):=by
 obtain ⟨f,_,_,_⟩:=Dg hc;obtain ⟨e,b⟩:=re_T l (Aq t) 0 f;rw [<-M8 hc] at e b;have d:FU (puV 0 l) t 0=0:=e.2 h.er;have c:trL (puV 0 l) t 0=(trT (puV 0 l) 0 (Aq t)).flat:=by unfold trL;rw [Ae d]
 have g:(reR l (D8 t)).length=(trL (puV 0 l) t 0).length:=by rw [b,c,Dl]
 refine ⟨d,fun hl=>?_,fun hl=>?_⟩
 ·
  rw [<-g];rcases h.out with a|⟨_,i⟩
  ·rw [<-a];exact hl
  ·omega
 ·
  rcases h.out with a|⟨a,_⟩
  ·rw [a,b,List.reverse_reverse,c]
  ·omega
def re_err{l:zL}(hc:chk t=0)(hl:oks l)(b:x∈D8 t)(d:reE l x≠0): FU (puV 0 l) t 0=2:=by
 obtain ⟨c,_,_,_⟩:=Dg hc;obtain ⟨a,_⟩:=re_T l (Aq t) 0 c;rw [<-M8 hc] at a;rcases Q1 hl (Aq t) 0 (Int.le_refl _) with h|h
 ·exact absurd (a.1 h x b) d
 ·exact h
def X6{l:zL}{n:Nd}(h:¬n.K=0): reE l (n,u)=0/\reL l (n,u)=[n]:=by simp [reE,reL,h]
def re_low{l:zL}{n:Nd}(h:n.K=0)(a:n.N<u): reE l (n,u)=0/\reL l (n,u)=[n]:=by
 have:n.N-u<0:=by omega
 simp [reE,reL,h,puV,this,Bf,AZ]
def UH{l:zL}(h:¬x.1.K=0\/x.1.N<x.2): reE l x=0/\[x.1]=(reL l x).reverse:=by
 by_cases hk:x.1.K=0
 ·
  have b:x.1.N<x.2:=by
   rcases h with h|h
   ·exact absurd hk h
   ·exact h
  have a:=re_low (l:=l) (n:=x.1) (u:=x.2) hk b;exact ⟨a.1,by rw [show reL l x=[x.1] from a.2];rfl⟩
 ·have a:=X6 (l:=l) (n:=x.1) (u:=x.2) hk;exact ⟨a.1,by rw [show reL l x=[x.1] from a.2];rfl⟩
def re_in{l:zL}{n:Nd}(h:n.K=0)(f:¬n.N<u)(e:n.N-u<l.length): reE l (n,u)=sfE (Bv l (n.N-u).toNat) u 0/\(sfE (Bv l (n.N-u).toNat) u 0=0->reL l (n,u)=sfA (Bv l (n.N-u).toNat) u 0):=by
 have d:¬n.N-u<0:=by omega
 have c:n.N-u<0+(l.length:Int):=by omega
 have b:Mk l (n.N-u-0)=Bv l (n.N-u).toNat:=by unfold Mk;congr 1;omega
 have a:u+0=u:=by omega
 simp only [reE,reL,h,if_true,puV,d,c,if_false,b,a];exact ⟨trivial,fun hs=>Nm hs⟩
def YY{l:zL}{n:Nd}(hr:right n=true)(h:n.K=0)(e:¬n.N<u)(d:¬n.N-u<l.length): reE l (n,u)=0/\reL l (n,u)=[⟨n.K,n.N-l.length,n.M,n.S⟩]:=by
 have c:¬n.N-u<0:=by omega
 have b:¬n.N-u<0+(l.length:Int):=by omega
 obtain ⟨a,_,_⟩:=IR hr h;simp only [reE,reL,h,if_true,puV,c,b,if_false,Bf,AZ,List.nil_append,true_and];rw [a]
def Vm(hc:chk t=0)(h:pre++[x] <+: D8 t): x∈D8 t/\right x.1=true/\0<=x.2/\x.2<=2*t.length/\0<=x.1.N/\x.1.N<=99/\x.1∈t:=by
 obtain ⟨rest,d⟩:=h;have hm:x∈D8 t:=by rw [<-d];simp
 obtain ⟨y,c,rfl⟩:=Do.1 hm;have e:=Ud (Aq t) 0 0 y c;rw [(Dg hc).2.1] at e;have hlt:y.1.toNat<t.length:=by omega
 have b:=Cy (Br hc) hlt;have a:=Qv b;exact ⟨hm,b,by omega,by omega,a.1,a.2,JE hlt⟩
def AaM{l:zL}(hc:chk t=0)(hl:oks l)(b:x∈D8 t)(c:reE l x≠0): poE t 0 l=2/\poA t 0 l=[]:=by
 have h:=re_err hc hl b c;have a:=RG (t:=t) (k:=0) (l:=l) (by rw [h];decide);rw [h] at a;exact a
def AaA{l:zL}(hc:chk t=0)(h:OutI l (D8 t) O)(hn:4000<O.length): poE t 0 l=21/\poA t 0 l=[]:=by
 obtain ⟨d,c,_⟩:=h.all hc;obtain ⟨b,a⟩:=Jj d;rw [b,a,J3 (c hn)];exact ⟨rfl,Ac zS⟩
def AaB{l:zL}(hc:chk t=0)(h:OutI l (D8 t) O)(hn:O.length<=4000): poE t 0 l=chk O.reverse/\poA t 0 l=if chk O.reverse=0 then O.reverse else []:=by
 obtain ⟨d,_,c⟩:=h.all hc;obtain ⟨b,a⟩:=Jj d;rw [c hn];exact ⟨b,a⟩
def Aa9{l:zL}(hc:chk t=0)(hs:sml t)(hl:∀x∈l,sml x)(h:OutI l (D8 t) O)(hn:O.length<=4000): sml O.reverse:=by
 rw [(h.all hc).2.2 hn];exact Nb (Q2 hl) (Br hc) hs 0
end
section
def ckE:zL->Int
 | []=>0
 | p::l=>if chk p=0 then ckE l else chk p
def W9(h:∀i,i<k->chk (Bv L i)=0)(hk:k<L.length)(a:¬chk (Bv L k)=0): ckE L=chk (Bv L k):=by
 induction L generalizing k with
 | nil=>simp at hk
 | cons p l ih=>
  cases k with
  | zero=>
   have:Bv (p::l) 0=p:=rfl;rw [this] at a ⊢;simp [ckE,a]
  | succ k=>
   have h0:chk p=0:=h 0 zQ;have:Bv (p::l) (k+1)=Bv l k:=by simp [Bv]
   rw [this] at a ⊢;simp only [ckE,h0,if_true];exact ih (fun i hi=>by have:=h (i+1) zQ;simpa [Bv] using this) (by simpa using hk) a
def Ab5(h:∀i,i<k->chk (Bv L i)=0)(hk:L.length<=k): ckE L=0/\oks L:=by
 have a:oks L:=fun p hp=>by
  obtain ⟨i,hi,rfl⟩:=List.getElem_of_mem hp;have:=h i zQ;simpa [Bv,hi] using this
 refine ⟨?_,a⟩;clear h hk;induction L with
 | nil=>rfl
 | cons p l ih=>
  simp only [ckE,a p yB,if_true];exact ih (fun q hq=>a q (by simp [hq]))
def inE(t:zM)(l:zL): Int:=if ckE (t::l)=0 then poE t 0 l else ckE (t::l)
def inA(t:zM)(l:zL): zM:=if inE t l=0 then poA t 0 l else []
def MK{l:zL}(h:¬ckE (t::l)=0): inE t l=ckE (t::l)/\inA t l=[]:=by
 have:inE t l=ckE (t::l):=Ac h;refine ⟨this,?_⟩;unfold inA;rw [this,Ac h]
def Tt{l:zL}(h:ckE (t::l)=0): inE t l=poE t 0 l/\inA t l=poA t 0 l:=by
 have e:inE t l=poE t 0 l:=Ae h;refine ⟨e,?_⟩;unfold inA;rw [e];exact AaK _ _ _
def Z2{l:zL}(h:¬inE t l=0): inA t l=[]:=by unfold inA;rw [Ac h]
def Vg(a:Sl)(l:zN)(k:Nat): (At ([a]++l) k).2.2=Bv (a.2.2::AK l) k:=by
 rw [Av,E8];rfl
def Ya(h:∀i,i<k->chk (Bv L i)=0)(hk:chk (Bv L k)=0):∀i,i<k+1->chk (Bv L i)=0:=fun i hi=>by
 by_cases e:i=k
 ·subst e;exact hk
 ·exact h i zQ
def AaO(t:zM)(k:Int)(l:zL): (poA t k l).length<=4000:=by
 unfold poA;split
 ·
  rename_i h;unfold poE at h;split at h
  ·exact (Dg h).2.2.2
  ·rename_i a;exact absurd h a
 ·simp
def V7(t:zM)(l:zL): (inA t l).length<=4000:=by
 unfold inA;split
 ·exact AaO t 0 l
 ·simp
def AaN{l:zL}(hc:chk t=0)(hs:sml t)(hl:∀x∈l,sml x): sml (poA t 0 l):=by
 unfold poA;split
 ·exact Nb (Q2 hl) (Br hc) hs 0
 ·intro k hk;simp at hk
def V6{l:zL}(hs:sml t)(hl:∀x∈l,sml x): sml (inA t l):=by
 by_cases h:ckE (t::l)=0
 ·
  rw [(Tt h).2];have hc:chk t=0:=by
   by_cases hc:chk t=0
   ·exact hc
   ·simp only [ckE,hc,if_false] at h
  exact AaN hc hs hl
 ·rw [(MK h).2];intro k hk;simp at hk
end
section
open Go Go.RowKit
abbrev Bu:=Sl×Int
def buz:Bu:=(slz,0)
def TO(s:Bu): zF:=[.slice s.1.1 s.1.2.2.length s.1.2.1,.int .i64 s.2]
def E4(l:List Bu): zF:=l.flatMap TO
def A1(t:List Bu)(k:Nat): Bu:=t.getD k buz
def KH(s:Bu): (TO s).length=2:=rfl
def NZ(l:List Bu):∀u∈E4 l,u.oneCell'=true:=by
 intro u a;obtain ⟨n,_,hn⟩:=List.mem_flatMap.1 a;simp [TO] at hn;rcases hn with rfl|rfl<;>rfl
def AL{t:List Bu}(h:RowI w I 2 A t.length (E4 t))(hk:k<t.length): ElemAt w A (k*2) (TO (A1 t k)):=by
 have:=h.elem hk;rwa [show (E4 t)=t.flatMap TO from rfl,Hi KH t k hk buz] at this
def DC(t:List Bu): Dat:=⟨fun w I=>∀s∈t,s.1.2.2.length<=s.1.2.1/\RowI w I 4 s.1.1 s.1.2.2.length (B2 s.1.2.2),
 fun _ _ _ _ _ h hk s hs=>⟨(h s hs).1,(h s hs).2.mono hk⟩⟩
def XL{t:List Bu}(h:k<t.length): A1 t k∈t:=by
 have:A1 t k=t[k]:=by simp [A1,h]
 rw [this];exact List.getElem_mem h
section
def AbL{t:List Bu}(h:(DC t).φ w I)(hk:k<t.length): (B6 4 (A1 t k).1.1 (A1 t k).1.2.2.length (A1 t k).1.2.1 (B2 (A1 t k).1.2.2)).φ w I:=h _ (XL hk)
def Du:(DC []).φ w I:=fun _ h=>by cases h
def BG{c:Nat}{L:zM}{t:List Bu}(h:(B6 4 A L.length c (B2 L)).φ w I)(a:(DC t).φ w I): (DC (((A,c,L),e)::t)).φ w I:=fun s hs=>by
 rcases Aj.1 hs with rfl|hs
 ·exact h
 ·exact a s hs
def IH{a b:List Bu}(c:(DC a).φ w I)(hb:(DC b).φ w I): (DC (a++b)).φ w I:=fun s hs=>by
 rcases Bi.1 hs with hs|hs
 ·exact c s hs
 ·exact hb s hs
end
def Cr{n n' c:Nat}{a:Int}(h:n=n')(b:e=a): Value.agg #[.slice A n c,.int .i64 e]=.agg #[.slice A n' c,.int .i64 a]:=by rw [h,b]
abbrev Bd:=zM×Int
def DO(t:List Bu): List Bd:=t.map fun s=>(s.1.2.2,s.2)
def Ge(t:List Bd)(k:Nat): Bd:=t.getD k ([],0)
def CN(t:List Bu): (DO t).length=t.length:=by simp [DO]
def Bt(t:List Bu)(k:Nat): ((A1 t k).1.2.2,(A1 t k).2)=Ge (DO t) k:=by
 unfold A1 Ge DO;by_cases h:k<t.length
 ·simp [h]
 ·simp [AC,List.getElem?_eq_none (by omega:t.length<=k),buz,slz]
def KJ(a b:List Bu): DO (a++b)=DO a++DO b:=by simp [DO]
def PM(a:List Bu)(k:Nat): DO (a.take k)=(DO a).take k:=by simp [DO]
def Cu(s:Bu)(l:List Bu): DO (s::l)=(s.1.2.2,s.2)::DO l:=rfl
def CJ:DO []=[]:=rfl
def fsE:List Bd->Bd
 | []=>([],0)
 | x::l=>if x.2=0 then fsE l else x
def bOf(n:Nd)(l:List Bd): Bd:=if (fsE l).2=0 then ((l.map (·.1)).flatten++[n],0) else ([],(fsE l).2)
def bUp(a:Bd)(n k:Int): Bd:=if a.2=0 then (sfA a.1 n k,sfE a.1 n k) else a
def EY(a:Bd): Bd:=if a.2=0 then (if chk a.1=0 then (a.1,0) else ([],chk a.1)) else ([],a.2)
def Sh{l:List Bd}(h:∀i,i<k->(Ge l i).2=0)(hk:k<l.length)(a:¬(Ge l k).2=0): fsE l=Ge l k:=by
 induction l generalizing k with
 | nil=>simp at hk
 | cons x l ih=>
  cases k with
  | zero=>exact Ac a
  | succ k=>
   have h0:x.2=0:=h 0 zQ;rw [fsE,Ae h0];exact ih (fun i hi=>h (i+1) zQ) (by simpa using hk) a
def VH{l:List Bd}(h:∀i,i<l.length->(Ge l i).2=0): (fsE l).2=0:=by
 induction l with
 | nil=>rfl
 | cons x l ih=>
  have h0:x.2=0:=h 0 yB;rw [fsE,Ae h0];exact ih (fun i hi=>h (i+1) (by simpa using hi))
def WJ{n:Nd}{t:List Bu}(h:∀i,i<k->(A1 t i).2=0)(hk:k<t.length)(a:¬(A1 t k).2=0): bOf n (DO t)=([],(A1 t k).2):=by
 have b:fsE (DO t)=Ge (DO t) k:=Sh (fun i hi=>by rw [<-Bt];exact h i hi) (by rw [CN];exact hk) (by rw [<-Bt];exact a);unfold bOf;rw [b,<-Bt,Ac a]
def ZQ{n:Nd}{t:List Bu}(h:∀i,i<t.length->(A1 t i).2=0): bOf n (DO t)=(((DO t).map (·.1)).flatten++[n],0):=by
 have a:(fsE (DO t)).2=0:=VH (fun i hi=>by rw [<-Bt];exact h i (by rw [CN] at hi;exact hi));unfold bOf;rw [Ae a]
def YE{t:List Bu}(h:∀i,i<k->(A1 t i).2=0)(hk:(A1 t k).2=0):∀i,i<k+1->(A1 t i).2=0:=fun i hi=>by
 by_cases e:i=k
 ·subst e;exact hk
 ·exact h i zQ
def bAt(a:Bd)(l:List Bd): Bd:=if ¬a.2=0 then a else if ¬(fsE l).2=0 then fsE l else (inA a.1 (l.map (·.1)),inE a.1 (l.map (·.1)))
def WL{a:zM}{t:List Bu}(h:∀i,i<k->(A1 t i).2=0)(hk:k<t.length)(b:¬(A1 t k).2=0): bAt (a,0) (DO t)=((A1 t k).1.2.2,(A1 t k).2):=by
 have c:fsE (DO t)=Ge (DO t) k:=Sh (fun i hi=>by rw [<-Bt];exact h i hi) (by rw [CN];exact hk) (by rw [<-Bt];exact b);unfold bAt;rw [Ac (CX rfl),c,<-Bt,Ae b]
def ZR{a:zM}{t:List Bu}(h:∀i,i<t.length->(A1 t i).2=0): bAt (a,0) (DO t)=(inA a ((DO t).map (·.1)),inE a ((DO t).map (·.1))):=by
 have b:(fsE (DO t)).2=0:=VH (fun i hi=>by rw [<-Bt];exact h i (by rw [CN] at hi;exact hi));unfold bAt;rw [Ac (CX rfl),Ac (CX b)]
def S2:∀(l:zL) (x:zM),ckE (l++[x])=if ckE l=0 then chk x else ckE l
 | [],x=>by simp only [List.nil_append,ckE];split<;>simp_all
 | y::l,x=>by
  have:=S2 l x;simp only [List.cons_append,ckE];split
  ·exact this
  ·rename_i h;first|rfl|(rw [Ac h])
def W8:∀(l m:zL),¬ckE l=0->ckE (l++m)=ckE l
 | [],m,h=>absurd rfl h
 | y::l,m,h=>by
  simp only [List.cons_append,ckE] at h ⊢;split at h
  ·rename_i a;rw [Ae a,Ae a];exact W8 l m h
  ·rename_i a;rw [Ac a,Ac a]
def Ab3{l:zN}(hk:k<l.length)(h:ckE (t::(AK l).take k)=0): chk (At l k).2.2=ckE (t::(AK l).take (k+1)):=by
 have e:(AK l)[k]?=some (At l k).2.2:=by
  unfold AK At;simp [hk]
 rw [List.take_add_one,e,<-List.cons_append];have:=S2 (t::(AK l).take k) (At l k).2.2;rw [Ae h] at this;exact this.symm
def ck_end{l:zN}(h:¬k<l.length\/¬ckE (t::(AK l).take k)=0): ckE (t::(AK l).take k)=ckE (t::AK l):=by
 rcases h with h|h
 ·rw [AM yJ]
 ·have:=W8 (t::(AK l).take k) ((AK l).drop k) h;rw [List.cons_append,List.take_append_drop] at this;exact this.symm
def PN{l:List Bu}(h:k<l.length): (DO (l.take (k+1))).map (·.1)=(DO (l.take k)).map (·.1)++[(A1 l k).1.2.2]:=by
 have e:A1 l k=l[k]:=by simp [A1,h]
 rw [List.take_add_one,Bk h,e,KJ,Cq];rfl
def AbC{l:List Bu}(hb:∀x∈DO l,x.1.length<=1000000)(hl:l.length<=10)(hk:k<=l.length): ((DO (l.take k)).map (·.1)).flatten.length<=50000000:=by
 have d:∀(m:List Bd),(∀x∈m,x.1.length<=1000000)->(m.map (·.1)).flatten.length<=m.length*1000000:=fun m=>by
  induction m with
  | nil=>simp
  | cons a t ih=>
   intro h;have f:=h a yB;have e:=ih (fun x b=>h x (by simp [b]));rw [AA,BO,Ab,Af,Nat.add_mul];omega
 have c:=d (DO (l.take k)) (fun x b=>by rw [PM] at b;exact hb x (List.mem_of_mem_take b));rw [CN,Ak] at c;have g:min k l.length*1000000<=10*1000000:=Nat.mul_le_mul_right _ zQ;omega
def Ab2{l:zN}(h:ckE (t::AK l)=0): Bn t=true/\t.length<=4000/\∀x∈AK l,x.length<=4000:=by
 have c:∀(m:zL),ckE m=0->∀x∈m,chk x=0:=fun m=>by
  induction m with
  | nil=>intro _ x a;cases a
  | cons y m ih=>
   intro hm x a;simp only [ckE] at hm;split at hm
   ·
    rcases Aj.1 a with rfl|a
    ·assumption
    ·exact ih hm x a
   ·contradiction
 have b:=c _ h;exact ⟨Br (b t yB),(Dg (b t yB)).2.2.2,fun x a=>(Dg (b x (by simp [a]))).2.2.2⟩
def AbK{A B:Prop}[Decidable A][Decidable B](h:(decide A&&decide B)=true): A/\B:=by simpa using h
def JP{l:zN}{ev:Int}(a:ev=ckE (t::(AK l).take k))(h:(decide ((k:Int)<(l.length:Int))&&decide (ev=0))=false): ev=ckE (t::AK l):=by
 refine a.trans (ck_end ?_);by_cases hk:k<l.length
 ·right;intro h0;rw [<-a] at h0;rw [AF h0,AF zQ] at h;cases h
 ·exact .inl hk
end
section
open Go Go.RowKit
def WR{st:List T}{t:zM}:∀(_:De st t=some st'),∃r,DJ 0 st'=DJ 0 st++r:=by
 induction t generalizing st with
 | nil=>
  intro h;simp only [De] at h;obtain rfl:=Bc h;exact ⟨[],by simp⟩
 | cons n t ih=>
  intro h;simp only [De] at h;cases hp:Fp st n with
  | none=>simp [hp] at h
  | some s=>
   simp only [hp] at h;obtain ⟨r,a⟩:=ih h;have:=(Lp hp rfl).2;exact ⟨_,by rw [a,this,AW]⟩
def To{e:Nat}(h:Bn t=true)(c:e<t.length): (J6 (DY t) e).1=(frL t e:Int):=by
 obtain ⟨x,hs,p,_,q⟩:=DN h;obtain ⟨st,hst⟩:=G7 h e;obtain ⟨g,hm⟩:=L2 h c hst;have f:=Fo hst c;obtain ⟨st',hp,_⟩:=Hz g hm;rw [hp] at f;have a:=F6 hst zQ;have n:=(Lp hp a).2;have m:De st' (t.drop (e+1))=some [x]:=by
  have:=hs;rw [show t=t.take (e+1)++t.drop (e+1) from (List.take_append_drop _ _).symm,Em,f] at this;simpa using this
 obtain ⟨r,b⟩:=WR m;have d:(DJ 0 st).length=e:=by rw [Gl,a]
 have h6:DY t=DJ 0 st++((GZ e (meas 0 st) (st.length-many (nth t e)) (many (nth t e)),GF (meas 0 st) (st.length-many (nth t e)) (many (nth t e)))::r):=by
  rw [p];have:DJ 0 [x]=Xi 0 x:=by simp [DJ]
  rw [<-this,b,n,AW];rfl
 have l:J6 (DY t) e=(GZ e (meas 0 st) (st.length-many (nth t e)) (many (nth t e)),GF (meas 0 st) (st.length-many (nth t e)) (many (nth t e))):=by
  rw [h6,J6,AC,CZ zQ,d];simp
 rw [l,<-RE h c];unfold C3;rw [hst];simp only;unfold GZ;split
 ·rename_i h0;rw [h0,Nat.sub_zero,CD,a]
 ·obtain ⟨o,k,j⟩:=Jm (st:=st) (i:=st.length-many (nth t e)) zQ;rw [k,j]
def UP(h:Bn t=true)(hj:j<many (nth t (t.length-1))): 0<C3 t (t.length-1) j/\C3 t (t.length-1) j<=t.length-1/\(J6 (DY t) (C3 t (t.length-1) j-1)).1=(C3 t (t.length-1) (j+1):Int)/\C3 t (t.length-1) (j+1)<C3 t (t.length-1) j:=by
 have hp:=Cz h;obtain ⟨d,c,b,a⟩:=Ji h (show t.length-1<t.length by omega) hj;refine ⟨d,c,?_,a⟩;rw [To h zQ,b]
def Fv(A:zE)(c:Nat)(t:zM)(k:Nat): Int×Sl:=
 (((many (nth t (t.length-1))-1-k:Nat):Int),((if c=C3 t (t.length-1) (k+1) then A else A.map (·.add (C3 t (t.length-1) (k+1)*4))),c-C3 t (t.length-1) (k+1),(t.drop (C3 t (t.length-1) (k+1))).take (C3 t (t.length-1) k-C3 t (t.length-1) (k+1))))
def bkS(A:zE)(c:Nat)(t:zM): List (Int×Sl):=(List.range (many (nth t (t.length-1)))).map (Fv A c t)
def SB{c:Nat}(h:k<many (nth t (t.length-1))): (bkS A c t).take k++[Fv A c t k]=(bkS A c t).take (k+1):=by
 rw [List.take_add_one];have:(bkS A c t)[k]?=some (Fv A c t k):=by simp [bkS,h]
 rw [this];rfl
def Oq(A:zE)(c:Nat)(t:zM): (bkS A c t).length=many (nth t (t.length-1)):=by simp [bkS]
def AbE{c:Nat}(h:many (nth t (t.length-1))<=k): (bkS A c t).take k=bkS A c t:=AM (by rw [Oq];exact h)
def WH{c:Nat}{x:Int×Sl}(h:k<many (nth t (t.length-1)))(a:x=Fv A c t k): (bkS A c t).take k++[x] <+: bkS A c t:=by
 rw [a,SB h];exact List.take_prefix _ _
def AbD{c:Nat}{f:Nat}{i:Int}(hi:i=((many (nth t (t.length-1))-1-k:Nat):Int))(hf:f=C3 t (t.length-1) (k+1)):
  ((i,((if c=f then A else A.map (·.add (f*4))),c-f,(t.drop f).take (C3 t (t.length-1) k-f))):Int×Sl)=Fv A c t k:=by
 subst hi hf;rfl
def SC{c:Nat}{pre:List (Int×Sl)}{x:Int×Sl}(hk:pre.length=k)(h:pre++[x] <+: bkS A c t): k<many (nth t (t.length-1))/\x=Fv A c t k:=by
 obtain ⟨r,a⟩:=h;have hl:=congrArg List.length a;rw [Ab,Ab,AD,Oq,hk] at hl;have hlt:k<many (nth t (t.length-1)):=by omega
 have b:(bkS A c t)[k]?=some x:=by
  rw [<-a,AW,CZ zQ,hk];simp
 refine ⟨hlt,?_⟩;simp [bkS,hlt] at b;exact b.symm
def ZM{c:Nat}(hb:Bn t=true)(h:(B6 4 A t.length c (B2 t)).φ w I)(hk:k<many (nth t (t.length-1))):
  (B6 4 (Fv A c t k).2.1 (Fv A c t k).2.2.2.length (Fv A c t k).2.2.1 (B2 (Fv A c t k).2.2.2)).φ w I:=by
 obtain ⟨d,b,_,a⟩:=UP hb hk;exact Ww (f:=Ei) (L:=t) h BQ zQ
def SE{c:Nat}(hb:Bn t=true)(a:AK Ls.reverse=ptD t k)(hk:k<many (nth t (t.length-1))): AK (Ls++[((A',c',(Fv A c t k).2.2.2):Sl)]).reverse=ptD t (k+1):=by
 rw [EZ];exact JD hb a hk rfl rfl
def UC{n:Nat}{x:Sl}(h:k<n)(hi:i=n-1-k): (List.replicate (n-k) slz++Ls.reverse).set i x=List.replicate (n-(k+1)) slz++(Ls++[x]).reverse:=by
 subst hi;rw [List.set_append_left _ _ (by rw [BB];omega),show n-k=(n-1-k)+1 by omega,List.replicate_succ',List.set_append_right _ _ (by rw [BB];omega)];simp;omega
def Ri(n:Nat): (BS (List.replicate n slz)).φ w I:=fun s hs=>by
 rw [List.eq_of_mem_replicate hs];exact ⟨Ag _,RowI.nil _ _ _ _⟩
def agA(t:zM): zL:=if chk t=0 then ptL t else []
def EW(h:chk t=0): agA t=ptL t:=Ae h
def WW(h:¬chk t=0): agA t=[]:=Ac h
def SG(n:Nat): (List.replicate n slz).flatMap Gu=List.replicate n (.slice none 0 0):=by
 induction n with
 | zero=>rfl
 | succ n ih=>rw [List.replicate_succ,List.flatMap_cons,ih];rfl
section
variable {Next:zC} {l:zD}
def NJ{t e:zI}{n by_:Nat}{x:zJ}{p q:Int}(hs:SteV P X Next o a w)(B:Reg a N l)(A:St w0 Z M w m ds)(hd:o.dst=some d)(v:o.op=.makeSlice t x y)(r:ev l x=some (.int kx p))(j:ev l y=some (.int ky q))
  (u:p=(n:Int)) (b:q=(n:Int)) (s:P.underlying t=some (.slice e)) (hi:(P.info? e).map (fun i=>(i.zero,i.size,i.bytes))=some (some (.slice none 0 0),1,by_)) (z:by_<=100) (hn:n<=1000) (c:d<N)
  (k:∀a' w' g,Reg a' N ((d,.slice (some ⟨g,0,none⟩) (List.replicate n slz).length (List.replicate n slz).length)::l)->St w0 Z M w' (m++[.row (some ⟨g,0,none⟩) (List.replicate n slz).length (List.replicate n slz).length e 1 (Bh (List.replicate n slz))]) ds->Next a' w'):X:=
 L5 hs B A hd v r j u b s hi rfl rfl (AF zQ) zQ c (fun a' w' g h f=>k a' w' g (by rw [BB];exact h) (by rw [BB,Bh,SG];exact f))
end
end
section
open Go Go.RowKit
abbrev Tl:=zE×Nat×zN
def Yr(t:List Tl): Dat:=⟨fun w I=>∀s∈t,(B6 1 s.1 s.2.2.length s.2.1 (Bh s.2.2)).φ w I/\(BS s.2.2).φ w I,fun _ _ _ _ hs h hk s hm=>⟨(B6 _ _ _ _ _).mono _ _ _ _ hs (h s hm).1 hk,(BS _).mono _ _ _ _ hs (h s hm).2 hk⟩⟩
def Ov: (Yr []).φ w I:=fun _ h=>by cases h
section
variable {Next:zC} {l:zD}
def k_inl(hs:Ste P X Next o a w)(i:Reg a N l)(hd:o.dst=some d)
  (g:o.op=.call { callee:=.value (.func f),args:=xs.toArray,argTypes:=ts }) (c:evs l xs=some vs) (b:d<N) (hf:FOK P f)
  (hc:Calls P f vs.toArray w (fun e w'=>∃v,e=.returned v/\∀a',Reg a' N ((d,v)::l)->Next a' w')):X:=k_call hs i hd g c b hf hc (fun _ _ h=>h)
end
section
variable {W:zH}
end
end
section
open Go Go.RowKit
variable {e t:zI}{vs:zD}{x:zJ}
def putA:zF->zF->Option zF
 | [],cs=>some cs
 | _::_,[]=>none
 | v::vs,_::cs=>match putA vs cs with|some r=>some (v::r)|none=>none
def putJ(vs:zF): Nat->zF->Option zF
 | 0,cs=>putA vs cs
 | _+1,[]=>none
 | j+1,c::cs=>match putJ vs j cs with|some r=>some (c::r)|none=>none
def AbX(cs:zF)(j:Nat)(vs:zF): Option zF:=putJ vs j cs
def UM:∀{vs cs r:zF},putA vs cs=some r->vs++cs.drop vs.length=r
 | [],cs,r,h=>by cases h;simp
 | _::_,[],_,h=>by cases h
 | v::vs,c::cs,r,h=>by
  unfold putA at h;split at h
  ·rename_i r' a;cases h;rw [Af,List.drop_succ_cons,List.cons_append,UM a]
  ·cases h
def UL{vs r:zF}(h:AbX cs j vs=some r): cs.take j++vs++cs.drop (j+vs.length)=r:=by
 unfold AbX at h;induction j generalizing cs r with
 | zero=>simpa using UM h
 | succ j ih=>
  cases cs with
  | nil=>cases h
  | cons c cs=>
   unfold putJ at h;split at h
   ·rename_i r' a;cases h;rw [List.take_succ_cons,show j+1+vs.length=(j+vs.length)+1 by omega,List.drop_succ_cons,List.cons_append,List.cons_append,ih a]
   ·cases h
def XR{α:Type}: List α->Option (List α)
 | []=>some []
 | x::l=>match XR l with|some r=>some (x::r)|none=>none
def NR{α:Type}:∀{l r:List α},XR l=some r->l=r
 | [],_,h=>by cases h;rfl
 | x::l,r,h=>by
  unfold XR at h;split at h
  ·rename_i r' a;cases h;rw [NR a]
  ·cases h
def Yj(a:Nat)(z:zF): Nat->zD->Option zF
 | n,[]=>XR (List.replicate n z).flatten
 | n,(i,v)::vs=>match Yj a z n vs with|some r=>AbX r (i*a) v.cells.toList|none=>none
def bldO(b:zF)(a:List Nat): zD->Option zF
 | []=>some b
 | (i,v)::vs=>match bldO b a vs,a[i]? with|some r,some j=>AbX r j v.cells.toList|_,_=>none
section
variable {Next:zC} {l:zD}
def sto{g n:Nat}(i:Nat)(u:Reg a N l)(s:St w0 Z M w m ds)(k:∀a' w',Reg a' N l->St w0 Z M w' (m.set i (.box g e cs')) ds->Next a' w')
  (hs:Ste P X Next o a w:=by first|exact se|exact DK rfl (A4 rfl)|exact CQ (wt ‹_›)|exact DK rfl (wt ‹_›)) (hd:o.dst=none:=by exact rfl) (r:o.op=.store t x y:=by exact rfl) (p:ev l x=some (.pointer (some ⟨g,j,none⟩)):=by exact rfl) (f:ev l y=some v:=by exact rfl)
  (hi:m[i]?=some (.box g e cs):=by exact rfl) (q:Siz P t n:=by infer_instance) (hn:n=v.cells.toList.length:=by exact rfl) (b:v.cells.toList.all Value.oneCell'=true:=by exact rfl) (c:decide (j+v.cells.toList.length<=cs.length)=true:=by exact rfl) (d:AbX cs j v.cells.toList=some cs':=by exact rfl):X:=
 Vw hs u s hd r p f hi (by rw [<-hn];exact q.h) b c (UL d) k
def alc{z:Value}(j:Reg a N l)(i:St w0 Z M w m ds)(k:∀a' w' g,Reg a' N ((d,.pointer (some ⟨g,0,none⟩))::l)->St w0 Z M w' (m++[.box g e cs]) ds->Next a' w')
  (hs:SteV P X Next o a w:=by first|exact sv|exact Cw rfl (A4 rfl)|exact AH (wt ‹_›)|exact Cw rfl (wt ‹_›)) (hd:o.dst=some d:=by exact rfl) (f:o.op=.alloc e:=by exact rfl) (c:Zer P e z:=by infer_instance) (hc:XR z.cells.toList=some cs:=by exact rfl) (b:d<N:=by decide):X:=
 Abc hs j i hd f c.h (NR hc) b k
def bxx(i:Reg a N l)(h:St w0 Z M w m ds)(k:∀a' w' g,Reg a' N ((d,.pointer (some ⟨g,0,none⟩))::l)->St w0 Z M w' (m++[.box g e cs]) ds->Next a' w')
  (hs:SteV P X Next o a w:=by first|exact sv|exact Cw rfl (A4 rfl)|exact AH (wt ‹_›)|exact Cw rfl (wt ‹_›)) (hd:o.dst=some d:=by exact rfl) (f:o.op=.box e x:=by exact rfl) (c:ev l x=some v:=by exact rfl) (hc:XR v.cells.toList=some cs:=by exact rfl) (b:d<N:=by decide):X:=
 m_box hs i h hd f c (NR hc) b k
def bsl{n:Nat}{z:Value}(u:Reg a N l)(s:St w0 Z M w m ds)
  (k:∀a' w' g,Reg a' N ((d,.slice (some ⟨g,0,none⟩) n n)::l)->St w0 Z M w' (m++[.row (some ⟨g,0,none⟩) n n e size cs]) ds->Next a' w')
  (hs:SteV P X Next o a w:=by first|exact sv|exact Cw rfl (A4 rfl)|exact AH (wt ‹_›)|exact Cw rfl (wt ‹_›)) (hd:o.dst=some d:=by exact rfl) (q:o.op=.buildSlice t n ps'.toArray:=by exact rfl) (j:evp l ps'=some vs:=by exact rfl) (p:Slc P t e:=by infer_instance) (f:Zis P e z size bytes:=by infer_instance)
  (r:Yj size z.cells.toList n vs=some cs:=by exact rfl) (hn:decide (n*size<=1000000)=true:=by exact rfl) (b:decide (n<=1000000)=true:=by exact rfl)
  (hf:Instr.fill (fun i=>some (i*size,size)) ((Array.range (n*size)).map fun i=>(if n*size=0 then #[] else z.cells)[i%(if n*size=0 then (#[]:Array Value) else z.cells).size]!) vs=some cs.toArray:=by kernel_rfl) (hl:(cs.length == n*size)=true:=by exact rfl) (c:d<N:=by decide):X:=
 Pj (ps:=ps') (cs:=cs) hs u s hd q j p.h f.h hn b hf hl c k
def bld(h:Reg a N l)(k:∀a',Reg a' N ((d,.agg cs.toArray)::l)->Next a' w)
  (hs:SteV P X Next o a w:=by first|exact sv|exact Cw rfl (A4 rfl)|exact AH (wt ‹_›)|exact Cw rfl (wt ‹_›)) (hd:o.dst=some d:=by exact rfl) (f:o.op=.build t ps'.toArray:=by exact rfl) (e:evp l ps'=some vs:=by exact rfl) (i:Bld P t zs offs:=by infer_instance) (g:bldO zs offs vs=some cs:=by exact rfl)
  (b:∀w,(Instr.build t vs.toArray).run P w=.ok (.agg cs.toArray) w:=by intro _;kernel_rfl) (c:d<N:=by decide):X:=
 Abb hs h hd f e b c k
def LW(f:Reg a N l)(d:o.op=.build t ps'.toArray:=by exact rfl)(c:evp l ps'=some vs:=by exact rfl)(g:Bld P t zs offs:=by infer_instance)(e:bldO zs offs vs=some cs:=by exact rfl)
  (b:∀w,(Instr.build t vs.toArray).run P w=.ok (.agg cs.toArray) w:=by intro _;kernel_rfl):(execOp a.eval o).run P w=.ok (.value (.agg cs.toArray)) w:=by
 have hm:ps'.toArray.map (fun (i,x)=>(i,a.eval x))=vs.toArray:=by
  rw [<-f.evp c];simp
 unfold execOp;rw [d];simp only [hm,AB,b,Ay,Ba]
def ix{n c:Nat}{p:Int}(i j:Nat)(u:Reg a N l)(v:A.isSome=true)(k:∀a',Reg a' N ((d,.pointer (eP A j))::l)->Next a' w)
  (hs:SteV P X Next o a w:=by first|exact sv|exact Cw rfl (A4 rfl)|exact AH (wt ‹_›)|exact Cw rfl (wt ‹_›)) (hd:o.dst=some d:=by exact rfl) (s:o.op=.indexAddr t x y:=by exact rfl) (m:ev l x=some (.slice A n c):=by exact rfl) (g:ev l y=some (.int ki p):=by exact rfl)
  (q:Slc P t e:=by infer_instance) (b:Siz P e size:=by infer_instance) (r:p=(i:Int):=by omega) (hi:i<n:=by omega) (hj:i*size=j:=by exact rfl) (f:d<N:=by decide):X:=
 CG hs u hd s m g q.h b.h r hi v hj f k
def lde{vs:zF}(i b:Nat)(n:Reg a N l)(m:ElemAt w A b vs)(k:∀a',Reg a' N ((d,v)::l)->Next a' w)
  (hs:SteV P X Next o a w:=by first|exact sv|exact Cw rfl (A4 rfl)|exact AH (wt ‹_›)|exact Cw rfl (wt ‹_›)) (hd:o.dst=some d:=by exact rfl) (g:o.op=.load t x:=by exact rfl) (e:ev l x=some (.pointer (eP A j)):=by exact rfl)
  (hj:j=b+i:=by exact rfl) (hv:vs[i]?=some v:=by exact rfl) (f:NAg P t:=by infer_instance) (c:d<N:=by decide):X:=
 have ⟨_,q,p⟩:=f.h
 I2 hs n hd g e i b m hj hv q p c k
def adi{u:zI}{p q:Int}(z:Int)(h:Reg a N l)(k:∀a',Reg a' N ((d,.int .i64 z)::l)->Next a' w)
  (hs:SteV P X Next o a w:=by first|exact sv|exact Cw rfl (A4 rfl)|exact AH (wt ‹_›)|exact Cw rfl (wt ‹_›)) (hd:o.dst=some d:=by exact rfl) (g:o.op=.binOp .add t x y u:=by exact rfl) (f:ev l x=some (.int .i64 p):=by exact rfl) (e:ev l y=some (.int .i64 q):=by exact rfl)
  (b:d<N:=by decide) (c:p+q=z:=by omega) (j:-1000000000000000<=z:=by omega) (i:z<=1000000000000000:=by omega):X:=Mi hs h hd g f e b c j i k
def sbi{u:zI}{p q:Int}(z:Int)(h:Reg a N l)(k:∀a',Reg a' N ((d,.int .i64 z)::l)->Next a' w)
  (hs:SteV P X Next o a w:=by first|exact sv|exact Cw rfl (A4 rfl)|exact AH (wt ‹_›)|exact Cw rfl (wt ‹_›)) (hd:o.dst=some d:=by exact rfl) (g:o.op=.binOp .sub t x y u:=by exact rfl) (f:ev l x=some (.int .i64 p):=by exact rfl) (e:ev l y=some (.int .i64 q):=by exact rfl)
  (b:d<N:=by decide) (c:p-q=z:=by omega) (j:-1000000000000000<=z:=by omega) (i:z<=1000000000000000:=by omega):X:=UI hs h hd g f e b c j i k
def er1{t:Nat}(b:Reg a N l)(h:R (.returned v) w)(h0:l.lookup 1000000=some (.bool false):=by exact rfl)(hr:fn.results=#[.tmp t]:=by exact rfl)(hv:ev l (.tmp t)=some v:=by exact rfl): bodyPost P fn R .ret a w:=Wn b h0 hr hv h
def er2{t u:Nat}(c:Reg a N l)(h:R (.returned (.tuple #[v,v'])) w)(h0:l.lookup 1000000=some (.bool false):=by exact rfl)(hr:fn.results=#[.tmp t,.tmp u]:=by exact rfl)(hv:ev l (.tmp t)=some v:=by exact rfl)(b:ev l (.tmp u)=some v':=by exact rfl): bodyPost P fn R .ret a w:=e_ret2 c h0 hr hv b h
def kcl{vs:zF}(h:Reg a N l)(hf:FOK P f)(hc:Calls P f vs.toArray w R)(k:∀e w',R e w'->∃v,e=.returned v/\∀a',Reg a' N ((d,v)::l)->Next a' w')
  (hs:Ste P X Next o a w:=by first|exact se|exact DK rfl (A4 rfl)|exact CQ (wt ‹_›)|exact DK rfl (wt ‹_›)) (hd:o.dst=some d:=by exact rfl) (g:o.op=.call { callee:=.value (.func f),args:=xs.toArray,argTypes:=ts }:=by exact rfl) (c:evs l xs=some vs:=by exact rfl) (b:d<N:=by decide):X:=k_call hs h hd g c b hf hc k
section
def dix{n c:Nat}{p:Int}(q i j:Nat)(o:Reg a N l)(E:∀x,sW w1 J ps x->A.isSome=true)(k:∀a',Reg a' N ((d,.pointer (eP A j))::l)->wpAnyH P .any ops Q (sW w1 J ps) fuel (listed.setIfInBounds q true) a' w)(D:D6 Q:=by assumption)(C:sW w1 J ps w:=by assumption)
  (hi:ops[q]?=some oi:=by exact rfl) (hd:oi.dst=some d:=by exact rfl) (B:oi.op=.indexAddr t x y:=by exact rfl) (s:ev l x=some (.slice A n c):=by exact rfl) (r:ev l y=some (.int ki p):=by exact rfl)
  (u:Region.wanted oi (yielded ops a.tmps)=true:=by first|exact A4 rfl|exact wt ‹_›) (v:Slc P t e:=by infer_instance) (g:Siz P e size:=by infer_instance) (z:p=(i:Int):=by omega) (m:i<n:=by omega) (hj:i*size=j:=by exact rfl) (b:d<N:=by decide) (hne:d≠1000000:=by decide)
  (hs:Region.noSelect ops=true:=by kernel_rfl) (hf:Region.free .any ops listed q=true:=by kernel_rfl) (hr:(Region.ready .any ops listed).contains q=true:=by kernel_rfl):wpAnyH P .any ops Q (sW w1 J ps) (fuel+1) listed a w:=
 dt q hi D o u (fun y f=>CG (sy o hd b) o hd B s r v.h g.h z m (E y f) hj b (gt hne)) C k hd b hs hf hr
def dle{vs:zF}(q i c:Nat)(f:Reg a N l)(p:∀x,sW w1 J ps x->ElemAt x A c vs)(k:∀a',Reg a' N ((d,v)::l)->wpAnyH P .any ops Q (sW w1 J ps) fuel (listed.setIfInBounds q true) a' w)(s:D6 Q:=by assumption)(r:sW w1 J ps w:=by assumption)
  (hi:ops[q]?=some oi:=by exact rfl) (hd:oi.dst=some d:=by exact rfl) (o:oi.op=.load t x:=by exact rfl) (g:ev l x=some (.pointer (eP A j)):=by exact rfl)
  (m:Region.wanted oi (yielded ops a.tmps)=true:=by first|exact A4 rfl|exact wt ‹_›) (hj:j=c+i:=by exact rfl) (hv:vs[i]?=some v:=by exact rfl) (n:NAg P t:=by infer_instance) (b:d<N:=by decide) (hne:d≠1000000:=by decide)
  (hs:Region.noSelect ops=true:=by kernel_rfl) (hf:Region.free .any ops listed q=true:=by kernel_rfl) (hr:(Region.ready .any ops listed).contains q=true:=by kernel_rfl):wpAnyH P .any ops Q (sW w1 J ps) (fuel+1) listed a w:=
 have ⟨_,z,u⟩:=n.h
 dt q hi s f m (fun y e=>I2 (sy f hd b) f hd o g i c (p y e) hj hv z u b (gt hne)) r k hd b hs hf hr
def dta(i:Nat)(hi:ops[i]?=some oi)(j:D6 Q)(g:Reg a N l)(f:Region.wanted oi (yielded ops a.tmps)=true)(e:∀x,(execOp a.eval oi).run P x=.ok (.value v) x)(h:∀a',Reg a' N ((d,v)::l)->El P ops Q S late fuel (listed.setIfInBounds i true) a' w)
  (hd:oi.dst=some d:=by exact rfl) (b:d<N:=by decide) (hs:Region.noSelect ops=true:=by kernel_rfl) (hf:Region.free .any ops listed i=true:=by kernel_rfl) (hr:(Region.ready .any ops listed).contains i=true:=by kernel_rfl):El P ops Q S late (fuel+1) listed a w:=
 Yn hi hs hf hr (fun c a w h=>j c _ _ _ _ h) hd b g f e h
def dtv(i:Nat)(f:D6 Q)(c:Reg a N l)(h:∀a',Reg a' N ((d,v)::l)->El P ops Q S late fuel (listed.setIfInBounds i true) a' w)
  (hi:ops[i]?=some oi:=by exact rfl) (hv:pv l oi.op=some v:=by exact rfl) (e:Region.wanted oi (yielded ops a.tmps)=true:=by first|exact A4 rfl|exact wt ‹_›) (hd:oi.dst=some d:=by exact rfl) (b:d<N:=by decide) (hs:Region.noSelect ops=true:=by kernel_rfl) (hf:Region.free .any ops listed i=true:=by kernel_rfl) (hr:(Region.ready .any ops listed).contains i=true:=by kernel_rfl):El P ops Q S late (fuel+1) listed a w:=
 dta i hi f c e (Ze c hv) h hd b hs hf hr
def dlt(i:Nat)(hi:ops[i]?=some oi)(k:D6 Q)(j:Reg a N l)(f:Region.wanted oi (yielded ops a.tmps)=true)(e:∀x,S x->(execOp a.eval oi).run P x=.ok (.value v) x)(g:S w)(h:∀a',Reg a' N ((d,v)::l)->El P ops Q S late fuel (listed.setIfInBounds i true) a' w)
  (hd:oi.dst=some d:=by exact rfl) (b:d<N:=by decide) (hs:Region.noSelect ops=true:=by kernel_rfl) (hf:Region.free .any ops listed i=true:=by kernel_rfl) (hr:(Region.ready .any ops listed).contains i=true:=by kernel_rfl) (hl:TY ops late i=true:=by kernel_rfl):El P ops Q S late (fuel+1) listed a w:=
 Aby hi hs hf hr hl (fun c a w h=>k c _ _ _ _ h) hd b j f e g h
end
def St.el{t:zN}(h:St w0 Z M w m ds)(i k:Nat)(hi:ds[i]?=some (BS t):=by exact rfl)(hk:k<t.length:=by omega): St w0 Z M w m (ds++[B6 4 (At t k).1 (At t k).2.2.length (At t k).2.1 (B2 (At t k).2.2)]):=h.data _ (all_at (h.get hi) hk)
def St.elU{t:List Bu}(h:St w0 Z M w m ds)(i k:Nat)(hi:ds[i]?=some (DC t):=by exact rfl)(hk:k<t.length:=by omega): St w0 Z M w m (ds++[B6 4 (A1 t k).1.1 (A1 t k).1.2.2.length (A1 t k).1.2.1 (B2 (A1 t k).1.2.2)]):=h.data _ (AbL (h.get hi) hk)
def St.pub{n e:Nat}{xs:zF}(h:St w0 Z Be w m ds)(i:Nat)(D:Dat)(hi:m[i]?=some (.row A n cap e size xs):=by exact rfl)(a:D=B6 size A n cap xs:=by exact rfl): St w0 Z Be w (m.eraseIdx i) (ds++[D]):=by
 obtain ⟨c,b⟩:=h.row_data hi (fun _ h=>h);subst a;exact c.data _ ⟨ES (h.res hi),b⟩
end
end
section
open Go Go.RowKit
section
variable {l:zD} {x y:Code} {p G:Prop} {hp:Decidable p}
def wcd(b:Reg a N l)(e:p->Reg a N ((d,.bool true)::l)->x.wp P Q a w)(c:¬p->Reg a N ((d,.bool false)::l)->y.wp P Q a w)(hv:l.lookup d=some (.bool (@decide p hp)):=by exact rfl)(hd:Nat.beq d 1000000=false:=by exact rfl): (Code.cond (.tmp d) x y).wp P Q a w:=
 (BH p).elim (fun h=>wct b (AF h) (e h) hv hd) (fun h=>wcf b (As h) (c h) hv hd)
def wce(b:Reg a N l)(e:p->Reg a N ((d,.bool false)::l)->y.wp P Q a w)(c:¬p->Reg a N ((d,.bool true)::l)->x.wp P Q a w)(hv:l.lookup d=some (.bool (!(@decide p hp))):=by exact rfl)(hd:Nat.beq d 1000000=false:=by exact rfl): (Code.cond (.tmp d) x y).wp P Q a w:=
 (BH p).elim (fun h=>wcf b (by rw [AF h];rfl) (e h) hv hd) (fun h=>wct b (by rw [As h];rfl) (c h) hv hd)
def wcg(b:Reg a N l)(e:B=true->Reg a N ((d,.bool true)::l)->x.wp P Q a w)(c:B=false->Reg a N ((d,.bool false)::l)->y.wp P Q a w)(hv:l.lookup d=some (.bool B):=by exact rfl)(hd:Nat.beq d 1000000=false:=by exact rfl): (Code.cond (.tmp d) x y).wp P Q a w:=
 (CO B).elim (fun h=>wct b h (e h) hv hd) (fun h=>wcf b h (c h) hv hd)
def wch(b:Reg a N l)(e:B=true->Reg a N ((d,.bool false)::l)->y.wp P Q a w)(c:B=false->Reg a N ((d,.bool true)::l)->x.wp P Q a w)(hv:l.lookup d=some (.bool (!B)):=by exact rfl)(hd:Nat.beq d 1000000=false:=by exact rfl): (Code.cond (.tmp d) x y).wp P Q a w:=
 (CO B).elim (fun h=>wcf b (by rw [h];rfl) (e h) hv hd) (fun h=>wct b (by rw [h];rfl) (c h) hv hd)
def spd(d:Nat)(b:Reg a N l)(e:p->Reg a N ((d,.bool true)::l)->X)(c:¬p->Reg a N ((d,.bool false)::l)->X)(hv:l.lookup d=some (.bool (@decide p hp)):=by exact rfl): X:=
 (BH p).elim (fun h=>e h (b.setb hv (AF h))) (fun h=>c h (b.setb hv (As h)))
def spe(d:Nat)(b:Reg a N l)(e:p->Reg a N ((d,.bool false)::l)->X)(c:¬p->Reg a N ((d,.bool true)::l)->X)(hv:l.lookup d=some (.bool (!(@decide p hp))):=by exact rfl): X:=
 (BH p).elim (fun h=>e h (b.setb hv (by rw [AF h];rfl))) (fun h=>c h (b.setb hv (by rw [As h];rfl)))
def spg(d:Nat)(b:Reg a N l)(e:B=true->Reg a N ((d,.bool true)::l)->X)(c:B=false->Reg a N ((d,.bool false)::l)->X)(hv:l.lookup d=some (.bool B):=by exact rfl): X:=
 (CO B).elim (fun h=>e h (b.setb hv h)) (fun h=>c h (b.setb hv h))
def sph(d:Nat)(b:Reg a N l)(e:B=true->Reg a N ((d,.bool false)::l)->X)(c:B=false->Reg a N ((d,.bool true)::l)->X)(hv:l.lookup d=some (.bool (!B)):=by exact rfl): X:=
 (CO B).elim (fun h=>e h (b.setb hv (by rw [h];rfl))) (fun h=>c h (b.setb hv (by rw [h];rfl)))
def wck(b:Reg a N l)(h:Reg a N ((d,.bool true)::l)->x.wp P Q a w)(hv:l.lookup d=some (.bool B):=by exact rfl)(hB:B=true:=by decide)(hd:Nat.beq d 1000000=false:=by exact rfl): (Code.cond (.tmp d) x y).wp P Q a w:=wct b hB h hv hd
def wcl(b:Reg a N l)(h:Reg a N ((d,.bool false)::l)->y.wp P Q a w)(hv:l.lookup d=some (.bool B):=by exact rfl)(hB:B=false:=by decide)(hd:Nat.beq d 1000000=false:=by exact rfl): (Code.cond (.tmp d) x y).wp P Q a w:=wcf b hB h hv hd
def xe(h:G)(a:G->X:=by intro b;refine wp_exit ?_;(repeat refine HG ?_);refine G0 ?_;exact b): X:=a h
def rt{t:Nat}(f:Reg a N l)(hf:Fr M w0 w)(d:v=v')(b:bodyPost P fn (fun e w'=>e=.returned v'/\Fr M w0 w') .ret a w->X:=by intro c;refine wp_ret ?_;(repeat first|refine HE ?_|refine Gz ?_);exact c)
  (h0:l.lookup 1000000=some (.bool false):=by exact rfl) (hr:fn.results=#[.tmp t]:=by exact rfl) (hv:ev l (.tmp t)=some v:=by exact rfl):X:=b (er1 f ⟨congrArg _ d,hf⟩ h0 hr hv)
end
section
variable {Next:zC} {l:zD}
def kra(i:Reg a N l)(h:St w0 Z M w m ds)(hf:FOK P f)(hc:Calls P f vs.toArray w (fun e w'=>e=.returned v/\Fr Be w w'))
  (k:∀w',St w0 Z M w' m ds->∀a',Reg a' N ((d,v)::l)->Next a' w') (hs:Ste P X Next o a w:=by first|exact se|exact DK rfl (A4 rfl)|exact CQ (wt ‹_›)|exact DK rfl (wt ‹_›)) (hd:o.dst=some d:=by exact rfl) (g:o.op=.call { callee:=.value (.func f),args:=xs.toArray,argTypes:=ts }:=by exact rfl) (c:evs l xs=some vs:=by exact rfl) (b:d<N:=by decide):X:=kr hs i h hf hc k hd g c b
end
def ax(h:q:=by first|assumption|omega|(simp<;>omega)): q:=h
abbrev HZ(w0:zH)(Z:zG): Prop:=∀k,Z k->k<w0.heap.size
abbrev n4(A:zE)(c:Nat)(t:zM): Dat:=B6 4 A t.length c (B2 t)
abbrev N4(A:zE)(c:Nat)(t:zM)(w:zH)(Z:zG): Prop:=(n4 A c t).φ w Z
end
section
open Go Go.RowKit
variable {G:zC}{e t:zI}{us:Array Value}{x:zJ}
abbrev vI(z:Int): Value:=.int .i64 z
abbrev vP(g:Nat): Value:=.pointer (some ⟨g,0,none⟩)
abbrev oP(g:Nat): zE:=some ⟨g,0,none⟩
abbrev vS(A:zE)(t:List α)(c:Nat): Value:=.slice A t.length c
section
variable {l:zD} {G:Act->Prop}
def gx(h:q:=by intros;rename_i a _ hR;(repeat first|with_reducible refine wp_seq ?_|with_reducible refine Cb ?_|with_reducible refine wp_skip ?_|with_reducible refine wp_block ?_|with_reducible refine wp_ret ?_|with_reducible refine wp_exit ?_|with_reducible refine Bl ?_|with_reducible refine HE ?_|with_reducible refine HG ?_|with_reducible refine IM ?_|with_reducible refine Gz ?_|with_reducible refine G0 ?_|((with_reducible show wpList _ _ _ _ _ _);first|refine Bm ?_|refine lst hR fun _ hR=>?_|refine bld hR fun _ hR=>?_)|((with_reducible show Code.wp _ (.cond _ _ _) _ _ _);first|refine wck hR fun hR=>?_|refine wcl hR fun hR=>?_)|with_reducible refine wp_label ?_|with_reducible refine wp_scope_straight ?_|with_reducible refine KN ?_|with_reducible refine KM ?_|with_reducible refine KO ?_|with_reducible refine wpIn_seq ?_|with_reducible refine wpIn_skip ?_|with_reducible refine wpIn_block ?_|with_reducible refine wpIn_exit ?_|((with_reducible show Exit.inBlock _ _ (.exit _) _ _);refine KP rfl ?_));exact a hR): q:=h
def gz(h:q:=by intros;rename_i a hR;(repeat first|with_reducible refine wp_seq ?_|with_reducible refine Cb ?_|with_reducible refine wp_skip ?_|with_reducible refine wp_block ?_|with_reducible refine wp_ret ?_|with_reducible refine wp_exit ?_|with_reducible refine Bl ?_|with_reducible refine HE ?_|with_reducible refine HG ?_|with_reducible refine IM ?_|with_reducible refine Gz ?_|with_reducible refine G0 ?_|((with_reducible show wpList _ _ _ _ _ _);first|refine Bm ?_|refine lst hR fun _ hR=>?_|refine bld hR fun _ hR=>?_)|((with_reducible show Code.wp _ (.cond _ _ _) _ _ _);first|refine wck hR fun hR=>?_|refine wcl hR fun hR=>?_)|with_reducible refine wp_label ?_|with_reducible refine wp_scope_straight ?_|with_reducible refine KN ?_|with_reducible refine KM ?_|with_reducible refine KO ?_|with_reducible refine wpIn_seq ?_|with_reducible refine wpIn_skip ?_|with_reducible refine wpIn_block ?_|with_reducible refine wpIn_exit ?_|((with_reducible show Exit.inBlock _ _ (.exit _) _ _);refine KP rfl ?_));exact er1 hR a): q:=h
def gn(h:q:=by intros;first|(dsimp only [List.set_cons_zero,List.set_cons_succ,List.eraseIdx_cons_zero,List.eraseIdx_cons_succ,List.nil_append,List.cons_append];exact NF.mk)|exact NF.mk): q:=h
def gw(h:q:=by intro a;(repeat first|with_reducible refine wp_seq ?_|with_reducible refine Cb ?_|with_reducible refine wp_skip ?_|with_reducible refine wp_block ?_|with_reducible refine wp_ret ?_|with_reducible refine wp_exit ?_|with_reducible refine Bl ?_|with_reducible refine HE ?_|with_reducible refine HG ?_|with_reducible refine IM ?_|with_reducible refine Gz ?_|with_reducible refine G0 ?_|((with_reducible show wpList _ _ _ _ _ _);refine Bm ?_)|with_reducible refine wp_label ?_|with_reducible refine wp_scope_straight ?_|with_reducible refine KN ?_|with_reducible refine KM ?_|with_reducible refine KO ?_|with_reducible refine wpIn_seq ?_|with_reducible refine wpIn_skip ?_|with_reducible refine wpIn_block ?_|with_reducible refine wpIn_exit ?_|((with_reducible show Exit.inBlock _ _ (.exit _) _ _);refine KP rfl ?_));exact a): q:=h
def go(c:Reg a N l)(k:∀{a'},Reg a' N l'->G a')(b:(∀{a'},Reg a' N l'->G a')->True->Reg a N l->X:=by exact gx): X:=b k trivial c
def gc(c:Reg a N l)(k:Reg a N l'->Y)(b:(Reg a N l'->Y)->True->Reg a N l->X:=by exact gx): X:=b k trivial c
def gp(k:Y)(a:Y->X:=by exact gw): X:=a k
def gr(c:Reg a N l)(k:Y)(b:Y->Reg a N l->X:=by exact gz): X:=b k c
end
section
variable {l l1 l2:zD} {p:Prop} {hp:Decidable p} {G:Act->Prop} {x y:Code}
def cen{c:Code}(hN:fn.ntmps=N)(k:∀{a'},Reg a' N l'->G a')(hf:P.funcs[f]?=some fn:=by kernel_rfl)(hb:fn.body=some c:=by exact rfl)(b:decide (vs.length<=N/\N<=1000000)=true:=by exact rfl)
  (a:(∀{a'},Reg a' N l'->G a')->∀a',Reg a' N ((1000000,.bool false)::idx 0 vs)->c.wp P (bodyPost P fn R) a' w:=by exact gx):Calls P f vs.toArray w R:=Gw hf hb hN b (a k)
def wcD(f:Reg a N l)(i:∀{a'},p->Reg a' N l1->G1 a')(g:∀{a'},¬p->Reg a' N l2->G2 a')(hv:l.lookup d=some (.bool (@decide p hp)):=by exact rfl)(hd:Nat.beq d 1000000=false:=by exact rfl)
  (e:(∀{a'},Reg a' N l1->G1 a')->∀a',Reg a' N ((d,.bool true)::l)->x.wp P Q a' w:=by exact gx) (c:(∀{a'},Reg a' N l2->G2 a')->∀a',Reg a' N ((d,.bool false)::l)->y.wp P Q a' w:=by exact gx):(Code.cond (.tmp d) x y).wp P Q a w:=wcd f (fun h b=>e (i h) _ b) (fun h b=>c (g h) _ b) hv hd
def wcE(f:Reg a N l)(i:∀{a'},p->Reg a' N l1->G1 a')(g:∀{a'},¬p->Reg a' N l2->G2 a')(hv:l.lookup d=some (.bool (!(@decide p hp))):=by exact rfl)(hd:Nat.beq d 1000000=false:=by exact rfl)
  (e:(∀{a'},Reg a' N l1->G1 a')->∀a',Reg a' N ((d,.bool false)::l)->y.wp P Q a' w:=by exact gx) (c:(∀{a'},Reg a' N l2->G2 a')->∀a',Reg a' N ((d,.bool true)::l)->x.wp P Q a' w:=by exact gx):(Code.cond (.tmp d) x y).wp P Q a w:=wce f (fun h b=>e (i h) _ b) (fun h b=>c (g h) _ b) hv hd
def wcG(f:Reg a N l)(i:∀{a'},B=true->Reg a' N l1->G1 a')(g:∀{a'},B=false->Reg a' N l2->G2 a')(hv:l.lookup d=some (.bool B):=by exact rfl)(hd:Nat.beq d 1000000=false:=by exact rfl)
  (e:(∀{a'},Reg a' N l1->G1 a')->∀a',Reg a' N ((d,.bool true)::l)->x.wp P Q a' w:=by exact gx) (c:(∀{a'},Reg a' N l2->G2 a')->∀a',Reg a' N ((d,.bool false)::l)->y.wp P Q a' w:=by exact gx):(Code.cond (.tmp d) x y).wp P Q a w:=wcg f (fun h b=>e (i h) _ b) (fun h b=>c (g h) _ b) hv hd
def wcH(f:Reg a N l)(i:∀{a'},B=true->Reg a' N l1->G1 a')(g:∀{a'},B=false->Reg a' N l2->G2 a')(hv:l.lookup d=some (.bool (!B)):=by exact rfl)(hd:Nat.beq d 1000000=false:=by exact rfl)
  (e:(∀{a'},Reg a' N l1->G1 a')->∀a',Reg a' N ((d,.bool false)::l)->y.wp P Q a' w:=by exact gx) (c:(∀{a'},Reg a' N l2->G2 a')->∀a',Reg a' N ((d,.bool true)::l)->x.wp P Q a' w:=by exact gx):(Code.cond (.tmp d) x y).wp P Q a w:=wch f (fun h b=>e (i h) _ b) (fun h b=>c (g h) _ b) hv hd
def wdp(c:∀a w,Q' .normal a w->Q .normal a w)(k:Y)(hr:Region.ready .any ops listed=[]:=by kernel_rfl)(b:Y->Q' .normal a w:=by exact gw): wpAnyH P .any ops Q S F listed a w:=Dj hr (c _ _ (b k)) _
def wdn(d:∀a w,Q' .normal a w->Q .normal a w)(c:Reg a N l)(k:∀{a'},Reg a' N l'->G a')(hr:Region.ready .any ops listed=[]:=by kernel_rfl)
  (b:(∀{a'},Reg a' N l'->G a')->∀a',Reg a' N l->Q' .normal a' w:=by exact gx):wpAnyH P .any ops Q S F listed a w:=Dj hr (d _ _ (b k _ c)) _
end
section
variable {Next:zC} {l:zD}
def fokB(P:Program)(f:FuncId): Bool:=match P.funcs[f]? with
 | some fn => !fn.body.isNone && !(fn.name == "runtime.NumGoroutine")
 | none=>false
def fokk(h:fokB P f=true): FOK P f:=by
 unfold fokB at h;split at h
 ·rename_i fn a;simp only [A5,Cn] at h;exact fok a h.1 h.2
 ·cases h
def gk(h:q:=by exact fokk zU): q:=h
def St.cv(h:St w0 Z M w m ds)(hm:NF m m')(hd:NF ds ds'): St w0 Z M w m' ds':=by unfold NF at *;rw [<-hm,<-hd];exact h
def cal(a:us'=us)(hc:Calls P f us w R): Calls P f us' w R:=by rw [a];exact hc
def kA(q:Reg a N l)(p:St w0 Z M w m ds)(hc:Calls P f vs.toArray w (fun e w'=>e=.returned V/\Fr Be w w'))
  (k:∀{a' w'},St w0 Z M w' m' ds'->Reg a' N l'->G a' w') (hs:Ste P X Next o a w:=by first|exact se|exact DK rfl (A4 rfl)|exact CQ (wt ‹_›)|exact DK rfl (wt ‹_›)) (hd:o.dst=some d:=by exact rfl) (j:o.op=.call { callee:=.value (.func f),args:=xs.toArray,argTypes:=ts }:=by exact rfl) (i:evs l xs=some vs:=by exact rfl) (h:d<N:=by decide) (hf:FOK P f:=by exact gk) (hm:NF m m':=by exact gn) (g:NF ds ds':=by exact gn) (b:∀w',St w0 Z M w' m' ds'->(∀{a'},Reg a' N l'->G a' w')->∀a',Reg a' N ((d,V)::l)->Next a' w':=by exact gx):X:=
 k_call hs q hd j i h hf hc fun _ w' ⟨n,c⟩=>have S:=((p.below c.below).cv hm g);⟨_,n,fun a' r=>b w' S (k S) a' r⟩
def kB{V:α->β->Value}{D:α->β->Dat}{n:α->β->zD}{G:Act->zH->α->β->Prop}{b:α->β->zP}(t:Reg a N l)(p:St w0 Z M w m ds)(hc:Calls P f vs.toArray w (fun e w'=>∃A c,e=.returned (V A c)/\Fr Be w w'/\(D A c).φ w' (nxt (imm Z w0 m w) w w')))
  (k:∀{a' w'} (A:α) (c:β),St w0 Z M w' m' (b A c)->Reg a' N (n A c)->G a' w' A c) (hs:Ste P X Next o a w:=by first|exact se|exact DK rfl (A4 rfl)|exact CQ (wt ‹_›)|exact DK rfl (wt ‹_›)) (hd:o.dst=some d:=by exact rfl) (r:o.op=.call { callee:=.value (.func f),args:=xs.toArray,argTypes:=ts }:=by exact rfl) (q:evs l xs=some vs:=by exact rfl) (j:d<N:=by decide) (hf:FOK P f:=by exact gk) (hm:NF m m':=by exact gn) (i:∀(A:α) (c:β),NF (ds++[D A c]) (b A c):=by exact gn) (g:∀w' (A:α) (c:β),St w0 Z M w' m' (b A c)->(∀{a'},Reg a' N (n A c)->G a' w' A c)->∀a',Reg a' N ((d,V A c)::l)->Next a' w':=by exact gx):X:=
 k_call hs t hd r q j hf hc fun _ w' ⟨A,c,s,h,h0⟩=>have S:=((p.dN (p.below h.below) h0).cv hm (i A c));⟨_,s,fun a' u=>g w' A c S (k A c S) a' u⟩
def kC{V:α->β->γ->Value}{D:α->β->γ->Dat}{n:α->β->γ->Prop}{p:α->β->γ->zD}{G:Act->zH->α->β->γ->Prop}{b:α->β->γ->zP}(u:Reg a N l)(q:St w0 Z M w m ds)(hc:Calls P f vs.toArray w (fun e w'=>∃A c L,e=.returned (V A c L)/\Fr Be w w'/\(D A c L).φ w' (nxt (imm Z w0 m w) w w')/\n A c L))
  (k:∀{a' w'} (A:α) (c:β) (L:γ),n A c L->St w0 Z M w' m' (b A c L)->Reg a' N (p A c L)->G a' w' A c L) (hs:Ste P X Next o a w:=by first|exact se|exact DK rfl (A4 rfl)|exact CQ (wt ‹_›)|exact DK rfl (wt ‹_›)) (hd:o.dst=some d:=by exact rfl) (s:o.op=.call { callee:=.value (.func f),args:=xs.toArray,argTypes:=ts }:=by exact rfl) (r:evs l xs=some vs:=by exact rfl) (j:d<N:=by decide) (hf:FOK P f:=by exact gk) (hm:NF m m':=by exact gn) (i:∀(A:α) (c:β) (L:γ),NF (ds++[D A c L]) (b A c L):=by exact gn) (g:∀w' (A:α) (c:β) (L:γ),n A c L->St w0 Z M w' m' (b A c L)->(∀{a'},Reg a' N (p A c L)->G a' w' A c L)->∀a',Reg a' N ((d,V A c L)::l)->Next a' w':=by exact gx):X:=
 k_call hs u hd s r j hf hc fun _ w' ⟨A,c,L,t,h,h0,hp⟩=>have S:=((q.dN (q.below h.below) h0).cv hm (i A c L));⟨_,t,fun a' v=>g w' A c L hp S (k A c L hp S) a' v⟩
def kD{V:α->β->γ->Value}{D:α->β->γ->Dat}{E:α->β->γ->Dat}{p:α->β->γ->Prop}{q:α->β->γ->zD}{G:Act->zH->α->β->γ->Prop}{b:α->β->γ->zP}(u:Reg a N l)(n:St w0 Z M w m ds)(hc:Calls P f vs.toArray w (fun e w'=>∃A c L,e=.returned (V A c L)/\Fr Be w w'/\(D A c L).φ w' (nxt (imm Z w0 m w) w w')/\(E A c L).φ w' (nxt (imm Z w0 m w) w w')/\p A c L))
  (k:∀{a' w'} (A:α) (c:β) (L:γ),p A c L->St w0 Z M w' m' (b A c L)->Reg a' N (q A c L)->G a' w' A c L) (hs:Ste P X Next o a w:=by first|exact se|exact DK rfl (A4 rfl)|exact CQ (wt ‹_›)|exact DK rfl (wt ‹_›)) (hd:o.dst=some d:=by exact rfl) (s:o.op=.call { callee:=.value (.func f),args:=xs.toArray,argTypes:=ts }:=by exact rfl) (r:evs l xs=some vs:=by exact rfl) (j:d<N:=by decide) (hf:FOK P f:=by exact gk) (hm:NF m m':=by exact gn) (i:∀(A:α) (c:β) (L:γ),NF (ds++[D A c L]++[E A c L]) (b A c L):=by exact gn) (g:∀w' (A:α) (c:β) (L:γ),p A c L->St w0 Z M w' m' (b A c L)->(∀{a'},Reg a' N (q A c L)->G a' w' A c L)->∀a',Reg a' N ((d,V A c L)::l)->Next a' w':=by exact gx):X:=
 k_call hs u hd s r j hf hc fun _ w' ⟨A,c,L,t,h,h0,v,hp⟩=>have S:=((n.dN (n.dN (n.below h.below) h0) v).cv hm (i A c L));⟨_,t,fun a' x=>g w' A c L hp S (k A c L hp S) a' x⟩
def kM{V:α->β->γ->Value}{D:α->β->γ->Dat}{q:α->β->γ->Prop}{r:α->β->γ->zD}{G:Act->zH->α->β->γ->Prop}{b:α->β->γ->zP}{g:Nat}(y:Reg a N l)(i:Nat)(s:St w0 Z M w m ds)(hc:Calls P f vs.toArray w (fun e w'=>∃A c L,e=.returned (V A c L)/\Fr (·=g) w w'/\(Res.box g t cs').holds w'/\(D A c L).φ w' (nxt (imm Z w0 m w) w w')/\q A c L))
  (k:∀{a' w'} (A:α) (c:β) (L:γ),q A c L->St w0 Z M w' m' (b A c L)->Reg a' N (r A c L)->G a' w' A c L) (hs:Ste P X Next o a w:=by first|exact se|exact DK rfl (A4 rfl)|exact CQ (wt ‹_›)|exact DK rfl (wt ‹_›)) (hd:o.dst=some d:=by exact rfl) (v:o.op=.call { callee:=.value (.func f),args:=xs.toArray,argTypes:=ts }:=by exact rfl) (u:evs l xs=some vs:=by exact rfl) (p:d<N:=by decide) (hi:m[i]?=some (.box g t cs):=by exact rfl) (hf:FOK P f:=by exact gk) (hm:NF (m.set i (.box g t cs')) m':=by exact gn) (n:∀(A:α) (c:β) (L:γ),NF (ds++[D A c L]) (b A c L):=by exact gn) (h:∀w' (A:α) (c:β) (L:γ),q A c L->St w0 Z M w' m' (b A c L)->(∀{a'},Reg a' N (r A c L)->G a' w' A c L)->∀a',Reg a' N ((d,V A c L)::l)->Next a' w':=by exact gx):X:=
 k_call hs y hd v u p hf hc fun _ w' ⟨A,c,L,x,j,hb,h0,hp⟩=>have S:=((s.dM i (s.callM hi j hb) h0 hi).cv hm (n A c L));⟨_,x,fun a' z=>h w' A c L hp S (k A c L hp S) a' z⟩
def kR{V:α->β->Value}{D:α->β->Dat}{q:α->β->zD}{G:Act->zH->α->β->Prop}{b:α->β->zP}{g:Nat}(x:Reg a N l)(i:Nat)(r:St w0 Z M w m ds)(hc:Calls P f vs.toArray w (fun e w'=>∃A c,e=.returned (V A c)/\Fr (·=g) w w'/\(Res.box g t cs').holds w'/\(D A c).φ w' (nxt (imm Z w0 m w) w w')))
  (k:∀{a' w'} (A:α) (c:β),St w0 Z M w' m' (b A c)->Reg a' N (q A c)->G a' w' A c) (hs:Ste P X Next o a w:=by first|exact se|exact DK rfl (A4 rfl)|exact CQ (wt ‹_›)|exact DK rfl (wt ‹_›)) (hd:o.dst=some d:=by exact rfl) (u:o.op=.call { callee:=.value (.func f),args:=xs.toArray,argTypes:=ts }:=by exact rfl) (s:evs l xs=some vs:=by exact rfl) (p:d<N:=by decide) (hi:m[i]?=some (.box g t cs):=by exact rfl) (hf:FOK P f:=by exact gk) (hm:NF (m.set i (.box g t cs')) m':=by exact gn) (n:∀(A:α) (c:β),NF (ds++[D A c]) (b A c):=by exact gn) (h:∀w' (A:α) (c:β),St w0 Z M w' m' (b A c)->(∀{a'},Reg a' N (q A c)->G a' w' A c)->∀a',Reg a' N ((d,V A c)::l)->Next a' w':=by exact gx):X:=
 k_call hs x hd u s p hf hc fun _ w' ⟨A,c,v,j,hb,h0⟩=>have S:=((r.dM i (r.callM hi j hb) h0 hi).cv hm (n A c));⟨_,v,fun a' y=>h w' A c S (k A c S) a' y⟩
def kO{V:α->β->γ->Value}{D:α->β->γ->Dat}{E:α->β->γ->Dat}{r:α->β->γ->Prop}{s:α->β->γ->zD}{G:Act->zH->α->β->γ->Prop}{b:α->β->γ->zP}{g:Nat}(y:Reg a N l)(i:Nat)(q:St w0 Z M w m ds)(hc:Calls P f vs.toArray w (fun e w'=>∃A c L,e=.returned (V A c L)/\Fr (·=g) w w'/\(Res.box g t cs').holds w'/\(D A c L).φ w' (nxt (imm Z w0 m w) w w')/\(E A c L).φ w' (nxt (imm Z w0 m w) w w')/\r A c L))
  (k:∀{a' w'} (A:α) (c:β) (L:γ),r A c L->St w0 Z M w' m' (b A c L)->Reg a' N (s A c L)->G a' w' A c L) (hs:Ste P X Next o a w:=by first|exact se|exact DK rfl (A4 rfl)|exact CQ (wt ‹_›)|exact DK rfl (wt ‹_›)) (hd:o.dst=some d:=by exact rfl) (v:o.op=.call { callee:=.value (.func f),args:=xs.toArray,argTypes:=ts }:=by exact rfl) (u:evs l xs=some vs:=by exact rfl) (p:d<N:=by decide) (hi:m[i]?=some (.box g t cs):=by exact rfl) (hf:FOK P f:=by exact gk) (hm:NF (m.set i (.box g t cs')) m':=by exact gn) (n:∀(A:α) (c:β) (L:γ),NF (ds++[D A c L]++[E A c L]) (b A c L):=by exact gn) (h:∀w' (A:α) (c:β) (L:γ),r A c L->St w0 Z M w' m' (b A c L)->(∀{a'},Reg a' N (s A c L)->G a' w' A c L)->∀a',Reg a' N ((d,V A c L)::l)->Next a' w':=by exact gx):X:=
 k_call hs y hd v u p hf hc fun _ w' ⟨A,c,L,x,j,hb,h0,z,hp⟩=>have S:=((q.dM i (q.dM i (q.callM hi j hb) h0 hi) z hi).cv hm (n A c L));⟨_,x,fun a' B=>h w' A c L hp S (k A c L hp S) a' B⟩
def kP{V:α->β->Value}{D:α->β->Dat}{E:α->β->Dat}{p:α->β->zD}{G:Act->zH->α->β->Prop}{b:α->β->zP}(t:Reg a N l)(n:St w0 Z M w m ds)(hc:Calls P f vs.toArray w (fun e w'=>∃A c,e=.returned (V A c)/\Fr Be w w'/\(D A c).φ w' (nxt (imm Z w0 m w) w w')/\(E A c).φ w' (nxt (imm Z w0 m w) w w')))
  (k:∀{a' w'} (A:α) (c:β),St w0 Z M w' m' (b A c)->Reg a' N (p A c)->G a' w' A c) (hs:Ste P X Next o a w:=by first|exact se|exact DK rfl (A4 rfl)|exact CQ (wt ‹_›)|exact DK rfl (wt ‹_›)) (hd:o.dst=some d:=by exact rfl) (r:o.op=.call { callee:=.value (.func f),args:=xs.toArray,argTypes:=ts }:=by exact rfl) (q:evs l xs=some vs:=by exact rfl) (j:d<N:=by decide) (hf:FOK P f:=by exact gk) (hm:NF m m':=by exact gn) (i:∀(A:α) (c:β),NF (ds++[D A c]++[E A c]) (b A c):=by exact gn) (g:∀w' (A:α) (c:β),St w0 Z M w' m' (b A c)->(∀{a'},Reg a' N (p A c)->G a' w' A c)->∀a',Reg a' N ((d,V A c)::l)->Next a' w':=by exact gx):X:=
 k_call hs t hd r q j hf hc fun _ w' ⟨A,c,s,h,h0,u⟩=>have S:=((n.dN (n.dN (n.below h.below) h0) u).cv hm (i A c));⟨_,s,fun a' v=>g w' A c S (k A c S) a' v⟩
def kQ{g:Nat}(s:Reg a N l)(i:Nat)(r:St w0 Z M w m ds)(hc:Calls P f vs.toArray w (fun e w'=>e=.returned V/\Fr (·=g) w w'/\(Res.box g t cs').holds w'))
  (k:∀{a' w'},St w0 Z M w' m' ds'->Reg a' N l'->G a' w') (hs:Ste P X Next o a w:=by first|exact se|exact DK rfl (A4 rfl)|exact CQ (wt ‹_›)|exact DK rfl (wt ‹_›)) (hd:o.dst=some d:=by exact rfl) (p:o.op=.call { callee:=.value (.func f),args:=xs.toArray,argTypes:=ts }:=by exact rfl) (n:evs l xs=some vs:=by exact rfl) (j:d<N:=by decide) (hi:m[i]?=some (.box g t cs):=by exact rfl) (hf:FOK P f:=by exact gk) (hm:NF (m.set i (.box g t cs')) m':=by exact gn) (h:NF ds ds':=by exact gn) (b:∀w',St w0 Z M w' m' ds'->(∀{a'},Reg a' N l'->G a' w')->∀a',Reg a' N ((d,V)::l)->Next a' w':=by exact gx):X:=
 k_call hs s hd p n j hf hc fun _ w' ⟨q,c,hb⟩=>have S:=((r.callM hi c hb).cv hm h);⟨_,q,fun a' u=>b w' S (k S) a' u⟩
def kMV{V:α->β->γ->Value}{D:α->β->γ->Dat}{q:α->β->γ->Prop}{s:α->β->γ->zD}{G:Act->zH->α->β->γ->Prop}{b:α->β->γ->zP}{g:Nat}{r:zF}(B:Reg a N l)(i:Nat)(u:St w0 Z M w m ds)(hc:Calls P f r.toArray w (fun e w'=>∃A c L,e=.returned (V A c L)/\Fr (·=g) w w'/\(Res.box g t cs').holds w'/\(D A c L).φ w' (nxt (imm Z w0 m w) w w')/\q A c L))
  (k:∀{a' w'} (A:α) (c:β) (L:γ),q A c L->St w0 Z M w' m' (b A c L)->Reg a' N (s A c L)->G a' w' A c L) (hs:Ste P X Next o a w:=by first|exact se|exact DK rfl (A4 rfl)|exact CQ (wt ‹_›)|exact DK rfl (wt ‹_›)) (hd:o.dst=some d:=by exact rfl) (y:o.op=.call { callee:=.value c0,args:=xs.toArray,argTypes:=ts }:=by exact rfl) (hg:ev l c0=some (.func (.func f) #[] cl):=by exact rfl) (v:evs l xs=some vs:=by exact rfl) (x:vs.toArray++cl=r.toArray:=by exact rfl) (p:d<N:=by decide) (hi:m[i]?=some (.box g t cs):=by exact rfl) (hf:FOK P f:=by exact gk) (hm:NF (m.set i (.box g t cs')) m':=by exact gn) (n:∀(A:α) (c:β) (L:γ),NF (ds++[D A c L]) (b A c L):=by exact gn) (h:∀w' (A:α) (c:β) (L:γ),q A c L->St w0 Z M w' m' (b A c L)->(∀{a'},Reg a' N (s A c L)->G a' w' A c L)->∀a',Reg a' N ((d,V A c L)::l)->Next a' w':=by exact gx):X:=
 k_callV hs B hd y hg v p hf (cal x hc) fun _ w' ⟨A,c,L,z,j,hb,h0,hp⟩=>have S:=((u.dM i (u.callM hi j hb) h0 hi).cv hm (n A c L));⟨_,z,fun a' C=>h w' A c L hp S (k A c L hp S) a' C⟩
def kNV{V:α->β->Value}{D:α->β->Dat}{r:α->β->zD}{G:Act->zH->α->β->Prop}{b:α->β->zP}{g:Nat}{q:zF}(z:Reg a N l)(i:Nat)(s:St w0 Z M w m ds)(hc:Calls P f q.toArray w (fun e w'=>∃A c,e=.returned (V A c)/\Fr (·=g) w w'/\(Res.box g t cs').holds w'/\(D A c).φ w' (nxt (imm Z w0 m w) w w')))
  (k:∀{a' w'} (A:α) (c:β),St w0 Z M w' m' (b A c)->Reg a' N (r A c)->G a' w' A c) (hs:Ste P X Next o a w:=by first|exact se|exact DK rfl (A4 rfl)|exact CQ (wt ‹_›)|exact DK rfl (wt ‹_›)) (hd:o.dst=some d:=by exact rfl) (x:o.op=.call { callee:=.value c0,args:=xs.toArray,argTypes:=ts }:=by exact rfl) (hg:ev l c0=some (.func (.func f) #[] cl):=by exact rfl) (u:evs l xs=some vs:=by exact rfl) (v:vs.toArray++cl=q.toArray:=by exact rfl) (p:d<N:=by decide) (hi:m[i]?=some (.box g t cs):=by exact rfl) (hf:FOK P f:=by exact gk) (hm:NF (m.set i (.box g t cs')) m':=by exact gn) (n:∀(A:α) (c:β),NF (ds++[D A c]) (b A c):=by exact gn) (h:∀w' (A:α) (c:β),St w0 Z M w' m' (b A c)->(∀{a'},Reg a' N (r A c)->G a' w' A c)->∀a',Reg a' N ((d,V A c)::l)->Next a' w':=by exact gx):X:=
 k_callV hs z hd x hg u p hf (cal v hc) fun _ w' ⟨A,c,y,j,hb,h0⟩=>have S:=((s.dM i (s.callM hi j hb) h0 hi).cv hm (n A c));⟨_,y,fun a' B=>h w' A c S (k A c S) a' B⟩
def kQV{g:Nat}{n:zF}(v:Reg a N l)(i:Nat)(u:St w0 Z M w m ds)(hc:Calls P f n.toArray w (fun e w'=>e=.returned V/\Fr (·=g) w w'/\(Res.box g t cs').holds w'))
  (k:∀{a' w'},St w0 Z M w' m' ds'->Reg a' N l'->G a' w') (hs:Ste P X Next o a w:=by first|exact se|exact DK rfl (A4 rfl)|exact CQ (wt ‹_›)|exact DK rfl (wt ‹_›)) (hd:o.dst=some d:=by exact rfl) (r:o.op=.call { callee:=.value c0,args:=xs.toArray,argTypes:=ts }:=by exact rfl) (hg:ev l c0=some (.func (.func f) #[] cl):=by exact rfl) (p:evs l xs=some vs:=by exact rfl) (q:vs.toArray++cl=n.toArray:=by exact rfl) (j:d<N:=by decide) (hi:m[i]?=some (.box g t cs):=by exact rfl) (hf:FOK P f:=by exact gk) (hm:NF (m.set i (.box g t cs')) m':=by exact gn) (h:NF ds ds':=by exact gn) (b:∀w',St w0 Z M w' m' ds'->(∀{a'},Reg a' N l'->G a' w')->∀a',Reg a' N ((d,V)::l)->Next a' w':=by exact gx):X:=
 k_callV hs v hd r hg p j hf (cal q hc) fun _ w' ⟨s,c,hb⟩=>have S:=((u.callM hi c hb).cv hm h);⟨_,s,fun a' x=>b w' S (k S) a' x⟩
def kAV{i:zF}(s:Reg a N l)(r:St w0 Z M w m ds)(hc:Calls P f i.toArray w (fun e w'=>e=.returned V/\Fr Be w w'))
  (k:∀{a' w'},St w0 Z M w' m' ds'->Reg a' N l'->G a' w') (hs:Ste P X Next o a w:=by first|exact se|exact DK rfl (A4 rfl)|exact CQ (wt ‹_›)|exact DK rfl (wt ‹_›)) (hd:o.dst=some d:=by exact rfl) (p:o.op=.call { callee:=.value c0,args:=xs.toArray,argTypes:=ts }:=by exact rfl) (hg:ev l c0=some (.func (.func f) #[] cl):=by exact rfl) (j:evs l xs=some vs:=by exact rfl) (n:vs.toArray++cl=i.toArray:=by exact rfl) (h:d<N:=by decide) (hf:FOK P f:=by exact gk) (hm:NF m m':=by exact gn) (g:NF ds ds':=by exact gn) (b:∀w',St w0 Z M w' m' ds'->(∀{a'},Reg a' N l'->G a' w')->∀a',Reg a' N ((d,V)::l)->Next a' w':=by exact gx):X:=
 k_callV hs s hd p hg j h hf (cal n hc) fun _ w' ⟨q,c⟩=>have S:=((r.below c.below).cv hm g);⟨_,q,fun a' t=>b w' S (k S) a' t⟩
end
section
variable {Next:zC} {l:zD}
def stG{g n:Nat}(i:Nat)(A:Reg a N l)(z:St w0 Z M w m ds)(k:∀{a' w'},Reg a' N l'->St w0 Z M w' m' ds->G a' w')
  (hs:Ste P X Next o a w:=by first|exact se|exact DK rfl (A4 rfl)|exact CQ (wt ‹_›)|exact DK rfl (wt ‹_›)) (hd:o.dst=none:=by exact rfl) (u:o.op=.store t x y:=by exact rfl) (r:ev l x=some (.pointer (some ⟨g,j,none⟩)):=by exact rfl) (q:ev l y=some v:=by exact rfl)
  (hi:m[i]?=some (.box g e cs):=by exact rfl) (s:Siz P t n:=by infer_instance) (hn:n=v.cells.toList.length:=by exact rfl) (b:v.cells.toList.all Value.oneCell'=true:=by exact rfl) (c:decide (j+v.cells.toList.length<=cs.length)=true:=by exact rfl) (f:AbX cs j v.cells.toList=some cs':=by exact rfl)
  (hm:NF (m.set i (.box g e cs')) m':=by exact gn) (d:∀w',St w0 Z M w' m' ds->(∀{a'},Reg a' N l'->G a' w')->∀a',Reg a' N l->Next a' w':=by exact gx):X:=
 Vw hs A z hd u r q hi (by rw [<-hn];exact s.h) b c (UL f) fun a' w' h p=>by unfold NF at hm;rw [hm] at p;exact d w' p (fun B=>k B p) a' h
def alG{z:Value}(p:Reg a N l)(n:St w0 Z M w m ds)(k:∀{a' w'} g,Reg a' N (lg g)->St w0 Z M w' (mg g) ds->H g a' w')
  (hs:SteV P X Next o a w:=by first|exact sv|exact Cw rfl (A4 rfl)|exact AH (wt ‹_›)|exact Cw rfl (wt ‹_›)) (hd:o.dst=some d:=by exact rfl) (j:o.op=.alloc e:=by exact rfl) (i:Zer P e z:=by infer_instance) (hc:XR z.cells.toList=some cs:=by exact rfl) (c:d<N:=by decide)
  (hm:∀g,NF (m++[.box g e cs]) (mg g):=by exact gn) (b:∀g w',St w0 Z M w' (mg g) ds->(∀{a'},Reg a' N (lg g)->H g a' w')->∀a',Reg a' N ((d,.pointer (some ⟨g,0,none⟩))::l)->Next a' w':=by exact gx):X:=
 alc p n (fun a' w' g h f=>by have hm:=hm g;unfold NF at hm;rw [hm] at f;exact b g w' f (fun q=>k g q f) a' h) hs hd j i hc c
def bxG(p:Reg a N l)(n:St w0 Z M w m ds)(k:∀{a' w'} g,Reg a' N (lg g)->St w0 Z M w' (mg g) ds->H g a' w')
  (hs:SteV P X Next o a w:=by first|exact sv|exact Cw rfl (A4 rfl)|exact AH (wt ‹_›)|exact Cw rfl (wt ‹_›)) (hd:o.dst=some d:=by exact rfl) (j:o.op=.box e x:=by exact rfl) (i:ev l x=some v:=by exact rfl) (hc:XR v.cells.toList=some cs:=by exact rfl) (c:d<N:=by decide)
  (hm:∀g,NF (m++[.box g e cs]) (mg g):=by exact gn) (b:∀g w',St w0 Z M w' (mg g) ds->(∀{a'},Reg a' N (lg g)->H g a' w')->∀a',Reg a' N ((d,.pointer (some ⟨g,0,none⟩))::l)->Next a' w':=by exact gx):X:=
 bxx p n (fun a' w' g h f=>by have hm:=hm g;unfold NF at hm;rw [hm] at f;exact b g w' f (fun q=>k g q f) a' h) hs hd j i hc c
def bsG{n:Nat}{vs:zD}{z:Value}(x:Reg a N l)(v:St w0 Z M w m ds)(k:∀{a' w'} g,Reg a' N (lg g)->St w0 Z M w' (mg g) ds->H g a' w')
  (hs:SteV P X Next o a w:=by first|exact sv|exact Cw rfl (A4 rfl)|exact AH (wt ‹_›)|exact Cw rfl (wt ‹_›)) (hd:o.dst=some d:=by exact rfl) (u:o.op=.buildSlice t n ps'.toArray:=by exact rfl) (r:evp l ps'=some vs:=by exact rfl) (s:Slc P t e:=by infer_instance) (q:Zis P e z size bytes:=by infer_instance)
  (j:Yj size z.cells.toList n vs=some cs:=by exact rfl) (hn:decide (n*size<=1000000)=true:=by exact rfl) (c:decide (n<=1000000)=true:=by exact rfl)
  (hf:Instr.fill (fun i=>some (i*size,size)) ((Array.range (n*size)).map fun i=>(if n*size=0 then #[] else z.cells)[i%(if n*size=0 then (#[]:Array Value) else z.cells).size]!) vs=some cs.toArray:=by kernel_rfl) (hl:(cs.length == n*size)=true:=by exact rfl) (f:d<N:=by decide)
  (hm:∀g,NF (m++[.row (some ⟨g,0,none⟩) n n e size cs]) (mg g):=by exact gn) (b:∀g w',St w0 Z M w' (mg g) ds->(∀{a'},Reg a' N (lg g)->H g a' w')->∀a',Reg a' N ((d,.slice (some ⟨g,0,none⟩) n n)::l)->Next a' w':=by exact gx):X:=
 bsl x v (fun a' w' g h p=>by have hm:=hm g;unfold NF at hm;rw [hm] at p;exact b g w' p (fun y=>k g y p) a' h) hs hd u r s q j hn c hf hl f
def adG{u:zI}{p q:Int}(z:Int)(i:Reg a N l)(k:∀{a'},Reg a' N l'->G1 a')(hs:SteV P X Next o a w:=by first|exact sv|exact Cw rfl (A4 rfl)|exact AH (wt ‹_›)|exact Cw rfl (wt ‹_›))(hd:o.dst=some d:=by exact rfl)(h:o.op=.binOp .add t x y u:=by exact rfl)(g:ev l x=some (.int .i64 p):=by exact rfl)(f:ev l y=some (.int .i64 q):=by exact rfl)
  (c:d<N:=by decide) (e:p+q=z:=by omega) (m:-1000000000000000<=z:=by omega) (j:z<=1000000000000000:=by omega) (b:(∀{a'},Reg a' N l'->G1 a')->∀a',Reg a' N ((d,.int .i64 z)::l)->Next a' w:=by exact gx):X:=adi z i (b k) hs hd h g f c e m j
def sbG{u:zI}{p q:Int}(z:Int)(i:Reg a N l)(k:∀{a'},Reg a' N l'->G1 a')(hs:SteV P X Next o a w:=by first|exact sv|exact Cw rfl (A4 rfl)|exact AH (wt ‹_›)|exact Cw rfl (wt ‹_›))(hd:o.dst=some d:=by exact rfl)(h:o.op=.binOp .sub t x y u:=by exact rfl)(g:ev l x=some (.int .i64 p):=by exact rfl)(f:ev l y=some (.int .i64 q):=by exact rfl)
  (c:d<N:=by decide) (e:p-q=z:=by omega) (m:-1000000000000000<=z:=by omega) (j:z<=1000000000000000:=by omega) (b:(∀{a'},Reg a' N l'->G1 a')->∀a',Reg a' N ((d,.int .i64 z)::l)->Next a' w:=by exact gx):X:=sbi z i (b k) hs hd h g f c e m j
end
end
section
open Go Go.RowKit
abbrev rZ:Nat×Value:=(1000000,.bool false)
abbrev bE:ByteArray:=⟨#[]⟩
def ib(i:Nat){g:Nat}{t:zI}(hi:m[i]?=some (.box g t cs):=by exact rfl):¬imm Z w0 m w g:=Abn hi
abbrev CP(f:FuncId)(vs:zF)(w:zH)(R:Ending->zH->Prop): Prop:=Calls prog f vs.toArray w R
abbrev CA(f:FuncId)(vs:zF)(w:zH)(v:Value): Prop:=Calls prog f vs.toArray w (fun e w'=>e=.returned v/\Fr Be w w')
def sTn(a:∀k,Z k->k<w0.heap.size)(h:P6 w0 Z ds): St w0 Z Be w0 [] ds:=s0 a h
class AG (P:Program) (t:zI) (n:outParam Nat):Prop where
 h:∃dsc,P.underlying t=some dsc/\F0 dsc=true/\(P.info? t).map (·.size)=some n
instance:AG prog 129 2:=⟨⟨_,Am,rfl,Cc⟩⟩
instance:AG prog 26 4:=⟨⟨_,Bq,rfl,Hr⟩⟩
section
variable {c e g:Nat} {v1 v2 v3:Value}
def St.ro(h:St w0 Z M w m ds)(i:Nat){n:Nat}{xs:zF}(hi:ds[i]?=some (B6 size A n cap xs):=by exact rfl): n<=cap/\RowI w (imm Z w0 m w) size A n xs:=h.get hi
def St.rD{t:zI}{xs:zF}{n:Nat}(h:St w0 Z (·=g) w m ds)(i k:Nat)(D:Dat)(hi:m[i]?=some (.row A n cap e size xs):=by exact rfl)(hj:m[k]?=some (.box g t cs):=by exact rfl)(a:i≠k:=by decide)(b:D=B6 size A n cap xs:=by exact rfl): St w0 Z (·=g) w (m.eraseIdx i) (ds++[D]):=by
 obtain ⟨d,c⟩:=h.row_dataM hi hj a;subst b;exact d.data _ ⟨ES (h.res hi),c⟩
def cc(i:Nat)(hi:ps[i]?=some (cel g j v):=by exact rfl):∀x,sW w1 J ps x->x.cell? ⟨g,j,none⟩=some v:=fun _ a=>a.c i hi
def cn2(i:Nat)(h:ps[i]?=some (cel g j v):=by exact rfl)(b:ps[i+1]?=some (cel g (j+1) v1):=by exact rfl):∀x,sW w1 J ps x->CellsAt x ⟨g,j,none⟩ [v,v1]:=fun _ a=>AY (a.c _ h) (AY (a.c _ b) (CellsAt.nil _ _))
def cn4(i:Nat)(h:ps[i]?=some (cel g j v):=by exact rfl)(e:ps[i+1]?=some (cel g (j+1) v1):=by exact rfl)(d:ps[i+2]?=some (cel g (j+1+1) v2):=by exact rfl)(b:ps[i+3]?=some (cel g (j+1+1+1) v3):=by exact rfl):∀x,sW w1 J ps x->CellsAt x ⟨g,j,none⟩ [v,v1,v2,v3]:=
 fun _ a=>AY (a.c _ h) (AY (a.c _ e) (AY (a.c _ d) (AY (a.c _ b) (CellsAt.nil _ _))))
def eN(k:Nat)(h:t.length<=c/\RowI w I 4 A t.length (B2 t))(hk:k<t.length:=by omega): ElemAt w A (k*4) (Ei (nth t k)):=RS h.2 hk
def oN(k:Nat)(h:(Res.row A t.length c e 4 (B2 t)).holds w)(hk:k<t.length:=by omega): ElemAt w A (k*4) (Ei (nth t k)):=Iw h hk
def eI{t:zK}(k:Nat)(h:t.length<=c/\RowI w I 1 A t.length (Ci t))(hk:k<t.length:=by omega): ElemAt w A (k*1) (FX (C7 t k)):=Pt h.2 hk
def oI{t:zK}(k:Nat)(h:(Res.row A t.length c e 1 (Ci t)).holds w)(hk:k<t.length:=by omega): ElemAt w A (k*1) (FX (C7 t k)):=XJ h hk
def sI{t:zK}(k:Nat)(h:(B6 1 A t.length c (Ci t)).φ w1 J)(hk:k<t.length:=by omega):∀x,sW w1 J ps x->ElemAt x A (k*1) (FX (C7 t k)):=fun _ a=>Pt (CI h a.ag).2 hk
def eS{t:zN}(k:Nat)(h:t.length<=c/\RowI w I 1 A t.length (Bh t))(hk:k<t.length:=by omega): ElemAt w A (k*1) (Gu (At t k)):=Gp h.2 hk
def oS{t:zN}(k:Nat)(h:(Res.row A t.length c e 1 (Bh t)).holds w)(hk:k<t.length:=by omega): ElemAt w A (k*1) (Gu (At t k)):=Fq h hk
def sS{t:zN}(k:Nat)(h:(B6 1 A t.length c (Bh t)).φ w1 J)(hk:k<t.length:=by omega):∀x,sW w1 J ps x->ElemAt x A (k*1) (Gu (At t k)):=fun _ a=>Gp (CI h a.ag).2 hk
def eU{t:List Bu}(k:Nat)(h:t.length<=c/\RowI w I 2 A t.length (E4 t))(hk:k<t.length:=by omega): ElemAt w A (k*2) (TO (A1 t k)):=AL h.2 hk
end
section
variable {d2:Nat} {l:zD} {oj:Oper} {t u e:zI} {x z:zJ} {n c:Nat} {p:Int}
def dlb{g:Nat}(q:Nat)(c:Reg a N l)(h:(CC g cs).φ w1 J)(k:∀{a'},Reg a' N ((d,v)::l)->wpAnyH P .any ops Q (sW w1 J ps) fuel (listed.setIfInBounds q true) a' w)(p:D6 Q:=by assumption)(o:sW w1 J ps w:=by assumption)(hi:ops[q]?=some oi:=by exact rfl)(hd:oi.dst=some d:=by exact rfl)(n:oi.op=.load t x:=by exact rfl)(f:ev l x=some (.pointer (some ⟨g,j,none⟩)):=by exact rfl)(hv:cs[j]?=some v:=by exact rfl)
  (i:Region.wanted oi (yielded ops a.tmps)=true:=by first|exact A4 rfl|exact wt ‹_›) (m:NAg P t:=by infer_instance) (b:d<N:=by decide) (hne:d≠1000000:=by decide) (hs:Region.noSelect ops=true:=by kernel_rfl) (hf:Region.free .any ops listed q=true:=by kernel_rfl) (hr:(Region.ready .any ops listed).contains q=true:=by kernel_rfl):wpAnyH P .any ops Q (sW w1 J ps) (fuel+1) listed a w:=
 have ⟨_,s,r⟩:=m.h
 dt q hi p c i (fun y e=>CE (sy c hd b) c hd n f (C5 (CI h e.ag) hv) s r b (gt hne)) o (fun _=>k) hd b hs hf hr
def dln(q:Nat)(c:Reg a N l)(hc:∀x,sW w1 J ps x->CellsAt x ad vs)(k:∀{a'},Reg a' N ((d,.agg vs.toArray)::l)->wpAnyH P .any ops Q (sW w1 J ps) fuel (listed.setIfInBounds q true) a' w)(o:D6 Q:=by assumption)(m:sW w1 J ps w:=by assumption)(hi:ops[q]?=some oi:=by exact rfl)(hd:oi.dst=some d:=by exact rfl)(j:oi.op=.load t x:=by exact rfl)(f:ev l x=some (.pointer (some ad)):=by exact rfl)
  (g:Region.wanted oi (yielded ops a.tmps)=true:=by first|exact A4 rfl|exact wt ‹_›) (i:AG P t n:=by infer_instance) (hl:n=vs.length:=by exact rfl) (b:d<N:=by decide) (hne:d≠1000000:=by decide) (hs:Region.noSelect ops=true:=by kernel_rfl) (hf:Region.free .any ops listed q=true:=by kernel_rfl) (hr:(Region.ready .any ops listed).contains q=true:=by kernel_rfl):wpAnyH P .any ops Q (sW w1 J ps) (fuel+1) listed a w:=
 have ⟨_,s,r,p⟩:=i.h
 dt q hi o c g (fun y e=>Dq (sy c hd b) c hd j f (hc y e) s r (p.trans (congrArg some hl)) b (gt hne)) m (fun _=>k) hd b hs hf hr
def die(q g:Nat)(V:Reg a N l)(K:∀x,sW w1 J ps x->ElemAt x A (i*size) vs)(k:∀{a'},Reg a' N ((d2,v)::(d,.pointer (eP A (i*size)))::l)->wpAnyH P .any ops Q (sW w1 J ps) fuel ((listed.setIfInBounds q true).setIfInBounds g true) a' w)(M:D6 Q:=by assumption)(L:sW w1 J ps w:=by assumption)
  (hi:ops[q]?=some oi:=by exact rfl) (hd:oi.dst=some d:=by exact rfl) (U:oi.op=.indexAddr t x y:=by exact rfl) (r:ev l x=some (.slice A n c):=by exact rfl) (O:ev l y=some (.int ki p):=by exact rfl) (R:Region.wanted oi (yielded ops a.tmps)=true:=by first|exact A4 rfl|exact wt ‹_›) (S:Slc P t e:=by infer_instance) (C:Siz P e size:=by infer_instance) (T:p=(i:Int):=by omega) (F:i<n:=by omega) (I:d<N:=by decide) (hne:d≠1000000:=by decide) (hs:Region.noSelect ops=true:=by kernel_rfl) (hf:Region.free .any ops listed q=true:=by kernel_rfl) (hr:(Region.ready .any ops listed).contains q=true:=by kernel_rfl)
  (G:ops[g]?=some oj:=by exact rfl) (f:oj.dst=some d2:=by exact rfl) (E:oj.op=.load u z:=by exact rfl) (o:ev ((d,.pointer (eP A (i*size)))::l) z=some (.pointer (eP A (i*size))):=by exact rfl) (hv:vs[0]?=some v:=by exact rfl) (B:NAg P u:=by infer_instance) (b:d2<N:=by decide) (j:d2≠1000000:=by decide)
  (s:∀{a'},Reg a' N ((d,.pointer (eP A (i*size)))::l)->Region.wanted oj (yielded ops a'.tmps)=true:=by intro _ h;first|exact A4 rfl|exact wt h) (H:Region.free .any ops (listed.setIfInBounds q true) g=true:=by kernel_rfl) (D:(Region.ready .any ops (listed.setIfInBounds q true)).contains g=true:=by kernel_rfl):wpAnyH P .any ops Q (sW w1 J ps) (fuel+2) listed a w:=
 have ⟨_,X,W⟩:=B.h
 dix q i (i*size) V (fun x r=>(K x r).some_) (fun _ h=>dt g G M h (s h) (fun y m=>I2 (sy h f b) h f E o 0 (i*size) (K y m) rfl hv X W b (gt j)) L (fun _=>k) f b hs H D) M L hi hd U r O R S C T F rfl I hne hs hf hr
def pBr(b:Nat){g:Nat}(h:psO m ps)(hb:m[b]?=some (.box g t cs):=by exact rfl)(a:S5 g j (cs.drop j)=qs:=by exact rfl): psO m (qs++ps):=a▸pB b j h hb
def dsw(b:St w0 Z M w m ds)(k:sW w1 J ps w->Y)(hi:dAg w1 J∈ds:=by repeat (first|exact List.Mem.head _|refine List.Mem.tail _ ?_))(a:psO m ps:=by repeat (first|exact pn|refine pBr 0 ?_|refine pBr 1 ?_|refine pBr 2 ?_|refine pBr 3 ?_|refine pBr 4 ?_|refine pBr 5 ?_|refine pc 0 _ ?_|refine pc 1 _ ?_|refine pc 2 _ ?_|refine pc 3 _ ?_|refine pc 4 _ ?_|refine pc 5 _ ?_|refine pc 6 _ ?_|refine pc 7 _ ?_|refine pr 0 ?_|refine pr 1 ?_|refine pr 2 ?_|refine pr 3 ?_|refine pr 4 ?_|refine pr 5 ?_|refine pr 6 ?_|refine pr 7 ?_|refine pBr 6 ?_|refine pBr 7 ?_|refine pBr 8 ?_|refine pBr 9 ?_|refine pBr 10 ?_|refine pBr 11 ?_)): sW w1 J ps w/\Y:=have ⟨i,hi⟩:=List.getElem?_of_mem hi;have h:=sWI b i a hi;⟨h,k h⟩
def dr3{c:Nat}(n:Nat)(g:St w0 Z M w m ds)(i:Nat)(f:psO m ps)(k:∀{Q':zB} {w' J},(∀(i:Nat) (d:Dat),ds[i]?=some d->d.φ w J)->D6 Q'->(∀a w,Q .normal a w->Q' .normal a w)->St w0 Z M w' m (ds++[dAg w J])->sW w J ps w'->wpAnyH P .any ops Q' (sW w J ps) n (Array.replicate n false) a w')
  (e:D6 Q:=by repeat (first|exact DL|exact G6|exact Lu|exact UY|refine H0 ?_|refine BJ ?_|refine Cd ?_)) (hm:P.follows .mixedOrders=true:=by exact Iz) (hn:ops.size=n:=by exact rfl) (hi:∀{J},(ds++[dAg w J])[i]?=some (dAg w J):=by exact rfl):(Code.region c ops true).wp P Q a w:=
 have ⟨_,h,b⟩:=g.agree
 Il b i f e (fun _ p o _ l j=>k h p o l j) hm hn hi
def ecl{g:Nat}(i:Nat){b:Nat}(j:Reg a N l)(f:St w0 Z M w m ds)(h:R (.returned (.agg vs.toArray)) w)(c:how=.ret\/how=.normal:=by first|exact .inl rfl|exact .inr rfl)(h0:l.lookup 1000000=some (.bool false):=by exact rfl)(hr:fn.results=#[.cell b t]:=by exact rfl)(hv:ev l (.tmp b)=some (.pointer (some ⟨g,0,none⟩)):=by exact rfl)
  (hi:m[i]?=some (.box g e vs):=by exact rfl) (d:AG P t n:=by infer_instance) (hl:n=vs.length:=by exact rfl):bodyPost P fn R how a w:=
 have ⟨_,p,o,k⟩:=d.h
 Sr c j f h0 hr hv hi p o (k.trans (congrArg some hl)) h
end
section
variable {Next:zC} {l:zD} {t:zI} {x:zJ} {n:Nat}
def len(m:Reg a N l)(i:ElemAt w A j vs)(k:∀{a'},Reg a' N l'->G a')(hs:SteV P X Next o a w:=by first|exact sv|exact Cw rfl (A4 rfl)|exact AH (wt ‹_›)|exact Cw rfl (wt ‹_›))(hd:o.dst=some d:=by exact rfl)(g:o.op=.load t x:=by exact rfl)(e:ev l x=some (.pointer (eP A j)):=by exact rfl)(f:AG P t n:=by infer_instance)(hl:n=vs.length:=by exact rfl)(c:d<N:=by decide)
  (b:(∀{a'},Reg a' N l'->G a')->∀a',Reg a' N ((d,.agg vs.toArray)::l)->Next a' w:=by exact gx):X:=
 have ⟨_,r,q,p⟩:=f.h
 Bo hs m hd g e i r q (p.trans (congrArg some hl)) c (b k)
def lee(m:Reg a N l)(i:ElemAt w A j vs)(k:∀{a'},Reg a' N l'->G a')(hs:SteV P X Next o a w:=by first|exact sv|exact Cw rfl (A4 rfl)|exact AH (wt ‹_›)|exact Cw rfl (wt ‹_›))(hd:o.dst=some d:=by exact rfl)(g:o.op=.load t x:=by exact rfl)(e:ev l x=some (.pointer (eP A j)):=by exact rfl)(hv:vs[0]?=some v:=by exact rfl)(f:NAg P t:=by infer_instance)(c:d<N:=by decide)
  (b:(∀{a'},Reg a' N l'->G a')->∀a',Reg a' N ((d,v)::l)->Next a' w:=by exact gx):X:=
 have ⟨_,p,n⟩:=f.h
 I2 hs m hd g e 0 j i rfl hv p n c (b k)
def ixe{c:Nat}{p:Int}{e:zI}(u:Reg a N l)(g:ElemAt w A (i*size) vs)(k:∀{a'},Reg a' N ((d,.pointer (eP A (i*size)))::l)->ElemAt w A (i*size) vs->Next a' w)(hs:SteV P X Next o a w:=by first|exact sv|exact Cw rfl (A4 rfl)|exact AH (wt ‹_›)|exact Cw rfl (wt ‹_›))(hd:o.dst=some d:=by exact rfl)(s:o.op=.indexAddr t x y:=by exact rfl)(m:ev l x=some (.slice A n c):=by exact rfl)(j:ev l y=some (.int ki p):=by exact rfl)
  (q:Slc P t e:=by infer_instance) (b:Siz P e size:=by infer_instance) (r:p=(i:Int):=by omega) (hi:i<n:=by omega) (f:d<N:=by decide):X:=ix i (i*size) u g.some_ (fun _ h=>k h g) hs hd s m j q b r hi rfl f
end
section
variable {l:zD}
def rz(b:Reg a N l)(h:Qa l l':=by repeat first|exact rnl|refine rc rfl ?_|refine rc (ri rfl zQ) ?_): Reg a N l':=b.sub h
def rzf(b:Reg a N l)(hf:q)(h:q->Qa l l':=by intro hf;repeat first|exact rnl|refine rc rfl ?_|refine rc (ri rfl zQ) ?_|refine rc (rb rfl (by first|(simp only [hf,bl];done)|(simp only [AF hf,Ae hf,bl];done)|(simp only [As hf,Ac hf,bl];done)|(simp [hf];done)|(simp [hf];omega))) ?_): Reg a N l':=b.sub (h hf)
def rzg{r:Prop}(b:Reg a N l)(hf:q)(hg:r)(h:q->r->Qa l l':=by intro hf hg;repeat first|exact rnl|refine rc rfl ?_|refine rc (ri rfl zQ) ?_|refine rc (rb rfl (by first|(simp only [hf,hg,bl];done)|(simp [hf,hg];done)|(simp [hf,hg];omega))) ?_): Reg a N l':=b.sub (h hf hg)
end
end
section
open Go Go.RowKit
structure Flt where
 i:Nat
 d:Nat
 val:Nat->Value
 res:Nat->Res
 pre:zD
def LD(E:Nat->Option Nat): List Flt->zD
 | []=>[]
 | f::fs=>match E f.i with
  | some g=>(f.d,f.val g)::LD E fs
  | none=>LD E fs
def Mp(E:Nat->Option Nat): List Flt->zO
 | []=>[]
 | f::fs=>match E f.i with
  | some g=>f.res g::Mp E fs
  | none=>Mp E fs
def GD(E:Nat->Option Nat)(L:Array Bool): List Flt->Array Bool
 | []=>L
 | f::fs=>match E f.i with
  | some _=>(GD E L fs).setIfInBounds f.i true
  | none=>GD E L fs
def I7(E:Nat->Option Nat): List Flt->Nat
 | []=>0
 | f::fs=>match E f.i with
  | some _=>I7 E fs
  | none=>I7 E fs+1
def fA(i d:Nat)(e:zI)(cs:zF): Flt:=⟨i,d,fun g=>.pointer (some ⟨g,0,none⟩),fun g=>.box g e cs,[]⟩
def fB(i d:Nat)(e:zI)(cs:zF)(pre:zD): Flt:=⟨i,d,fun g=>.pointer (some ⟨g,0,none⟩),fun g=>.box g e cs,pre⟩
def fS(i d n:Nat)(e:zI)(a:Nat)(cs:zF)(pre:zD): Flt:=⟨i,d,fun g=>.slice (some ⟨g,0,none⟩) n n,fun g=>.row (some ⟨g,0,none⟩) n n e a cs,pre⟩
def FOK1(P:Program)(ops:Array Oper)(N:Nat)(f:Flt): Prop:=∃o,ops[f.i]?=some o/\o.dst=some f.d/\f.d<N/\o.guard=none/\
 ∀a w,Reg a N f.pre->∃obj,(execOp a.eval o).run P w=.ok (.value (f.val w.heap.size)) (w.alloc obj)/\(f.res w.heap.size).holds (w.alloc obj)/\(f.res w.heap.size).blk=some w.heap.size
def FOKs(P:Program)(ops:Array Oper)(N:Nat): List Flt->Prop
 | []=>True
 | f::fs=>FOK1 P ops N f/\FOKs P ops N fs
def FOKs.get{P:Program}{ops:Array Oper}{N:Nat}:∀{fs:List Flt},FOKs P ops N fs->∀f∈fs,FOK1 P ops N f
 | [],_,_,a=>by cases a
 | g::fs,h,f,a=>by
  rcases Aj.1 a with rfl|a
  ·exact h.1
  ·exact FOKs.get h.2 f a
def fon: FOKs P ops N []:=trivial
def foc{f:Flt}{fs:List Flt}(h:FOK1 P ops N f)(a:FOKs P ops N fs): FOKs P ops N (f::fs):=⟨h,a⟩
def fPre(L:zD): List Flt->Prop
 | []=>True
 | f::fs=>Qa L f.pre/\fPre L fs
def fPre.get{L:zD}:∀{fs:List Flt},fPre L fs->∀f∈fs,Qa L f.pre
 | [],_,_,a=>by cases a
 | g::fs,h,f,a=>by
  rcases Aj.1 a with rfl|a
  ·exact h.1
  ·exact fPre.get h.2 f a
def fpn{L:zD}: fPre L []:=trivial
def fpc{L:zD}{f:Flt}{fs:List Flt}(h:Qa L f.pre)(a:fPre L fs): fPre L (f::fs):=⟨h,a⟩
class Tls {α:Type} (L R:List α) (l:outParam (List α)):Prop where eq:L=l++R
instance {R:List α}: Tls R R []:=⟨rfl⟩
instance {l R:List α}: Tls (l++R) R l:=⟨rfl⟩
instance {x:α}{L R l:List α}[h:Tls L R l]: Tls (x::L) R (x::l):=⟨congrArg (x::·) h.eq⟩
def flIn(listed:Array Bool)(fs:List Flt)(k:Nat): Bool:=listed.getD k false||fs.any fun f=>f.i == k
def Pw(ops:Array Oper)(a:Nat->Bool)(i:Nat): Bool:=match ops[i]? with
 | some o=>o.after.all fun e=>!Region.binds .any e||a e.on
 | none=>false
def Px(ops:Array Oper)(listed:Array Bool)(fs:List Flt)(c:Nat): Bool:=
 (List.range ops.size).all (fun i=>listed.getD i true||(fs.any fun f=>f.i == i)||i == c||!Pw ops (flIn listed fs) i)&&
 fs.all (fun f=>!listed.getD f.i true&&f.i != c&&Pw ops (fun k=>listed.getD k false) f.i)&&!listed.getD c true&&Pw ops (flIn listed fs) c
def Yh:List Flt->Bool
 | []=>true
 | f::fs=>fs.all (fun g=>g.i != f.i&&g.d != f.d)&&Yh fs
def Yi(L:zD)(fs:List Flt): Bool:=fs.all fun f=>!(L.any fun p=>p.1 == f.d)
section
variable {l:zD} {c:Nat} {fs:List Flt} {E:Nat->Option Nat}
def FW(P:Program)(ops:Array Oper)(Q:zB)(S:zH->Prop)(F:Nat)(listed:Array Bool)(fs:List Flt)(E:Nat->Option Nat)(a:Act)(w:zH): Prop:=
 wpAnyH P .any ops Q S (F+I7 E fs) (GD E listed fs) a w
def MF{k:Nat}{d:Bool}:∀{fs:List Flt},(∀f∈fs,f.i≠k)->(GD E listed fs).getD k d=listed.getD k d
 | [],_=>rfl
 | f::fs,h=>by
  unfold GD;split
  ·rw [getD_set_ne d (h f List.mem_cons_self)];exact MF fun g hg=>h g (List.mem_cons_of_mem _ hg)
  ·exact MF fun g hg=>h g (List.mem_cons_of_mem _ hg)
def Ju{k:Nat}:∀{fs:List Flt},listed.getD k false=true->(GD E listed fs).getD k false=true
 | [],h=>h
 | f::fs,h=>by
  unfold GD;split
  ·exact getD_set_true (Ju h)
  ·exact Ju h
def NO:∀{fs:List Flt},(∀f∈fs,f.i≠c)->(GD E listed fs).setIfInBounds c true=GD E (listed.setIfInBounds c true) fs
 | [],_=>rfl
 | f::fs,h=>by
  unfold GD;have a:=NO (fs:=fs) fun g hg=>h g (List.mem_cons_of_mem _ hg);split
  ·rw [<-a,Array.setIfInBounds_comm _ _ (h f List.mem_cons_self)]
  ·exact a
def QN{k:Nat}{f:Flt}(hk:f.i=k)(hlt:k<listed.size):∀{fs:List Flt},f∈fs->(E k).isSome=true->(GD E listed fs).getD k true=true
 | g::fs,c,he=>by
  have a:∀fs:List Flt,(GD E listed fs).size=listed.size:=fun fs=>by
   induction fs with
   | nil=>rfl
   | cons g fs ih=>unfold GD;split<;>simp [ih]
  unfold GD;rcases Aj.1 c with rfl|c
  ·
   rw [hk];cases hE:E k with
   | none=>rw [hE] at he;cases he
   | some g=>simp [a,hlt]
  ·
   have d:=QN hk hlt c he;split
   ·
    by_cases b:g.i=k
    ·rw [b];simp [a,hlt]
    ·rw [getD_set_ne true b];exact d
   ·exact d
def NQ{k:Nat}:∀{fs:List Flt},E k=none->(GD E listed fs).getD k true=listed.getD k true/\(GD E listed fs).getD k false=listed.getD k false
 | [],_=>⟨rfl,rfl⟩
 | f::fs,h=>by
  unfold GD;have b:=NQ (fs:=fs) h;split
  ·
   rename_i g hg;have a:f.i≠k:=fun e=>by rw [e,h] at hg;cases hg
   rw [getD_set_ne true a,getD_set_ne false a];exact b
  ·exact b
def upd(E:Nat->Option Nat)(i g:Nat): Nat->Option Nat:=fun k=>if k=i then some g else E k
def YD{i g:Nat}:∀{fs:List Flt},(∀f∈fs,f.i≠i)->LD (upd E i g) fs=LD E fs/\Mp (upd E i g) fs=Mp E fs/\(∀L,GD (upd E i g) L fs=GD E L fs)/\I7 (upd E i g) fs=I7 E fs
 | [],_=>⟨rfl,rfl,fun _=>rfl,rfl⟩
 | f::fs,h=>by
  obtain ⟨j,e,d,c⟩:=YD (g:=g) (fs:=fs) fun x a=>h x (List.mem_cons_of_mem _ a);have b:upd E i g f.i=E f.i:=Ac (h f List.mem_cons_self);unfold LD Mp GD I7;rw [b,j,e,c];exact ⟨rfl,rfl,fun L=>by rw [d],rfl⟩
def Jz{f:Flt}(h:Yh (f::fs)=true): (∀g∈fs,g.i≠f.i/\g.d≠f.d)/\Yh fs=true:=by
 unfold Yh at h;rw [A5,List.all_eq_true] at h;exact ⟨fun g hg=>by simpa using h.1 g hg,h.2⟩
def Uh{f:Flt}{g:Nat}:∀{fs:List Flt},Yh fs=true->f∈fs->E f.i=none->
  (∀k v,(LD (upd E f.i g) fs).lookup k=some v->((f.d,f.val g)::LD E fs).lookup k=some v)/\(Mp E fs++[f.res g]).Perm (Mp (upd E f.i g) fs)/\(∀L,GD (upd E f.i g) L fs=(GD E L fs).setIfInBounds f.i true)/\I7 (upd E f.i g) fs+1=I7 E fs
 | x::fs,hn,c,hE=>by
  obtain ⟨m,n⟩:=Jz hn;rcases Aj.1 c with rfl|c
  ·obtain ⟨e,l,j,o⟩:=YD (E:=E) (i:=f.i) (g:=g) (fs:=fs) fun y p=>(m y p).1;have hs:upd E f.i g f.i=some g:=Ae rfl;unfold LD Mp GD I7;rw [hs,hE];refine ⟨fun _ _ h=>by simpa only [e] using h,by simp only [l];exact List.perm_append_comm,fun L=>by simp only [j],by simp only [o]⟩
  ·
   obtain ⟨e,l,j,o⟩:=Uh (g:=g) n c hE;have a:x.i≠f.i:=Ne.symm (m f c).1;have hs:upd E f.i g x.i=E x.i:=Ac a;unfold LD Mp GD I7;rw [hs];cases hq:E x.i with
   | none=>exact ⟨e,l,j,by simp only [];omega⟩
   | some g'=>
    simp only [];refine ⟨fun k v h=>?_,l.cons _,fun L=>by rw [j,Array.setIfInBounds_comm _ _ (Ne.symm a)],o⟩;by_cases hk:k=x.d
    ·subst hk;rw [Ce] at h;rw [BW (Ne.symm (m f c).2),Ce];exact h
    ·
     rw [BW hk] at h;by_cases b:k=f.d
     ·subst b;have:=e _ _ h;rw [Ce] at this ⊢;exact this
     ·have:=e _ _ h;rw [BW b] at this ⊢;rw [BW hk];exact this
def Reg.weak(h:Reg a N l)(hl:∀k v,l'.lookup k=some v->l.lookup k=some v): Reg a N l':=
 ⟨fun q=>h.dfr (hl _ _ q),fun D q=>h.dfr1 D (hl _ _ q),h.top,h.size,fun i v hi hv=>h.get i v hi (hl _ _ hv)⟩
def Fd{a:zD}{k:Nat}:∀{l:zD},(l++a).lookup k=(l.lookup k).or (a.lookup k)
 | []=>by simp
 | (i,v)::l=>by
  by_cases hk:k=i
  ·subst hk;rw [List.cons_append,Ce,Ce];rfl
  ·rw [List.cons_append,BW hk,BW hk];exact Fd
def psO.mono(h:psO m ps)(hm:∀r∈m,r∈m'): psO m' ps:=fun i p hi=>by
 obtain ⟨r,b,a⟩:=h i p hi;exact ⟨r,hm r b,a⟩
def Rv{a:zD}:∀{l:zD},Qa a l->∀k v,l.lookup k=some v->a.lookup k=some v
 | [],_,k,v,h=>by simp at h
 | (i,u)::l,hs,k,v,h=>by
  by_cases hk:k=i
  ·subst hk;rw [Ce] at h;cases h;exact hs.1
  ·rw [BW hk] at h;exact Rv hs.2 k v h
def UT(h:Pw ops ok i=true)(a:ops[i]?=some o):∀e∈o.after,Region.binds .any e=true->ok e.on=true:=fun e b hb=>by
 unfold Pw at h;simp only [a,Array.all_eq_true_iff_forall_mem] at h;simpa [hb] using h e b
def AaI(h:Pw ops ok i=false)(b:ops[i]?=some o):¬∀e∈o.after,Region.binds .any e=true->ok e.on=true:=fun a=>by
 unfold Pw at h;simp only [b] at h;rw [show (o.after.all fun e=>!Region.binds .any e||ok e.on)=true from Array.all_eq_true_iff_forall_mem.2 fun e c=>by
  cases hb:Region.binds .any e with
  | false=>rfl
  | true=>simp [a e c hb]] at h
 cases h
def QX(hok:FOKs P ops N fs)(U:fPre l fs)(hnd:Yh fs=true)(hfr:Yi l fs=true)(A:Px ops listed fs c=true)(S:listed.size=ops.size)
  (hd:ds[k]?=some (dAg w1 J)) (hp:psO m ps)
  (H:∀E a w,(∀x∈fs,(∀o,ops[c]?=some o->∃e∈o.after,Region.binds .any e=true/\e.on=x.i)->(E x.i).isSome=true)->Reg a N (l++LD E fs)->St w0 Z M w (m++Mp E fs) ds->wpOp P ops Q c (fun a' w'=>sW w1 J ps w'/\FW P ops Q (sW w1 J ps) F (listed.setIfInBounds c true) fs E a' w') a w):
  ∀(n:Nat) (E:Nat->Option Nat) (a:Act) (w:zH),I7 E fs=n->Reg a N (l++LD E fs)->St w0 Z M w (m++Mp E fs) ds->FW P ops Q (sW w1 J ps) (F+1) listed fs E a w:=by
 unfold Px at A;simp only [A5,List.all_eq_true,List.mem_range,Hp,Cn,bne_iff_ne,beq_iff_eq] at A;obtain ⟨⟨⟨hall,z⟩,hcl⟩,I⟩:=A;have X:∀x∈fs,x.i≠c:=fun x f=>(z x f).1.2;have B:∀i o,ops[i]?=some o->i<ops.size:=fun i o s=>(AO.1 s).1;have O:∀(b:List Flt),(∀x∈b,x∈fs)->∀E:Nat->Option Nat,0<I7 E b->∃x∈b,E x.i=none:=by
  intro b;induction b with
  | nil=>intro _ E h;simp [I7] at h
  | cons y b C=>
   intro hs E h;cases t:E y.i with
   | none=>exact ⟨y,List.mem_cons_self,t⟩
   | some g=>
    unfold I7 at h;rw [t] at h;obtain ⟨x,f,u⟩:=C (fun x f=>hs x (List.mem_cons_of_mem _ f)) E h;exact ⟨x,List.mem_cons_of_mem _ f,u⟩
 have L:∀(b:List Flt) (E:Nat->Option Nat),I7 E b=0->∀x∈b,(E x.i).isSome=true:=by
  intro b E;induction b with
  | nil=>intro _ x f;cases f
  | cons y b C=>
   intro h x f;unfold I7 at h;cases t:E y.i with
   | none=>rw [t] at h;simp at h
   | some g=>
    rw [t] at h;rcases Aj.1 f with rfl|f
    ·rw [t];rfl
    ·exact C h x f
 have hL:∀(E:Nat->Option Nat) (b:List Flt),(GD E listed b).size=listed.size:=fun E b=>by
  induction b with
  | nil=>rfl
  | cons g b C=>unfold GD;split<;>simp [C]
 have hrd:∀E:Nat->Option Nat,Region.ready .any ops (GD E listed fs)≠[]:=fun E K=>by
  by_cases hz:I7 E fs=0
  ·
   have hc:c∈Region.ready .any ops (GD E listed fs):=by
    rw [mem_ready];cases s:ops[c]? with
    | none=>unfold Pw at I;simp [s] at I
    | some o=>
     refine ⟨by rw [MF X];exact hcl,o,rfl,fun e G hb=>?_⟩;have q:=UT I s e G hb;unfold flIn at q;rw [Hp] at q;rcases q with q|q
     ·exact Ju q
     ·
      obtain ⟨x,f,j⟩:=List.any_eq_true.1 q;have j:x.i=e.on:=by simpa using j
      obtain ⟨ox,hox,_⟩:=hok.get x f;have hlt:e.on<listed.size:=by rw [S,<-j];exact B _ _ hox
      have:=QN (E:=E) (listed:=listed) j hlt f (by rw [<-j];exact L fs E hz x f);simpa [hL E fs,hlt] using this
   rw [K] at hc;cases hc
  ·
   obtain ⟨x,f,hxn⟩:=O fs (fun _ h=>h) E zQ;have hc:x.i∈Region.ready .any ops (GD E listed fs):=by
    rw [mem_ready];obtain ⟨o,s,_⟩:=hok.get x f;exact ⟨by rw [(NQ hxn).1];exact (z x f).1.1,o,s,fun e G hb=>Ju (UT (z x f).2 s e G hb)⟩
   rw [K] at hc;cases hc
 intro n;induction n using Nat.strongRecOn;rename_i n C;intro E a w hn hR hS;unfold FW;rw [show F+1+I7 E fs=(F+I7 E fs)+1 by omega];refine ⟨fun K=>absurd K (hrd E),fun i hi=>?_⟩;obtain ⟨hu,o,s,V⟩:=mem_ready.1 hi;have hin:∀e∈o.after,Region.binds .any e=true->flIn listed fs e.on=true:=fun e G hb=>by
  have q:=V e G hb;unfold flIn;rw [Hp];by_cases f:∀x∈fs,x.i≠e.on
  ·rw [MF f] at q;exact .inl q
  ·refine .inr (List.any_eq_true.2 ?_);refine Classical.byContradiction fun hno=>f fun x u j=>hno ⟨x,u,by simpa using j⟩
 by_cases Y:i=c
 ·
  subst Y;refine wpOp_mono (fun a' w' h=>⟨h.1,?_⟩) (H E a w (fun x f hxc=>?_) hR hS)
  ·have h2:=h.2;unfold FW at h2;rw [NO X];exact h2
  ·
   obtain ⟨e,G,hb,hex⟩:=hxc o s;have q:=V e G hb;cases t:E x.i with
   | some g=>rfl
   | none=>
    rw [hex,(NQ t).2] at q;have h3:=(z x f).1.1;rcases Nat.lt_or_ge x.i listed.size with hlt|hge
    ·simp [hlt] at q h3;rw [q] at h3;cases h3
    ·simp [Array.getElem?_eq_none hge] at h3
 ·
  have W:i<ops.size:=B _ _ s;rcases hall i W with ((q|q)|q)|q
  ·
   exfalso;by_cases f:∀x∈fs,x.i≠i
   ·rw [MF f,q] at hu;cases hu
   ·refine f fun x u j=>?_;have:=(z x u).1.1;rw [j,q] at this;cases this
  ·
   obtain ⟨x,f,j⟩:=List.any_eq_true.1 q;have j:x.i=i:=by simpa using j
   subst j;have t:E x.i=none:=by
    cases t:E x.i with
    | none=>rfl
    | some g=>
     have:=QN (E:=E) (listed:=listed) rfl (by rw [S];exact W) f (by rw [t];rfl);rw [this] at hu;cases hu
   obtain ⟨u1,u2,u3,u4⟩:=Uh (E:=E) (g:=w.heap.size) hnd f t;obtain ⟨o',ho',hd',hdN,hg,T⟩:=hok.get x f;obtain rfl:=Bc (s.symm.trans ho');have hRp:Reg a N x.pre:=hR.weak fun k v hk=>by
    have:=Rv (U.get x f) k v hk;rw [Fd,this];rfl
   obtain ⟨R,r1,r2,r3⟩:=T a w hRp;refine (DK s (A4 hg)).val _ _ r1 ?_;have hR':Reg (a.put o.dst (x.val w.heap.size)) N (l++LD (upd E x.i w.heap.size) fs):=by
    rw [hd'];refine (hR.put hdN (x.val w.heap.size)).weak fun k v hk=>?_;rw [Fd] at hk;have hfx:l.lookup x.d=none:=by
     have h5:Yi l fs=true:=hfr;unfold Yi at h5;rw [List.all_eq_true] at h5;have h6:=h5 x f;simp only [Cn,List.any_eq_false,beq_iff_eq] at h6;rw [List.lookup_eq_none_iff];intro p hp';have:=h6 p hp';simpa using fun e=>this e.symm
    by_cases D:k=x.d
    ·subst D;rw [hfx,Option.none_or] at hk;have:=u1 _ _ hk;rw [Ce] at this ⊢;exact this
    ·
     rw [BW D,Fd];cases hlk:l.lookup k with
     | some v'=>rw [hlk] at hk;exact hk
     | none=>
      rw [hlk,Option.none_or] at hk;have:=u1 _ _ hk;rw [BW D] at this;rw [Option.none_or];exact this
   have hS':St w0 Z M (w.alloc R) (m++Mp (upd E x.i w.heap.size) fs) ds:=by
    have h7:=hS.alloc (x.res w.heap.size) R r2 r3;refine h7.perm ?_;rw [AW];exact List.Perm.append_left m u2
   refine ⟨sWI hS' k (hp.mono fun r K=>?_) hd,?_⟩
   ·exact List.mem_append_left _ K
   ·have h8:=C (I7 (upd E x.i w.heap.size) fs) zQ (upd E x.i w.heap.size) _ _ rfl hR' hS';unfold FW at h8;rw [u3,show F+1+I7 (upd E x.i w.heap.size) fs=F+I7 E fs by omega] at h8;exact h8
  ·exact absurd q Y
  ·exact absurd hin (AaI q s)
def fE(fs:List Flt)(E:Nat->Option Nat)(R:zD)(T:zO): Prop:=R=LD E fs/\T=Mp E fs
def addN:List Flt->Nat->Nat
 | [],n=>n
 | _::fs,n=>addN fs n+1
def WX:∀{fs:List Flt} {n:Nat},addN fs n=n+I7 (fun _=>none) fs
 | [],_=>rfl
 | _::fs,n=>by unfold addN I7;simp only [];rw [WX];omega
def KC:∀{fs:List Flt},LD (fun _=>none) fs=[]/\Mp (fun _=>none) fs=[]/\GD (fun _=>none) listed fs=listed
 | []=>⟨rfl,rfl,rfl⟩
 | _::fs=>by unfold LD Mp GD;exact KC
def I6{n:Nat}(hok:FOKs P ops N fs)(d:Reg a N l)(c:St w0 Z M w m ds)
  (H:∀E R T,FOKs P ops N fs->fE fs E R T->Reg a N (l++R)->St w0 Z M w (m++T) ds->FW P ops Q S F listed fs E a w) (b:addN fs F=n:=by exact rfl):wpAnyH P .any ops Q S n listed a w:=by
 have h:=H (fun _=>none) [] [] hok ⟨KC (listed:=listed).1.symm,KC (listed:=listed).2.1.symm⟩ (by rwa [BT]) (by rwa [BT]);unfold FW at h;rwa [KC.2.2,<-WX,b] at h
section
variable {L:zD} {K:zO} {R:zD} {T:zO} {ps':List (zH->Prop)}
def fm(c k:Nat)(r:fE fs E R T)(o:Reg a N L)(n:St w0 Z M w K ds)[p:Tls L R l][q:Tls K T m](j:psO m ps')
  (H:∀E R T a w,fE fs E R T->Reg a N (l++R)->St w0 Z M w (m++T) ds->wpOp P ops Q c (fun a' w'=>sW w1 J ps w'/\FW P ops Q (sW w1 J ps) F (listed.setIfInBounds c true) fs E a' w') a w)
  (hok:FOKs P ops N fs:=by assumption) (b:fPre l fs:=by repeat (first|exact fpn|refine fpc (by repeat (first|exact rnl|refine rc rfl ?_)) ?_)) (hnd:Yh fs=true:=by kernel_rfl) (g:Yi l fs=true:=by kernel_rfl)
  (d:Px ops listed fs c=true:=by kernel_rfl) (e:listed.size=ops.size:=by kernel_rfl) (hd:ds[k]?=some (dAg w1 J):=by exact rfl) (f:ps'=ps:=by exact rfl):
  FW P ops Q (sW w1 J ps) (F+1) listed fs E a w:=by
 obtain ⟨rfl,rfl⟩:=r;have i:=p.eq;have h:=q.eq;subst i;subst h;subst f;exact QX hok b hnd g d e hd j (fun E a w _ t s=>H E _ _ a w ⟨rfl,rfl⟩ t s) _ E a w rfl o n
def Tk(ops:Array Oper)(c i:Nat): Bool:=match ops[c]? with
 | some o=>o.after.any fun e=>Region.binds .any e&&e.on == i
 | none=>false
def NB(h:Tk ops c i=true):∀o,ops[c]?=some o->∃e∈o.after,Region.binds .any e=true/\e.on=i:=fun o a=>by
 unfold Tk at h;simp only [a] at h;obtain ⟨e,b,hb⟩:=Array.any_eq_true'.1 h;exact ⟨e,b,by simpa using hb⟩
def fm1{x:Flt}{v:Nat->Value}{r:Nat->Res}(c k:Nat)(j:fE (x::fs) E R T)(Y:Reg a N L)(X:St w0 Z M w K ds)[hL:Tls L R l][hK:Tls K T m](W:psO m ps')
  (H:∀g E R T a w,FOKs P ops N fs->fE fs E R T->Reg a N ((d,v g)::(l++R))->St w0 Z M w (m++r g::T) ds->wpOp P ops Q c (fun a' w'=>sW w1 J ps w'/\FW P ops Q (sW w1 J ps) F ((listed.setIfInBounds x.i true).setIfInBounds c true) fs E a' w') a w)
  (hok:FOKs P ops N (x::fs):=by assumption) (o:fPre l (x::fs):=by repeat (first|exact fpn|refine fpc (by repeat (first|exact rnl|refine rc rfl ?_)) ?_)) (hnd:Yh (x::fs)=true:=by kernel_rfl) (q:Yi l (x::fs)=true:=by kernel_rfl)
  (b:Px ops listed (x::fs) c=true:=by kernel_rfl) (z:listed.size=ops.size:=by kernel_rfl) (hd:ds[k]?=some (dAg w1 J):=by exact rfl) (A:ps'=ps:=by exact rfl)
  (hn:Tk ops c x.i=true:=by kernel_rfl) (s:NF x.d d:=by dsimp only [fA,fS,fB];exact NF.mk) (hv:∀g,NF (x.val g) (v g):=by intro g;dsimp only [fA,fS,fB];exact NF.mk) (hr:∀g,NF (x.res g) (r g):=by intro g;dsimp only [fA,fS,fB];exact NF.mk):
  FW P ops Q (sW w1 J ps) (F+1) listed (x::fs) E a w:=by
 obtain ⟨rfl,rfl⟩:=j;have U:=hL.eq;have S:=hK.eq;subst U;subst S;subst A;have y:x.i≠c:=by
  have n:=b;unfold Px at n;simp only [A5,List.all_eq_true] at n;simpa using (n.1.1.2 x List.mem_cons_self).1.2
 obtain ⟨C,_⟩:=Jz hnd;refine QX hok o hnd q b z hd W (fun E a w hN n O=>?_) _ E a w rfl Y X;have hs:=hN x List.mem_cons_self (NB hn);cases j:E x.i with
 | none=>rw [j] at hs;cases hs
 | some g=>
  have e1:LD E (x::fs)=(d,v g)::LD E fs:=by
   have V:x.d=d:=s;have t:x.val g=v g:=hv g;conv=>lhs;unfold LD
   rw [j];show (x.d,x.val g)::LD E fs=_;rw [V,t]
  have e2:Mp E (x::fs)=r g::Mp E fs:=by
   have t:x.res g=r g:=hr g;conv=>lhs;unfold Mp
   rw [j];show x.res g::Mp E fs=_;rw [t]
  rw [e1] at n;rw [e2] at O;have h3:Reg a N ((d,v g)::(l++LD E fs)):=n.weak fun k u hk=>by
   rw [Fd];by_cases f:k=d
   ·
    subst f;have D:l.lookup k=none:=by
     have G:=q;unfold Yi at G;rw [List.all_eq_true] at G;have h6:=G x List.mem_cons_self;rw [show x.d=k from s] at h6;simp only [Cn,List.any_eq_false,beq_iff_eq] at h6;rw [List.lookup_eq_none_iff];intro p B;have:=h6 p B;simpa using fun e=>this e.symm
    rw [Ce] at hk;rw [D,Option.none_or,Ce];exact hk
   ·rw [BW f,Fd] at hk;rw [BW f];exact hk
  refine wpOp_mono (fun a' w' h=>⟨h.1,?_⟩) (H g E _ _ a w hok.2 ⟨rfl,rfl⟩ h3 O);have I:=h.2;unfold FW at I ⊢;have e3:I7 E (x::fs)=I7 E fs:=by
   conv=>lhs;unfold I7
   rw [j]
  have e4:GD E (listed.setIfInBounds c true) (x::fs)=GD E ((listed.setIfInBounds x.i true).setIfInBounds c true) fs:=by
   conv=>lhs;unfold GD
   rw [j];simp only [];rw [NO (fun g hg=>(C g hg).1),Array.setIfInBounds_comm _ _ (Ne.symm y)]
  rw [e3,e4];exact I
def fml{x:Flt}{v:Nat->Value}{r:Nat->Res}(c k:Nat)(o:fE [x] E R T)(t:Reg a N L)(s:St w0 Z M w K ds)[y:Tls L R l][z:Tls K T m](q:psO m ps')
  (H:∀g a w,Reg a N ((d,v g)::l)->St w0 Z M w (m++[r g]) ds->wpOp P ops Q c (fun a' w'=>sW w1 J ps w'/\wpAnyH P .any ops Q (sW w1 J ps) F ((listed.setIfInBounds x.i true).setIfInBounds c true) a' w') a w)
  (hok:FOKs P ops N [x]:=by assumption) (b:fPre l [x]:=by repeat (first|exact fpn|refine fpc (by repeat (first|exact rnl|refine rc rfl ?_)) ?_)) (j:Yi l [x]=true:=by kernel_rfl)
  (e:Px ops listed [x] c=true:=by kernel_rfl) (f:listed.size=ops.size:=by kernel_rfl) (hd:ds[k]?=some (dAg w1 J):=by exact rfl) (h:ps'=ps:=by exact rfl)
  (hn:Tk ops c x.i=true:=by kernel_rfl) (n:NF x.d d:=by dsimp only [fA,fS,fB];exact NF.mk) (hv:∀g,NF (x.val g) (v g):=by intro g;dsimp only [fA,fS,fB];exact NF.mk) (hr:∀g,NF (x.res g) (r g):=by intro g;dsimp only [fA,fS,fB];exact NF.mk):
  FW P ops Q (sW w1 J ps) (F+1) listed [x] E a w:=
 fm1 c k o t s q (fun g E R T a w _ o p u=>by obtain ⟨rfl,rfl⟩:=o;exact H g a w (by rw [show LD E []=[] from rfl,BT] at p;exact p) u) hok b rfl j e f hd h hn n hv hr
def fml2{x y:Flt}{n:Nat}{v q:Nat->Value}{r:Nat->Res}(c k:Nat)(j:fE [x,y] E R T)(hR:Reg a N L)(hS:St w0 Z M w K ds)[hL:Tls L R l][hK:Tls K T m](hp:psO m ps')
  (H:∀g g' a w,Reg a N ((n,q g')::(d,v g)::l)->St w0 Z M w (m++[r g,r' g']) ds->wpOp P ops Q c (fun a' w'=>sW w1 J ps w'/\wpAnyH P .any ops Q (sW w1 J ps) F (((listed.setIfInBounds x.i true).setIfInBounds y.i true).setIfInBounds c true) a' w') a w)
  (hok:FOKs P ops N [x,y]:=by assumption) (A:fPre l [x,y]:=by repeat (first|exact fpn|refine fpc (by repeat (first|exact rnl|refine rc rfl ?_)) ?_)) (hnd:Yh [x,y]=true:=by kernel_rfl) (D:Yi l [x,y]=true:=by kernel_rfl)
  (f:Px ops listed [x,y] c=true:=by kernel_rfl) (W:listed.size=ops.size:=by kernel_rfl) (hd:ds[k]?=some (dAg w1 J):=by exact rfl) (Y:ps'=ps:=by exact rfl)
  (hn:Tk ops c x.i=true:=by kernel_rfl) (hn':Tk ops c y.i=true:=by kernel_rfl) (hdd:NF x.d d:=by dsimp only [fA,fS,fB];exact NF.mk) (G:NF y.d n:=by dsimp only [fA,fS,fB];exact NF.mk) (hv:∀g,NF (x.val g) (v g):=by intro g;dsimp only [fA,fS,fB];exact NF.mk) (V:∀g,NF (y.val g) (q g):=by intro g;dsimp only [fA,fS,fB];exact NF.mk)
  (hr:∀g,NF (x.res g) (r g):=by intro g;dsimp only [fA,fS,fB];exact NF.mk) (X:∀g,NF (y.res g) (r' g):=by intro g;dsimp only [fA,fS,fB];exact NF.mk):
  FW P ops Q (sW w1 J ps) (F+1) listed [x,y] E a w:=by
 obtain ⟨rfl,rfl⟩:=j;have z1:=hL.eq;have z2:=hK.eq;subst z1;subst z2;subst Y;have s:∀z∈[x,y],z.i≠c:=fun z S=>by
  have o:=f;unfold Px at o;simp only [A5,List.all_eq_true] at o;simpa using (o.1.1.2 z S).1.2
 refine QX hok A hnd D f W hd hp (fun E a w hN o h2=>?_) _ E a w rfl hR hS;have hs:=hN x List.mem_cons_self (NB hn);have t:=hN y (List.mem_cons_of_mem _ List.mem_cons_self) (NB hn');cases j:E x.i with
 | none=>rw [j] at hs;cases hs
 | some g=>
  cases hE':E y.i with
  | none=>rw [hE'] at t;cases t
  | some g'=>
   have O:x.d=d:=hdd;have I:y.d=n:=G;have q3:x.val g=v g:=hv g;have q4:y.val g'=q g':=V g';have q5:x.res g=r g:=hr g;have q6:y.res g'=r' g':=X g';have e1:LD E [x,y]=[(d,v g),(n,q g')]:=by
    simp only [LD,j,hE',O,I,q3,q4]
   have e2:Mp E [x,y]=[r g,r' g']:=by
    simp only [Mp,j,hE',q5,q6]
   rw [e1] at o;rw [e2] at h2;have C:∀z∈[x,y],l.lookup z.d=none:=fun z S=>by
    have h5:=D;unfold Yi at h5;rw [List.all_eq_true] at h5;have h6:=h5 z S;simp only [Cn,List.any_eq_false,beq_iff_eq] at h6;rw [List.lookup_eq_none_iff];intro p hp';have:=h6 p hp';simpa using fun e=>this e.symm
   have U:n≠d:=by
    rw [<-O,<-I];exact ((Jz hnd).1 y List.mem_cons_self).2
   have l1:=C x List.mem_cons_self;have l2:=C y (List.mem_cons_of_mem _ List.mem_cons_self);rw [O] at l1;rw [I] at l2;have h3:Reg a N ((n,q g')::(d,v g)::l):=o.weak fun k u hk=>by
    rw [Fd];by_cases B:k=n
    ·subst B;rw [Ce] at hk;rw [l2,Option.none_or,BW U,Ce];exact hk
    ·
     rw [BW B] at hk;by_cases b:k=d
     ·subst b;rw [Ce] at hk;rw [l1,Option.none_or,Ce];exact hk
     ·rw [BW b] at hk;rw [hk];rfl
   refine wpOp_mono (fun a' w' h=>⟨h.1,?_⟩) (H g g' a w h3 h2);have h4:=h.2;unfold FW;have e3:I7 E [x,y]=0:=by simp only [I7,j,hE']
   have e4:GD E (listed.setIfInBounds c true) [x,y]=((listed.setIfInBounds x.i true).setIfInBounds y.i true).setIfInBounds c true:=by
    simp only [GD,j,hE'];rw [Array.setIfInBounds_comm _ _ (Ne.symm (s y (List.mem_cons_of_mem _ List.mem_cons_self))),Array.setIfInBounds_comm _ _ (Ne.symm (s x List.mem_cons_self)),Array.setIfInBounds_comm _ _ ((Jz hnd).1 y List.mem_cons_self).1]
   rw [e3,e4];exact h4
end
def fdy(i:Nat)(hi:ops[i]?=some oi)(G:D6 Q)(D:Reg a N l)(y:YieldsIf P ops S oi v a)(C:S w)
  (h:∀a',Reg a' N ((d,v)::l)->FW P ops Q S F (listed.setIfInBounds i true) fs E a' w) (hd:oi.dst=some d:=by exact rfl) (u:d<N:=by decide) (hs:Region.noSelect ops=true:=by kernel_rfl) (hf:Region.free .any ops listed i=true:=by kernel_rfl) (hr:(Region.ready .any ops listed).contains i=true:=by kernel_rfl)
  (k:(fs.all fun f=>!Nat.beq f.i i)=true:=by kernel_rfl):FW P ops Q S (F+1) listed fs E a w:=by
 have m:∀f∈fs,f.i≠i:=fun f t e=>by
  rw [List.all_eq_true] at k;have:=k f t;rw [e] at this;simp at this
 have q:i∈Region.ready .any ops listed:=by simpa using hr
 obtain ⟨z,o,A,p⟩:=mem_ready.1 q;unfold FW;rw [show F+1+I7 E fs=(F+I7 E fs)+1 by omega];refine wpAnyH_first hi (Region.noSelect_spec hs) (fun c a w h=>G c _ _ _ _ h) _ _ a w (fun j oj x s b r=>?_) (mem_ready.2 ⟨by rw [MF m];exact z,o,A,fun e B hb=>Ju (p e B hb)⟩) y C ?_
 ·
  refine Region.free_spec hi hf j oj x s ?_ r;cases hl:listed.getD j true with
  | false=>rfl
  | true=>
   exfalso;have hlt:j<ops.size:=(AO.1 x).1;have H:(GD E listed fs).getD j true=true:=by
    have:∀fs:List Flt,(GD E listed fs).getD j true=true:=fun fs=>by
     induction fs with
     | nil=>exact hl
     | cons g fs ih=>
      unfold GD;split
      ·
       by_cases n:g.i=j
       ·
        subst n;rcases Nat.lt_or_ge g.i (GD E listed fs).size with h|h
        ·simp [h]
        ·simp [Array.getElem?_eq_none (show (Array.setIfInBounds (GD E listed fs) g.i true).size<=g.i by simpa using h)]
       ·rw [getD_set_ne true n];exact ih
      ·exact ih
    exact this fs
   rw [H] at b;cases b
 ·rw [hd,NO m];exact h _ (D.put u v)
def fdt(i:Nat)(hi:ops[i]?=some oi)(m:D6 Q)(k:Reg a N l)(g:Region.wanted oi (yielded ops a.tmps)=true)(e:∀x,S x->(execOp a.eval oi).run P x=.ok (.value v) x)(j:S w)
  (h:∀a',Reg a' N ((d,v)::l)->FW P ops Q S F (listed.setIfInBounds i true) fs E a' w) (hd:oi.dst=some d:=by exact rfl) (c:d<N:=by decide) (hs:Region.noSelect ops=true:=by kernel_rfl) (hf:Region.free .any ops listed i=true:=by kernel_rfl) (hr:(Region.ready .any ops listed).contains i=true:=by kernel_rfl)
  (b:(fs.all fun f=>!Nat.beq f.i i)=true:=by kernel_rfl):FW P ops Q S (F+1) listed fs E a w:=fdy i hi m k (.inl ⟨g,e⟩) j h hd c hs hf hr b
def fst'(j:D6 Q)(h:Reg a N l)(g:sW w1 J ps w)(k:∀a',Reg a' N ((d,v)::l)->dGo is (FW P ops Q (sW w1 J ps) F (listed.setIfInBounds i true) fs E a' w))(hi:ops[i]?=some o:=by exact rfl)
  (e:Yl P (sW w1 J ps) ops a o v:=by first|exact AbN ‹_›|exact AbQ ‹_›|exact Yl.c_ ‹_›|exact AbO|exact AbP ‹_›) (hd:o.dst=some d:=by exact rfl) (c:d<N:=by decide) (hs:Region.noSelect ops=true:=by kernel_rfl) (hf:Region.free .any ops listed i=true:=by kernel_rfl) (hr:(Region.ready .any ops listed).contains i=true:=by kernel_rfl)
  (b:(fs.all fun f=>!Nat.beq f.i i)=true:=by kernel_rfl):dGo (i::is) (FW P ops Q (sW w1 J ps) (F+1) listed fs E a w):=fdy i hi j h e g k hd c hs hf hr b
def fR(g:List Nat)(b:Reg a N l)(k:∀a',Reg a' N l'->G a')(e:D6 Q:=by assumption)(d:sW w1 J ps w:=by assumption)
  (c:(∀a',Reg a' N l'->G a')->D6 Q->sW w1 J ps w->∀a,Reg a N l->dGo g (FW P ops Q (sW w1 J ps) F' listed fs E a w):=by intro f e d _ b;(repeat refine fst' e b d fun _ b=>?_);exact gE (f _ b)):FW P ops Q (sW w1 J ps) F' listed fs E a w:=c k e d a b
def fa{e:zI}{z:Value}(i:Nat)(hi:ops[i]?=some o:=by exact rfl)(hd:o.dst=some d:=by exact rfl)(j:o.op=.alloc e:=by exact rfl)(g:Zer P e z:=by infer_instance)(hc:XR z.cells.toList=some cs:=by exact rfl)(c:d<N:=by decide)(hg:o.guard=none:=by exact rfl): FOK1 P ops N (fA i d e cs):=by
 refine ⟨o,hi,hd,c,hg,fun a w _=>⟨.cells z.cells e,?_,?_,rfl⟩⟩
 ·
  have f:=g.h;cases hq:P.info? e with
  | none=>simp [hq] at f
  | some inf=>
   have b:inf.zero=some z:=by simpa [hq] using f
   unfold execOp;rw [j];simp [Instr.alloc,zeroValue,typeInfo,hq,b,JA,fA]
 ·have k:=NR hc;subst k;simpa [Res.holds,fA] using heap_alloc_new w (.cells z.cells e)
def Tc:List (Nat×Operand)->zD->zD
 | (_,.tmp t)::ps,(_,v)::vs=>(t,v)::Tc ps vs
 | _::ps,_::vs=>Tc ps vs
 | _,_=>[]
def Va:∀{ps:List (Nat×Operand)} {vs:zD},evp l ps=some vs->Reg a N (Tc ps vs)->(∀t u v,(t,u)∈Tc ps vs->(t,v)∈Tc ps vs->u=v)->ps.map (fun (i,x)=>(i,a.eval x))=vs
 | [],vs,h,_,_=>by simp only [evp,Cm] at h;subst h;rfl
 | (i,x)::ps,vs,h,hR,hu=>by
  simp only [evp] at h;cases d:ev l x with
  | none=>simp [d] at h
  | some v=>
   cases q:evp l ps with
   | none=>simp [d,q] at h
   | some us=>
    simp only [d,q,Cm] at h;subst h;have n:∀{L:zD} {t:Nat} {v:Value},(t,v)∈L->(∀u,(t,u)∈L->u=v)->L.lookup t=some v:=by
     intro L;induction L with
     | nil=>intro _ _ h;cases h
     | cons p L ih=>
      obtain ⟨k,y⟩:=p;intro t v h o;by_cases hk:t=k
      ·subst hk;rw [Ce,o y List.mem_cons_self]
      ·
       rw [BW hk];rcases Aj.1 h with h|h
       ·cases h;exact absurd rfl hk
       ·exact ih h fun u m=>o u (List.mem_cons_of_mem _ m)
    have b:∀p∈Tc ps us,p∈Tc ((i,x)::ps) ((i,v)::us):=fun p hp=>by
     cases x<;>first|exact List.mem_cons_of_mem _ hp|exact hp
    have s:Reg a N (Tc ps us):=hR.weak fun k v hk=>by
     have hm:(k,v)∈Tc ps us:=by
      have:∀{L:zD},L.lookup k=some v->(k,v)∈L:=by
       intro L;induction L with
       | nil=>intro h;simp at h
       | cons p L ih=>
        obtain ⟨j,y⟩:=p;intro h;by_cases hk:k=j
        ·subst hk;rw [Ce] at h;cases h;exact List.mem_cons_self
        ·rw [BW hk] at h;exact List.mem_cons_of_mem _ (ih h)
      exact this hk
     exact n (b _ hm) fun u m=>hu k u v m (b _ hm)
    rw [AA,Va q s fun t u v d q=>hu t u v (b _ d) (b _ q)];congr 1;show (i,a.eval x)=(i,v);cases x with
    | tmp t=>
     have ht:cond (Nat.beq t 1000000) none (l.lookup t)=some v:=d;have r:t≠1000000:=fun e=>by rw [e] at ht;simp at ht
     have:=hR.get t v r (n (show (t,v)∈(t,v)::Tc ps us from List.mem_cons_self) fun u m=>hu t u v m List.mem_cons_self);rw [show a.eval (.tmp t)=a.tmps.getD t undef from rfl,this]
    | const c=>simp [ev] at d;subst d;rfl
    | global g=>simp [ev] at d;subst d;rfl
    | func f=>simp [ev] at d;subst d;rfl
def bs_run{t e:zI}{n:Nat}{ps:List (Nat×Operand)}{vs:zD}{z:Value}(d:ps.map (fun (i,x)=>(i,a.eval x))=vs)(l:o.op=.buildSlice t n ps.toArray)
  (k:P.underlying t=some (.slice e)) (hi:(P.info? e).map (fun i=>(i.zero,i.size,i.bytes))=some (some z,size,bytes)) (hn:decide (n*size<=1000000)=true) (c:decide (n<=1000000)=true)
  (hf:Instr.fill (fun i=>some (i*size,size)) ((Array.range (n*size)).map fun i=>(if n*size=0 then #[] else z.cells)[i%(if n*size=0 then (#[]:Array Value) else z.cells).size]!) vs=some cs.toArray) (hl:(cs.length == n*size)=true) (w:zH):
  ∃obj,(execOp a.eval o).run P w=.ok (.value (.slice (some ⟨w.heap.size,0,none⟩) n n)) (w.alloc obj)/\(Res.row (some ⟨w.heap.size,0,none⟩) n n e size cs).holds (w.alloc obj):=by
 have m:n*size<=1000000:=by simpa using hn
 have h:n<=1000000:=by simpa using c
 have f:cs.length=n*size:=by simpa using hl
 cases hq:P.info? e with
 | none=>simp [hq] at hi
 | some inf=>
  simp only [hq,C2,Cm,Ed] at hi;obtain ⟨j,b,p⟩:=hi;have hm:ps.toArray.map (fun (i,x)=>(i,a.eval x))=vs.toArray:=by
   rw [<-d];simp
  refine ⟨.cells cs.toArray e,?_,Iu w e size n cs f (by unfold maxLen;omega)⟩;unfold execOp;rw [l];have g:¬n*size>2 ^ 24:=by omega
  simp only [hm,Instr.buildSlice,AB,run_underlying k,Ay,sizeOf,typeInfo,hq,b,Ba,program,Sem.run,g,↓reduceIte];by_cases h0:n*size=0
  ·simp only [h0,↓reduceIte] at hf ⊢;simp only [AB,Ba,Ay,hf];rfl
  ·simp only [h0,↓reduceIte] at hf ⊢;simp [zeroValue,typeInfo,hq,j,hf,newRow,newObj];rfl
def fsl{t e:zI}{n:Nat}{vs:zD}{z:Value}{pre:zD}(i:Nat)(C:Reg a N l)(hi:ops[i]?=some o:=by exact rfl)(hd:o.dst=some d:=by exact rfl)(A:o.op=.buildSlice t n ps'.toArray:=by exact rfl)(r:evp l ps'=some vs:=by exact rfl)
  (j:NF (Tc ps' vs) pre:=by dsimp only [Tc];exact NF.mk) (s:∀t u v,(t,u)∈pre->(t,v)∈pre->u=v:=by intro t u v c b;simp only [Aj,Ah,or_false,Ed] at c b;first|(rw [c.2,b.2];done)|(rcases c with c|c<;>rcases b with b|b<;>first|(rw [c.2,b.2];done)|(exfalso;have:=c.1;have:=b.1;omega))|(rcases c with c|c|c<;>rcases b with b|b|b<;>first|(rw [c.2,b.2];done)|(exfalso;have:=c.1;have:=b.1;omega))|(rcases c with c|c|c|c<;>rcases b with b|b|b|b<;>first|(rw [c.2,b.2];done)|(exfalso;have:=c.1;have:=b.1;omega)))
  (y:Slc P t e:=by infer_instance) (q:Zis P e z size bytes:=by infer_instance) (B:Yj size z.cells.toList n vs=some cs:=by exact rfl) (hn:decide (n*size<=1000000)=true:=by exact rfl) (k:decide (n<=1000000)=true:=by exact rfl)
  (hf:Instr.fill (fun i=>some (i*size,size)) ((Array.range (n*size)).map fun i=>(if n*size=0 then #[] else z.cells)[i%(if n*size=0 then (#[]:Array Value) else z.cells).size]!) vs=some cs.toArray:=by kernel_rfl) (hl:(cs.length == n*size)=true:=by exact rfl) (m:d<N:=by decide) (hg:o.guard=none:=by exact rfl):FOK1 P ops N (fS i d n e size cs pre):=by
 refine ⟨o,hi,hd,m,hg,fun a w p=>?_⟩;have f:Tc ps' vs=pre:=j;subst f;have hm:ps'.map (fun (i,x)=>(i,a.eval x))=vs:=Va r p s;obtain ⟨g,c,b⟩:=bs_run hm A y.h q.h hn k hf hl w;exact ⟨g,c,b,rfl⟩
end
end
section
open Go Go.RowKit
variable {a:zM}{k m:Int}
def noL(e:Int)(n:Nd)(p:zL): zM:=if e=0 then p.flatten++[n] else []
def upL(e:Int)(t:zM)(n k:Int): zM:=if e=0 then sfA t n k else []
def upE(e:Int)(t:zM)(n k:Int): Int:=if e=0 then sfE t n k else e
def inL(e:Int)(t:zM)(l:zL): zM:=if e=0 then inA t l else []
def inQ(e:Int)(t:zM)(l:zL): Int:=if e=0 then inE t l else e
def caL(e:Int)(a b t:zM): zM:=noL e ⟨20,0,0,⟨#[]⟩⟩ [a,b,noL e ⟨29,0,0,⟨#[]⟩⟩ [],t]
def EN(n:Int)(k:Nat): Int:=((n.toNat&&& k:Nat):Int)
def plL(e m:Int)(t:zM): zM:=if 0<EN m 2 then noL e ⟨29,0,0,⟨#[]⟩⟩ [] else t
def e0S:(⟨#[]⟩:ByteArray).size<1000000:=by decide
def Jb{t:zI}{n:Int}{b:Nat}(h0:0<=n)(hn:n<1000)(hb:b<1000): (Go.binOp .and t (.int .i64 n) (.int .i64 (b:Int))).run P w=.ok (.int .i64 (EN n b)) w:=by
 have h:=U6 (P:=P) (w:=w) (t:=t) (a:=n.toNat) (b:=b) zQ zQ;rw [Fa h0] at h;exact h
def DB{n:Nd}{p:zL}: (noL e n p).length<=p.flatten.length+1:=by
 unfold noL;split<;>simp
def BD{n:Nd}{p:zL}(hn:n.S.size<1000000)(b:∀x∈p,sml x): sml (noL e n p):=by
 rw [J7];unfold noL;split
 ·
  intro m hm;rcases Bi.1 hm with h|h
  ·obtain ⟨x,a,h⟩:=List.mem_flatten.1 h;exact J7.1 (b x a) m h
  ·simp only [A7] at h;rw [h];exact hn
 ·intro m hm;simp at hm
def Qg{n:Int}(h:sml t): sml (upL e t n k):=by
 unfold upL;split
 ·exact U2 h
 ·intro k hk;simp at hk
def Qh{n:Int}: (upL e t n k).length<=t.length:=by
 unfold upL;split
 ·exact Nn _ _ _
 ·simp
def I3{l:zL}(h:sml t)(hl:∀x∈l,sml x): sml (inL e t l):=by
 unfold inL;split
 ·exact V6 h hl
 ·intro k hk;simp at hk
def I4{l:zL}: (inL e t l).length<=4000:=by
 unfold inL;split
 ·exact V7 _ _
 ·simp
def IB(f:sml a)(hb:sml b)(d:sml t): sml (caL e a b t):=BD zS (by
 intro x c;simp only [Aj,Ah,or_false] at c;rcases c with rfl|rfl|rfl|rfl
 ·exact f
 ·exact hb
 ·exact BD zS zY
 ·exact d)
def IC: (caL e a b t).length<=a.length+b.length+t.length+2:=by
 have d:(noL e ⟨29,0,0,⟨#[]⟩⟩ []).length<=1:=DB;have c:(caL e a b t).length<=_:=DB;simp at c;omega
def Lt: (plL e m t).length<=t.length+1:=by
 unfold plL;split
 ·have a:(noL e ⟨29,0,0,⟨#[]⟩⟩ []).length<=1:=DB;omega
 ·omega
def Lq(h:sml t): sml (plL e m t):=by
 unfold plL;split
 ·exact BD zS zY
 ·exact h
section
variable {r:zM}
def upZ{n:Int}(h:r=upL e t n k)(hs:sml t): r.length<=t.length/\sml r:=by rw [h];exact ⟨Qh,Qg hs⟩
def inZ{l:zL}(h:r=inL e t l)(hs:sml t)(hl:∀x∈l,sml x): r.length<=4000/\sml r:=by rw [h];exact ⟨I4,I3 hs hl⟩
def caZ(h:r=caL e a b t)(d:sml a)(hb:sml b)(c:sml t): r.length<=a.length+b.length+t.length+2/\sml r:=by rw [h];exact ⟨IC,IB d hb c⟩
def plZ(h:r=plL e m t)(hs:sml t): r.length<=t.length+1/\sml r:=by rw [h];exact ⟨Lt,Lq hs⟩
def TM{n:Nd}(h:r=noL e n [])(hn:n.S.size<1000000): r.length<=1/\sml r:=by rw [h];exact ⟨DB,BD hn zY⟩
def noZ1{n:Nd}{c:Nat}(h:r=noL e n (AK [((A,c,a):Sl)]))(hn:n.S.size<1000000)(d:sml a): r.length<=a.length+1/\sml r:=by
 rw [h,show AK [((A,c,a):Sl)]=[a] from rfl];refine ⟨?_,BD hn (by intro x b;simp only [Aj,Ah,or_false] at b;rw [b];exact d)⟩;have f:(noL e n [a]).length<=_:=DB;simpa using f
def AbY{n:Nd}{B:zE}{c:Nat}(h:r=noL e n (AK [((A,c,a):Sl),((B,d,b):Sl)]))(hn:n.S.size<1000000)(g:sml a)(hb:sml b): r.length<=a.length+b.length+1/\sml r:=by
 rw [h,show AK [((A,c,a):Sl),((B,d,b):Sl)]=[a,b] from rfl];refine ⟨?_,BD hn (by intro x f;simp only [Aj,Ah,or_false] at f;rcases f with rfl|rfl;exact g;exact hb)⟩;have i:(noL e n [a,b]).length<=_:=DB;simpa using i
end
def Dp{k:Nat}(hc:chk t=0)(hs:sml t)(a:AK Ls=agA t)(hk:k<many (nth t (t.length-1))):
  k<Ls.length/\sml (At Ls k).2.2/\(At Ls k).2.2.length<=t.length/\Bn (At Ls k).2.2=true:=by
 have hb:=Br hc;rw [EW hc] at a;have hl:Ls.length=many (nth t (t.length-1)):=by rw [<-AQ,a,Cl hb]
 have hm:=Eh (l:=ptL t) (k:=k) (by rw [Cl hb];exact hk);obtain ⟨c,d,b⟩:=GU hb hm;rw [Av,a];exact ⟨by omega,Qn hs b,by omega,c⟩
def Js{n:Nd}(h:n.K=3): many n=2:=by simp [many,binds,h,shp]
def Jr{n:Nd}(h:n.K=6): many n=2:=by simp [many,binds,h,shp]
def Gr{n:Nd}(h:n.K=22): many n=5:=by simp [many,binds,h,shp]
def GW{n:Nd}(h:n.K=23): many n=2:=by simp [many,binds,h,shp]
def piE1(e:Int)(q:zL): Int:=upE e (Bv q 0) 1 0
def Xd(e:Int)(p q:zL): Int:=upE (piE1 e q) (Bv p 0) 1 0
def piY(e:Int)(p q:zL)(m:Int): zM:=plL (Xd e p q) m (caL (Xd e p q) (upL e (Bv q 0) 1 0) (upL (piE1 e q) (Bv p 0) 1 0) (noL (Xd e p q) ⟨0,0,0,⟨#[]⟩⟩ []))
def piE3(e:Int)(p q:zL)(t:zM): Int:=upE (Xd e p q) t 1 0
def piG(e:Int)(p q:zL)(t:zM)(m:Int): zM:=noL (piE3 e p q t) ⟨5,0,0,⟨#[]⟩⟩ [upL (Xd e p q) t 1 0,piY e p q m]
def piE4(e:Int)(p q:zL)(t:zM): Int:=upE (piE3 e p q t) (Bv p 1) 1 1
def piU(e:Int)(p q:zL)(t:zM): zM:=upL (piE3 e p q t) (Bv p 1) 1 1
def TK(e:Int)(p q:zL)(t:zM)(m:Int): Int:=inQ (piE4 e p q t) (piU e p q t) [piY e p q m]
def piL(e:Int)(p q:zL)(t:zM)(m:Int): zM:=noL (TK e p q t m) ⟨4,0,0,⟨#[]⟩⟩ [Bv q 0,caL (TK e p q t m) (inL (piE4 e p q t) (piU e p q t) [piY e p q m]) (Bv q 1) (piG e p q t m)]
def sgF(e:Int)(t:zM)(m:Int): zM:=plL e m (noL e ⟨8,0,0,⟨#[]⟩⟩ [t])
def sgC(e:Int)(p q:zL)(t:zM)(m:Int): zM:=plL e m (caL e (Bv p 0) (Bv q 0) (sgF e t m))
def sgE1(e:Int)(p:zL)(t:zM)(m:Int): Int:=inQ e (Bv p 1) [sgF e t m]
def sgE2(e:Int)(p q:zL)(t:zM)(m:Int): Int:=inQ (sgE1 e p t m) (Bv q 1) [sgC e p q t m]
def sgS(e:Int)(p q:zL)(t:zM)(m:Int): zM:=caL (sgE2 e p q t m) (inL e (Bv p 1) [sgF e t m]) (inL (sgE1 e p t m) (Bv q 1) [sgC e p q t m]) (noL (sgE2 e p q t m) ⟨9,0,0,⟨#[]⟩⟩ [t])
def sgE(e:Int)(p q:zL)(t:zM)(m:Int): Int:=if EN m 1=0 then sgE2 e p q t m else e
def sgL(e:Int)(p q:zL)(b t:zM)(m:Int): zM:=noL (sgE e p q t m) ⟨7,0,0,⟨#[]⟩⟩ [b,sgC e p q t m,if EN m 1=0 then sgS e p q t m else noL e ⟨29,0,0,⟨#[]⟩⟩ []]
def quL(e:Int)(a b t:zM): zM:=noL e (nth t (t.length-1)) [b,caL e (Bv (agA a) 0) (Bv (agA b) 0) (Bv (agA t) 1)]
def crQ(a b t:zM): Option (zM×Int):=
 if (nth t (t.length-1)).K=29 then some (noL 0 ⟨29,0,0,⟨#[]⟩⟩ [],0)
 else if nth b (b.length-1)=nth a (a.length-1) then
  (if (nth a (a.length-1)).K=10\/(nth a (a.length-1)).K=2\/(nth a (a.length-1)).K=25 then some (t,0)
  else if (nth a (a.length-1)).K=3/\EN (nth a (a.length-1)).N 1=0 then some (piL 0 (agA a) (agA b) t (nth a (a.length-1)).N,TK 0 (agA a) (agA b) t (nth a (a.length-1)).N)
  else if (nth a (a.length-1)).K=6/\(nth a (a.length-1)).N<3 then some (sgL 0 (agA a) (agA b) b t (nth a (a.length-1)).N,sgE 0 (agA a) (agA b) t (nth a (a.length-1)).N)
  else if (nth a (a.length-1)).K=22/\(nth t (t.length-1)).K=23 then some (quL 0 a b t,0) else none)
 else none
def crC(a b t:zM): Int:=if ¬chk a=0 then chk a else if ¬chk b=0 then chk b else chk t
def crE(a b t:zM): Int:=if ¬crC a b t=0 then crC a b t else match crQ a b t with
 | none=>120
 | some (x,e)=>if e=0 then chk x else e
def crA(a b t:zM): zM:=if ¬crC a b t=0 then [] else match crQ a b t with
 | none=>[]
 | some (x,e)=>if (if e=0 then chk x else e)=0 then x else []
end
section
def Oh(h:Bn t=true): chk t=0\/chk t=21\/chk t=22:=by
 by_cases hl:t.length<=4000
 ·
  by_cases hd:60<(J6 (DY t) ((DY t).length-1)).2
  ·exact .inr (.inr (Ok hl h hd))
  ·exact .inl (Oi hl h hd)
 ·exact .inr (.inl (J3 zQ))
def dpL(t:zM): Nat:=(Aq t).deep
def D9(h:chk t=0): t.length<=4000:=(Dg h).2.2.2
def built{n:Nd}{p:zL}(hr:right n=true)(hm:many n=p.length)(c:∀x∈p,Bn x=true):
  Bn (p.flatten++[n])=true/\Aq (p.flatten++[n])=.mk n (p.map Aq)/\ptL (p.flatten++[n])=p/\nth (p.flatten++[n]) ((p.flatten++[n]).length-1)=n:=by
 have f:(p.map Aq).map T.flat=p:=by
  rw [List.map_map];have:p.map (T.flat∘Aq)=p.map id:=List.map_congr_left fun x a=>(BR (c x a)).2;rw [this,List.map_id]
 have g:Az (p.map Aq)=p.flatten:=by rw [<-F4,f]
 have b:(T.mk n (p.map Aq)).wf=true:=by
  rw [Gx];simp only [A5,beq_iff_eq,BK];refine ⟨⟨hr,hm⟩,(FM _).2 ?_⟩;intro t ht;obtain ⟨x,a,rfl⟩:=Do.1 ht;exact (BR (c x a)).1
 have e:(T.mk n (p.map Aq)).flat=p.flatten++[n]:=by rw [Bf,g]
 have d:Aq (p.flatten++[n])=.mk n (p.map Aq):=by rw [<-e,Da b]
 refine ⟨by rw [<-e];exact ET b,d,?_,?_⟩
 ·unfold ptL;rw [d];exact f
 ·simp [nth]
def GE(e:Int): Prop:=e=0\/e=2\/e=21\/e=22
def GE.zero:GE 0:=.inl rfl
def GE.meas(h:Bn t=true): GE (chk t):=by
 rcases Oh h with q|q|q
 ·exact .inl q
 ·exact .inr (.inr (.inl q))
 ·exact .inr (.inr (.inr q))
def DA{n k:Int}(h:upE e t n k=0): e=0/\sfE t n k=0:=by
 unfold upE at h;by_cases a:e=0
 ·rw [Ae a] at h;exact ⟨a,h⟩
 ·rw [Ac a] at h;exact absurd h a
def Xq{n k:Int}: upL 0 t n k=sfA t n k:=Ae rfl
def JL{l:zL}(h:inQ e t l=0): e=0/\inE t l=0:=by
 unfold inQ at h;by_cases a:e=0
 ·rw [Ae a] at h;exact ⟨a,h⟩
 ·rw [Ac a] at h;exact absurd h a
def ck_oks(h:ckE L=0): oks L:=by
 induction L with
 | nil=>intro p hp;cases hp
 | cons x L ih=>
  simp only [ckE] at h;by_cases hc:chk x=0
  ·
   rw [Ae hc] at h;intro p hp;rcases Aj.1 hp with rfl|hp
   ·exact hc
   ·exact ih h p hp
  ·rw [Ac hc] at h;exact absurd h hc
def AaL{l:zL}(hc:chk t=0)(h:FU (puV 0 l) t 0=0): Bn (trL (puV 0 l) t 0)=true:=by
 unfold trL;rw [Ae h];exact ET (Aad (puV_wf (Int.le_refl _)) (Aq t) 0 (BR (Br hc)).1 (Int.le_refl _) h)
def po_G{l:zL}(hc:chk t=0)(hl:oks l): GE (poE t 0 l):=by
 by_cases h:FU (puV 0 l) t 0=0
 ·rw [(Jj h).1];exact GE.meas (AaL hc h)
 ·
  rw [(RG h).1];rcases Q1 hl (Aq t) 0 (Int.le_refl _) with q|q
  ·exact .inl q
  ·exact .inr (.inl q)
def XX{l:zL}: inL 0 t l=inA t l:=Ae rfl
def Ow(hc:chk t=0)(hk:k<many (nth t (t.length-1))): chk (Bv (agA t) k)=0/\Bv (agA t) k∈agA t:=by
 have hb:=Br hc;rw [EW hc];have hm:=Eh (l:=ptL t) (k:=k) (by rw [Cl hb];exact hk);exact ⟨AaG hc hm,hm⟩
def Fk{l:zL}{Q:zM->Prop}(h:∀x∈l,Q x)(h0:Q [])(k:Nat): Q (Bv l k):=by
 by_cases hk:k<l.length
 ·exact h _ (Eh hk)
 ·
  have:Bv l k=[]:=by unfold Bv;rw [AC,List.getElem?_eq_none zQ];rfl
  rw [this];exact h0
def BX:sml []:=fun k hk=>by simp at hk
def E6(hs:sml t):∀x∈agA t,sml x/\x.length<=t.length:=by
 intro x a;by_cases hc:chk t=0
 ·rw [EW hc] at a;obtain ⟨_,c,b⟩:=GU (Br hc) a;exact ⟨Qn hs b,by omega⟩
 ·rw [WW hc] at a;cases a
end
section
def tgK(n:Nd): Int:=if n.K=5\/n.K=8\/n.K=9 then 0 else if n.K=13\/n.K=24 then 3 else if n.K=27 then n.M+1 else -1
def tgA(t:zM): Int:=if chk t=0 then tgK (nth t (t.length-1)) else -1
def tgL(t:zM): zM:=Bv (agA t) (tgK (nth t (t.length-1))).toNat
def urX(n x:Nd)(p q:zL): Option (zM×Int):=
 if n.K=5/\x.K=4 then some (inL 0 (Bv q 1) [Bv p 1],inQ 0 (Bv q 1) [Bv p 1])
 else if n.K=8/\x.K=7 then some (Bv q 1,0)
 else if n.K=9/\x.K=7 then some (Bv q 2,0)
 else if n.K=13/\x.K=11 then some (Bv p 1,0)
 else if n.K=13/\x.K=12 then some (inL 0 (Bv p 2) [noL 0 n (p.set (p.length-1) (Bv q 0)),Bv q 0],inQ 0 (Bv p 2) [noL 0 n (p.set (p.length-1) (Bv q 0)),Bv q 0])
 else if n.K=24/\x.K=23 then some (inL 0 (Bv p 1) [Bv q 1],inQ 0 (Bv p 1) [Bv q 1])
 else none
def urQ(t:zM): Option (zM×Int):=urX (nth t (t.length-1)) (nth (tgL t) ((tgL t).length-1)) (agA t) (agA (tgL t))
def urE(t:zM): Int:=if ¬chk t=0 then chk t else if tgK (nth t (t.length-1))<0 then 120 else match urQ t with
 | none=>120
 | some (x,e)=>if e=0 then chk x else e
def urA(t:zM): zM:=if ¬chk t=0 then [] else if tgK (nth t (t.length-1))<0 then [] else match urQ t with
 | none=>[]
 | some (x,e)=>if (if e=0 then chk x else e)=0 then x else []
def Ug(h:¬chk t=0): urE t=chk t/\urA t=[]:=⟨Ae h,Ae h⟩
def Uf(h:chk t=0)(a:tgK (nth t (t.length-1))<0): urE t=120/\urA t=[]:=by
 unfold urE urA;exact ⟨(Ac zQ).trans (Ae a),(Ac zQ).trans (Ae a)⟩
def Aac(h:chk t=0)(a:¬tgK (nth t (t.length-1))<0)(b:urQ t=none): urE t=120/\urA t=[]:=by
 unfold urE urA;refine ⟨(Ac zQ).trans ((Ac a).trans ?_),(Ac zQ).trans ((Ac a).trans ?_)⟩<;>rw [b]
def Aab(h:chk t=0)(a:¬tgK (nth t (t.length-1))<0){x:zM}(b:urQ t=some (x,e)): urE t=(if e=0 then chk x else e)/\urA t=if (if e=0 then chk x else e)=0 then x else []:=by
 unfold urE urA;refine ⟨(Ac zQ).trans ((Ac a).trans ?_),(Ac zQ).trans ((Ac a).trans ?_)⟩<;>rw [b]
def Nf(h:chk t=0)(d:¬tgK (nth t (t.length-1))<0): (tgK (nth t (t.length-1))).toNat<many (nth t (t.length-1)):=by
 have e:=Cy (Br h) (show t.length-1<t.length by have:=B0 h;omega);revert d e;generalize nth t (t.length-1)=n;intro d e;unfold tgK at d ⊢;by_cases a:n.K=5\/n.K=8\/n.K=9
 ·
  rw [Ae a];have:1<=many n:=by rcases a with a|a|a<;>simp [many,binds,a,shp]
  omega
 ·
  rw [Ac a] at d ⊢;by_cases b:n.K=13\/n.K=24
  ·
   rw [Ae b];have:many n=4:=by rcases b with b|b<;>simp [many,binds,b,shp]
   omega
  ·
   rw [Ac b] at d ⊢;by_cases c:n.K=27
   ·
    rw [Ae c];have hm:many n=n.M.toNat+2:=by simp [many,binds,c]
    have f:=(FC c).symm.trans e;rw [A9] at f;omega
   ·rw [Ac c] at d;omega
def Aag(h:chk t=0)(a:¬tgK (nth t (t.length-1))<0): chk (tgL t)=0:=(Ow h (Nf h a)).1
section
variable {m:Nat} {a b:ByteArray} (hm:m<4) (ht:chk t=0) (hd:dpL t<=50) (hl:t.length<=200) (ha:EG a=true)
include hm ht hd hl ha
end
end
section
variable {a:zM}{m:Int}
def W5(hc:chk a=0): 0<=(nth a (a.length-1)).N/\(nth a (a.length-1)).N<100:=by
 have d:=Cy (Br hc) (show a.length-1<a.length by have:=B0 hc;omega);obtain ⟨_,b,e,_⟩:=(DT _).1 d;by_cases hn:(shp (nth a (a.length-1)).K.toNat).n=true
 ·
  have c:=e hn;unfold most at c
  (repeat' split at c)<;>omega
 ·
  have:(nth a (a.length-1)).N=0:=by
   unfold E3 at b;simp only [Bool.or_eq_false_iff,Bool.and_eq_false_iff,Bool.not_eq_false',BI,A9] at b;simp only [Bool.not_eq_true] at hn;simp [hn] at b;exact b.1
  omega
section
def Wx(hc:chk a=0)(hk:(nth a (a.length-1)).K=3\/(nth a (a.length-1)).K=6): 0<=(nth a (a.length-1)).N/\(nth a (a.length-1)).N<4:=by
 have b:=Cy (Br hc) (show a.length-1<a.length by have:=B0 hc;omega);rw [Ns hk,A9] at b;omega
def Sy(h:(nth t (t.length-1)).K=29): crQ a b t=some (noL 0 ⟨29,0,0,⟨#[]⟩⟩ [],0):=Ae h
def Ia(h:¬(nth t (t.length-1)).K=29)(hb:nth b (b.length-1)=nth a (a.length-1))(hk:(nth a (a.length-1)).K=10\/(nth a (a.length-1)).K=2\/(nth a (a.length-1)).K=25): crQ a b t=some (t,0):=by
 unfold crQ;rw [Ac h,Ae hb,Ae hk]
def ZH(h:¬(nth t (t.length-1)).K=29)(hb:nth b (b.length-1)=nth a (a.length-1))(hk:(nth a (a.length-1)).K=3)(hm:EN (nth a (a.length-1)).N 1=0): crQ a b t=some (piL 0 (agA a) (agA b) t (nth a (a.length-1)).N,TK 0 (agA a) (agA b) t (nth a (a.length-1)).N):=by
 unfold crQ;rw [Ac h,Ae hb,Ac zQ,Ae ⟨hk,hm⟩]
def W6(h:¬(nth t (t.length-1)).K=29)(hb:nth b (b.length-1)=nth a (a.length-1))(hk:(nth a (a.length-1)).K=6)(hm:(nth a (a.length-1)).N<3): crQ a b t=some (sgL 0 (agA a) (agA b) b t (nth a (a.length-1)).N,sgE 0 (agA a) (agA b) t (nth a (a.length-1)).N):=by
 unfold crQ;rw [Ac h,Ae hb,Ac zQ,Ac zQ,Ae ⟨hk,hm⟩]
def S0(h:¬(nth t (t.length-1)).K=29)(hb:nth b (b.length-1)=nth a (a.length-1))(hk:(nth a (a.length-1)).K=22)(hm:(nth t (t.length-1)).K=23): crQ a b t=some (quL 0 a b t,0):=by
 unfold crQ;rw [Ac h,Ae hb,Ac zQ,Ac zQ,Ac zQ,Ae ⟨hk,hm⟩]
def S1(h:¬(nth t (t.length-1)).K=29)
  (i:(decide ((nth a (a.length-1)).K=10)&&decide (nth b (b.length-1)=nth a (a.length-1))&&true)=false)
  (g:(decide ((nth a (a.length-1)).K=2)&&decide (nth b (b.length-1)=nth a (a.length-1))&&true)=false)
  (f:(decide ((nth a (a.length-1)).K=25)&&decide (nth b (b.length-1)=nth a (a.length-1))&&true)=false)
  (e:(decide ((nth a (a.length-1)).K=3)&&decide (nth b (b.length-1)=nth a (a.length-1))&&decide (EN (nth a (a.length-1)).N 1=0))=false)
  (d:(decide ((nth a (a.length-1)).K=6)&&decide (nth b (b.length-1)=nth a (a.length-1))&&decide ((nth a (a.length-1)).N<3))=false)
  (c:(decide ((nth a (a.length-1)).K=22)&&decide (nth b (b.length-1)=nth a (a.length-1))&&decide ((nth t (t.length-1)).K=23))=false):crQ a b t=none:=by
 unfold crQ;rw [Ac h];by_cases hb:nth b (b.length-1)=nth a (a.length-1)
 ·simp only [hb,decide_true,Bool.and_true,BI,Bool.and_eq_false_iff] at i g f e d c;rw [Ae hb,Ac zQ,Ac zQ,Ac zQ,Ac zQ]
 ·rw [Ac hb]
def W4(h:¬chk a=0): crE a b t=chk a/\crA a b t=[]:=by
 have:crC a b t=chk a:=by unfold crC;rw [Ae h]
 unfold crE crA;rw [this];exact ⟨Ae h,Ae h⟩
def Wz(c:chk a=0)(h:¬chk b=0): crE a b t=chk b/\crA a b t=[]:=by
 have:crC a b t=chk b:=by unfold crC;rw [Ac zQ,Ae h]
 unfold crE crA;rw [this];exact ⟨Ae h,Ae h⟩
def Og(c:chk a=0)(hb:chk b=0): crC a b t=chk t:=by unfold crC;rw [Ac zQ,Ac zQ]
def Wy(c:chk a=0)(hb:chk b=0)(h:¬chk t=0): crE a b t=chk t/\crA a b t=[]:=by
 unfold crE crA;rw [Og c hb];exact ⟨Ae h,Ae h⟩
def Of(c:chk a=0)(hb:chk b=0)(d:chk t=0)(h:crQ a b t=none): crE a b t=120/\crA a b t=[]:=by
 unfold crE crA;rw [Og c hb,h];exact ⟨Ac zQ,Ac zQ⟩
def Ew(c:chk a=0)(hb:chk b=0)(d:chk t=0){x:zM}(h:crQ a b t=some (x,e)): crE a b t=(if e=0 then chk x else e)/\crA a b t=if (if e=0 then chk x else e)=0 then x else []:=by
 unfold crE crA;rw [Og c hb,h];exact ⟨Ac zQ,Ac zQ⟩
end
section
variable (hsa:sml a) (hsb:sml b) (hst:sml t) (hla:a.length<=5000) (hlb:b.length<=5000) (hlt:t.length<=5000)
include hsa hsb hst hla hlb hlt
def piL_sz: sml (piL e (agA a) (agA b) t m)/\(piL e (agA a) (agA b) t m).length<=100000:=by
 have hp:∀k,sml (Bv (agA a) k)/\(Bv (agA a) k).length<=5000:=Fk (Q:=fun x=>sml x/\x.length<=5000) (fun x c=>⟨(E6 hsa x c).1,Ax (E6 hsa x c).2 hla⟩) ⟨BX,by simp⟩;have hq:∀k,sml (Bv (agA b) k)/\(Bv (agA b) k).length<=5000:=Fk (Q:=fun x=>sml x/\x.length<=5000) (fun x c=>⟨(E6 hsb x c).1,Ax (E6 hsb x c).2 hlb⟩) ⟨BX,by simp⟩;have hv:∀e,sml (noL e ⟨0,0,0,⟨#[]⟩⟩ [])/\(noL e ⟨0,0,0,⟨#[]⟩⟩ []).length<=1:=fun e=>⟨BD zS zY,DB⟩;have d:∀e t n k,sml t->sml (upL e t n k):=fun _ _ _ _ h=>Qg h;have l1:∀e t n k,(upL e t n k).length<=t.length:=fun _ _ _ _=>Qh;have g:sml (piY e (agA a) (agA b) m)/\(piY e (agA a) (agA b) m).length<=10100:=by
  refine ⟨Lq (IB (d _ _ _ _ (hq 0).1) (d _ _ _ _ (hp 0).1) (hv _).1),?_⟩;have f:(piY e (agA a) (agA b) m).length<=_:=Lt;have q:=IC (e:=Xd e (agA a) (agA b)) (a:=upL e (Bv (agA b) 0) 1 0) (b:=upL (piE1 e (agA b)) (Bv (agA a) 0) 1 0) (t:=noL (Xd e (agA a) (agA b)) ⟨0,0,0,⟨#[]⟩⟩ []);have l:=l1 e (Bv (agA b) 0) 1 0;have p:=l1 (piE1 e (agA b)) (Bv (agA a) 0) 1 0;have o:=(hv (Xd e (agA a) (agA b))).2;have h6:=(hp 0).2;have r:=(hq 0).2;omega
 have j:sml (piG e (agA a) (agA b) t m)/\(piG e (agA a) (agA b) t m).length<=16000:=by
  constructor
  ·
   refine BD zS ?_;intro x c;simp only [Aj,Ah,or_false] at c;rcases c with rfl|rfl
   ·exact d _ _ _ _ hst
   ·exact g.1
  ·have f:(piG e (agA a) (agA b) t m).length<=_:=DB;simp only [BO,List.flatten_nil,Ab,Ar] at f;have l:=l1 (Xd e (agA a) (agA b)) t 1 0;have:=g.2;omega
 have i:sml (inL (piE4 e (agA a) (agA b) t) (piU e (agA a) (agA b) t) [piY e (agA a) (agA b) m])/\(inL (piE4 e (agA a) (agA b) t) (piU e (agA a) (agA b) t) [piY e (agA a) (agA b) m]).length<=4000:=
  ⟨I3 (d _ _ _ _ (hp 1).1) (by intro x c;simp only [Aj,Ah,or_false] at c;rw [c];exact g.1),I4⟩
 constructor
 ·
  refine BD zS ?_;intro x c;simp only [Aj,Ah,or_false] at c;rcases c with rfl|rfl
  ·exact (hq 0).1
  ·exact IB i.1 (hq 1).1 j.1
 ·have f:(piL e (agA a) (agA b) t m).length<=_:=DB;simp only [BO,List.flatten_nil,Ab,Ar] at f;have q:=IC (e:=TK e (agA a) (agA b) t m) (a:=inL (piE4 e (agA a) (agA b) t) (piU e (agA a) (agA b) t) [piY e (agA a) (agA b) m]) (b:=Bv (agA b) 1) (t:=piG e (agA a) (agA b) t m);have l:=(hq 0).2;have p:=(hq 1).2;have o:=j.2;have h6:=i.2;omega
def sgL_sz: sml (sgL e (agA a) (agA b) b t m)/\(sgL e (agA a) (agA b) b t m).length<=100000:=by
 have hp:∀k,sml (Bv (agA a) k)/\(Bv (agA a) k).length<=5000:=Fk (Q:=fun x=>sml x/\x.length<=5000) (fun x c=>⟨(E6 hsa x c).1,Ax (E6 hsa x c).2 hla⟩) ⟨BX,by simp⟩;have hq:∀k,sml (Bv (agA b) k)/\(Bv (agA b) k).length<=5000:=Fk (Q:=fun x=>sml x/\x.length<=5000) (fun x c=>⟨(E6 hsb x c).1,Ax (E6 hsb x c).2 hlb⟩) ⟨BX,by simp⟩;have d:∀e n,n.S.size<1000000->sml (noL e n [t])/\(noL e n [t]).length<=5001:=fun e n hn=>by
  refine ⟨BD hn (by intro x c;simp only [Aj,Ah,or_false] at c;rw [c];exact hst),?_⟩;have f:(noL e n [t]).length<=_:=DB;simp only [BO,List.flatten_nil,Ab,Ar] at f;omega
 have g:sml (sgF e t m)/\(sgF e t m).length<=5002:=by
  refine ⟨Lq (d _ _ zS).1,?_⟩;have f:(sgF e t m).length<=_:=Lt;have:=(d e ⟨8,0,0,⟨#[]⟩⟩ zS).2;omega
 have h:sml (sgC e (agA a) (agA b) t m)/\(sgC e (agA a) (agA b) t m).length<=15100:=by
  refine ⟨Lq (IB (hp 0).1 (hq 0).1 g.1),?_⟩;have f:(sgC e (agA a) (agA b) t m).length<=_:=Lt;have q:=IC (e:=e) (a:=Bv (agA a) 0) (b:=Bv (agA b) 0) (t:=sgF e t m);have p:=(hp 0).2;have o:=(hq 0).2;have r:=g.2;omega
 have j:sml (sgS e (agA a) (agA b) t m)/\(sgS e (agA a) (agA b) t m).length<=14000:=by
  refine ⟨IB (I3 (hp 1).1 (by intro x c;simp only [Aj,Ah,or_false] at c;rw [c];exact g.1)) (I3 (hq 1).1 (by intro x c;simp only [Aj,Ah,or_false] at c;rw [c];exact h.1)) (d _ _ zS).1,?_⟩;have f:(sgS e (agA a) (agA b) t m).length<=_:=IC;have q:=I4 (e:=e) (t:=Bv (agA a) 1) (l:=[sgF e t m]);have p:=I4 (e:=sgE1 e (agA a) t m) (t:=Bv (agA b) 1) (l:=[sgC e (agA a) (agA b) t m]);have o:=(d (sgE2 e (agA a) (agA b) t m) ⟨9,0,0,⟨#[]⟩⟩ zS).2;omega
 have i:sml (if EN m 1=0 then sgS e (agA a) (agA b) t m else noL e ⟨29,0,0,⟨#[]⟩⟩ [])/\(if EN m 1=0 then sgS e (agA a) (agA b) t m else noL e ⟨29,0,0,⟨#[]⟩⟩ []).length<=14000:=by
  split
  ·exact j
  ·refine ⟨BD zS zY,?_⟩;have f:(noL e ⟨29,0,0,⟨#[]⟩⟩ []).length<=_:=DB;simp only [List.flatten_nil,Ar] at f;omega
 constructor
 ·
  refine BD zS ?_;intro x c;simp only [Aj,Ah,or_false] at c;rcases c with rfl|rfl|rfl
  ·exact hsb
  ·exact h.1
  ·exact i.1
 ·have f:(sgL e (agA a) (agA b) b t m).length<=_:=DB;simp only [BO,List.flatten_nil,Ab,Ar] at f;have:=h.2;have:=i.2;omega
def quL_sz: sml (quL e a b t)/\(quL e a b t).length<=100000:=by
 have hp:∀k,sml (Bv (agA a) k)/\(Bv (agA a) k).length<=5000:=Fk (Q:=fun x=>sml x/\x.length<=5000) (fun x c=>⟨(E6 hsa x c).1,Ax (E6 hsa x c).2 hla⟩) ⟨BX,by simp⟩;have hq:∀k,sml (Bv (agA b) k)/\(Bv (agA b) k).length<=5000:=Fk (Q:=fun x=>sml x/\x.length<=5000) (fun x c=>⟨(E6 hsb x c).1,Ax (E6 hsb x c).2 hlb⟩) ⟨BX,by simp⟩;have d:∀k,sml (Bv (agA t) k)/\(Bv (agA t) k).length<=5000:=Fk (Q:=fun x=>sml x/\x.length<=5000) (fun x c=>⟨(E6 hst x c).1,Ax (E6 hst x c).2 hlt⟩) ⟨BX,by simp⟩;have hn:(nth t (t.length-1)).S.size<1000000:=by
  by_cases h:t.length-1<t.length
  ·exact hst _ h
  ·have:t=[]:=Bw zQ;rw [this];decide
 constructor
 ·
  refine BD hn ?_;intro x c;simp only [Aj,Ah,or_false] at c;rcases c with rfl|rfl
  ·exact hsb
  ·exact IB (hp 0).1 (hq 0).1 (d 1).1
 ·have f:(quL e a b t).length<=_:=DB;simp only [BO,List.flatten_nil,Ab,Ar] at f;have l:=IC (e:=e) (a:=Bv (agA a) 0) (b:=Bv (agA b) 0) (t:=Bv (agA t) 1);have j:=(hp 0).2;have i:=(hq 0).2;have g:=(d 1).2;omega
end
end
section
section
variable {a:zM} (ha:chk a=0) (hb:chk b=0) (ht:chk t=0)
include ha hb ht
end
def Zw{n:Nd}(h:n.K=4): many n=2:=by simp [many,binds,h,shp]
def RZ{n:Nd}(h:n.K=7): many n=3:=by simp [many,binds,h,shp]
def grB(e:Int): Bool:=(decide (e=2)||decide (e=21))||decide (e=22)
end
section
def Hy{n:Nd}(h:right n=true): 0<=n.M/\n.M<=6:=by
 obtain ⟨_,a,_,b⟩:=(DT n).1 h;by_cases hn:(shp n.K.toNat).m=true
 ·exact b hn
 ·
  have:n.M=0:=by
   unfold E3 at a;simp only [Bool.or_eq_false_iff,Bool.and_eq_false_iff,Bool.not_eq_false',BI,A9] at a;simp only [Bool.not_eq_true] at hn;simp [hn] at a;exact a.2.1
  omega
def KE{p:zN}{s:Sl}: AK (p.set k s)=(AK p).set k s.2.2:=by unfold AK;rw [List.map_set]
def Ou{L:zN}{z:Sl}(h:(BS L).φ w I)(b:(B6 4 z.1 z.2.2.length z.2.1 (B2 z.2.2)).φ w I): (BS (L.set k z)).φ w I:=fun s hs=>by
 rcases List.mem_or_eq_of_mem_set hs with a|a
 ·exact h s a
 ·rw [a];exact b
def set_bd{p:zN}{z:Sl}{k:Nat}(b:∀x∈AK p,sml x/\x.length<=4000)(c:z.2.2.length<=4000):∀s∈p.set k z,s.2.2.length<=100000:=fun s hs=>by
 rcases List.mem_or_eq_of_mem_set hs with a|a
 ·exact Ax (b _ (List.mem_map_of_mem a)).2 zS
 ·rw [a];omega
def N7(h:k<Ls.length): (At Ls k).2.2∈AK Ls:=by
 rw [Av];exact Eh (by rw [AQ];exact h)
def PT(hc:chk t=0)(b:AK Ls=agA t)(hs:sml t)(hk:k<many (nth t (t.length-1))): (At Ls k).2.2.length<=4000/\sml (At Ls k).2.2/\chk (At Ls k).2.2=0:=by
 obtain ⟨a,d⟩:=Ow hc hk;obtain ⟨c,e⟩:=E6 hs _ d;rw [Av,b];exact ⟨D9 a,c,a⟩
def ZS(hc:chk t=0)(b:AK Ls=agA t)(hs:sml t):∀x∈AK Ls,sml x/\x.length<=4000:=by
 intro x a;rw [b] at a;obtain ⟨d,c⟩:=E6 hs x a;exact ⟨d,Ax c (D9 hc)⟩
def MU(hc:chk t=0)(a:AK Ls=agA t): Ls.length=many (nth t (t.length-1))/\Ls.length<=8:=by
 have b:Ls.length=many (nth t (t.length-1)):=by rw [<-AQ,a,EW hc,Cl (Br hc)]
 have c:=Eo (Cy (Br hc) (show t.length-1<t.length by have:=B0 hc;omega));exact ⟨b,by omega⟩
def Zv{n:Nd}(h:n.K=5): many n=2:=by simp [many,binds,h,shp]
def Zu{n:Nd}(h:n.K=8): many n=1:=by simp [many,binds,h,shp]
def Zt{n:Nd}(h:n.K=9): many n=1:=by simp [many,binds,h,shp]
def NI{n:Nd}(h:n.K=13): many n=4:=by simp [many,binds,h,shp]
def Vv{n:Nd}(h:n.K=24): many n=4:=by simp [many,binds,h,shp]
def GX{n:Nd}(h:n.K=12): many n=1:=by simp [many,binds,h,shp]
def urR(n x:Nd)(p q:zL): zM×Int:=(urX n x p q).getD ([],120)
def CL{s:Sl}{l:zN}: AK (s::l)=s.2.2::AK l:=rfl
def Dh:AK []=[]:=rfl
def BE{A B:Prop}[Decidable A][Decidable B](h:(decide A&&decide B)=false):¬(A/\B):=by simpa using h
def ur_of(h:chk t=0)(d:¬tgK (nth t (t.length-1))<0){R:zM×Int}(c:R=urR (nth t (t.length-1)) (nth (tgL t) ((tgL t).length-1)) (agA t) (agA (tgL t))):
  urE t=(if R.2=0 then chk R.1 else R.2)/\urA t=if (if R.2=0 then chk R.1 else R.2)=0 then R.1 else []:=by
 cases hq:urQ t with
 | none=>
  have e:R=([],120):=by rw [c];unfold urR;rw [show urX _ _ _ _=none from hq];rfl
  obtain ⟨a,b⟩:=Aac h d hq;rw [a,b,e];exact ⟨rfl,rfl⟩
 | some y=>
  obtain ⟨x,e⟩:=y;have f:R=(x,e):=by rw [c];unfold urR;rw [show urX _ _ _ _=some (x,e) from hq];rfl
  obtain ⟨a,b⟩:=Aab h d hq;rw [a,b,f];exact ⟨rfl,rfl⟩
def urR_sz{n x:Nd}{p q:zL}(hn:n.S.size<1000000)(i:∀x∈p,sml x/\x.length<=4000)(m:∀x∈q,sml x/\x.length<=4000): sml (urR n x p q).1/\(urR n x p q).1.length<=100000:=by
 have h0:sml ([]:zM)/\([]:zM).length<=4000:=⟨BX,by simp⟩;have d:∀k,sml (Bv p k)/\(Bv p k).length<=4000:=Fk (Q:=fun x=>sml x/\x.length<=4000) i h0;have c:∀k,sml (Bv q k)/\(Bv q k).length<=4000:=Fk (Q:=fun x=>sml x/\x.length<=4000) m h0;have hi:∀t l,sml t->(∀x∈l,sml x)->sml (inL 0 t l)/\(inL 0 t l).length<=100000:=fun t l a b=>⟨I3 a b,Ax I4 zS⟩;have e:∀a:zM,sml a->∀x∈[a],sml x:=fun a h x g=>by simp only [Aj,Ah,or_false] at g;rw [g];exact h
 unfold urR urX
 (repeat' split)<;>simp only [Option.getD_some,Option.getD_none]
 ·exact hi _ _ (c 1).1 (e _ (d 1).1)
 ·exact ⟨(c 1).1,Ax (c 1).2 zS⟩
 ·exact ⟨(c 2).1,Ax (c 2).2 zS⟩
 ·exact ⟨(d 1).1,Ax (d 1).2 zS⟩
 ·
  refine hi _ _ (d 2).1 ?_;intro y f;simp only [Aj,Ah,or_false] at f;rcases f with rfl|rfl
  ·
   refine BD hn ?_;intro z j;rcases List.mem_or_eq_of_mem_set j with h|h
   ·exact (i z h).1
   ·rw [h];exact (c 0).1
  ·exact (c 0).1
 ·exact hi _ _ (d 1).1 (e _ (c 1).1)
 ·exact ⟨BX,by simp⟩
def Y6{r:zM}{n:Nd}{p:zN}(h:r=noL e n ((AK p).set ((AK p).length-1) t))(f:∀x∈AK p,sml x/\x.length<=4000)(hn:n.S.size<1000000)(c:sml t)(hl:t.length<=4000)(d:p.length<=9): r.length<=40000/\sml r:=by
 have hm:∀x∈(AK p).set ((AK p).length-1) t,sml x/\x.length<=4000:=by
  intro z b;rcases List.mem_or_eq_of_mem_set b with h|h
  ·exact f z h
  ·rw [h];exact ⟨c,hl⟩
 rw [h];refine ⟨?_,BD hn (fun x a=>(hm x a).1)⟩;have j:(noL e n ((AK p).set ((AK p).length-1) t)).length<=_:=DB;have i:((AK p).set ((AK p).length-1) t).flatten.length<=((AK p).set ((AK p).length-1) t).length*4000:=Tz (fun x a=>(hm x a).2);have g:((AK p).set ((AK p).length-1) t).length=p.length:=by rw [List.length_set,AQ]
 rw [g] at i;have:p.length*4000<=9*4000:=Nat.mul_le_mul_right _ d;omega
end
section
variable {a b t:T}{f:T->T->Int×Bool}
def tz:T:=.mk ndz []
def kid(t:T)(i:Nat): T:=t.args.getD i tz
def JM(k:Int)(i:Nat): Bool:=decide (k=20/\i=2)||decide (k=24/\i=2)||decide (k=15/\i=1)||decide (k=22/\(i=2\/i=3\/i=4))
mutual
def muT:T->Nat
 | .mk n l=>(if n.K=4\/n.K=7 then 4 else 1)+ND l
def ND:List T->Nat
 | []=>0
 | t::l=>muT t+ND l
end
def icN(u:Int)(n:Nd): Nd:=if n.K=0/\u<=n.N then ⟨n.K,n.N+1,n.M,n.S⟩ else n
mutual
def icT(u:Int): T->T
 | .mk n l=>.mk (icN u n) (K0 l ((binds n).map (u+·)))
def K0:List T->zK->List T
 | [],_=>[]
 | t::l,us=>icT (us.headD 0) t::K0 l us.tail
end
mutual
def icE(u:Int): T->Bool
 | .mk n l=>decide (n.K=0/\u<=n.N/\99<=n.N)||Z5 l ((binds n).map (u+·))
def Z5:List T->zK->Bool
 | [],_=>false
 | t::l,us=>icE (us.headD 0) t||Z5 l us.tail
end
def cN(k:Int): Nd:=⟨k,0,0,⟨#[]⟩⟩
def apT(t:T): T:=.mk (cN 5) [icT 0 t,.mk (cN 0) []]
def S9(t:T): T:=if t.root.K=4 then kid t 1 else apT t
def Ic(t:T): Bool:=decide (¬t.root.K=4)&&icE 0 t
def fsT(t:T): T:=if t.root.K=7 then kid t 1 else .mk (cN 8) [t]
def snT(t:T): T:=if t.root.K=7 then kid t 2 else .mk (cN 9) [t]
def H5(a b:T)(i:Nat): List (T×T):=((List.range' i (a.args.length-i)).filter fun j=>!JM a.root.K j).map fun j=>(kid a j,kid b j)
def J9(f:T->T->Int×Bool): List (T×T)->Int×Bool
 | []=>(0,true)
 | p::l=>if (f p.1 p.2).2=true then J9 f l else ((f p.1 p.2).1,false)
def Ku(a b:T): Bool:=decide (a.root.K=4\/b.root.K=4)&&(Ic a||Ic b)
def Id(a b:T): Option (List (T×T)):=
 if a.root.K=4\/b.root.K=4 then some [(S9 a,S9 b)]
 else if a.root.K=7\/b.root.K=7 then some [(fsT a,fsT b),(snT a,snT b)]
 else if a.root=b.root then some (H5 a b 0) else none
def cvB(f:T->T->Int×Bool)(a b:T): Int×Bool:=
 if Ku a b=true then (2,false) else match Id a b with
 | none=>(0,false)
 | some l=>J9 f l
def cvX(f:T->T->Int×Bool)(x y:Int×T): Int×Bool:=
 if ¬x.1=0 then (x.1,false) else if x.2.root.K=29 then (0,true) else if ¬y.1=0 then (y.1,false) else if y.2.root.K=29 then (0,true) else cvB f x.2 y.2
mutual
def cvN:Nat->T->T->Int×Bool
 | 0,_,_=>(2,false)
 | n+1,a,b=>if a.root.K=29\/b.root.K=29 then (0,true) else cvX (cvN n) (brN n a) (brN n b)
def brN:Nat->T->Int×T
 | 0,t=>(2,t)
 | n+1,t=>if t.root.K=20 then (if (cvN n (kid t 0) (kid t 1)).2=true then brN n (kid t 3) else ((cvN n (kid t 0) (kid t 1)).1,t)) else (0,t)
end
def cv(a b:T): Int×Bool:=cvN (2*(muT a+muT b)+1) a b
def br(t:T): Int×T:=brN (2*muT t) t
def Jq(t:T): 0<muT t:=by
 obtain ⟨n,l⟩:=t;simp only [muT];split<;>omega
def QI:∀(l:List T) (i:Nat),i<l.length->muT (l.getD i tz)<=ND l
 | [],_,h=>by simp at h
 | t::l,0,_=>by simp [ND]
 | t::l,i+1,h=>by
  have:=QI l i (by simpa using h);simp only [List.getD_cons_succ,ND];omega
def NC:∀(l:List T) (i j:Nat),i<j->j<l.length->muT (l.getD i tz)+muT (l.getD j tz)<=ND l
 | [],_,_,_,h=>by simp at h
 | t::l,0,j+1,_,h=>by
  have:=QI l j (by simpa using h);simp only [List.getD_cons_zero,List.getD_cons_succ,ND];omega
 | t::l,i+1,j+1,h1,h=>by
  have:=NC l i j zQ (by simpa using h);simp only [List.getD_cons_succ,ND];omega
def QJ(t:T): muT t=(if t.root.K=4\/t.root.K=7 then 4 else 1)+ND t.args:=by
 obtain ⟨n,l⟩:=t;rfl
def Ps(h:i<t.args.length): muT (kid t i)+1<=muT t:=by
 have a:=QI t.args i h;rw [QJ t];unfold kid;split<;>omega
def QQ(a:i<j)(h:j<t.args.length): muT (kid t i)+muT (kid t j)+1<=muT t:=by
 have b:=NC t.args i j a h;rw [QJ t];unfold kid;split<;>omega
def QP(hk:t.root.K=4\/t.root.K=7)(hi:0<i)(h:i<t.args.length): muT (kid t i)+5<=muT t:=by
 have b:=NC t.args 0 i hi h;have a:=Jq (t.args.getD 0 tz);rw [QJ t,Ae hk];unfold kid;omega
def icN_K(u:Int)(n:Nd): (icN u n).K=n.K:=by unfold icN;split<;>rfl
mutual
def ic_mu:∀(t:T) (u:Int),muT (icT u t)=muT t
 | .mk n l,u=>by simp only [icT,muT,icN_K,Z4 l]
def Z4:∀(l:List T) (us:zK),ND (K0 l us)=ND l
 | [],_=>by simp only [K0]
 | t::l,us=>by simp only [K0,ND,ic_mu t,Z4 l]
end
def ap_mu(t:T): muT (apT t)=muT t+2:=by
 simp only [apT,muT,ND,ic_mu];rw [Ac zS,Ac zS];omega
def ZJ(hn:t.root.K=4->1<t.args.length): muT (S9 t)+(if t.root.K=4 then 5 else 0)<=muT t+2:=by
 unfold S9;by_cases h:t.root.K=4
 ·rw [Ae h,Ae h];have:=QP (.inl h) zS (hn h);omega
 ·rw [Ac h,Ac h,ap_mu];omega
def fs_mu(hn:t.root.K=7->2<t.args.length): muT (fsT t)+(if t.root.K=7 then 5 else 0)<=muT t+1/\muT (snT t)+(if t.root.K=7 then 5 else 0)<=muT t+1:=by
 unfold fsT snT;by_cases h:t.root.K=7
 ·rw [Ae h,Ae h,Ae h];have b:=QP (.inr h) (i:=1) zS (by have:=hn h;omega);have a:=QP (.inr h) (i:=2) zS (hn h);omega
 ·rw [Ac h,Ac h,Ac h];simp only [muT,ND];rw [Ac zS,Ac zS];omega
def Fb(h:t.wf=true): right t.root=true/\many t.root=t.args.length/\T.wfs t.args=true:=by
 obtain ⟨n,l⟩:=t;exact EQ h
def TV:∀{l:List T} {i:Nat},T.wfs l=true->i<l.length->(l.getD i tz).wf=true
 | [],_,_,h=>by simp at h
 | t::l,0,hw,_=>(Fw hw).1
 | t::l,i+1,hw,h=>TV (l:=l) (i:=i) (Fw hw).2 (by simpa using h)
def GA(a:t.wf=true)(h:i<t.args.length): (kid t i).wf=true:=TV (Fb a).2.2 h
def Y5(a:t.wf=true)(h:t.root.K=4): t.args.length=2:=by rw [<-(Fb a).2.1];simp [many,binds,h,shp]
def WN(a:t.wf=true)(h:t.root.K=7): t.args.length=3:=by rw [<-(Fb a).2.1];simp [many,binds,h,shp]
def WO(a:t.wf=true)(h:t.root.K=20): t.args.length=4:=by rw [<-(Fb a).2.1];simp [many,binds,h,shp]
def V8{n:Nd}(hr:right n=true)(g:0<=u)(h:¬(n.K=0/\u<=n.N/\99<=n.N)): right (icN u n)=true/\many (icN u n)=many n:=by
 unfold icN;split
 ·
  rename_i hc;obtain ⟨e,a,b⟩:=IR hr hc.1;have hn:(⟨n.K,n.N+1,n.M,n.S⟩:Nd)=vN (n.N+1):=by
   have f:n.K=0:=hc.1;have d:n.M=0:=by rw [e,vN]
   have c:n.S=⟨#[]⟩:=by rw [e,vN]
   rw [f,d,c,vN]
  rw [hn];exact ⟨Rp zQ zQ,by rw [e];simp [many,binds,vN,shp]⟩
 ·exact ⟨hr,rfl⟩
mutual
def ic_wf:∀(t:T) (u:Int),t.wf=true->0<=u->icE u t=false->(icT u t).wf=true
 | .mk n l,u,hw,hu,he=>by
  obtain ⟨g,e,f⟩:=EQ hw;simp only [icE,Bool.or_eq_false_iff,BI] at he;obtain ⟨a,b⟩:=V8 g hu he.1;obtain ⟨c,d⟩:=Z3 l ((binds n).map (u+·)) f (Ui hu) (by simp [<-e,many]) he.2;simp only [icT,T.wf,a,b,c,d,e,A5,beq_iff_eq,and_self]
def Z3:∀(l:List T) (us:zK),T.wfs l=true->(∀v∈us,0<=v)->l.length=us.length->Z5 l us=false->T.wfs (K0 l us)=true/\(K0 l us).length=l.length
 | [],_,_,_,_,_=>by simp [K0,T.wfs]
 | t::l,[],_,_,h,_=>by simp at h
 | t::l,u::us,hw,hu,hl,he=>by
  obtain ⟨e,d⟩:=Fw hw;simp only [Z5,List.headD_cons,List.tail_cons,Bool.or_eq_false_iff] at he;have a:=ic_wf t u e (hu u yB) he.1;obtain ⟨b,c⟩:=Z3 l us d (fun v hv=>hu v (by simp [hv])) (by simpa using hl) he.2;simp only [K0,List.headD_cons,List.tail_cons,T.wfs,a,b,Af,c,Bool.and_self,and_self]
end
def Om(h:k<30/\k≠1/\k≠25/\k≠26/\k≠27): right (cN k)=true/\many (cN k)=(shp k).b.length:=by
 have:∀k:Fin 30,k.val≠1->k.val≠25->k.val≠26->k.val≠27->right (cN (k.val:Int))=true/\many (cN (k.val:Int))=(shp k.val).b.length:=by decide
 exact this ⟨k,h.1⟩ h.2.1 h.2.2.1 h.2.2.2.1 h.2.2.2.2
def ap_wf(c:t.wf=true)(d:icE 0 t=false): (apT t).wf=true:=by
 have h:=ic_wf t 0 c (Int.le_refl 0) d;have b:=(Om (k:=5) zS);have a:=(Om (k:=0) zS);have g:right (cN 5)=true:=b.1;have f:right (cN 0)=true:=a.1;have h6:many (cN 5)=2:=b.2;have e:many (cN 0)=0:=a.2;simp only [apT,T.wf,T.wfs,h,g,f,h6,e,Af,Ar,BEq.rfl,Bool.and_self]
def WG(a:t.wf=true)(b:Ic t=false): (S9 t).wf=true:=by
 unfold S9;by_cases h:t.root.K=4
 ·rw [Ae h];exact GA a (by rw [Y5 a h];decide)
 ·rw [Ac h];unfold Ic at b;rw [AF h,Bool.true_and] at b;exact ap_wf a b
def RK(hk:k=8\/k=9)(b:t.wf=true): (T.mk (cN k) [t]).wf=true:=by
 have a:=Om (k:=k) (by rcases hk with rfl|rfl<;>decide);simp only [T.wf,T.wfs,b,Bool.and_true,A5,beq_iff_eq];refine ⟨a.1,a.2.trans ?_⟩;rcases hk with rfl|rfl<;>rfl
def fs_wf(a:t.wf=true): (fsT t).wf=true/\(snT t).wf=true:=by
 unfold fsT snT;by_cases h:t.root.K=7
 ·rw [Ae h,Ae h];exact ⟨GA a (by rw [WN a h];decide),GA a (by rw [WN a h];decide)⟩
 ·rw [Ac h,Ac h];exact ⟨RK (.inl rfl) a,RK (.inr rfl) a⟩
def Ql{l:List (T×T)}(d:a.wf=true)(hb:b.wf=true)(g:Ku a b=false)(hl:Id a b=some l):∀p∈l,p.1.wf=true/\p.2.wf=true/\muT p.1+muT p.2+1<=muT a+muT b:=by
 unfold Id at hl;split at hl
 ·
  rename_i e;obtain rfl:=Bc hl;unfold Ku at g;rw [AF e,Bool.true_and,Bool.or_eq_false_iff] at g;intro p hp;rw [A7] at hp;subst hp;refine ⟨WG d g.1,WG hb g.2,?_⟩;have k:=ZJ (t:=a) (fun h=>by rw [Y5 d h];decide);have i:=ZJ (t:=b) (fun h=>by rw [Y5 hb h];decide);show muT (S9 a)+muT (S9 b)+1<=_;rcases e with e|e
  ·rw [Ae e] at k;split at i<;>omega
  ·rw [Ae e] at i;split at k<;>omega
 ·
  split at hl
  ·
   rename_i c;obtain rfl:=Bc hl;obtain ⟨s,r⟩:=fs_mu (t:=a) (fun h=>by rw [WN d h];decide);obtain ⟨o,n⟩:=fs_mu (t:=b) (fun h=>by rw [WN hb h];decide);have m:=fs_wf d;have hg:=fs_wf hb;intro p hp;simp only [Aj,Ah,or_false] at hp;rcases hp with rfl|rfl
   ·
    refine ⟨m.1,hg.1,?_⟩;show muT (fsT a)+muT (fsT b)+1<=_;rcases c with c|c
    ·rw [Ae c] at s;split at o<;>omega
    ·rw [Ae c] at o;split at s<;>omega
   ·
    refine ⟨m.2,hg.2,?_⟩;show muT (snT a)+muT (snT b)+1<=_;rcases c with c|c
    ·rw [Ae c] at r;split at n<;>omega
    ·rw [Ae c] at n;split at r<;>omega
  ·
   split at hl
   ·
    rename_i u;obtain rfl:=Bc hl;intro p hp;obtain ⟨j,v,rfl⟩:=Do.1 hp;have f:=(List.mem_filter.1 v).1;rw [List.mem_range'] at f;obtain ⟨q,hq,rfl⟩:=f;have hla:0+1*q<a.args.length:=by omega
    have hlb:0+1*q<b.args.length:=by rw [<-(Fb hb).2.1,<-u,(Fb d).2.1];exact hla
    have k:=Ps hla;have i:=Ps hlb;exact ⟨GA d hla,GA hb hlb,by show muT (kid a _)+muT (kid b _)+1<=_;omega⟩
   ·cases hl
def J8{f g:T->T->Int×Bool}:∀{l:List (T×T)},(∀p∈l,f p.1 p.2=g p.1 p.2)->J9 f l=J9 g l
 | [],_=>rfl
 | p::l,h=>by
  simp only [J9];rw [h p yB,J8 (fun q hq=>h q (by simp [hq]))]
def Rx{f:T->T->Int×Bool}:∀(l m:List (T×T)),J9 f (l++m)=if (J9 f l).2=true then J9 f m else ((J9 f l).1,false)
 | [],m=>by simp [J9]
 | p::l,m=>by
  simp only [List.cons_append,J9];split
  ·exact Rx l m
  ·simp
mutual
def Rc:∀(n:Nat) (a b:T),a.wf=true->b.wf=true->2*(muT a+muT b)+1<=n->cvN (n+1) a b=cvN n a b
 | 0,a,b,_,_,h=>by omega
 | n+1,a,b,ha,hb,h=>by
  have d:=LL n a ha (by have:=Jq b;omega);have c:=LL n b hb (by have:=Jq a;omega);have e:cvN (n+1+1) a b=if a.root.K=29\/b.root.K=29 then (0,true) else cvX (cvN (n+1)) (brN (n+1) a) (brN (n+1) b):=by simp only [cvN]
  have j:cvN (n+1) a b=if a.root.K=29\/b.root.K=29 then (0,true) else cvX (cvN n) (brN n a) (brN n b):=by simp only [cvN]
  rw [e,j,d.1,c.1];split
  ·rfl
  ·
   unfold cvX;split
   ·rfl
   ·
    split
    ·rfl
    ·
     split
     ·rfl
     ·
      split
      ·rfl
      ·
       unfold cvB;split
       ·rfl
       ·
        rename_i i;cases hl:Id (brN n a).2 (brN n b).2 with
        | none=>rfl
        | some l=>
         refine J8 fun p hp=>?_;obtain ⟨g,f,k⟩:=Ql d.2.1 c.2.1 (by simpa using i) hl p hp;exact Rc n p.1 p.2 g f (by have:=d.2.2;have:=c.2.2;omega)
def LL:∀(n:Nat) (t:T),t.wf=true->2*muT t<=n->brN (n+1) t=brN n t/\(brN n t).2.wf=true/\muT (brN n t).2<=muT t
 | 0,t,_,h=>by have:=Jq t;omega
 | n+1,t,ht,h=>by
  have e:brN (n+1+1) t=if t.root.K=20 then (if (cvN (n+1) (kid t 0) (kid t 1)).2=true then brN (n+1) (kid t 3) else ((cvN (n+1) (kid t 0) (kid t 1)).1,t)) else (0,t):=by simp only [brN]
  have a:brN (n+1) t=if t.root.K=20 then (if (cvN n (kid t 0) (kid t 1)).2=true then brN n (kid t 3) else ((cvN n (kid t 0) (kid t 1)).1,t)) else (0,t):=by simp only [brN]
  rw [e,a];split
  ·
   rename_i hk;have f:=WO ht hk;have d:=QQ (t:=t) (i:=0) (j:=1) zS zQ;have c:=Ps (t:=t) (i:=3) zQ;have b:=Rc n (kid t 0) (kid t 1) (GA ht zQ) (GA ht zQ) zQ;have c2:=LL n (kid t 3) (GA ht zQ) zQ;rw [b,c2.1];split
   ·exact ⟨rfl,c2.2.1,by omega⟩
   ·exact ⟨rfl,ht,Ag _⟩
  ·exact ⟨rfl,ht,Ag _⟩
end
def Wt(c:a.wf=true)(hb:b.wf=true):∀{n:Nat},2*(muT a+muT b)+1<=n->cvN n a b=cv a b:=fun {n} h=>by
 obtain ⟨d,rfl⟩:=Nat.exists_eq_add_of_le h;induction d with
 | zero=>rfl
 | succ d ih=>rw [<-Nat.add_assoc,Rc _ a b c hb zQ];exact ih zQ
def Rf(a:t.wf=true):∀{n:Nat},2*muT t<=n->brN n t=br t:=fun {n} h=>by
 obtain ⟨d,rfl⟩:=Nat.exists_eq_add_of_le h;induction d with
 | zero=>rfl
 | succ d ih=>rw [<-Nat.add_assoc,(LL _ t a zQ).1];exact ih zQ
def Ab9(a:t.wf=true): (br t).2.wf=true/\muT (br t).2<=muT t:=(LL _ t a (Ag _)).2
def AbA(h:¬t.root.K=20): br t=(0,t):=by
 unfold br;obtain ⟨d,hd⟩:∃d,2*muT t=d+1:=⟨2*muT t-1,by have:=Jq t;omega⟩;rw [hd];simp only [brN,Ac h]
def br_eq(a:t.wf=true)(h:t.root.K=20): br t=if (cv (kid t 0) (kid t 1)).2=true then br (kid t 3) else ((cv (kid t 0) (kid t 1)).1,t):=by
 have f:=WO a h;have c:=QQ (t:=t) (i:=0) (j:=1) zS zQ;have b:=Ps (t:=t) (i:=3) zQ;obtain ⟨d,hd⟩:∃d,2*muT t=d+1:=⟨2*muT t-1,by have:=Jq t;omega⟩;have e:br t=brN (d+1) t:=by unfold br;rw [hd]
 rw [e];simp only [brN,Ae h];rw [Wt (GA a zQ) (GA a zQ) zQ,Rf (GA a zQ) zQ]
def Abz(h:a.root.K=29\/b.root.K=29): cv a b=(0,true):=by
 unfold cv;simp only [cvN,Ae h]
def cv_eq(c:a.wf=true)(hb:b.wf=true)(h:¬(a.root.K=29\/b.root.K=29)): cv a b=cvX cv (br a) (br b):=by
 have e:cv a b=cvX (cvN (2*(muT a+muT b))) (brN (2*(muT a+muT b)) a) (brN (2*(muT a+muT b)) b):=by
  unfold cv;simp only [cvN,Ac h]
 rw [e,Rf c zQ,Rf hb zQ];obtain ⟨j,n⟩:=Ab9 c;obtain ⟨i,m⟩:=Ab9 hb;unfold cvX;split
 ·rfl
 ·
  split
  ·rfl
  ·
   split
   ·rfl
   ·
    split
    ·rfl
    ·
     unfold cvB;split
     ·rfl
     ·
      rename_i g;cases hl:Id (br a).2 (br b).2 with
      | none=>rfl
      | some l=>
       refine J8 fun p hp=>?_;obtain ⟨f,d,k⟩:=Ql j i (by simpa using g) hl p hp;exact Wt f d zQ
end
section
def U3{f:T->T->Int×Bool}(h:∀a b,(f a b).2=true->(f a b).1=0):∀l,(J9 f l).2=true->(J9 f l).1=0
 | [],_=>rfl
 | p::l,q=>by
  simp only [J9] at q ⊢;split at q
  ·rename_i c;rw [Ae c];exact U3 h l q
  ·cases q
def Wu:∀(n:Nat) (a b:T),(cvN n a b).2=true->(cvN n a b).1=0
 | 0,a,b,h=>by simp only [cvN] at h;cases h
 | n+1,a,b,h=>by
  simp only [cvN] at h ⊢;by_cases h0:a.root.K=29\/b.root.K=29
  ·rw [Ae h0]
  ·
   rw [Ac h0] at h ⊢;unfold cvX at h ⊢;split
   ·rename_i q;rw [Ae q] at h;cases h
   ·
    rename_i q;rw [Ac q] at h;split
    ·rfl
    ·
     rename_i f;rw [Ac f] at h;split
     ·rename_i d;rw [Ae d] at h;cases h
     ·
      rename_i d;rw [Ac d] at h;split
      ·rfl
      ·
       rename_i e;rw [Ac e] at h;unfold cvB at h ⊢;split
       ·rename_i c;rw [Ae c] at h;cases h
       ·
        rename_i c;rw [Ac c] at h;revert h;cases Id (brN n a).2 (brN n b).2 with
        | none=>intro _;rfl
        | some l=>intro h;exact U3 (Wu n) l h
def cv_two{a b:T}(h:(cv a b).2=true): (cv a b).1=0:=Wu _ a b h
end
section
open Go Go.RowKit
abbrev Cp:=Sl×Sl
def cpz:Cp:=(slz,slz)
def P3(s:Cp): zF:=[.slice s.1.1 s.1.2.2.length s.1.2.1,.slice s.2.1 s.2.2.2.length s.2.2.1]
def QZ(l:List Cp): zF:=l.flatMap P3
def CK(t:List Cp)(k:Nat): Cp:=t.getD k cpz
def Gi(s:Cp): (P3 s).length=2:=rfl
def HX(l:List Cp):∀u∈QZ l,u.oneCell'=true:=by
 intro u a;obtain ⟨n,_,hn⟩:=List.mem_flatMap.1 a;simp [P3] at hn;rcases hn with rfl|rfl<;>rfl
def Zj{e:Nat}{t:List Cp}(h:(Res.row A t.length cap e 2 (QZ t)).holds w)(hk:k<t.length): ElemAt w A (k*2) (P3 (CK t k)):=by
 have:=HN h hk;rwa [show (QZ t)=t.flatMap P3 from rfl,Hi Gi t k hk cpz] at this
def EM(t:List Cp): Dat:=⟨fun w I=>∀s∈t,(s.1.2.2.length<=s.1.2.1/\RowI w I 4 s.1.1 s.1.2.2.length (B2 s.1.2.2))/\(s.2.2.2.length<=s.2.2.1/\RowI w I 4 s.2.1 s.2.2.2.length (B2 s.2.2.2)),
 fun _ _ _ _ _ h hk s hs=>⟨⟨(h s hs).1.1,(h s hs).1.2.mono hk⟩,⟨(h s hs).2.1,(h s hs).2.2.mono hk⟩⟩⟩
def RO{t:List Cp}(h:k<t.length): CK t k∈t:=by
 have:CK t k=t[k]:=by simp [CK,h]
 rw [this];exact List.getElem_mem h
section
def WV{t:List Cp}(h:(EM t).φ w I)(hk:k<t.length): (B6 4 (CK t k).1.1 (CK t k).1.2.2.length (CK t k).1.2.1 (B2 (CK t k).1.2.2)).φ w I/\(B6 4 (CK t k).2.1 (CK t k).2.2.2.length (CK t k).2.2.1 (B2 (CK t k).2.2.2)).φ w I:=h _ (RO hk)
def He:(EM []).φ w I:=fun _ h=>by cases h
def E5{B:zE}{c:Nat}{L M:zM}{t:List Cp}(h:(B6 4 A L.length c (B2 L)).φ w I)(b:(B6 4 B M.length d (B2 M)).φ w I)(a:(EM t).φ w I): (EM (((A,c,L),(B,d,M))::t)).φ w I:=fun s hs=>by
 rcases Aj.1 hs with rfl|hs
 ·exact ⟨h,b⟩
 ·exact a s hs
def Fh{a b:List Cp}(c:(EM a).φ w I)(hb:(EM b).φ w I): (EM (a++b)).φ w I:=fun s hs=>by
 rcases Bi.1 hs with hs|hs
 ·exact c s hs
 ·exact hb s hs
def WU{a:List Cp}(b:(EM a).φ w I)(k:Nat): (EM (a.take k)).φ w I:=fun s hs=>b s (List.mem_of_mem_take hs)
end
end
end Go.Proofs.YtgddkjdhnolahaaGreatDoor
