import Derived.Test.YtgddkjdhnolahaaGreatDoorYuc
import Derived.MapKept
set_option linter.defProp false
namespace Go.Proofs.YtgddkjdhnolahaaGreatDoor
open Go Go.RowKit
def EP := @Tryz.underlying70
end Go.Proofs.YtgddkjdhnolahaaGreatDoor
namespace Go.Proofs.YtgddkjdhnolahaaGreatDoor
set_option linter.unusedSimpArgs false
set_option linter.unusedVariables false
open _root_.Go.Proofs.Tryz
variable {A:zE}{B C L N cap d g0 i j k size:Nat}{F ce e kd m n0 nv un y:Int}{I I0 M Mc Z:zG}{K:List Cp}{Lr Ls fp:zN}{P:Program}{Q:zM->Prop}{R:Ending->zH->Prop}{W w w' w0 w1:zH}{X:Prop}{a b t u v x:zM}{cs cs' vs xs:zF}{ds ds':zP}{et kt t' t2:zI}{f:FuncId}{fn:Func}{fs:Array Value}{ls:zD}{m':zO}{nd:Nd}{o:Oper}{ops:Array Oper}{os:List Obj}{ps:Array zI}{q:List Bd}{rest:List Oper}{v' vz z0 zv:Value}{vr:Bool}{α β:Type}
section
open Go Go.RowKit
def R1{n:Nd}(h:right n=true): n.S.size<1000000:=by
 unfold right at h;simp only [A5] at h;have a:=h.2.2;split at a
 ·
  unfold EG at a;split at a
  ·cases a
  ·simp only [A5,A9] at a;omega
 ·rw [beq_iff_eq] at a;omega
def RV(h:Bn t=true): sml t:=fun k hk=>R1 (Cy h hk)
def psI(t:zM)(a r p:Nat): Prop:=∃st,De [] (t.take a)=some st/\r<=st.length/\(Az (st.take (st.length-r))).length=p
def Rq:∀st:List T,st.length<=(Az st).length
 | []=>by simp
 | x::st=>by
  have:=Rq st;have:=EK x;rw [Bg,Ab,Af];omega
def UR{a r p:Nat}(c:a<=t.length)(h:psI t a r p): r<=a/\p<=a:=by
 obtain ⟨b,d,i,g⟩:=h;have f:=F6 d c;have e:=Rq b;have h6:=congrArg List.length (E1 b (b.length-r));rw [Ab] at h6;omega
def XG{a r p:Nat}(hb:Bn t=true)(f:a<=t.length)(hr:0<r)(h:psI t a r p):
    0<a/\right (nth t (a-1))=true/\psI t (a-1) (r-1+many (nth t (a-1))) p:=by
  have h0:=UR f h;obtain ⟨j,i,g,e⟩:=h;obtain ⟨b,rfl⟩:∃b,a=b+1:=⟨a-1,by omega⟩;rw [Nat.add_sub_cancel];obtain ⟨s,hs⟩:=G7 hb b;obtain ⟨c,hm⟩:=L2 hb zQ hs;refine ⟨by omega,c,s,hs,?_,?_⟩<;>
  · have d:=Fo hs (show b<t.length by omega)
    rw [i] at d;unfold Fp at d;rw [Ae (by simp [c,hm])] at d;obtain rfl:=Bc d;simp only [Ab,Ak,AD] at g e;first
      | omega
      | (rw [DS (by rw [Ak];omega),IJ] at e
         rw [<-e];congr 3
         omega)
def AaH{a p:Nat}(c:a<=t.length)(h:psI t a 0 p): a=p:=by
 obtain ⟨e,d,_,b⟩:=h;rw [Nat.sub_zero,CD] at b;rw [<-b,F6 d c]
def UQ(hb:Bn t=true)(hk:k<many (nth t (t.length-1))): psI t (C3 t (t.length-1) k) 1 (C3 t (t.length-1) (k+1)):=by
 have hm:=FB hb;obtain ⟨n,l,b,_,f,e,d,_,h6,hs⟩:=DD hb;have hp:=OT hb;rw [b] at hp;simp only [T.args] at hp;have c:k<l.length:=by rw [hm,b] at hk;exact hk
 rw [hp,hp];have a:t.take (Az (l.take (l.length-k))).length=Az (l.take (l.length-k)):=by
  rw [d,E1 l (l.length-k),AW,List.take_left' rfl]
 refine ⟨l.take (l.length-k),?_,?_,?_⟩
 ·rw [a];exact Lc e _
 ·rw [Ak];omega
 ·rw [Ak,IJ];congr 3;omega
def MR{n:Nd}(h:right n=true): (Bs n).length=many n:=by rw [HC h];rfl
def VN{q:Nat}{c:Nat}(hb:Bn t=true)(hk:k<many (nth t (t.length-1)))(hn:Lr.length=many (nth t (t.length-1)))(f:AK (Lr.drop (many (nth t (t.length-1))-k))=ptD t k)
  (hi:i=many (nth t (t.length-1))-(k+1)) {a:Nat} (d:a=C3 t (t.length-1) (k+1)) (b:q=C3 t (t.length-1) k-a):AK ((Lr.set i ((A,c,(t.drop a).take q):Sl)).drop (many (nth t (t.length-1))-(k+1)))=ptD t (k+1):=by
 subst hi b;rw [List.drop_set,Ac zQ,Nat.sub_self];have e:many (nth t (t.length-1))-k=many (nth t (t.length-1))-(k+1)+1:=by omega
 have hd:Lr.drop (many (nth t (t.length-1))-(k+1))=At Lr (many (nth t (t.length-1))-(k+1))::Lr.drop (many (nth t (t.length-1))-k):=by
  rw [List.drop_eq_getElem_cons zQ,<-e];simp [At,show many (nth t (t.length-1))-(k+1)<Lr.length by omega]
 rw [hd,List.set_cons_zero];exact JD hb f hk d rfl
mutual
def VM:∀t:T,t.flat.length<=muT t
 | .mk n l=>by
  have:=Sk l;rw [Bf,Ab,AD];simp only [muT];split<;>omega
def Sk:∀l:List T,(Az l).length<=ND l
 | []=>by simp [AZ]
 | t::l=>by
  have:=VM t;have:=Sk l;rw [Bg,Ab];simp only [ND];omega
end
def len_mu(h:Bn t=true): t.length<=muT (Aq t):=by
 obtain ⟨_,a⟩:=BR h;have:=VM (Aq t);rwa [a] at this
def Dm(h:Bn t=true): (Aq t).root=nth t (t.length-1):=by
 obtain ⟨n,l,a,_,_,_,_,b,_,_⟩:=DD h;rw [a,b];rfl
def GV(h:Bn t=true): (Aq t).wf=true:=(BR h).1
def Z0(h:Bn t=true)(hi:i<(Aq t).args.length): Bv (ptL t) i=(kid (Aq t) i).flat/\Aq (Bv (ptL t) i)=kid (Aq t) i/\Bn (Bv (ptL t) i)=true:=by
 have b:Bv (ptL t) i=(kid (Aq t) i).flat:=by
  unfold Bv ptL kid;simp [hi]
 have a:=GA (GV h) hi;rw [b];exact ⟨rfl,Da a,ET a⟩
def LB(h:Bn t=true)(a:AK Ls=ptL t)(hi:i<(Aq t).args.length): Ls.length=(Aq t).args.length/\Aq (At Ls i).2.2=kid (Aq t) i/\Bn (At Ls i).2.2=true:=by
 have e:=Av Ls i;rw [a] at e;rw [e];obtain ⟨_,c,b⟩:=Z0 h hi;refine ⟨?_,c,b⟩;rw [<-AQ,a];simp [ptL]
def Jk(a:AK Ls=ptL t): Ls.length=(Aq t).args.length:=by
 rw [<-AQ,a];simp [ptL]
def WM{t:T}(h:t.wf=true): t.args.length<=8:=by
 obtain ⟨b,a,_⟩:=Fb h;rw [<-a];exact Eo b
def brL(t:zM): zM:=(br (Aq t)).2.flat
def brE(t:zM): Int:=(br (Aq t)).1
def Y3(t:zM): zM:=(S9 (Aq t)).flat
def apL(t:zM): zM:=(apT (Aq t)).flat
def F2(h:Bn t=true): Bn (brL t)=true/\Aq (brL t)=(br (Aq t)).2/\muT (Aq (brL t))<=muT (Aq t):=by
 obtain ⟨a,b⟩:=Ab9 (GV h);unfold brL;rw [Da a];exact ⟨ET a,rfl,b⟩
def brL_no(h:Bn t=true)(hk:¬(nth t (t.length-1)).K=20): brL t=t/\brE t=0:=by
 unfold brL brE;rw [AbA (by rw [Dm h];exact hk)];exact ⟨(BR h).2,rfl⟩
def Y2(h:Bn t=true)(b:AK Ls=ptL t)(hk:(nth t (t.length-1)).K=4): 1<Ls.length/\(At Ls 1).2.2=Y3 t/\Ic (Aq t)=false:=by
 have a:(Aq t).root.K=4:=by rw [Dm h];exact hk
 have c:=Y5 (GV h) a;refine ⟨by rw [Jk b];omega,?_,by unfold Ic;rw [As (by simpa using a)];rfl⟩;have e:=Av Ls 1;rw [b] at e;rw [e,(Z0 h zQ).1];unfold Y3 S9;rw [Ae a]
def SA(h:Bn t=true)(hk:¬(nth t (t.length-1)).K=4): apL t=Y3 t/\Ic (Aq t)=icE 0 (Aq t):=by
 have a:¬(Aq t).root.K=4:=by rw [Dm h];exact hk
 unfold apL Y3 S9 Ic;rw [Ac a,AF a];exact ⟨rfl,Bool.true_and _⟩
def AbJ(x:T): (apT x).flat=(icT 0 x).flat++[cN 0]++[cN 5]:=by
 unfold apT;rw [Bf,Bg,D5,Bf,AZ];rfl
def PS(k:Int)(x:T): (T.mk (cN k) [x]).flat=x.flat++[cN k]:=by rw [Bf,D5]
def trC(x:Cp): T×T:=(Aq x.1.2.2,Aq x.2.2.2)
def muC(x:Cp): Nat:=muT (trC x).1+muT (trC x).2
def goC(x:Cp): Prop:=Bn x.1.2.2=true/\Bn x.2.2.2=true
def wgt(Ls:List Cp): Nat:=(Ls.map fun x=>13 ^ muC x).sum
def cv_t{a b:T}(h:(cv a b).2=true): cv a b=(0,true):=by
 have d:∀(f:T->T->Int×Bool) (l:List (T×T)),(J9 f l).2=true->J9 f l=(0,true):=fun f l=>by
  induction l with
  | nil=>intro _;rfl
  | cons p l ih=>
   intro h;simp only [J9] at h ⊢;split at h
   ·rename_i c;rw [Ae c];exact ih h
   ·cases h
 unfold cv at h ⊢;simp only [cvN] at h ⊢;split at h
 ·rename_i c;rw [Ae c]
 ·
  rename_i c;rw [Ac c];unfold cvX at h ⊢;split at h
  ·cases h
  ·
   rename_i j;rw [Ac j];split at h
   ·rename_i g;rw [Ae g]
   ·
    rename_i g;rw [Ac g];split at h
    ·cases h
    ·
     rename_i i;rw [Ac i];split at h
     ·rename_i e;rw [Ae e]
     ·
      rename_i e;rw [Ac e];unfold cvB at h ⊢;split at h
      ·cases h
      ·
       rename_i h6;rw [Ac h6];split at h
       ·cases h
       ·rename_i l k;exact d _ l h
structure CInv (A B:T) (N:Nat) (Ls:List Cp):Prop where
 ok:∀x∈Ls,goC x
 pos:∀i,i<Ls.length->i+12*muC (CK Ls i)<=12*N
 cv:cv A B=J9 cv (Ls.reverse.map trC)
def CInv.start{B:zE}{c:Nat}(f:Bn a=true)(hb:Bn b=true)(hN:muT (Aq a)+muT (Aq b)<=N): CInv (Aq a) (Aq b) N [(((A,c,a):Sl),((B,d,b):Sl))]:=by
 refine ⟨fun x e=>?_,fun i hi=>?_,?_⟩
 ·rw [A7] at e;subst e;exact ⟨f,hb⟩
 ·
  have:i=0:=by simpa using hi
  subst this;show 0+12*(muT (Aq a)+muT (Aq b))<=_;omega
 ·
  show _=J9 Go.Proofs.YtgddkjdhnolahaaGreatDoor.cv [(Aq a,Aq b)];simp only [J9];split
  ·rename_i h;exact cv_t h
  ·
   rename_i h;have:(Go.Proofs.YtgddkjdhnolahaaGreatDoor.cv (Aq a) (Aq b)).2=false:=by simpa using h
   rw [<-this]
def mu2(x:Cp): 2<=muC x:=by
 have:=Jq (trC x).1;have:=Jq (trC x).2;unfold muC;omega
section
variable {A B:T} {Ls:List Cp}
def CInv.bound(h:CInv A B N Ls): Ls.length<=12*N:=by
 rcases Nat.eq_zero_or_pos Ls.length with h0|h0
 ·omega
 ·have a:=h.pos (Ls.length-1) zQ;have:=mu2 (CK Ls (Ls.length-1));omega
def CInv.done(h:CInv A B N Ls)(h0:Ls.length=0): Go.Proofs.YtgddkjdhnolahaaGreatDoor.cv A B=(0,true):=by
 rw [h.cv,Bw h0];rfl
def snocC(h0:0<Ls.length): Ls=Ls.take (Ls.length-1)++[CK Ls (Ls.length-1)]:=by
 have a:CK Ls (Ls.length-1)=Ls[Ls.length-1]:=by simp [CK,show Ls.length-1<Ls.length by omega]
 have:=List.take_add_one (l:=Ls) (i:=Ls.length-1);rw [Bk zQ,<-a,show Ls.length-1+1=Ls.length by omega,CD] at this;exact this
def CInv.last(h:CInv A B N Ls)(h0:0<Ls.length): goC (CK Ls (Ls.length-1))/\muC (CK Ls (Ls.length-1))<=N/\
  (Go.Proofs.YtgddkjdhnolahaaGreatDoor.cv A B=if (Go.Proofs.YtgddkjdhnolahaaGreatDoor.cv (trC (CK Ls (Ls.length-1))).1 (trC (CK Ls (Ls.length-1))).2).2=true then J9 Go.Proofs.YtgddkjdhnolahaaGreatDoor.cv ((Ls.take (Ls.length-1)).reverse.map trC) else ((Go.Proofs.YtgddkjdhnolahaaGreatDoor.cv (trC (CK Ls (Ls.length-1))).1 (trC (CK Ls (Ls.length-1))).2).1,false)):=by
 refine ⟨h.ok _ (RO zQ),by have:=h.pos (Ls.length-1) zQ;omega,?_⟩;have e:=h.cv;rw [snocC h0,EZ,List.reverse_singleton,List.singleton_append,AA,J9] at e;exact e
def CInv.stop(h:CInv A B N Ls)(h0:0<Ls.length)(hc:Go.Proofs.YtgddkjdhnolahaaGreatDoor.cv (trC (CK Ls (Ls.length-1))).1 (trC (CK Ls (Ls.length-1))).2=(e,false)): Go.Proofs.YtgddkjdhnolahaaGreatDoor.cv A B=(e,false):=by
 rw [(h.last h0).2.2,hc];rfl
def Vj(h:i<k)(hk:k<=Ls.length): CK (Ls.take k) i=CK Ls i:=by
 unfold CK;rw [AC,AC,List.getElem?_take_of_lt h]
def CInv.next(h:CInv A B N Ls)(h0:0<Ls.length)(hl:K.length<=12)(hm:∀y∈K,goC y/\muC y+1<=muC (CK Ls (Ls.length-1)))
  (hc:Go.Proofs.YtgddkjdhnolahaaGreatDoor.cv (trC (CK Ls (Ls.length-1))).1 (trC (CK Ls (Ls.length-1))).2=J9 Go.Proofs.YtgddkjdhnolahaaGreatDoor.cv (K.reverse.map trC)):CInv A B N (Ls.take (Ls.length-1)++K)/\wgt (Ls.take (Ls.length-1)++K)<wgt Ls:=by
 have a:(Ls.take (Ls.length-1)).length=Ls.length-1:=by rw [Ak];omega
 refine ⟨⟨fun x b=>?_,fun i hi=>?_,?_⟩,?_⟩
 ·
  rcases Bi.1 b with b|b
  ·exact h.ok x (List.mem_of_mem_take b)
  ·exact (hm x b).1
 ·
  rw [Ab,a] at hi;rcases Nat.lt_or_ge i (Ls.length-1) with c|c
  ·
   have e:CK (Ls.take (Ls.length-1)++K) i=CK Ls i:=by
    rw [<-Vj (Ls:=Ls) (k:=Ls.length-1) c zQ];unfold CK;rw [AC,List.getElem?_append_left zQ,<-AC]
   rw [e];exact h.pos i zQ
  ·
   have f:i-(Ls.length-1)<K.length:=by omega
   have e:CK (Ls.take (Ls.length-1)++K) i=K[i-(Ls.length-1)]:=by
    unfold CK;rw [AC,CZ zQ,a,Bk f];rfl
   have g:=(hm _ (List.getElem_mem f)).2;have o:=h.pos (Ls.length-1) zQ;rw [e];omega
 ·rw [(h.last h0).2.2,hc,EZ,Cq,Rx]
 ·
  have e:wgt Ls=wgt (Ls.take (Ls.length-1))+13 ^ muC (CK Ls (Ls.length-1)):=by
   conv=>lhs;rw [snocC h0]
   simp [wgt]
  have q:wgt (Ls.take (Ls.length-1)++K)=wgt (Ls.take (Ls.length-1))+wgt K:=by simp [wgt]
  have n:∀(K:List Cp) (m:Nat),(∀y∈K,muC y+1<=m)->wgt K<=K.length*13 ^ (m-1):=fun K m hm=>by
   induction K with
   | nil=>simp [wgt]
   | cons y K ih=>
    have c:=ih (fun z j=>hm z (by simp [j]));have g:13 ^ muC y<=13 ^ (m-1):=Nat.pow_le_pow_right zS (by have:=hm y yB;omega);have p:wgt (y::K)=13 ^ muC y+wgt K:=by simp [wgt]
    rw [p,Af,Nat.add_mul];omega
  have c:=n K _ (fun y l=>(hm y l).2);have g:=mu2 (CK Ls (Ls.length-1));obtain ⟨d,hd⟩:∃d,muC (CK Ls (Ls.length-1))=d+1:=⟨muC (CK Ls (Ls.length-1))-1,by omega⟩;rw [e,q];rw [hd,Nat.add_sub_cancel] at c;rw [hd,Nat.pow_succ];have o:K.length*13 ^ d<=12*13 ^ d:=Nat.mul_le_mul_right _ hl;have r:0<13 ^ d:=Nat.pow_pos zS;omega
def CInv.skip(h:CInv A B N Ls)(h0:0<Ls.length)(hc:Go.Proofs.YtgddkjdhnolahaaGreatDoor.cv (trC (CK Ls (Ls.length-1))).1 (trC (CK Ls (Ls.length-1))).2=(0,true)): CInv A B N (Ls.take (Ls.length-1))/\wgt (Ls.take (Ls.length-1))<wgt Ls:=by
 have:=h.next h0 (K:=[]) yB (by intro y a;cases a) (by rw [hc];rfl);rwa [BT] at this
end
section
variable {x:Cp}
def ZI(a:goC x)(h:(nth x.1.2.2 (x.1.2.2.length-1)).K=29\/(nth x.2.2.2 (x.2.2.2.length-1)).K=29): cv (trC x).1 (trC x).2=(0,true):=
 Abz (by rw [show (trC x).1.root=_ from Dm a.1,show (trC x).2.root=_ from Dm a.2];exact h)
def c_eq(a:goC x)(c:¬(nth x.1.2.2 (x.1.2.2.length-1)).K=29)(b:¬(nth x.2.2.2 (x.2.2.2.length-1)).K=29): cv (trC x).1 (trC x).2=cvX cv (br (trC x).1) (br (trC x).2):=
 cv_eq (GV a.1) (GV a.2) (by rw [show (trC x).1.root=_ from Dm a.1,show (trC x).2.root=_ from Dm a.2];exact fun h=>h.elim c b)
def c_e1(a:goC x)(d:¬(nth x.1.2.2 (x.1.2.2.length-1)).K=29)(c:¬(nth x.2.2.2 (x.2.2.2.length-1)).K=29)(b:¬brE x.1.2.2=0): cv (trC x).1 (trC x).2=(brE x.1.2.2,false):=by
 rw [c_eq a d c];unfold cvX;exact Ae b
def Ib(h:Bn t=true): (br (Aq t)).2.root=nth (brL t) ((brL t).length-1):=by
 obtain ⟨b,a,_⟩:=F2 h;rw [<-a];exact Dm b
def c_k1(a:goC x)(d:¬(nth x.1.2.2 (x.1.2.2.length-1)).K=29)(c:¬(nth x.2.2.2 (x.2.2.2.length-1)).K=29)(b:brE x.1.2.2=0)(hk:(nth (brL x.1.2.2) ((brL x.1.2.2).length-1)).K=29): cv (trC x).1 (trC x).2=(0,true):=by
 rw [c_eq a d c];unfold cvX;have e:¬¬(br (trC x).1).1=0:=fun q=>q b;rw [Ac e,Ae (by rw [show (trC x).1=Aq x.1.2.2 from rfl,Ib a.1];exact hk)]
def c_e2(b:goC x)(f:¬(nth x.1.2.2 (x.1.2.2.length-1)).K=29)(d:¬(nth x.2.2.2 (x.2.2.2.length-1)).K=29)(c:brE x.1.2.2=0)(hk:¬(nth (brL x.1.2.2) ((brL x.1.2.2).length-1)).K=29)(a:¬brE x.2.2.2=0): cv (trC x).1 (trC x).2=(brE x.2.2.2,false):=by
 rw [c_eq b f d];unfold cvX;have e:¬¬(br (trC x).1).1=0:=fun q=>q c;rw [Ac e,Ac (by rw [show (trC x).1=Aq x.1.2.2 from rfl,Ib b.1];exact hk)];exact Ae a
def c_k2(a:goC x)(f:¬(nth x.1.2.2 (x.1.2.2.length-1)).K=29)(d:¬(nth x.2.2.2 (x.2.2.2.length-1)).K=29)(c:brE x.1.2.2=0)(hk:¬(nth (brL x.1.2.2) ((brL x.1.2.2).length-1)).K=29)(b:brE x.2.2.2=0)(hk2:(nth (brL x.2.2.2) ((brL x.2.2.2).length-1)).K=29): cv (trC x).1 (trC x).2=(0,true):=by
 rw [c_eq a f d];unfold cvX;have e:¬¬(br (trC x).1).1=0:=fun q=>q c;have g:¬¬(br (trC x).2).1=0:=fun q=>q b;rw [Ac e,Ac (by rw [show (trC x).1=Aq x.1.2.2 from rfl,Ib a.1];exact hk),Ac g,Ae (by rw [show (trC x).2=Aq x.2.2.2 from rfl,Ib a.2];exact hk2)]
structure CB (x:Cp):Prop where
 ok:goC x
 n1:¬(nth x.1.2.2 (x.1.2.2.length-1)).K=29
 n2:¬(nth x.2.2.2 (x.2.2.2.length-1)).K=29
 e1:brE x.1.2.2=0
 e2:brE x.2.2.2=0
 k1:¬(nth (brL x.1.2.2) ((brL x.1.2.2).length-1)).K=29
 k2:¬(nth (brL x.2.2.2) ((brL x.2.2.2).length-1)).K=29
def CB.cv(h:CB x): Go.Proofs.YtgddkjdhnolahaaGreatDoor.cv (trC x).1 (trC x).2=cvB Go.Proofs.YtgddkjdhnolahaaGreatDoor.cv (Aq (brL x.1.2.2)) (Aq (brL x.2.2.2)):=by
 rw [c_eq h.ok h.n1 h.n2];unfold cvX;have e:¬¬(br (trC x).1).1=0:=fun q=>q h.e1;have a:¬¬(br (trC x).2).1=0:=fun q=>q h.e2;rw [Ac e,Ac (by rw [show (trC x).1=Aq x.1.2.2 from rfl,Ib h.ok.1];exact h.k1),Ac a,Ac (by rw [show (trC x).2=Aq x.2.2.2 from rfl,Ib h.ok.2];exact h.k2),(F2 h.ok.1).2.1,(F2 h.ok.2).2.1];rfl
def CB.step(h:CB x){l:List (T×T)}(c:Ku (Aq (brL x.1.2.2)) (Aq (brL x.2.2.2))=false)(hl:Id (Aq (brL x.1.2.2)) (Aq (brL x.2.2.2))=some l)(b:K.reverse.map trC=l)(hm:∀y∈K,goC y):
  (∀y∈K,goC y/\muC y+1<=muC x)/\Go.Proofs.YtgddkjdhnolahaaGreatDoor.cv (trC x).1 (trC x).2=J9 Go.Proofs.YtgddkjdhnolahaaGreatDoor.cv (K.reverse.map trC):=by
 obtain ⟨e,n,m⟩:=F2 h.ok.1;obtain ⟨d,k,j⟩:=F2 h.ok.2;refine ⟨fun y a=>⟨hm y a,?_⟩,?_⟩
 ·have i:=Ql (GV e) (GV d) c hl (trC y) (by rw [<-b];exact List.mem_map_of_mem (List.mem_reverse.2 a));have g:muC y=muT (trC y).1+muT (trC y).2:=rfl;have f:muC x=muT (Aq x.1.2.2)+muT (Aq x.2.2.2):=rfl;omega
 ·rw [h.cv];unfold cvB;rw [Ac (by rw [c];decide),hl,b]
def CB.err(h:CB x)(a:Ku (Aq (brL x.1.2.2)) (Aq (brL x.2.2.2))=true): Go.Proofs.YtgddkjdhnolahaaGreatDoor.cv (trC x).1 (trC x).2=(2,false):=by
 rw [h.cv];unfold cvB;exact Ae a
def CB.none(h:CB x)(a:Ku (Aq (brL x.1.2.2)) (Aq (brL x.2.2.2))=false)(hl:Id (Aq (brL x.1.2.2)) (Aq (brL x.2.2.2))=none): Go.Proofs.YtgddkjdhnolahaaGreatDoor.cv (trC x).1 (trC x).2=(0,false):=by
 rw [h.cv];unfold cvB;rw [Ac (by rw [a];decide),hl]
end
section
def Aao(c:Bn a=true)(hb:Bn b=true)(e:¬(nth a (a.length-1)).K=4)(d:¬(nth b (b.length-1)).K=4): Ku (Aq a) (Aq b)=false:=by
 unfold Ku;rw [Dm c,Dm hb,As (fun h=>h.elim e d)];rfl
def YN(c:Bn a=true)(hb:Bn b=true)(h:(nth a (a.length-1)).K=4\/(nth b (b.length-1)).K=4): Ku (Aq a) (Aq b)=(Ic (Aq a)||Ic (Aq b))/\Id (Aq a) (Aq b)=some [(S9 (Aq a),S9 (Aq b))]:=by
 unfold Ku Id;rw [Dm c,Dm hb,AF h,Ae h];exact ⟨Bool.true_and _,rfl⟩
def Aan(c:Bn a=true)(hb:Bn b=true)(e:¬(nth a (a.length-1)).K=4)(d:¬(nth b (b.length-1)).K=4)(h:(nth a (a.length-1)).K=7\/(nth b (b.length-1)).K=7): Id (Aq a) (Aq b)=some [(fsT (Aq a),fsT (Aq b)),(snT (Aq a),snT (Aq b))]:=by
 unfold Id;rw [Dm c,Dm hb,Ac (fun h=>h.elim e d),Ae h]
def YM(c:Bn a=true)(hb:Bn b=true)(g:¬(nth a (a.length-1)).K=4)(f:¬(nth b (b.length-1)).K=4)(e:¬(nth a (a.length-1)).K=7)(d:¬(nth b (b.length-1)).K=7):
  Id (Aq a) (Aq b)=if nth a (a.length-1)=nth b (b.length-1) then some (H5 (Aq a) (Aq b) 0) else none:=by
 unfold Id;rw [Dm c,Dm hb,Ac (fun h=>h.elim g f),Ac (fun h=>h.elim e d)]
def QW{P:zN}(b:Bn a=true)(hk:(nth a (a.length-1)).K=7)(d:AK P=ptL a): P.length=3/\Aq (At P 1).2.2=fsT (Aq a)/\Aq (At P 2).2.2=snT (Aq a)/\Bn (At P 1).2.2=true/\Bn (At P 2).2.2=true:=by
 have c:(Aq a).root.K=7:=by rw [Dm b];exact hk
 have j:=WN (GV b) c;obtain ⟨h,g,h6⟩:=LB (i:=1) b d zQ;obtain ⟨_,f,e⟩:=LB (i:=2) b d zQ;unfold fsT snT;rw [Ae c,Ae c];exact ⟨by omega,g,f,h6,e⟩
def VF(b:Bn a=true)(hk:¬(nth a (a.length-1)).K=7)(g:u=a++[cN 8])(hv:v=a++[cN 9]): Aq u=fsT (Aq a)/\Aq v=snT (Aq a)/\Bn u=true/\Bn v=true:=by
 have c:¬(Aq a).root.K=7:=by rw [Dm b];exact hk
 have d:=(BR b).2;have f:=RK (k:=8) (.inl rfl) (GV b);have e:=RK (k:=9) (.inr rfl) (GV b);have i:u=(T.mk (cN 8) [Aq a]).flat:=by rw [PS,d];exact g
 have h:v=(T.mk (cN 9) [Aq a]).flat:=by rw [PS,d];exact hv
 unfold fsT snT;rw [Ac c,Ac c,i,h];exact ⟨Da f,Da e,ET f,ET e⟩
def S8(c:Bn a=true)(b:Ic (Aq a)=false): Aq (Y3 a)=S9 (Aq a)/\Bn (Y3 a)=true:=by
 have h:=WG (GV c) b;exact ⟨Da h,ET h⟩
def XT{x y:T}: H5 x y x.args.length=[]:=by
 unfold H5;rw [Nat.sub_self];rfl
def Pr{x y:T}(h:i<x.args.length): H5 x y i=if JM x.root.K i=true then H5 x y (i+1) else (kid x i,kid y i)::H5 x y (i+1):=by
 unfold H5;rw [show x.args.length-i=(x.args.length-(i+1))+1 by omega,List.range'_succ,List.filter_cons];by_cases hi:JM x.root.K i=true
 ·rw [Ac (by simp [hi]),Ae hi]
 ·rw [Ae (by simp [hi]),Ac hi,AA]
end
end
section
open Go Go.RowKit
def swpL:zO->Nat->zO
 | a::b::l,0=>b::a::l
 | a::l,i+1=>a::swpL l i
 | l,_=>l
def Ru:∀(l:zO) (i:Nat),(swpL l i).Perm l
 | [],i=>by cases i<;>exact .refl _
 | [a],0=>.refl _
 | [a],i+1=>by cases i<;>exact .refl _
 | a::b::l,0=>.swap ..
 | a::b::l,i+1=>.cons _ (Ru (b::l) i)
def St.swp{m:zO}(h:St w0 Z M w m ds)(i:Nat): St w0 Z M w (swpL m i) ds:=h.perm (Ru m i).symm
def St.box_dataX{m:zO}(h:St w0 Z (·=g0) w m ds){g:Nat}{t:zI}(hi:m[i]?=some (.box g t cs))(hj:m[j]?=some (.box g0 t' cs'))(d:i≠j):
  St w0 Z (·=g0) w (m.eraseIdx i) ds/\(CC g cs).φ w (imm Z w0 (m.eraseIdx i) w):=by
 refine ⟨h.drop _ (List.eraseIdx_sublist m i),⟨(h.own _ (A0 hi) g rfl).1,fun hlt=>?_,fun r b e=>?_⟩,FL (h.res hi)⟩
 ·
  rcases (h.own _ (A0 hi) g rfl).2 with k|k
  ·have f:g<w0.heap.size:=hlt;omega
  ·have hb:g=g0:=k;subst hb;exact absurd rfl (Cv h.apart d hi hj rfl)
 obtain ⟨j',a⟩:=List.mem_iff_getElem?.1 b;rw [List.getElem?_eraseIdx] at a;by_cases c:j'<i
 ·rw [Ae c] at a;exact Cv h.apart (by omega:j'≠i) a hi e rfl
 ·rw [Ac c] at a;exact Cv h.apart (by omega:j'+1≠i) a hi e rfl
end
section
open Go Go.RowKit
variable {B:zE}{a e:Nat}{m:zO}{t:zI}{u:Int}
def M2(A:zE)(g:Nat): Nat->Prop:=fun k=>k=g\/rM A k
section
variable {n n' g:Nat} {xs':zF}
def PW(hb:(Res.box g t cs).holds w0)(hr:(Res.row A n cap e size xs).holds w0)(b:∀k,rM A k->k≠g)(h:∀d∈ds,d.φ w0 (imm Z w0 [.box g t cs,.row A n cap e size xs] w0)): St w0 Z (M2 A g) w0 [.box g t cs,.row A n cap e size xs] ds:=by
 refine ⟨rfl,rfl,rfl,Ag _,fun _ _ _=>rfl,?_,?_,?_,h⟩
 ·
  intro r a;simp only [Aj,Ah,or_false] at a;rcases a with rfl|rfl
  ·exact hb
  ·exact hr
 ·
  intro r a k hk;simp only [Aj,Ah,or_false] at a;rcases a with rfl|rfl
  ·
   have:g=k:=by simpa [Res.blk] using hk
   subst this;exact ⟨(AO.1 hb).1,.inr (.inl rfl)⟩
  ·exact ⟨R0 hr hk,.inr (.inr hk)⟩
 ·
  refine .cons (fun s hs k f c=>?_) (.cons (fun _ h=>by cases h) .nil);rw [A7] at hs;subst hs;have:g=k:=by simpa [Res.blk] using f
  subst this;exact b _ c rfl
def ML(b:∀k,Z k->k<w0.heap.size)(hg:¬Z g)(c:∀k,rM A k->¬Z k)(hk:Z k): imm Z w0 [.box g t cs,.row A n cap e size xs] w0 k/\w0.heap[k]?=w0.heap[k]?:=by
 refine ⟨⟨b k hk,fun _=>hk,fun r a h=>?_⟩,rfl⟩;simp only [Aj,Ah,or_false] at a;rcases a with rfl|rfl
 ·
  have:g=k:=by simpa [Res.blk] using h
  subst this;exact hg hk
 ·exact c k h hk
def St.callX(h:St w0 Z M w m ds)(hf:Fr Mc w w')(i:∀k,Mc k->∃r∈m,r.blk=some k)(hb:m'.map Res.blk=m.map Res.blk)(g:∀r∈m',r.holds w'): St w0 Z M w' m' ds:=by
 have d:∀r∈m',∃c∈m,c.blk=r.blk:=fun r f=>by
  have a:r.blk∈m.map Res.blk:=by rw [<-hb];exact List.mem_map_of_mem f
  obtain ⟨c,b,j⟩:=Do.1 a;exact ⟨c,b,j⟩
 refine h.step hf.os hf.tape hf.output hf.size (fun k hk hn=>hf.old k hk (fun hc=>?_)) g (fun r f k hk=>?_) ?_
 ·obtain ⟨r,a,b⟩:=i k hc;exact hn r a b
 ·obtain ⟨c,a,b⟩:=d r f;rw [hk] at b;exact ⟨B4 (h.own c a k b).1 hf.size,.inl ⟨c,a,b⟩⟩
 ·
  have a:=h.apart;have e:∀l:zO,(l.Pairwise fun r s=>∀k,r.blk=some k->s.blk≠some k)↔(l.map Res.blk).Pairwise fun r s=>∀k,r=some k->s≠some k:=fun l=>by rw [List.pairwise_map]
  rw [e,hb,<-e];exact a
def Ox(h:St w0 Z M w [.box g t cs,.row A n cap e size xs] ds)(hf:Fr (M2 A g) w w')(hb:(Res.box g t cs').holds w')(hr:(Res.row A n' cap e size xs').holds w'): St w0 Z M w' [.box g t cs',.row A n' cap e size xs'] ds:=by
 refine h.callX hf (fun k hk=>?_) rfl (fun r a=>?_)
 ·
  rcases hk with rfl|hk
  ·exact ⟨_,List.mem_cons_self ..,rfl⟩
  ·exact ⟨_,List.mem_cons_of_mem _ (List.mem_cons_self ..),hk⟩
 ·
  simp only [Aj,Ah,or_false] at a;rcases a with rfl|rfl
  ·exact hb
  ·exact hr
def LT(h:St w0 Z M w [.box g t cs,.row A n cap e size xs] ds):∀k,rM A k->k≠g:=fun k hk hg=>by
 subst hg;exact Cv h.apart (i:=0) (j:=1) zS rfl rfl rfl hk
end
def Kq(h:St w0 Z (·=g0) w m ds){g:Nat}(hi:m[i]?=some (.box g t cs))(hj:m[j]?=some (.box g0 t' cs'))(d:i≠j):
  St w0 Z (·=g0) w (m.eraseIdx i) ds/\(CC g cs).φ w (imm Z w0 (m.eraseIdx i) w):=by
 refine ⟨h.drop _ (List.eraseIdx_sublist m i),⟨(h.own _ (A0 hi) g rfl).1,fun hlt=>?_,fun r b e=>?_⟩,FL (h.res hi)⟩
 ·
  rcases (h.own _ (A0 hi) g rfl).2 with k|k
  ·have f:g<w0.heap.size:=hlt;omega
  ·have hb:g=g0:=k;subst hb;exact absurd rfl (Cv h.apart d hi hj rfl)
 obtain ⟨j',a⟩:=List.mem_iff_getElem?.1 b;rw [List.getElem?_eraseIdx] at a;by_cases c:j'<i
 ·rw [Ae c] at a;exact Cv h.apart (by omega:j'≠i) a hi e rfl
 ·rw [Ac c] at a;exact Cv h.apart (by omega:j'+1≠i) a hi e rfl
def OG{u:zM}(h:a<u.length): u.set a (nth u a)=u:=by
 have:nth u a=u[a]:=by simp [nth,h]
 rw [this];exact List.set_getElem_self h
def Abs{u:zM}(h:a<u.length)(hn:¬((nth u a).K=0/\un<=(nth u a).N)): u.set a (icN un (nth u a))=u:=by
 unfold icN;rw [Ac hn,OG h]
def Sj{u:zM}(c:(nth u a).K=0)(b:un<=(nth u a).N): u.set a (icN un (nth u a))=u.set a ⟨(nth u a).K,(nth u a).N+1,(nth u a).M,(nth u a).S⟩:=by
 unfold icN;rw [Ae ⟨c,b⟩]
section
variable {Ap Bp:zM} {x:T}
abbrev wkU(x:T)(un:Int): zK:=(binds x.root).map (un+·)
def wkL(Ap Bp:zM)(x:T)(un:Int)(i:Nat): zM:=Ap++(Az (x.args.take i)++(Az (K0 (x.args.drop i) ((wkU x un).drop i))++icN un x.root::Bp))
def wkE(x:T)(un:Int)(i:Nat): Bool:=decide (x.root.K=0/\un<=x.root.N/\99<=x.root.N)||Z5 (x.args.drop i) ((wkU x un).drop i)
def Gh(x:T): x.flat=Az x.args++[x.root]:=by obtain ⟨n,l⟩:=x;exact Bf n l
def XY(a:zK): K0 [] a=[]:=by simp only [K0]
def XZ(a:zK): Z5 [] a=false:=by simp only [Z5]
def wk_len(h:i=x.args.length): (Ap++Az (x.args.take i)).length+1=Ap.length+x.flat.length:=by
 subst h;rw [CD,Gh x];simp only [Ab,AD];omega
def Oz(b:e+1=Ap.length+x.flat.length): nth (Ap++x.flat++Bp) e=x.root/\e<(Ap++x.flat++Bp).length:=by
 have a:=congrArg List.length (Gh x);simp only [Ab,AD] at a;refine ⟨?_,by simp only [Ab];omega⟩;unfold nth;rw [Gh x,show Ap++(Az x.args++[x.root])++Bp=(Ap++Az x.args)++(x.root::Bp) by simp,AC,CZ (by rw [Ab];omega),show e-(Ap++Az x.args).length=0 by rw [Ab];omega];rfl
def MY(a:e+1=Ap.length+x.flat.length): (Ap++x.flat++Bp).set e (icN un (nth (Ap++x.flat++Bp) e))=wkL Ap Bp x un x.args.length:=by
 rw [(Oz a).1];have b:=congrArg List.length (Gh x);simp only [Ab,AD] at b;unfold wkL;rw [CD,List.drop_length,XY,AZ,List.nil_append,Gh x,show Ap++(Az x.args++[x.root])++Bp=(Ap++Az x.args)++(x.root::Bp) by simp,List.set_append_right _ _ (by rw [Ab];omega),show e-(Ap++Az x.args).length=0 by rw [Ab];omega,List.set_cons_zero,AW]
def ZW(a:e+1=Ap.length+x.flat.length): nth (wkL Ap Bp x un x.args.length) e=icN un x.root:=by
 rw [<-MY a,(Oz a).1,H1 (Oz a).2]
def Ty{n:Nd}(h:right n=true): Bs (icN u n)=binds n:=by
 unfold icN;split
 ·
  rename_i hc;have hb:∀m:Nd,m.K=0->binds m=[]:=fun m hm=>by simp [binds,hm,shp]
  rw [hb n hc.1];unfold Bs;split
  ·exact hb _ hc.1
  ·rfl
 ·exact HC h
def wk_n(a:x.wf=true): (binds x.root).length=x.args.length:=(Fb a).2.1
def TT(hi:i<x.args.length): wkL Ap Bp x un (i+1)=(Ap++Az (x.args.take i))++(kid x i).flat++(Az (K0 (x.args.drop (i+1)) ((wkU x un).drop (i+1)))++icN un x.root::Bp):=by
 unfold wkL;have e:x.args.take (i+1)=x.args.take i++[kid x i]:=by
  rw [List.take_add_one,Bk hi];simp [kid,hi]
 rw [e,BN,D5];simp only [AW]
def YA(hi:i<x.args.length): (Ap++Az (x.args.take (i+1))).length=(Ap++Az (x.args.take i)).length+(kid x i).flat.length:=by
 have e:x.args.take (i+1)=x.args.take i++[kid x i]:=by
  rw [List.take_add_one,Bk hi];simp [kid,hi]
 rw [e,BN,D5];simp only [Ab];omega
def TS(a:x.wf=true)(hi:i<x.args.length): x.args.drop i=kid x i::x.args.drop (i+1)/\(wkU x un).drop i=(un+C7 (binds x.root) i)::(wkU x un).drop (i+1):=by
 have hb:=wk_n a;have hl:(wkU x un).length=x.args.length:=by simp [wkU,hb]
 refine ⟨?_,?_⟩
 ·rw [List.drop_eq_getElem_cons hi];simp [kid,hi]
 ·rw [List.drop_eq_getElem_cons zQ];simp [wkU,C7,hb,hi]
def Xk(a:x.wf=true)(hi:i<x.args.length): (Ap++Az (x.args.take i))++(icT (un+C7 (binds x.root) i) (kid x i)).flat++(Az (K0 (x.args.drop (i+1)) ((wkU x un).drop (i+1)))++icN un x.root::Bp)=wkL Ap Bp x un i:=by
 obtain ⟨c,b⟩:=TS (un:=un) a hi;unfold wkL;rw [c,b];simp only [K0,List.headD_cons,List.tail_cons,Bg,AW]
def Xl(a:x.wf=true)(hi:i<x.args.length): (if icE (un+C7 (binds x.root) i) (kid x i)=true then (2:Int) else if wkE x un (i+1)=true then 2 else ce)=if wkE x un i=true then 2 else ce:=by
 obtain ⟨c,b⟩:=TS (un:=un) a hi;have e:wkE x un i=(icE (un+C7 (binds x.root) i) (kid x i)||wkE x un (i+1)):=by
  unfold wkE;rw [c,b];simp only [Z5,List.headD_cons,List.tail_cons];cases decide (x.root.K=0/\un<=x.root.N/\99<=x.root.N)<;>cases icE (un+C7 (binds x.root) i) (kid x i)<;>simp
 rw [e];cases icE (un+C7 (binds x.root) i) (kid x i)<;>simp
def TU: (if x.root.K=0/\un<=x.root.N/\99<=x.root.N then (2:Int) else ce)=if wkE x un x.args.length=true then 2 else ce:=by
 unfold wkE;rw [List.drop_length,XZ,Bool.or_false];simp only [A9]
def ZZ:wkE x un 0=icE un x:=by
 obtain ⟨n,l⟩:=x;unfold wkE;rw [icE];rfl
def ZY:wkL Ap Bp x un 0=Ap++(icT un x).flat++Bp:=by
 obtain ⟨n,l⟩:=x;simp only [wkL,List.take_zero,List.drop_zero,AZ,List.nil_append,icT,Bf,T.root,T.args,wkU,AW,List.cons_append]
def AbI{t:zM}{c:Nat}: (AK [((A,c,[]++(icT 0 (Aq t)).flat++[]):Sl),((B,d,[cN 0]):Sl)]).flatten++[cN 5]=apL t:=by
 unfold apL;rw [AbJ];simp [AK]
mutual
def QT:∀(t:T) (u:Int),(icT u t).flat.length=t.flat.length
 | .mk n l,u=>by simp only [icT,Bf,Ab,AD,NW l]
def NW:∀(l:List T) (us:zK),(Az (K0 l us)).length=(Az l).length
 | [],_=>by simp only [K0]
 | t::l,us=>by simp only [K0,Bg,Ab,QT t,NW l]
end
def ZX:(wkL Ap Bp x un i).length=(Ap++x.flat++Bp).length:=by
 have c:=congrArg List.length (Gh x);have b:Az x.args=Az (x.args.take i)++Az (x.args.drop i):=by rw [<-BN,List.take_append_drop]
 have a:=congrArg List.length b;simp only [wkL,Ab,Af,Ar,NW] at c a ⊢;omega
def ap_len{t:zM}{c:Nat}(hb:Bn t=true): (AK [((A,c,[]++(icT 0 (Aq t)).flat++[]):Sl),((B,d,[cN 0]):Sl)]).flatten.length=t.length+1:=by
 have a:=QT (Aq t) 0;rw [(BR hb).2] at a;simp [AK,a]
def wk_le:(Ap++Az (x.args.take i)).length<=(Ap++x.flat++Bp).length:=by
 have c:=congrArg List.length (Gh x);have b:Az x.args=Az (x.args.take i)++Az (x.args.drop i):=by rw [<-BN,List.take_append_drop]
 have a:=congrArg List.length b;simp only [Ab,AD] at c a ⊢;omega
def Qt{n:Nd}(h:right n=true): (icN u n).S.size<1000000:=by
 have:=R1 h;unfold icN;split<;>exact this
def XU(hi:i<x.args.length): (kid x i).flat.length+1<=x.flat.length:=by
 have d:=congrArg List.length (Gh x);have c:=YA (Ap:=[]) hi;have b:Az x.args=Az (x.args.take (i+1))++Az (x.args.drop (i+1)):=by rw [<-BN,List.take_append_drop]
 have a:=congrArg List.length b;simp only [List.nil_append,Ab,AD] at d c a;omega
end
end
section
open Go.RowKit Go.MapKept
def Sw(b:Nat)(es:List MapEntry)(c:Nat): Dat:=⟨fun w I=>I b/\w.heap[b]?=some (.map es.toArray c),fun _ _ _ _ _ h hk=>⟨(hk b h.1).1,(hk b h.1).2.trans h.2⟩⟩
section
variable {Next:zC} {a:Act} {l:zD} {t:zI} {es:List MapEntry} {c b:Nat} {z:Int} {u:Value} {x y m:zJ}
def Vx(hs:SteV P X Next o a w)(e:Reg a N l)(hd:o.dst=some d)(c:o.op=.makeMap t none)(b:d<N)
  (k:∀a',Reg a' N ((d,.map (some w.heap.size))::l)->Next a' (w.alloc (.map ([]:List MapEntry).toArray 0))):X:=by
 refine hs.val (.map (some w.heap.size)) (w.alloc (.map #[] 0)) ?_ (by rw [hd];exact k _ (e.put b _));unfold execOp;rw [c];simp [Instr.makeMap,AB]
def Xw(h:Array Obj)(o a:Obj): (h.push o).setIfInBounds h.size a=h.push a:=by
 apply Array.ext';simp [List.set_append]
def HT(hs:Ste P X Next o a (w.alloc (.map es.toArray c)))(d:Reg a N l)(hd:o.dst=none)(i:o.op=.insert t m x y)(hm:ev l m=some (.map (some w.heap.size)))(g:ev l x=some (.int .i64 z))(f:ev l y=some u)
  (h:P.underlying t=some (.map kt et)) (b:P.underlying kt=some (.int .i64)) (hf:Instr.findNow (.int .i64) (.int .i64 z) es 0=some none)
  (k:∀a',Reg a' N l->Next a' (w.alloc (.map (es++[(⟨.int .i64 z,u,c⟩:MapEntry)]).toArray (c+1)))):X:=by
 have hb:(w.alloc (.map es.toArray c)).heap[w.heap.size]?=some (.map es.toArray c):=(heap_alloc w _).1;have hk:IsKey (.int .i64) (.int .i64 z):=rfl;refine hs.skip (w.alloc (.map (es++[(⟨.int .i64 z,u,c⟩:MapEntry)]).toArray (c+1))) ?_ (by rw [hd];exact k _ (d.put_none _));unfold execOp;rw [i];simp only [d.ev hm,d.ev g,d.ev f,Instr.mapUpdate,AB,run_underlying h,Ay,Go.MapKept.run_getObj_map hb,run_checkKey b hk,run_findKey b hf,run_setObj_map _ hb];have e:(w.alloc (.map es.toArray c)).heap.setIfInBounds w.heap.size (.map (es.toArray.push ⟨.int .i64 z,u,c⟩) (c+1))=(w.alloc (.map (es++[(⟨.int .i64 z,u,c⟩:MapEntry)]).toArray (c+1))).heap:=by
  rw [<-List.push_toArray];exact Xw _ _ _
 rw [e];rfl
def HS(hs:SteV P X Next o a w)(g:Reg a N l)(hd:o.dst=some d)(n:o.op=.lookup t x y false)(j:ev l x=some (.map (some b)))(h:ev l y=some (.int .i64 z))(hb:w.heap[b]?=some (.map es.toArray c))
  (m:P.underlying t=some (.map kt et)) (e:P.underlying kt=some (.int .i64)) (hf:Instr.findNow (.int .i64) (.int .i64 z) es 0=some (some (i,u))) (f:d<N) (k:∀a',Reg a' N ((d,u)::l)->Next a' w):X:=by
 have hk:IsKey (.int .i64) (.int .i64 z):=rfl;refine hs.val u w ?_ (by rw [hd];exact k _ (g.put f _));unfold execOp;rw [n];simp [g.ev j,g.ev h,Instr.lookup,AB,run_underlying m,Ay,Go.MapKept.run_getObj_map hb,run_checkKey e hk,run_findKey e hf]
def Vy(hs:SteV P X Next o a w)(i:Reg a N l)(hd:o.dst=some d)(p:o.op=.lookup t x y false)(m:ev l x=some (.map (some b)))(j:ev l y=some (.int .i64 z))(hb:w.heap[b]?=some (.map es.toArray c))
  (n:P.underlying t=some (.map kt et)) (e:P.underlying kt=some (.int .i64)) (g:(P.info? et).map (·.zero)=some (some vz)) (hf:Instr.findNow (.int .i64) (.int .i64 z) es 0=some none) (h:d<N) (k:∀a',Reg a' N ((d,vz)::l)->Next a' w):X:=by
 have hk:IsKey (.int .i64) (.int .i64 z):=rfl;have f:∀w:World,(zeroValue et).run P w=.ok vz w:=fun w=>by
  cases hq:P.info? et with
  | none=>simp [hq] at g
  | some inf=>
   simp only [hq,C2,Cm] at g;simp [zeroValue,typeInfo,AB,hq,g]
 refine hs.val vz w ?_ (by rw [hd];exact k _ (i.put h _));unfold execOp;rw [p];simp [i.ev m,i.ev j,Instr.lookup,AB,run_underlying n,Ay,Go.MapKept.run_getObj_map hb,run_checkKey e hk,run_findKey e hf,f]
def Wi{f:FuncId}{fs:Array Value}{ps rs:Array zI}{a:Bool}(b:P.underlying t=some (.func ps rs a))(w:zH): (Op.equal t (.func (.func f) fs #[]) .nilFunc).run P w=.ok false w:=by
 unfold Op.equal Op.maxDepth Op.equalIn;simp [AB,run_underlying b,Ay]
def HM{f:FuncId}{fs:Array Value}{ps rs:Array zI}{e:Bool}(hs:SteV P X Next o a w)(c:Reg a N l)(hd:o.dst=some d)(j:o.op=.binOp .eql t x y t2)(h:ev l x=some (.func (.func f) fs #[]))(g:ev l y=some .nilFunc)
  (i:P.underlying t=some (.func ps rs e)) (b:d<N) (k:∀a',Reg a' N ((d,.bool false)::l)->Next a' w):X:=by
 refine hs.val (.bool false) w ?_ (by rw [hd];exact k _ (c.put b _));unfold execOp;rw [j];have n:(eqGuard .eql t x y (.func (.func f) fs #[]) .nilFunc).run P w=.ok () w:=rfl;have m:binOp .eql t (.func (.func f) fs #[]) .nilFunc=(do pure (.bool (<-Op.equal t (.func (.func f) fs #[]) .nilFunc))):=rfl;simp only [c.ev h,c.ev g,AB,n,Ay,m,Wi i,Ba]
def AaW(w:zH): Fr Be w (w.alloc (.map es.toArray c))/\(Sw w.heap.size es c).φ (w.alloc (.map es.toArray c)) (nxt Z w (w.alloc (.map es.toArray c))):=by
 have a:(w.alloc (.map es.toArray c)).heap.size=w.heap.size+1:=by show (w.heap.push _).size=_;simp
 refine ⟨⟨rfl,rfl,rfl,by omega,fun k hk _=>(heap_alloc w _).2 k hk⟩,⟨by show w.heap.size<_;omega,fun h=>absurd h zQ⟩,(heap_alloc w _).1⟩
end
end
section
open Go Go.RowKit Go.MapKept
def wA(w:zH)(os:List Obj): World:={ w with heap:=w.heap++os.toArray }
def wA_nil(w:zH): wA w []=w:=by simp [wA]
def Xo(w:zH)(os:List Obj)(o:Obj): (wA w os).alloc o=wA w (os++[o]):=by
 unfold wA World.alloc;congr 1;apply Array.ext';simp
def Qd(w:zH)(os:List Obj): (wA w os).heap.size=w.heap.size+os.length:=by simp [wA]
def wA_at(w:zH)(os:List Obj)(j:Nat): (wA w os).heap[w.heap.size+j]?=os[j]?:=by
 simp only [wA,Array.getElem?_append];rw [Ac zQ,Nat.add_sub_cancel_left];simp
def wA_old(w:zH)(os:List Obj)(h:k<w.heap.size): (wA w os).heap[k]?=w.heap[k]?:=by
 simp [wA,Array.getElem?_append,h]
def wA_set(w:zH)(os:List Obj)(j:Nat)(o:Obj): { wA w os with heap:=(wA w os).heap.setIfInBounds (w.heap.size+j) o }=wA w (os.set j o):=by
 have e:(wA w os).heap.setIfInBounds (w.heap.size+j) o=(wA w (os.set j o)).heap:=by
  apply Array.ext';simp [wA,List.set_append_right]
 rw [e];rfl
section
variable {Next:zC} {a:Act} {l:zD} {t:zI} {es:List MapEntry} {c b:Nat} {z:Int} {u:Value} {x y m:zJ}
def G9(hs:SteV P X Next o a (wA w os))(e:Reg a N l)(hd:o.dst=some d)(c:o.op=.makeMap t none)(b:d<N)
  (k:∀a',Reg a' N ((d,.map (some (w.heap.size+os.length)))::l)->Next a' (wA w (os++[.map ([]:List MapEntry).toArray 0]))):X:=by
 rw [<-Xo] at k;rw [<-Qd] at k;refine hs.val (.map (some (wA w os).heap.size)) ((wA w os).alloc (.map #[] 0)) ?_ (by rw [hd];exact k _ (e.put b _));unfold execOp;rw [c];simp [Instr.makeMap,AB]
def Ij(hs:Ste P X Next o a (wA w os))(d:Reg a N l)(hd:o.dst=none)(h:o.op=.insert t m x y)(hm:ev l m=some (.map (some (w.heap.size+j))))(f:ev l x=some (.int .i64 z))(e:ev l y=some u)
  (hj:os[j]?=some (.map es.toArray c)) (g:P.underlying t=some (.map kt et)) (b:P.underlying kt=some (.int .i64)) (hf:Instr.findNow (.int .i64) (.int .i64 z) es 0=some none)
  (k:∀a',Reg a' N l->Next a' (wA w (os.set j (.map (es++[(⟨.int .i64 z,u,c⟩:MapEntry)]).toArray (c+1))))):X:=by
 have hb:(wA w os).heap[w.heap.size+j]?=some (.map es.toArray c):=(wA_at w os j).trans hj;have hk:IsKey (.int .i64) (.int .i64 z):=rfl;rw [<-wA_set] at k;refine hs.skip _ ?_ (by rw [hd];exact k _ (d.put_none _));unfold execOp;rw [h];simp only [d.ev hm,d.ev f,d.ev e,Instr.mapUpdate,AB,run_underlying g,Ay,Go.MapKept.run_getObj_map hb,run_checkKey b hk,run_findKey b hf,run_setObj_map _ hb];rw [<-List.push_toArray];rfl
def Rl(a:(P.info? et).map (·.zero)=some (some z0))(w:zH): (zeroValue et).run P w=.ok z0 w:=by
 cases hq:P.info? et with
 | none=>simp [hq] at a
 | some inf=>
  have:inf.zero=some z0:=by simpa [hq] using a
  simp [zeroValue,typeInfo,hq,this]
def lkIv(z:Value): Option (Nat×Value)->Value
 | some (_,v)=>v
 | none=>z
def MH{r:Option (Nat×Value)}(e:Reg a N l)(j:o.op=.lookup t x y false)(g:ev l x=some (.map (some b)))(f:ev l y=some (.int .i64 z))(hb:w.heap[b]?=some (.map es.toArray c))
  (h:P.underlying t=some (.map kt et)) (d:P.underlying kt=some (.int .i64)) (hf:Instr.findNow (.int .i64) (.int .i64 z) es 0=some r) (i:(P.info? et).map (·.zero)=some (some zv)):
  (execOp a.eval o).run P w=.ok (.value (lkIv zv r)) w:=by
 have hk:IsKey (.int .i64) (.int .i64 z):=rfl;unfold execOp;rw [j];cases r with
 | none=>simp [lkIv,e.ev g,e.ev f,Instr.lookup,AB,run_underlying h,Ay,Go.MapKept.run_getObj_map hb,run_checkKey d hk,run_findKey d hf,Rl i]
 | some p=>simp [lkIv,e.ev g,e.ev f,Instr.lookup,AB,run_underlying h,Ay,Go.MapKept.run_getObj_map hb,run_checkKey d hk,run_findKey d hf]
def lk_nil(c:Reg a N l)(h:o.op=.lookup t x y false)(f:ev l x=some (.map none))(e:ev l y=some (.int .i64 z))
  (g:P.underlying t=some (.map kt et)) (b:P.underlying kt=some (.int .i64)) (d:(P.info? et).map (·.zero)=some (some zv)):
  (execOp a.eval o).run P w=.ok (.value zv) w:=by
 have hk:IsKey (.int .i64) (.int .i64 z):=rfl;have i:Instr.findNow (.int .i64) (.int .i64 z) [] 0=some none:=rfl;unfold execOp;rw [h];simp [c.ev f,c.ev e,Instr.lookup,AB,run_underlying g,Ay,run_checkKey b hk,run_findKey b i,Rl d]
abbrev IQ:=Nat×Nat×Nat×Nat
def idV(q:IQ)(K:Int): Value:=if K=20 then .map (some q.1) else if K=24 then .map (some q.2.1) else if K=15 then .map (some q.2.2.1) else if K=22 then .map (some q.2.2.2) else .map none
def idI(K:Int)(i:Nat): Int:=if JM K i=true then 1 else 0
def id0{K:Int}(h:JM K i=false): idI K i=0:=by unfold idI;rw [h];rfl
def mE(k:Int)(v:Value)(n:Nat): MapEntry:=⟨.int .i64 k,v,n⟩
def idOut(q:IQ): List MapEntry:=[mE 20 (.map (some q.1)) 0,mE 24 (.map (some q.2.1)) 1,mE 15 (.map (some q.2.2.1)) 2,mE 22 (.map (some q.2.2.2)) 3]
def K3(b:Nat)(q:IQ): Dat:=⟨fun w I=>(Sw b (idOut q) 4).φ w I/\(Sw q.1 [mE 2 (.int .i64 1) 0] 1).φ w I/\(Sw q.2.1 [mE 2 (.int .i64 1) 0] 1).φ w I/\(Sw q.2.2.1 [mE 1 (.int .i64 1) 0] 1).φ w I/\(Sw q.2.2.2 [mE 2 (.int .i64 1) 0,mE 3 (.int .i64 1) 1,mE 4 (.int .i64 1) 2] 3).φ w I,
 fun _ _ _ _ hl h hk=>⟨(Sw _ _ _).mono _ _ _ _ hl h.1 hk,(Sw _ _ _).mono _ _ _ _ hl h.2.1 hk,(Sw _ _ _).mono _ _ _ _ hl h.2.2.1 hk,(Sw _ _ _).mono _ _ _ _ hl h.2.2.2.1 hk,(Sw _ _ _).mono _ _ _ _ hl h.2.2.2.2 hk⟩⟩
def Xx(p q:Int): Instr.sameNow (.int .i64) (.int .i64 p) (.int .i64 q)=some (p == q):=by simp [Instr.sameNow]
def E2(p q:Int)(v:Value)(n i:Nat)(es:List MapEntry): Instr.findNow (.int .i64) (.int .i64 p) (mE q v n::es) i=if p=q then some (some (i,v)) else Instr.findNow (.int .i64) (.int .i64 p) es (i+1):=by
 rw [Instr.findNow];simp only [mE,Xx];by_cases h:p=q
 ·subst h;simp
 ·
  have:(p == q)=false:=by simpa using h
  rw [this,Ac h]
def r_val{v:Value}(hs:SteV P X Next o a w)(c:Reg a N l)(hd:o.dst=some d)(b:d<N)(h:(execOp a.eval o).run P w=.ok (.value v) w)(k:∀a',Reg a' N ((d,v)::l)->Next a' w): X:=
 hs.val v w h (by rw [hd];exact k _ (c.put b _))
def m_lkO{q:IQ}(hs:SteV P X Next o a w)(e:Reg a N l)(hd:o.dst=some d)(j:o.op=.lookup t x y false)(h:ev l x=some (.map (some b)))(g:ev l y=some (.int .i64 z))(m:(K3 b q).φ w I)
  (i:P.underlying t=some (.map kt et)) (c:P.underlying kt=some (.int .i64)) (f:(P.info? et).map (·.zero)=some (some (.map none))) (n:d<N) (k:∀a',Reg a' N ((d,idV q z)::l)->Next a' w):X:=by
 refine r_val hs e hd n ?_ k;by_cases v:z=20
 ·subst v;exact MH e j h g m.1.2 i c (r:=some (0,.map (some q.1))) rfl f
 by_cases u:z=24
 ·subst u;exact MH e j h g m.1.2 i c (r:=some (1,.map (some q.2.1))) rfl f
 by_cases s:z=15
 ·subst s;exact MH e j h g m.1.2 i c (r:=some (2,.map (some q.2.2.1))) rfl f
 by_cases p:z=22
 ·subst p;exact MH e j h g m.1.2 i c (r:=some (3,.map (some q.2.2.2))) rfl f
 have hv:idV q z=.map none:=by unfold idV;rw [Ac v,Ac u,Ac s,Ac p]
 rw [hv];refine MH e j h g m.1.2 i c (r:=none) ?_ f;unfold idOut;rw [E2,Ac v,E2,Ac u,E2,Ac s,E2,Ac p];rfl
def m_lkI{q:IQ}{K:Int}(hs:SteV P X Next o a w)(A:Reg a N l)(hd:o.dst=some d)(E:o.op=.lookup t x y false)(c:ev l x=some (idV q K))(C:ev l y=some (.int .i64 z))(hi:z=(i:Int))(n:(K3 b q).φ w I)
  (D:P.underlying t=some (.map kt et)) (f:P.underlying kt=some (.int .i64)) (B:(P.info? et).map (·.zero)=some (some (.int .i64 0))) (u:d<N) (k:∀a',Reg a' N ((d,.int .i64 (idI K i))::l)->Next a' w):X:=by
 subst hi;refine r_val hs A hd u ?_ k;have e:∀(b' c':Nat) (es:List MapEntry),ev l x=some (.map (some b'))->(Sw b' es c').φ w I->(∀v,idI K i=v->∃r,Instr.findNow (.int .i64) (.int .i64 (i:Int)) es 0=some r/\lkIv (.int .i64 0) r=Value.int .i64 v)->(execOp a.eval o).run P w=.ok (.value (.int .i64 (idI K i))) w:=fun b' c' es m j h=>by
  obtain ⟨r,g,F⟩:=h _ rfl;have:=MH A E m C j.2 D f g B;rw [this];rw [F]
 unfold idV at c;by_cases m:K=20
 ·
  subst m;refine e _ _ _ (c.trans (by rw [Ae rfl])) n.2.1 (fun v hv=>?_);rw [E2];by_cases hi:(i:Int)=2
  ·
   have:i=2:=by omega
   subst this;exact ⟨_,Ae rfl,by rw [<-hv];rfl⟩
  ·refine ⟨none,by rw [Ac hi];rfl,?_⟩;rw [<-hv];exact congrArg _ (id0 (by unfold JM;simp;omega)).symm
 rw [Ac m] at c;by_cases j:K=24
 ·
  subst j;refine e _ _ _ (c.trans (by rw [Ae rfl])) n.2.2.1 (fun v hv=>?_);rw [E2];by_cases hi:(i:Int)=2
  ·
   have:i=2:=by omega
   subst this;exact ⟨_,Ae rfl,by rw [<-hv];rfl⟩
  ·refine ⟨none,by rw [Ac hi];rfl,?_⟩;rw [<-hv];exact congrArg _ (id0 (by unfold JM;simp;omega)).symm
 rw [Ac j] at c;by_cases h:K=15
 ·
  subst h;refine e _ _ _ (c.trans (by rw [Ae rfl])) n.2.2.2.1 (fun v hv=>?_);rw [E2];by_cases hi:(i:Int)=1
  ·
   have:i=1:=by omega
   subst this;exact ⟨_,Ae rfl,by rw [<-hv];rfl⟩
  ·refine ⟨none,by rw [Ac hi];rfl,?_⟩;rw [<-hv];exact congrArg _ (id0 (by unfold JM;simp;omega)).symm
 rw [Ac h] at c;by_cases g:K=22
 ·
  subst g;refine e _ _ _ (c.trans (by rw [Ae rfl])) n.2.2.2.2 (fun v hv=>?_);rw [E2,E2,E2];by_cases hi:(i:Int)=2
  ·
   have:i=2:=by omega
   subst this;exact ⟨_,Ae rfl,by rw [<-hv];rfl⟩
  by_cases s:(i:Int)=3
  ·
   have:i=3:=by omega
   subst this;exact ⟨some (1,.int .i64 1),rfl,by rw [<-hv];rfl⟩
  by_cases p:(i:Int)=4
  ·
   have:i=4:=by omega
   subst this;exact ⟨some (2,.int .i64 1),rfl,by rw [<-hv];rfl⟩
  ·refine ⟨none,by rw [Ac hi,Ac s,Ac p];rfl,?_⟩;rw [<-hv];exact congrArg _ (id0 (by unfold JM;simp;omega)).symm
 rw [Ac g] at c;have h0:idI K i=0:=by
  unfold idI JM;rw [Ac];simp [m,j,h,g]
 rw [h0];exact lk_nil A E c C D f B
end
end
section
open Go.RowKit
def wA_fr(w:zH)(os:List Obj): Fr Be w (wA w os):=⟨rfl,rfl,rfl,by rw [Qd];omega,fun k hk _=>wA_old w os hk⟩
def O0{es:List MapEntry}{c:Nat}(j:Nat)(h:os[j]?=some (.map es.toArray c)): (Sw (w.heap.size+j) es c).φ (wA w os) (nxt Z w (wA w os)):=
 ⟨⟨by rw [Qd];have:=(List.getElem?_eq_some_iff.1 h).1;omega,fun h=>absurd h zQ⟩,(wA_at w os j).trans h⟩
set_option maxRecDepth 100000 in
def Tx(w0:zH)(Z:zG)(g:∀k,Z k->k<w0.heap.size): Calls prog 29 ([]:zF).toArray w0 (fun e w'=>∃b,∃q:IQ,e=.returned (.map (some b))/\Fr Be w0 w'/\(K3 b q).φ w' (nxt Z w0 w')):=by
 refine Gw func29 rfl ntmps29 rfl (fun c a=>?_);refine wsc (fun i f=>?_);refine asg a (fun c a=>?_);refine Bm (Bl (f _ _ ?_));refine wsc (fun h d=>?_);rw [<-wA_nil w0];refine G9 (os:=[]) sv a rfl rfl zS (fun c a=>?_);refine G9 sv a rfl rfl zS (fun c a=>?_);refine Ij (j:=1) se a rfl rfl rfl rfl rfl rfl EP A8 rfl (fun c a=>?_);refine mv a (fun c a=>?_);refine Ij (j:=0) se a rfl rfl rfl rfl rfl rfl FQ A8 rfl (fun c a=>?_);refine G9 sv a rfl rfl zS (fun c a=>?_);refine Ij (j:=2) se a rfl rfl rfl rfl rfl rfl EP A8 rfl (fun c a=>?_);refine mv a (fun c a=>?_);refine Ij (j:=0) se a rfl rfl rfl rfl rfl rfl FQ A8 rfl (fun c a=>?_);refine G9 sv a rfl rfl zS (fun c a=>?_);refine Ij (j:=3) se a rfl rfl rfl rfl rfl rfl EP A8 rfl (fun c a=>?_);refine mv a (fun c a=>?_);refine Ij (j:=0) se a rfl rfl rfl rfl rfl rfl FQ A8 rfl (fun c a=>?_);refine G9 sv a rfl rfl zS (fun c a=>?_);refine Ij (j:=4) se a rfl rfl rfl rfl rfl rfl EP A8 rfl (fun c a=>?_);refine Ij (j:=4) se a rfl rfl rfl rfl rfl rfl EP A8 rfl (fun c a=>?_);refine Ij (j:=4) se a rfl rfl rfl rfl rfl rfl EP A8 rfl (fun c a=>?_);refine mv a (fun c a=>?_);refine Ij (j:=0) se a rfl rfl rfl rfl rfl rfl FQ A8 rfl (fun c a=>?_);refine mv a (fun c a=>?_);refine asg a (fun c a=>?_);refine Bm (Bl (d _ _ ?_));refine wp_ret ?_;refine Wn a rfl rfl rfl ?_;exact ⟨_,(w0.heap.size+1,w0.heap.size+2,w0.heap.size+3,w0.heap.size+4),rfl,wA_fr _ _,O0 0 rfl,O0 1 rfl,O0 2 rfl,O0 3 rfl,O0 4 rfl⟩
end
section
open Go Go.RowKit
variable {Ls:List Cp}{P:zN}{x:Cp}
def WD(hb:Bn u=true)(hk:(nth u (u.length-1)).K=20)(a:AK P=ptL u): P.length=4/\Bn (At P 0).2.2=true/\Bn (At P 1).2.2=true/\Bn (At P 3).2.2=true/\
  muT (Aq (At P 0).2.2)+muT (Aq (At P 1).2.2)+1<=muT (Aq u)/\muT (Aq (At P 3).2.2)+1<=muT (Aq u)/\
  br (Aq u)=if (cv (Aq (At P 0).2.2) (Aq (At P 1).2.2)).2=true then br (Aq (At P 3).2.2) else ((cv (Aq (At P 0).2.2) (Aq (At P 1).2.2)).1,Aq u):=by
 have b:(Aq u).root.K=20:=by rw [Dm hb];exact hk
 have h:=WO (GV hb) b;obtain ⟨j,g,f⟩:=LB (i:=0) hb a zQ;obtain ⟨_,e,d⟩:=LB (i:=1) hb a zQ;obtain ⟨_,c2,c⟩:=LB (i:=3) hb a zQ;rw [g,e,c2];exact ⟨by omega,f,d,c,QQ zS zQ,Ps zQ,br_eq (GV hb) b⟩
def SD(hb:Bn u=true)(a:br (Aq u)=br (Aq t))(hk:¬(nth u (u.length-1)).K=20): u=brL t/\brE t=0:=by
 obtain ⟨c,b⟩:=brL_no hb hk;show u=(br (Aq t)).2.flat/\(br (Aq t)).1=0;rw [<-a];exact ⟨c.symm,b⟩
def PQ{x:T}{c:Int×Bool}(hb:Bn u=true)(a:br (Aq u)=br (Aq t))(h:br (Aq u)=if c.2=true then br x else (c.1,Aq u))(hc:c.2=false): u=brL t/\brE t=c.1:=by
 unfold brL brE;rw [<-a,h,Ac (by rw [hc];decide)];exact ⟨(BR hb).2.symm,rfl⟩
def AbF{x:T}{c:Int×Bool}(a:br (Aq u)=br (Aq t))(h:br (Aq u)=if c.2=true then br x else (c.1,Aq u))(hc:c.2=true): br x=br (Aq t):=by
 rw [<-a,h,Ae hc]
def Sd(h:Bn t=true)(hm:muT (Aq t)<=N)(hN:N<=1000000): t.length<=1000000/\0<t.length:=⟨by have:=len_mu h;omega,Cz h⟩
def muC_le(h:muC x<=N): muT (Aq x.1.2.2)<=N/\muT (Aq x.2.2.2)<=N:=by
 have a:muC x=muT (Aq x.1.2.2)+muT (Aq x.2.2.2):=rfl;omega
section
def c_k1'(b:goC x)(f:¬(nth x.1.2.2 (x.1.2.2.length-1)).K=29)(e:¬(nth x.2.2.2 (x.2.2.2.length-1)).K=29)(c:brE x.1.2.2=0)(d:a=brL x.1.2.2)(hk:(nth a (a.length-1)).K=29): cv (trC x).1 (trC x).2=(0,true):=by
 subst d;exact c_k1 b f e c hk
def c_e2'(c:goC x)(g:¬(nth x.1.2.2 (x.1.2.2.length-1)).K=29)(f:¬(nth x.2.2.2 (x.2.2.2.length-1)).K=29)(d:brE x.1.2.2=0)(e:a=brL x.1.2.2)(hk:¬(nth a (a.length-1)).K=29)(b:¬brE x.2.2.2=0): cv (trC x).1 (trC x).2=(brE x.2.2.2,false):=by
 subst e;exact c_e2 c g f d hk b
def c_k2'(d:goC x)(h:¬(nth x.1.2.2 (x.1.2.2.length-1)).K=29)(g:¬(nth x.2.2.2 (x.2.2.2.length-1)).K=29)(e:brE x.1.2.2=0)(f:a=brL x.1.2.2)(hk:¬(nth a (a.length-1)).K=29)(c:brE x.2.2.2=0)(hb:b=brL x.2.2.2)(hk2:(nth b (b.length-1)).K=29): cv (trC x).1 (trC x).2=(0,true):=by
 subst f hb;exact c_k2 d h g e hk c hk2
def Yf{K:List Cp}{y:Cp}(h:∀z∈K,goC z)(b:goC y):∀z∈K++[y],goC z:=fun z a=>by
 rcases Bi.1 a with a|a
 ·exact h z a
 ·rw [A7] at a;subst a;exact b
end
section
variable {A B:T}
def CB.of(d:goC x)(g:¬(nth x.1.2.2 (x.1.2.2.length-1)).K=29)(f:¬(nth x.2.2.2 (x.2.2.2.length-1)).K=29)(i:brE x.1.2.2=0)(h:brE x.2.2.2=0)(e:a=brL x.1.2.2)(hb:b=brL x.2.2.2)
  (c:¬(nth a (a.length-1)).K=29) (k2:¬(nth b (b.length-1)).K=29):CB x:=⟨d,g,f,i,h,e▸c,hb▸k2⟩
def S7{x:zM}(h:Bn x=true)(hm:muT (Aq x)<=N)(hN:N<=1000000)(d:a=brL x): Bn a=true/\a.length<=1000000/\0<a.length/\muT (Aq a)<=N:=by
 obtain ⟨c,_,b⟩:=F2 h;subst d;obtain ⟨f,e⟩:=Sd c (Ax b hm) hN;exact ⟨c,f,e,Ax b hm⟩
def CInv.nx(h:CInv A B N Ls)(h0:0<Ls.length)(hc:CB (CK Ls (Ls.length-1))){l:List (T×T)}(c:a=brL (CK Ls (Ls.length-1)).1.2.2)(hb:b=brL (CK Ls (Ls.length-1)).2.2.2)
  (e:Ku (Aq a) (Aq b)=false) (hl:Id (Aq a) (Aq b)=some l) (d:K.reverse.map trC=l) (hm:∀y∈K,goC y) (hk:K.length<=12):CInv A B N (Ls.take (Ls.length-1)++K)/\wgt (Ls.take (Ls.length-1)++K)<wgt Ls:=by
 subst c hb;obtain ⟨g,f⟩:=hc.step e hl d hm;exact h.next h0 hk g f
def CInv.lam(h:CInv A B N Ls)(h0:0<Ls.length)(hc:CB (CK Ls (Ls.length-1)))(g:a=brL (CK Ls (Ls.length-1)).1.2.2)(hb:b=brL (CK Ls (Ls.length-1)).2.2.2)
  (hk:(nth a (a.length-1)).K=4\/(nth b (b.length-1)).K=4) (c:Ic (Aq a)=false/\Ic (Aq b)=false) {y:Cp} (j:y.1.2.2=Y3 a) (i:y.2.2.2=Y3 b):CInv A B N (Ls.take (Ls.length-1)++[y])/\wgt (Ls.take (Ls.length-1)++[y])<wgt Ls:=by
 have e:Bn a=true:=g▸(F2 hc.ok.1).1;have d:Bn b=true:=hb▸(F2 hc.ok.2).1;obtain ⟨l,k⟩:=YN e d hk;obtain ⟨p,o⟩:=S8 e c.1;obtain ⟨n,m⟩:=S8 d c.2;refine h.nx h0 hc g hb (by rw [l,c.1,c.2];rfl) k ?_ ?_ yB
 ·show [(Aq y.1.2.2,Aq y.2.2.2)]=_;rw [j,i,p,n]
 ·intro z f;rw [A7] at f;subst f;exact ⟨j▸o,i▸m⟩
def CInv.pair(h:CInv A B N Ls)(h0:0<Ls.length)(hc:CB (CK Ls (Ls.length-1)))(l:a=brL (CK Ls (Ls.length-1)).1.2.2)(hb:b=brL (CK Ls (Ls.length-1)).2.2.2)
  (j:¬(nth a (a.length-1)).K=4) (k2:¬(nth b (b.length-1)).K=4) (hk:(nth a (a.length-1)).K=7\/(nth b (b.length-1)).K=7) {y z:Cp}
  (f:Aq y.1.2.2=snT (Aq a)/\Bn y.1.2.2=true) (e:Aq y.2.2.2=snT (Aq b)/\Bn y.2.2.2=true) (d:Aq z.1.2.2=fsT (Aq a)/\Bn z.1.2.2=true) (c:Aq z.2.2.2=fsT (Aq b)/\Bn z.2.2.2=true):
  CInv A B N (Ls.take (Ls.length-1)++[y,z])/\wgt (Ls.take (Ls.length-1)++[y,z])<wgt Ls:=by
 have i:Bn a=true:=l▸(F2 hc.ok.1).1;have g:Bn b=true:=hb▸(F2 hc.ok.2).1;refine h.nx h0 hc l hb (Aao i g j k2) (Aan i g j k2 hk) ?_ ?_ yB
 ·show [(Aq z.1.2.2,Aq z.2.2.2),(Aq y.1.2.2,Aq y.2.2.2)]=_;rw [f.1,e.1,d.1,c.1]
 ·
  intro x k;simp only [Aj,Ah,or_false] at k;rcases k with rfl|rfl
  ·exact ⟨f.2,e.2⟩
  ·exact ⟨d.2,c.2⟩
def CInv.kids(h:CInv A B N Ls)(h0:0<Ls.length)(hc:CB (CK Ls (Ls.length-1)))(i:a=brL (CK Ls (Ls.length-1)).1.2.2)(hb:b=brL (CK Ls (Ls.length-1)).2.2.2)
  (g:¬(nth a (a.length-1)).K=4) (k2:¬(nth b (b.length-1)).K=4) (k:¬(nth a (a.length-1)).K=7) (j:¬(nth b (b.length-1)).K=7) (hn:nth a (a.length-1)=nth b (b.length-1)) {K d:List Cp}
  (l:K.reverse.map trC=H5 (Aq a) (Aq b) 0) (hm:∀y∈K,goC y) (hl:K.length<=12) (c:d=Ls.take (Ls.length-1)++K):CInv A B N d/\wgt d<wgt Ls:=by
 have f:Bn a=true:=i▸(F2 hc.ok.1).1;have e:Bn b=true:=hb▸(F2 hc.ok.2).1;subst c;exact h.nx h0 hc i hb (Aao f e g k2) (by rw [YM f e g k2 k j,Ae hn]) l hm hl
def CInv.differ(h:CInv A B N Ls)(h0:0<Ls.length)(hc:CB (CK Ls (Ls.length-1)))(c:a=brL (CK Ls (Ls.length-1)).1.2.2)(hb:b=brL (CK Ls (Ls.length-1)).2.2.2)
  (f:¬(nth a (a.length-1)).K=4) (k2:¬(nth b (b.length-1)).K=4) (i:¬(nth a (a.length-1)).K=7) (g:¬(nth b (b.length-1)).K=7) (hn:¬nth a (a.length-1)=nth b (b.length-1)):Go.Proofs.YtgddkjdhnolahaaGreatDoor.cv A B=(0,false):=by
 have e:Bn a=true:=c▸(F2 hc.ok.1).1;have d:Bn b=true:=hb▸(F2 hc.ok.2).1;refine h.stop h0 (hc.none ?_ ?_)
 ·rw [<-c,<-hb];exact Aao e d f k2
 ·rw [<-c,<-hb,YM e d f k2 i g,Ac hn]
def CInv.max(h:CInv A B N Ls)(h0:0<Ls.length)(hc:CB (CK Ls (Ls.length-1)))(d:a=brL (CK Ls (Ls.length-1)).1.2.2)(hb:b=brL (CK Ls (Ls.length-1)).2.2.2)
  (hk:(nth a (a.length-1)).K=4\/(nth b (b.length-1)).K=4) {e:Int} (c:e=0) (j:¬(if Ic (Aq b)=true then 2 else if Ic (Aq a)=true then 2 else e)=0):
  Go.Proofs.YtgddkjdhnolahaaGreatDoor.cv A B=((if Ic (Aq b)=true then 2 else if Ic (Aq a)=true then 2 else e),false):=by
 have i:Bn a=true:=d▸(F2 hc.ok.1).1;have g:Bn b=true:=hb▸(F2 hc.ok.2).1;have f:(if Ic (Aq b)=true then 2 else if Ic (Aq a)=true then 2 else e)=2/\(Ic (Aq a)||Ic (Aq b))=true:=by
  subst c;cases h1:Ic (Aq a)<;>cases h3:Ic (Aq b)<;>simp_all
 rw [f.1];refine h.stop h0 (hc.err ?_);rw [<-d,<-hb,(YN i g hk).1,f.2]
def Zn{p q:Bool}(h:(if q=true then 2 else if p=true then 2 else e)=0): p=false/\q=false:=by
 cases p<;>cases q<;>simp_all
def idI_0{K:Int}: idI K i=0↔JM K i=false:=by
 unfold idI;cases JM K i<;>simp
def Abj{x y:T}(hi:0<i)(hn:i<=x.args.length)(a:K.reverse.map trC=H5 x y i)(h:¬idI x.root.K (i-1)=0): K.reverse.map trC=H5 x y (i-1):=by
 have b:JM x.root.K (i-1)=true:=by
  rw [idI_0] at h;simpa using h
 rw [Pr zQ,Ae b,show i-1+1=i by omega];exact a
def Abi{Q:zN}(c:Bn a=true)(hb:Bn b=true)(e:AK P=ptL a)(f:AK Q=ptL b)(hn:nth a (a.length-1)=nth b (b.length-1))(hi:0<i)(hl:i<=P.length)
  (g:K.reverse.map trC=H5 (Aq a) (Aq b) i) (h:idI (nth a (a.length-1)).K (i-1)=0):(K++[(At P (i-1),At Q (i-1))]).reverse.map trC=H5 (Aq a) (Aq b) (i-1)/\goC (At P (i-1),At Q (i-1)):=by
 have n:=Jk e;have d:(Aq a).args.length=(Aq b).args.length:=by rw [<-(Fb (GV c)).2.1,<-(Fb (GV hb)).2.1,Dm c,Dm hb,hn]
 obtain ⟨_,m,l⟩:=LB (i:=i-1) c e zQ;obtain ⟨_,k,j⟩:=LB (i:=i-1) hb f zQ;rw [<-Dm c,idI_0] at h;refine ⟨?_,l,j⟩;rw [Pr zQ,Ac (by rw [h];decide),show i-1+1=i by omega,EZ,Cq,g];show [(Aq (At P (i-1)).2.2,Aq (At Q (i-1)).2.2)]++_=_;rw [m,k];rfl
def Ta{Q:zN}(d:Bn a=true)(hb:Bn b=true)(f:AK P=ptL a)(e:AK Q=ptL b)(hn:nth a (a.length-1)=nth b (b.length-1)): P.length=Q.length/\P.length<=8/\P.length=(Aq a).args.length:=by
 have c:(Aq a).args.length=(Aq b).args.length:=by rw [<-(Fb (GV d)).2.1,<-(Fb (GV hb)).2.1,Dm d,Dm hb,hn]
 rw [Jk f,Jk e];exact ⟨c,WM (GV d),rfl⟩
end
end
section
open Go Go.RowKit
def smE(a b:zM): Int:=if ¬chk a=0 then chk a else if ¬chk b=0 then chk b else (cv (Aq a) (Aq b)).1
def smB(a b:zM): Bool:=decide (chk a=0)&&decide (chk b=0)&&(cv (Aq a) (Aq b)).2
def YO(h:¬chk a=0): smB a b=false/\smE a b=chk a:=by
 unfold smB smE;rw [Ae h,As h];exact ⟨rfl,rfl⟩
def Uw(c:chk a=0)(h:¬chk b=0): smB a b=false/\smE a b=chk b:=by
 unfold smB smE;rw [Ac (CX c),Ae h,As h];exact ⟨by simp,rfl⟩
def sm_ok(c:chk a=0)(hb:chk b=0): smB a b=(cv (Aq a) (Aq b)).2/\smE a b=(cv (Aq a) (Aq b)).1:=by
 unfold smB smE;rw [Ac (CX c),Ac (CX hb),AF c,AF hb];exact ⟨rfl,rfl⟩
def Ab4{n:Nd}(hr:right n=true)(hm:many n=0): chk [n]=0/\Aq [n]=.mk n []:=by
 have a:(T.mk n []).wf=true:=by simp [T.wf,T.wfs,hr,hm]
 have b:(T.mk n []).flat=[n]:=by simp [T.flat,Az]
 refine ⟨PD.2 ⟨.mk n [],a,b.symm,by simp,by simp [T.deep,Cg]⟩,?_⟩;rw [<-b];exact Da a
def Wv{f:T->T->Int×Bool}{a b:T}(g:¬a.root.K=4)(hb:¬b.root.K=4)(e:¬a.root.K=7)(d:¬b.root.K=7): cvB f a b=if a.root=b.root then J9 f (H5 a b 0) else (0,false):=by
 unfold cvB Ku Id;rw [Ac (c:=a.root.K=4\/b.root.K=4) zQ,Ac (c:=a.root.K=7\/b.root.K=7) zQ];rw [As zQ,Bool.false_and,Ac zS];by_cases h:a.root=b.root
 ·rw [Ae h,Ae h]
 ·rw [Ac h,Ac h]
def Yt{a b:T}(e:a.wf=true)(d:b.wf=true)(c:¬a.root.K=29/\¬a.root.K=20/\¬a.root.K=4/\¬a.root.K=7)(hb:¬b.root.K=29/\¬b.root.K=20/\¬b.root.K=4/\¬b.root.K=7):
  cv a b=if a.root=b.root then J9 cv (H5 a b 0) else (0,false):=by
 rw [cv_eq e d zQ,AbA c.2.1,AbA hb.2.1];unfold cvX;rw [Ac yB,Ac c.1,Ac yB,Ac hb.1];exact Wv c.2.2.1 hb.2.2.1 c.2.2.2 hb.2.2.2
def cv_ne2{a b:T}(h:¬(cv a b).1=0): (cv a b).2=false:=by
 cases q:(cv a b).2 with
 | false=>rfl
 | true=>exact absurd (cv_two q) h
def Rw{n:Nd}(h:n.S.size<1000000:=by decide): sml [n]:=by
 intro k hk;have:k=0:=by simpa using hk
 subst this;exact h
mutual
def Vp:∀t:T,muT t<=4*t.flat.length
 | .mk n l=>by
  have:=RU l;rw [Bf,Ab,AD];simp only [muT];split<;>omega
def RU:∀l:List T,ND l<=4*(Az l).length
 | []=>by simp only [ND];omega
 | t::l=>by
  have:=Vp t;have:=RU l;rw [Bg,Ab];simp only [ND];omega
end
def Zq(h:Bn t=true): muT (Aq t)<=4*t.length:=by
 obtain ⟨_,a⟩:=BR h;have:=Vp (Aq t);rwa [a] at this
def Aas(c:chk a=0)(hb:chk b=0)(hla:a.length<=100000)(hlb:b.length<=100000): muT (Aq a)+muT (Aq b)<=1000000:=by
 have:=Zq (Br c);have:=Zq (Br hb);omega
def csK(t:zM): Nat->Nat
 | 0=>0
 | k+1=>csK t k+if (nth t k).K=20 then 1 else 0
def Sx(t:zM):∀k,csK t k<=k
 | 0=>Ag _
 | k+1=>by have:=Sx t k;simp only [csK];split<;>omega
end
section
def PU(x:zM): Prop:=chk x=0/\dpL x<=50
section
variable {s:zM} (hs:PU s) (ha:PU a) (hb:PU b) (hls:s.length<=120) (hla:a.length<=120) (hlb:b.length<=120)
include hs ha hb hls hla hlb
end
end
section
def Gy(t:zM): Int:=if (nth t (t.length-1)).K=11 then 1 else if (nth t (t.length-1)).K=12 then 2 else 0
def ntE(e:Int)(t u:zM): Int:=if Gy t*Gy u=0 then (if e=0 then 120 else e) else e
def ntL(e:Int)(a t u:zM): zM:=
 if Gy t*Gy u=0 then [] else if ¬Gy t=Gy u then noL e ⟨14,0,0,⟨#[]⟩⟩ [] else if Gy t=1 then noL e ⟨16,0,0,⟨#[]⟩⟩ []
 else noL e ⟨18,0,0,⟨#[]⟩⟩ [a,Bv (agA t) 0,Bv (agA u) 0]
def Lx(t:zM): Gy t=0\/Gy t=1\/Gy t=2:=by
 unfold Gy
 (repeat' split)<;>simp
def RL(t u:zM): -1000000000000000<=Gy t*Gy u/\Gy t*Gy u<=1000000000000000:=by
 rcases Lx t with h|h|h<;>rcases Lx u with k|k|k<;>rw [h,k]<;>decide
def XK(h0:¬Gy t*Gy u=0)(h:Gy t=Gy u)(b:¬Gy t=1): (nth t (t.length-1)).K=12/\(nth u (u.length-1)).K=12:=by
 have ht:Gy t=2:=by
  rcases Lx t with k|k|k
  ·exact absurd (by rw [k];simp) h0
  ·exact absurd k b
  ·exact k
 have a:Gy u=2:=h▸ht;have q:∀{v:zM},Gy v=2->(nth v (v.length-1)).K=12:=by
  intro v hv;unfold Gy at hv;split at hv
  ·omega
  ·
   split at hv
   ·assumption
   ·omega
 exact ⟨q ht,q a⟩
end
section
open Go Go.RowKit
def orI(x y:Int): Int:=((x.toNat||| y.toNat:Nat):Int)
def Qq{t:zI}{x:Int}(h0:0<=x)(e:x<1000)(c:0<=y)(d:y<1000): (Go.binOp .or t (.int .i64 x) (.int .i64 y)).run P w=.ok (.int .i64 (orI x y)) w:=by
 have h:=Xy (P:=P) (w:=w) (t:=t) (a:=x.toNat) (b:=y.toNat) zQ zQ;rw [Fa h0,Fa c] at h;exact h
def X0{t:zI}{x:Int}(h0:0<=x)(a:x<1000)(c:0<=m)(hm:m<1000): (Go.binOp .and t (.int .i64 x) (.int .i64 m)).run P w=.ok (.int .i64 (EN x m.toNat)) w:=by
 have h:=Jb (P:=P) (w:=w) (t:=t) (b:=m.toNat) h0 a zQ;rw [Fa c] at h;exact h
def Sz(k:Nat)(t:zM): Prop:=sml t/\t.length<=k
section
variable {c:zM} {n:Nd}
def EB(h:Sz k a)(hk:k<=j): Sz j a:=⟨h.1,Ax h.2 hk⟩
def E0{x:Int}(h:Sz k a): Sz k (upL e a x y):=⟨Qg h.1,Ax Qh h.2⟩
def IW(h:Sz k a)(d:Sz j b): Sz 4000 (inL e a [b]):=⟨I3 h.1 (by intro x c;simp only [Aj,Ah,or_false] at c;rw [c];exact d.1),I4⟩
def YJ(h:Sz k a)(g:Sz j b)(f:Sz i c): Sz 4000 (inL e a [b,c]):=⟨I3 h.1 (by intro x d;simp only [Aj,Ah,or_false] at d;rcases d with rfl|rfl;exact g.1;exact f.1),I4⟩
def Ef(hn:n.S.size<1000000): Sz 1 (noL e n []):=⟨BD hn zY,DB⟩
def Gb(hn:n.S.size<1000000)(h:Sz k a): Sz (k+1) (noL e n [a]):=by
 refine ⟨BD hn (by intro x b;simp only [Aj,Ah,or_false] at b;rw [b];exact h.1),?_⟩;have c:(noL e n [a]).length<=_:=DB;have d:=h.2;simp at c;omega
def ED(hn:n.S.size<1000000)(h:Sz k a)(d:Sz j b): Sz (k+j+1) (noL e n [a,b]):=by
 refine ⟨BD hn (by intro x c;simp only [Aj,Ah,or_false] at c;rcases c with rfl|rfl;exact h.1;exact d.1),?_⟩;have f:(noL e n [a,b]).length<=_:=DB;have i:=h.2;have g:=d.2;simp at f;omega
def Ga(hn:n.S.size<1000000)(h:Sz k a)(g:Sz j b)(d:Sz i c): Sz (k+j+i+1) (noL e n [a,b,c]):=by
 refine ⟨BD hn (by intro x f;simp only [Aj,Ah,or_false] at f;rcases f with rfl|rfl|rfl;exact h.1;exact g.1;exact d.1),?_⟩;have l:(noL e n [a,b,c]).length<=_:=DB;have p:=h.2;have o:=g.2;have m:=d.2;simp at l;omega
def Qj(h:Sz k a): Sz (k+1) (plL e m a):=⟨Lq h.1,Ax Lt (Nat.add_le_add_right h.2 1)⟩
def KZ(h:Sz k a)(f:Sz j b)(d:Sz i c): Sz (k+j+i+2) (caL e a b c):=by
 refine ⟨IB h.1 f.1 d.1,?_⟩;have n:=IC (e:=e) (a:=a) (b:=b) (t:=c);have m:=h.2;have l:=f.2;have g:=d.2;omega
def IX(h:Sz 5000 t)(x:Nat): Sz 5000 (Bv (agA t) x):=Fk (Q:=Sz 5000) (fun y a=>⟨(E6 h.1 y a).1,Ax (E6 h.1 y a).2 h.2⟩) ⟨BX,by simp⟩ x
end
abbrev kN(k n:Int): Nd:=⟨k,n,0,⟨#[]⟩⟩
def orN(n:Nd)(k:Int): Nd:=⟨n.K,orI n.N k,n.M,n.S⟩
def epX(e m:Int): zM:=plL e m (noL e (kN 0 0) [])
def epA(e:Int)(t x:zM): zM:=noL (upE e t 1 0) (kN 5 0) [upL e t 1 0,x]
def epL(e:Int)(n:Nd)(p:zL)(t u:zM): zM×Int:=
 let e1:=upE e t 1 0;let e2:=upE e1 u 1 0
 (noL e2 (orN n 1) [Bv p 0,noL e2 (kN 18 0) [Bv p 1,epA e t (epX e n.N),epA e1 u (epX e n.N)]],e2)
def esL(e m:Int)(p:zL)(t u:zM): zM×Int:=
 if m=1 then (noL e (kN 18 0) [Bv p 0,noL e (kN 8 0) [t],noL e (kN 8 0) [u]],e)
 else if m=2 then
  let e1:=inQ e (Bv p 1) [noL e (kN 29 0) []]
  (noL e1 (kN 18 0) [inL e (Bv p 1) [noL e (kN 29 0) []],noL e1 (kN 9 0) [t],noL e1 (kN 9 0) [u]],e1)
 else
  let f:=inL e (Bv p 1) [noL e (kN 8 0) [t]];let e1:=inQ e (Bv p 1) [noL e (kN 8 0) [t]];let g:=inL e1 (Bv p 1) [noL e1 (kN 8 0) [u]];let e2:=inQ e1 (Bv p 1) [noL e1 (kN 8 0) [u]];let d:=noL e2 (kN 18 0) [g,caL e2 f g (noL e2 (kN 9 0) [t]),noL e2 (kN 9 0) [u]]
  (noL (upE e2 d 1 0) (kN 6 3) [noL e2 (kN 18 0) [Bv p 0,noL e2 (kN 8 0) [t],noL e2 (kN 8 0) [u]],upL e2 d 1 0],upE e2 d 1 0)
def SK(e:Int): Int:=if e=0 then 120 else e
def edL(e:Int)(s:ByteArray)(x y:Nd): zM×Int:=
 if x.K=26/\y.K=26/\x.S=s/\y.S=s/\¬x.N=y.N then (noL e (kN 14 0) [],e) else ([],SK e)
def eqL(e:Int)(a t u:zM): zM×Int:=
 if (nth t (t.length-1)).K=23/\(nth u (u.length-1)).K=23 then (inL e (Bv (agA a) 1) [Bv (agA u) 1,Bv (agA t) 1],inQ e (Bv (agA a) 1) [Bv (agA u) 1,Bv (agA t) 1]) else ([],SK e)
def e0L(e:Int)(t u:zM): zM×Int:=
 let e1:=upE e u 1 0;let e2:=upE e1 t 1 0;let r:=noL e2 (kN 3 3) [u,upL e1 t 1 0]
 (noL (upE e2 r 1 0) (kN 6 3) [noL e1 (kN 3 3) [t,upL e u 1 0],upL e2 r 1 0],upE e2 r 1 0)
def srN(n:Nd)(m:Int)(k:Nat): Nd:=if 0<EN m k then ⟨n.K,0,n.M,n.S⟩ else n
def etP(e:Int)(n:Nd)(m:Int)(a b:zL): zM×Int:=
 let e1:=upE e (Bv b 0) 2 0;let e2:=upE e1 (Bv a 0) 2 0;let k:=plL e2 m (caL e2 (upL e (Bv b 0) 2 0) (upL e1 (Bv a 0) 2 0) (noL e2 (kN 0 0) []));let e3:=upE e2 (Bv a 1) 2 1;let e4:=inQ e3 (upL e2 (Bv a 1) 2 1) [k];let e5:=upE e4 (Bv b 1) 1 1;let e6:=upE e5 (Bv b 0) 1 0
 (noL e6 (kN 6 3) [noL e5 (kN 18 0) [noL e5 (srN n m 2) [],Bv b 0,Bv a 0],
  noL e6 (kN 3 (orI m 1)) [upL e5 (Bv b 0) 1 0,noL e5 (kN 18 0) [noL e2 n [],inL e3 (upL e2 (Bv a 1) 2 1) [k],upL e4 (Bv b 1) 1 1]]],e6)
def etS(e:Int)(n:Nd)(m:Int)(a b:zL): zM×Int:=
 let e1:=upE e (Bv a 0) 2 0;let e2:=upE e1 (Bv b 0) 2 0;let k:=plL e2 m (caL e2 (upL e (Bv a 0) 2 0) (upL e1 (Bv b 0) 2 0) (noL e2 (kN 0 0) []));let e3:=upE e2 (Bv a 1) 1 1;let e4:=upE e3 (Bv b 1) 2 1;let e5:=inQ e4 (upL e3 (Bv b 1) 2 1) [k];let e6:=upE e5 (Bv a 0) 1 0
 (noL e6 (kN 6 3) [noL e5 (kN 18 0) [noL e5 (srN n m 2) [],Bv a 0,Bv b 0],
  noL e6 (kN 3 (orI m 1)) [upL e5 (Bv a 0) 1 0,noL e5 (kN 18 0) [noL e2 (srN n m 1) [],upL e2 (Bv a 1) 1 1,inL e4 (upL e3 (Bv b 1) 2 1) [k]]]],e6)
def etT(e:Int)(a b:zL)(v:Int): zM×Int:=
 let e1:=upE e (Bv a 0) 3 0;let e2:=upE e1 (Bv b 0) 3 0
 (caL e2 (upL e (Bv a 0) 3 0) (upL e1 (Bv b 0) 3 0) (noL e2 (kN 0 v) []),e2)
def etQ(e:Int)(n:Nd)(a b:zL): zM×Int:=
 let e1:=upE e (Bv a 1) 1 2;let e2:=upE e1 (Bv b 1) 3 2;let x:=etT e2 a b 0;let y:=etT x.2 a b 1;let e5:=inQ y.2 (upL e1 (Bv b 1) 3 2) [x.1,y.1];let e6:=upE e5 (Bv a 0) 1 0;let e7:=upE e6 (Bv a 0) 2 0
 (noL e7 (kN 6 3) [noL e5 (kN 18 0) [noL e5 n [],Bv a 0,Bv b 0],
  noL e7 (kN 3 1) [upL e5 (Bv a 0) 1 0,noL e7 (kN 3 1) [upL e6 (Bv a 0) 2 0,noL e5 (kN 18 0) [noL e (kN 2 0) [],upL e (Bv a 1) 1 2,inL y.2 (upL e1 (Bv b 1) 3 2) [x.1,y.1]]]]],e7)
def Qb(n:Nd): Bool:=decide (n.K=16)||decide (n.K=14)||decide (n.K=18)||(decide (n.K=3)&&decide (0<EN n.N 1))||(decide (n.K=6)&&decide (n.N=3))
def hdB(n:Nd): Bool:=(decide (n.K=2)||decide (n.K=10)||decide (n.K=25)||decide (n.K=22)||decide (n.K=3)||decide (n.K=6))&&!Qb n
def etL(e:Int)(n:Nd)(t u:zM): zM×Int:=
 let x:=nth t (t.length-1);let y:=nth u (u.length-1)
 if hdB x=false\/hdB y=false then ([],SK e)
 else if ¬x=y then (noL e (kN 14 0) [],e)
 else if x.K=3 then etP e n x.N (agA t) (agA u)
 else if x.K=6 then etS e n x.N (agA t) (agA u)
 else if x.K=22 then etQ e n (agA t) (agA u)
 else (noL e (kN 16 0) [],e)
def eyL(a t u:zM): zM×Int:=
 let n:=nth a (a.length-1)
 if (nth t (t.length-1)).K=29\/(nth u (u.length-1)).K=29\/Qb n=true then (noL 0 (kN 16 0) [],0)
 else if n.K=3 then epL 0 n (agA a) t u
 else if n.K=6 then esL 0 n.N (agA a) t u
 else if n.K=10 then (ntL 0 a t u,ntE 0 t u)
 else if n.K=25 then edL 0 n.S (nth t (t.length-1)) (nth u (u.length-1))
 else if n.K=22 then eqL 0 a t u
 else if n.K=2 then (if 0<n.N then etL 0 n t u else e0L 0 t u)
 else ([],120)
def eyE(a t u:zM): Int:=if ¬crC a t u=0 then crC a t u else if (eyL a t u).2=0 then chk (eyL a t u).1 else (eyL a t u).2
def eyA(a t u:zM): zM:=if eyE a t u=0 then (eyL a t u).1 else []
def ZF(h:((!(decide ((nth t (t.length-1)).K=23)))||(!(decide ((nth u (u.length-1)).K=23))))=true): eqL e a t u=([],SK e):=by
 refine Ac ?_;rintro ⟨c,b⟩;simp [c,b] at h
def Wk(h:(nth t (t.length-1)).K=23)(b:(nth u (u.length-1)).K=23): eqL e a t u=(inL e (Bv (agA a) 1) [Bv (agA u) 1,Bv (agA t) 1],inQ e (Bv (agA a) 1) [Bv (agA u) 1,Bv (agA t) 1]):=Ae ⟨h,b⟩
section
variable {n:Nd}
def et_no(h:((!(hdB (nth t (t.length-1))))||(!(hdB (nth u (u.length-1)))))=true): etL e n t u=([],SK e):=by
 refine Ae ?_;cases h1:hdB (nth t (t.length-1))<;>cases h2:hdB (nth u (u.length-1))<;>simp [h1,h2] at h ⊢
def VX(h:((!(hdB (nth t (t.length-1))))||(!(hdB (nth u (u.length-1)))))=false):¬(hdB (nth t (t.length-1))=false\/hdB (nth u (u.length-1))=false):=by
 cases h1:hdB (nth t (t.length-1))<;>cases h2:hdB (nth u (u.length-1))<;>simp [h1,h2] at h ⊢
variable (h:((!(hdB (nth t (t.length-1))))||(!(hdB (nth u (u.length-1)))))=false)
include h
def et_ne(hn:¬nth t (t.length-1)=nth u (u.length-1)): etL e n t u=(noL e (kN 14 0) [],e):=(Ac (VX h)).trans (Ae hn)
variable (hn:nth t (t.length-1)=nth u (u.length-1))
include hn
def et_pi(hk:(nth t (t.length-1)).K=3): etL e n t u=etP e n (nth t (t.length-1)).N (agA t) (agA u):=(Ac (VX h)).trans ((Ac (fun q=>q hn)).trans (Ae hk))
def ZB(hk:(nth t (t.length-1)).K=6): etL e n t u=etS e n (nth t (t.length-1)).N (agA t) (agA u):=(Ac (VX h)).trans ((Ac (fun q=>q hn)).trans ((Ac zQ).trans (Ae hk)))
def VV(hk:(nth t (t.length-1)).K=22): etL e n t u=etQ e n (agA t) (agA u):=(Ac (VX h)).trans ((Ac (fun q=>q hn)).trans ((Ac zQ).trans ((Ac zQ).trans (Ae hk))))
def et_un(c:¬(nth t (t.length-1)).K=3)(b:¬(nth t (t.length-1)).K=6)(a:¬(nth t (t.length-1)).K=22): etL e n t u=(noL e (kN 16 0) [],e):=(Ac (VX h)).trans ((Ac (fun q=>q hn)).trans ((Ac c).trans ((Ac b).trans (Ac a))))
end
def arr_Z{r:zM}{p q:zM}(h:r=noL (upE e q 1 0) (kN 3 3) [p,upL e q 1 0])(b:sml p)(a:sml q): r.length<=p.length+q.length+1/\sml r:=by
 have:=ED (e:=upE e q 1 0) (n:=kN 3 3) (show (kN 3 3).S.size<1000000 by decide) (k:=p.length) ⟨b,Ag _⟩ (E0 (e:=e) (x:=1) (y:=0) ⟨a,Ag _⟩);rw [h];exact ⟨this.2,this.1⟩
def etT_Z{v:Int}{a b:zL}{r:zM}(h:r=(etT e a b v).1)(c:sml (Bv a 0))(hb:sml (Bv b 0)): r.length<=(Bv a 0).length+(Bv b 0).length+3/\sml r:=by
 have d:=Ef (e:=upE (upE e (Bv a 0) 3 0) (Bv b 0) 3 0) (n:=kN 0 v) (show (⟨#[]⟩:ByteArray).size<1000000 by decide);have:=KZ (e:=upE (upE e (Bv a 0) 3 0) (Bv b 0) 3 0) (E0 (e:=e) (x:=3) (y:=0) ⟨c,Ag _⟩) (E0 (e:=upE e (Bv a 0) 3 0) (x:=3) (y:=0) ⟨hb,Ag _⟩) d;rw [h];exact ⟨this.2,this.1⟩
def noY0{r:zM}{n:Nd}(h:r=noL e n [])(hn:n.S.size<1000000): r.length<=1/\sml r:=by
 have:=Ef (e:=e) hn;rw [h];exact ⟨this.2,this.1⟩
def sr_S{n:Nd}: (srN n m k).S=n.S:=by unfold srN;split<;>rfl
def epA_Z{r:zM}(h:r=epA e t x)(b:sml t)(a:sml x): r.length<=t.length+x.length+1/\sml r:=by
 have:=ED (e:=upE e t 1 0) (n:=kN 5 0) zS (E0 (e:=e) (x:=1) (y:=0) ⟨b,Ag _⟩) ⟨a,Ag _⟩;rw [h];exact ⟨this.2,this.1⟩
def Vn{r:zM}{n:Nd}{c:zM}(h:r=noL e n [a,b,c])(hn:n.S.size<1000000)(d:sml a)(hb:sml b)(hc:sml c): r.length<=a.length+b.length+c.length+1/\sml r:=by
 have:=Ga (e:=e) hn (k:=a.length) (j:=b.length) (i:=c.length) ⟨d,Ag _⟩ ⟨hb,Ag _⟩ ⟨hc,Ag _⟩;rw [h];exact ⟨this.2,this.1⟩
def Xe{r:zM}{n:Nd}(h:r=noL e n [a])(hn:n.S.size<1000000)(b:sml a): r.length<=a.length+1/\sml r:=by
 have:=Gb (e:=e) hn (k:=a.length) ⟨b,Ag _⟩;rw [h];exact ⟨this.2,this.1⟩
def XM{r:zM}{n:Nd}(h:r=noL e n [a,b])(hn:n.S.size<1000000)(c:sml a)(hb:sml b): r.length<=a.length+b.length+1/\sml r:=by
 have:=ED (e:=e) hn (k:=a.length) (j:=b.length) ⟨c,Ag _⟩ ⟨hb,Ag _⟩;rw [h];exact ⟨this.2,this.1⟩
section
variable {n:Nd} {p a b:zL}
def epL_Z(hn:n.S.size<1000000)(a:∀k,Sz 5000 (Bv p k))(c:Sz 5000 t)(b:Sz 5000 u): Sz 100000 (epL e n p t u).1:=
 EB (ED hn (a 0) (Ga e0S (a 1) (ED e0S (E0 c) (Qj (Ef e0S))) (ED e0S (E0 b) (Qj (Ef e0S))))) zS
def esL_Z(b:∀k,Sz 5000 (Bv p k))(c:Sz 5000 t)(a:Sz 5000 u): Sz 100000 (esL e m p t u).1:=by
 unfold esL;split
 ·exact EB (Ga e0S (b 0) (Gb e0S c) (Gb e0S a)) zS
 ·
  split
  ·exact EB (Ga e0S (IW (b 1) (Ef e0S)) (Gb e0S c) (Gb e0S a)) zS
  ·exact EB (ED e0S (Ga e0S (b 0) (Gb e0S c) (Gb e0S a)) (E0 (Ga e0S (IW (b 1) (Gb e0S a)) (KZ (IW (b 1) (Gb e0S c)) (IW (b 1) (Gb e0S a)) (Gb e0S c)) (Gb e0S a)))) zS
def OA:Sz 0 []:=⟨BX,Ag _⟩
def edL_Z{s:ByteArray}{x y:Nd}: Sz 100000 (edL e s x y).1:=by
 unfold edL;split
 ·exact EB (Ef e0S) zS
 ·exact EB OA zS
def eqL_Z{a:zM}(d:Sz 5000 a)(c:Sz 5000 t)(b:Sz 5000 u): Sz 100000 (eqL e a t u).1:=by
 unfold eqL;split
 ·exact EB (YJ (IX d 1) (IX b 1) (IX c 1)) zS
 ·exact EB OA zS
def e0L_Z(b:Sz 5000 t)(a:Sz 5000 u): Sz 100000 (e0L e t u).1:=
 EB (ED e0S (ED e0S b (E0 a)) (E0 (ED e0S a (E0 b)))) zS
def etL_Z(hn:n.S.size<1000000)(b:Sz 5000 t)(a:Sz 5000 u): Sz 100000 (etL e n t u).1:=by
 have ha:=IX b;have hb:=IX a;have hs:∀{m:Int} {k:Nat},(srN n m k).S.size<1000000:=by intro m k;rw [sr_S];exact hn
 unfold etL;dsimp only;split
 ·exact EB OA zS
 ·
  split
  ·exact EB (Ef e0S) zS
  ·
   split
   ·exact EB (ED e0S (Ga e0S (Ef hs) (hb 0) (ha 0)) (ED e0S (E0 (hb 0)) (Ga e0S (Ef hn) (IW (E0 (ha 1)) (Qj (KZ (E0 (hb 0)) (E0 (ha 0)) (Ef e0S)))) (E0 (hb 1))))) zS
   ·
    split
    ·exact EB (ED e0S (Ga e0S (Ef hs) (ha 0) (hb 0)) (ED e0S (E0 (ha 0)) (Ga e0S (Ef hs) (E0 (ha 1)) (IW (E0 (hb 1)) (Qj (KZ (E0 (ha 0)) (E0 (hb 0)) (Ef e0S))))))) zS
    ·
     split
     ·exact EB (ED e0S (Ga e0S (Ef hn) (ha 0) (hb 0)) (ED e0S (E0 (ha 0)) (ED e0S (E0 (ha 0)) (Ga e0S (Ef e0S) (E0 (ha 1)) (YJ (E0 (hb 1)) (KZ (E0 (ha 0)) (E0 (hb 0)) (Ef e0S)) (KZ (E0 (ha 0)) (E0 (hb 0)) (Ef e0S))))))) zS
     ·exact EB (Ef e0S) zS
end
def ntL_Z(d:Sz 5000 a)(c:Sz 5000 t)(b:Sz 5000 u): Sz 100000 (ntL e a t u):=by
 unfold ntL
 (repeat' split)
 ·exact EB OA zS
 ·exact EB (Ef e0S) zS
 ·exact EB (Ef e0S) zS
 ·exact EB (Ga e0S d (IX c 0) (IX b 0)) zS
section
def VU(h:¬chk a=0): eyE a t u=chk a/\eyA a t u=[]:=by
 have e:eyE a t u=chk a:=by unfold eyE;rw [show crC a t u=chk a from Ae h];exact Ae h
 exact ⟨e,by unfold eyA;rw [e];exact Ac h⟩
def VT(b:chk a=0)(h:¬chk t=0): eyE a t u=chk t/\eyA a t u=[]:=by
 have e:eyE a t u=chk t:=by unfold eyE;rw [show crC a t u=chk t from (Ac (CX b)).trans (Ae h)];exact Ae h
 exact ⟨e,by unfold eyA;rw [e];exact Ac h⟩
def VS(c:chk a=0)(b:chk t=0)(h:¬chk u=0): eyE a t u=chk u/\eyA a t u=[]:=by
 have e:eyE a t u=chk u:=by unfold eyE;rw [Og c b];exact Ae h
 exact ⟨e,by unfold eyA;rw [e];exact Ac h⟩
def Ee(d:chk a=0)(c:chk t=0)(b:chk u=0){R:zM×Int}(h:eyL a t u=R): eyE a t u=(if R.2=0 then chk R.1 else R.2)/\eyA a t u=if (if R.2=0 then chk R.1 else R.2)=0 then R.1 else []:=by
 have e:eyE a t u=(if R.2=0 then chk R.1 else R.2):=by unfold eyE;rw [Og d c,h];exact Ac (CX b)
 exact ⟨e,by unfold eyA;rw [e,h]⟩
abbrev eyB(a t u:zM): Bool:=(decide ((nth t (t.length-1)).K=29)||decide ((nth u (u.length-1)).K=29))||Qb (nth a (a.length-1))
def VO(h:eyB a t u=true): eyL a t u=(noL 0 (kN 16 0) [],0):=by
 refine Ae ?_;simpa [eyB,or_assoc] using h
def LE(h:eyB a t u=false):¬((nth t (t.length-1)).K=29\/(nth u (u.length-1)).K=29\/Qb (nth a (a.length-1))=true):=by
 intro q;have:eyB a t u=true:=by simpa [eyB,or_assoc] using q
 rw [this] at h;cases h
variable (h:eyB a t u=false)
include h
def VP(hk:(nth a (a.length-1)).K=3): eyL a t u=epL 0 (nth a (a.length-1)) (agA a) t u:=by
 refine (Ac (LE h)).trans ?_;exact Ae hk
def Sn(hk:(nth a (a.length-1)).K=6): eyL a t u=esL 0 (nth a (a.length-1)).N (agA a) t u:=by
 refine (Ac (LE h)).trans ?_;rw [Ac (show ¬(nth a (a.length-1)).K=3 by omega)];exact Ae hk
def So(hk:(nth a (a.length-1)).K=10): eyL a t u=(ntL 0 a t u,ntE 0 t u):=by
 refine (Ac (LE h)).trans ?_;rw [Ac (show ¬(nth a (a.length-1)).K=3 by omega)];rw [Ac (show ¬(nth a (a.length-1)).K=6 by omega)];exact Ae hk
def P1(hk:(nth a (a.length-1)).K=25): eyL a t u=edL 0 (nth a (a.length-1)).S (nth t (t.length-1)) (nth u (u.length-1)):=by
 refine (Ac (LE h)).trans ?_;rw [Ac (show ¬(nth a (a.length-1)).K=3 by omega)];rw [Ac (show ¬(nth a (a.length-1)).K=6 by omega)];rw [Ac (show ¬(nth a (a.length-1)).K=10 by omega)];exact Ae hk
def Pz(hk:(nth a (a.length-1)).K=22): eyL a t u=eqL 0 a t u:=by
 refine (Ac (LE h)).trans ?_;rw [Ac (show ¬(nth a (a.length-1)).K=3 by omega)];rw [Ac (show ¬(nth a (a.length-1)).K=6 by omega)];rw [Ac (show ¬(nth a (a.length-1)).K=10 by omega)];rw [Ac (show ¬(nth a (a.length-1)).K=25 by omega)];exact Ae hk
def P0(hk:(nth a (a.length-1)).K=2): eyL a t u=if 0<(nth a (a.length-1)).N then etL 0 (nth a (a.length-1)) t u else e0L 0 t u:=by
 refine (Ac (LE h)).trans ?_;rw [Ac zQ,Ac zQ,Ac zQ,Ac zQ,Ac zQ];exact Ae hk
def VQ(f:¬(nth a (a.length-1)).K=3)(e:¬(nth a (a.length-1)).K=6)(d:¬(nth a (a.length-1)).K=10)(b:¬(nth a (a.length-1)).K=25)(c:¬(nth a (a.length-1)).K=22)(g:¬(nth a (a.length-1)).K=2): eyL a t u=([],120):=by
 refine (Ac (LE h)).trans ?_;rw [Ac f,Ac e,Ac d,Ac b,Ac c,Ac g]
end
end
section
open Go Go.RowKit
def Vu{n:Nd}(h:n.K=27): many n=n.M.toNat+2:=by simp [many,binds,h]
def PE(x:zM): Prop:=chk x=0/\dpL x<=30
section
variable {m c:zM} {q:zL} {s:ByteArray} (hm:PE m) (hlm:m.length<=120) (hc:PE c) (hlc:c.length<=120) (hq:∀x∈q,PE x/\x.length<=120) (h6:q.length<=6) (hs:EG s=true)
include hm hlm hc hlc hq h6 hs
end
end
section
open Go Go.RowKit
structure Hnd (β:Type) where
 el:Nat
 sz:Nat
 enc:List β->zF
section
variable {W' wl:zH} {m m0:zO} {g:Nat}
end
def nPost(c:List α->zO->Prop)(w0:zH)(Z M:zG)(s:List α)(W:zH)(m:zO)(b:Res): Exit->zC
 | .normal,_,W'=>∃(d:zO) (a:zP) (i:Nat),St w0 Z M W' (b::d) a/\a[i]?=some (dAg W (imm Z w0 m W))/\c s d
 | _,_,_=>False
def UY{a:List α->zO->Prop}{s:List α}{m:zO}{b:Res}: D6 (nPost a w0 Z M s W m b):=fun _ _ _ _ _ h=>h
section
end
section
variable {Q:zB} {a:Act} {m:zO} {ds0:zP} {jf jx:JF (List β)} {H:Hnd β} {xl:List (List β)} {C0 M0 Zd:zG} {g:Nat} {t:zI} {c0 cE:zF} {cell:List (List β)->zF}
end
end
section
open Go Go.RowKit
def L8{p:zN}(h:k<p.length): (AK p).take (k+1)=(AK p).take k++[(At p k).2.2]:=by
 have e:(AK p)[k]?=some (At p k).2.2:=by
  unfold AK At;simp [h]
 rw [List.take_add_one,e];rfl
def Ja{t:zI}{n:Int}(h0:0<=n)(hn:n<1000): (Go.binOp .quo t (.int .i64 n) (.int .i64 2)).run P w=.ok (.int .i64 (n.tdiv 2)) w:=by
 have a:IntKind.i64.wrap (n.tdiv 2)=n.tdiv 2:=KR rfl (by rw [Int.tdiv_eq_ediv_of_nonneg h0];omega) (by rw [Int.tdiv_eq_ediv_of_nonneg h0];omega);show Go.Result.ok (Value.int .i64 (IntKind.i64.wrap (n.tdiv 2))) w=_;rw [a]
def DE{p:List Bd}(h:∀x∈p,Q x.1)(h0:Q [])(k:Nat): Q (Ge p k).1:=by
 unfold Ge;by_cases hk:k<p.length
 ·
  have e:p.getD k ([],0)=p[k]:=by simp [hk]
  rw [e];exact h _ (List.getElem_mem hk)
 ·simp [AC,List.getElem?_eq_none (by omega:p.length<=k),h0]
def AbH{n:Nd}{l:List Bd}: (bOf n l).1.length<=(l.map (·.1)).flatten.length+1:=by
 unfold bOf;split
 ·simp
 ·simp
def AbG{n:Nd}{l:List Bd}(hn:n.S.size<1000000)(h:∀x∈l,sml x.1): sml (bOf n l).1:=by
 have a:=BD (e:=0) hn (p:=l.map (·.1)) (fun x c=>by
  obtain ⟨y,b,rfl⟩:=Do.1 c
  exact h y b)
 unfold noL at a;rw [Ae rfl] at a;unfold bOf;split
 ·exact a
 ·exact BX
def bP(t:zM): List Bd:=(ptL t).map fun x=>(x,(0:Int))
section
variable {n:Nd} {p:List Bd} {a:Bd}
end
def Fu(hc:chk t=0)(hs:sml t):∀x∈bP t,sml x.1/\x.1.length<=4000:=fun x d=>by
 obtain ⟨y,a,rfl⟩:=Do.1 d;rw [<-EW hc] at a;obtain ⟨c,b⟩:=E6 hs y a;exact ⟨c,Ax b (D9 hc)⟩
def Gk(hc:chk t=0): (bP t).length=many (nth t (t.length-1)):=by
 unfold bP;rw [BK,Cl (Br hc)]
end
section
open Go Go.RowKit
abbrev bV(n:Int): Bd:=([kN 0 n],0)
abbrev bT:Bd:=([kN 29 0],0)
abbrev bP0(t:zM)(k:Nat): Bd:=(Bv (ptL t) k,0)
def bEq(a t u:Bd): Bd:=bOf (kN 18 0) [a,t,u]
def bCa(a b t:Bd): Bd:=bOf (kN 20 0) [a,b,bT,t]
def bPl(n:Int)(b:Bd): Bd:=if n.tdiv 2=1 then bT else b
def rsg(n:Int)(a b t u:Bd): Bd:=
 if n=1 then bEq a (bOf (kN 8 0) [t]) (bOf (kN 8 0) [u])
 else if n=2 then bEq (bAt b [bT]) (bOf (kN 9 0) [t]) (bOf (kN 9 0) [u])
 else bOf (kN 6 3) [bEq a (bOf (kN 8 0) [t]) (bOf (kN 8 0) [u]),
  bUp (bEq (bAt b [bOf (kN 8 0) [u]]) (bCa (bAt b [bOf (kN 8 0) [t]]) (bAt b [bOf (kN 8 0) [u]]) (bOf (kN 9 0) [t])) (bOf (kN 9 0) [u])) 1 0]
def rnt(t u:zM): Bd:=
 if Gy t=1/\Gy u=1 then ([kN 16 0],0)
 else if Gy t=2/\Gy u=2 then bEq ([kN 10 0],0) (bP0 t 0) (bP0 u 0)
 else if (Gy t=1/\Gy u=2)\/(Gy t=2/\Gy u=1) then ([kN 14 0],0) else ([],120)
def rdt(s:ByteArray)(x y:Nd): Bd:=if x.K=26/\y.K=26/\x.S=s/\y.S=s/\¬x.N=y.N then ([kN 14 0],0) else ([],120)
def YL(n:Nd): Bool:=decide (n.K=16)||decide (n.K=14)||decide (n.K=18)||(decide (n.K=3)&&decide (n.N.tmod 2=1))||(decide (n.K=6)&&decide (n.N=3))
def hdR(n:Nd): Bool:=decide (n.K=2)||decide (n.K=10)||decide (n.K=25)||decide (n.K=22)||(decide (n.K=3)&&decide (n.N.tmod 2=0))||(decide (n.K=6)&&!decide (n.N=3))
def rsr(n:Int)(m:Bool): Bd:=([kN 2 (if m=true then 0 else n)],0)
def rtP(n m:Int)(a b:Nat->Bd): Bd:=
 let v:=bPl m (bCa (bUp (b 0) 2 0) (bUp (a 0) 2 0) (bV 0))
 bOf (kN 6 3) [bEq (rsr n (decide (m.tdiv 2=1))) (b 0) (a 0),bOf (kN 3 (1+m.tdiv 2*2)) [bUp (b 0) 1 0,bEq (rsr n false) (bAt (bUp (a 1) 2 1) [v]) (bUp (b 1) 1 1)]]
def rtS(n m:Int)(a b:Nat->Bd): Bd:=
 let v:=bPl m (bCa (bUp (a 0) 2 0) (bUp (b 0) 2 0) (bV 0))
 bOf (kN 6 3) [bEq (rsr n (decide (m.tdiv 2=1))) (a 0) (b 0),bOf (kN 3 (1+m.tdiv 2*2)) [bUp (a 0) 1 0,bEq (rsr n (decide (m.tmod 2=1))) (bUp (a 1) 1 1) (bAt (bUp (b 1) 2 1) [v])]]
def rtQ(n:Int)(a b:Nat->Bd): Bd:=
 let v:=bCa (bUp (a 0) 3 0) (bUp (b 0) 3 0) (bV 1);let w:=bCa (bUp (a 0) 3 0) (bUp (b 0) 3 0) (bV 0)
 bOf (kN 6 3) [bEq (rsr n false) (a 0) (b 0),bOf (kN 3 1) [bUp (a 0) 1 0,bOf (kN 3 1) [bUp (a 0) 2 0,bEq (rsr 0 false) (bUp (a 1) 1 2) (bAt (bUp (b 1) 3 2) [w,v])]]]
def rty(n:Int)(t u:zM): Bd:=
 let x:=nth t (t.length-1);let y:=nth u (u.length-1)
 if hdR x=false\/hdR y=false then ([],120)
 else if ¬x.K=y.K\/(¬x=y/\¬x.K=22) then ([kN 14 0],0)
 else if many x=0 then ([kN 16 0],0)
 else if x.K=3 then rtP n x.N (bP0 t) (bP0 u)
 else if x.K=6 then rtS n x.N (bP0 t) (bP0 u)
 else rtQ n (bP0 t) (bP0 u)
def rpi(n:Nd)(l:Nat->Bd)(t u:Bd): Bd:=
 bOf (kN 3 (n.N.tdiv 2*2+1)) [l 0,bEq (l 1) (bOf (kN 5 0) [bUp t 1 0,bPl n.N (bV 0)]) (bOf (kN 5 0) [bUp u 1 0,bPl n.N (bV 0)])]
def rpr(t u:Bd): Bd:=bOf (kN 6 3) [bOf (kN 3 3) [t,bUp u 1 0],bUp (bOf (kN 3 3) [u,bUp t 1 0]) 1 0]
def reB(a t u:zM): Bd:=
 let n:=nth a (a.length-1)
 if (nth t (t.length-1)).K=29\/(nth u (u.length-1)).K=29\/YL n=true then ([kN 16 0],0)
 else if n.K=3 then rpi n (bP0 a) (t,0) (u,0)
 else if n.K=6 then rsg n.N (bP0 a 0) (bP0 a 1) (t,0) (u,0)
 else if n.K=10 then rnt t u
 else if n.K=25 then rdt n.S (nth t (t.length-1)) (nth u (u.length-1))
 else if n.K=22 then (if (nth t (t.length-1)).K=23/\(nth u (u.length-1)).K=23 then bAt (bP0 a 1) [bP0 u 1,bP0 t 1] else ([],120))
 else if n.K=2 then (if 0<n.N then rty n.N t u else rpr (t,0) (u,0))
 else ([],120)
def reQ(a t u:zM): Bd:=if ¬crC a t u=0 then ([],crC a t u) else EY (reB a t u)
def lkR(a:zM): Bool:=let n:=nth a (a.length-1);decide (chk a=0)&&(decide (n.K=10)||decide (n.K=25)||decide (n.K=22)||(decide (n.K=2)&&decide (0<n.N)))
def Zz{x:zM}:∀{l:zL},x∈l->x.length<=l.flatten.length
 | y::l,h=>by
  rw [BO,Ab];rcases Aj.1 h with rfl|h
  ·omega
  ·have:=Zz h;omega
section
variable {r c d:zM} {ae be de:Int} {n:Nd}
def bo_Z{l:List Bd}(h:r=(bOf n l).1)(hn:n.S.size<1000000)(hl:∀x∈l,sml x.1): r.length<=(l.map (·.1)).flatten.length+1/\sml r:=by
 rw [h];unfold bOf;split
 ·
  have c:∀x∈l.map (·.1),sml x:=fun x b=>by obtain ⟨y,a,rfl⟩:=Do.1 b;exact hl y a
  exact ⟨by simp,(BD (e:=0) hn c:sml (noL 0 n (l.map (·.1))))⟩
 ·exact ⟨by simp,BX⟩
def Xh(h:r=(bOf n [(a,ae)]).1)(hn:n.S.size<1000000)(c:sml a): r.length<=a.length+1/\sml r:=by
 have:=bo_Z h hn (by intro x b;simp only [Aj,Ah,or_false] at b;rw [b];exact c);simpa using this
def MT(h:r=(bOf n [(a,ae),(b,be)]).1)(hn:n.S.size<1000000)(d:sml a)(hb:sml b): r.length<=a.length+b.length+1/\sml r:=by
 have:=bo_Z h hn (by intro x c;simp only [Aj,Ah,or_false] at c;rcases c with rfl|rfl;exact d;exact hb);simpa [Nat.add_assoc] using this
def TG(h:r=(bEq (a,ae) (b,be) (c,ce)).1)(e:sml a)(hb:sml b)(hc:sml c): r.length<=a.length+b.length+c.length+1/\sml r:=by
 have:=bo_Z h e0S (by intro x d;simp only [Aj,Ah,or_false] at d;rcases d with rfl|rfl|rfl;exact e;exact hb;exact hc);simpa [Nat.add_assoc] using this
def TF(h:r=(bCa (a,ae) (b,be) (c,ce)).1)(f:sml a)(hb:sml b)(hc:sml c): r.length<=a.length+b.length+c.length+2/\sml r:=by
 have h0:sml ([kN 29 0]:zM):=(BD (e:=0) e0S (p:=[]) zY:sml (noL 0 (kN 29 0) []));have:=bo_Z h e0S (by intro x d;simp only [Aj,Ah,or_false] at d;rcases d with rfl|rfl|rfl|rfl;exact f;exact hb;exact h0;exact hc);refine ⟨?_,this.2⟩;have g:=this.1;simp at g;omega
def ID{x:Int}(h:r=(bUp (a,ae) x y).1)(b:sml a): r.length<=a.length/\sml r:=by
 rw [h];unfold bUp;split
 ·exact (upZ (r:=sfA a x y) (e:=0) (t:=a) (n:=x) (k:=y) rfl b)
 ·exact ⟨Ag _,b⟩
def Y0(h:r=(bPl m (a,ae)).1)(b:sml a): r.length<=a.length+1/\sml r:=by
 rw [h];unfold bPl;split
 ·exact ⟨by simp,(BD (e:=0) e0S (p:=[]) zY:sml (noL 0 (kN 29 0) []))⟩
 ·exact ⟨by simp,b⟩
def ba_Z{l:List Bd}(h:r=(bAt (a,ae) l).1)(b:sml a)(hl:∀x∈l,sml x.1): r.length<=a.length+(l.map (·.1)).flatten.length+4000/\sml r:=by
 rw [h];unfold bAt;split
 ·exact ⟨by simp;omega,b⟩
 ·
  split
  ·
   rename_i g;have:∀m:List Bd,¬(fsE m).2=0->fsE m∈m:=fun m=>by
    induction m with
    | nil=>intro h;exact absurd rfl h
    | cons x m ih=>
     intro h;simp only [fsE] at h ⊢;split at h
     ·rename_i h0;rw [Ae h0];exact List.mem_cons_of_mem _ (ih h)
     ·rename_i h0;rw [Ac h0];exact List.mem_cons_self
   have hm:=this l g;refine ⟨?_,hl _ hm⟩;have i:=Zz (List.mem_map_of_mem (f:=(·.1)) hm);omega
  ·have hi:=inZ (r:=inA a (l.map (·.1))) (e:=0) (t:=a) (l:=l.map (·.1)) rfl b (fun x d=>by obtain ⟨y,c,rfl⟩:=Do.1 d;exact hl y c);exact ⟨Ax hi.1 zQ,hi.2⟩
def TB{xe:Int}(h:r=(bAt (a,ae) [(x,xe)]).1)(d:sml a)(c:sml x): r.length<=a.length+x.length+4000/\sml r:=by
 have:=ba_Z h d (by intro y b;simp only [Aj,Ah,or_false] at b;subst b;exact c);refine ⟨?_,this.2⟩;have e:=this.1;simp at e;omega
def Ab8{y:zM}{xe ye:Int}(h:r=(bAt (a,ae) [(x,xe),(y,ye)]).1)(e:sml a)(d:sml x)(c:sml y): r.length<=a.length+x.length+y.length+4000/\sml r:=by
 have:=ba_Z h e (by intro z b;simp only [Aj,Ah,or_false] at b;rcases b with rfl|rfl;exact d;exact c);refine ⟨?_,this.2⟩;have f:=this.1;simp at f;omega
def EI(t:zM)(k:Nat): Ge (bP t) k=bP0 t k:=by
 unfold Ge bP bP0 Bv;by_cases h:k<(ptL t).length
 ·simp [List.getD,h]
 ·simp [List.getD,h]
section
def rnt_u(h:(decide ((nth t (t.length-1)).K=11)&&decide ((nth u (u.length-1)).K=11))=true): rnt t u=([kN 16 0],0):=by
 simp at h;simp [rnt,Gy,h.1,h.2]
def rnt_s(h:(decide ((nth t (t.length-1)).K=12)&&decide ((nth u (u.length-1)).K=12))=true): rnt t u=bEq ([kN 10 0],0) (bP0 t 0) (bP0 u 0):=by
 simp at h;simp [rnt,Gy,h.1,h.2]
def rnt_e(h:((decide ((nth t (t.length-1)).K=11)&&decide ((nth u (u.length-1)).K=12))||(decide ((nth t (t.length-1)).K=12)&&decide ((nth u (u.length-1)).K=11)))=true): rnt t u=([kN 14 0],0):=by
 simp at h;rcases h with h|h<;>simp [rnt,Gy,h.1,h.2]
def rnt_x(c:(decide ((nth t (t.length-1)).K=11)&&decide ((nth u (u.length-1)).K=11))=false)(b:(decide ((nth t (t.length-1)).K=12)&&decide ((nth u (u.length-1)).K=12))=false)(a:((decide ((nth t (t.length-1)).K=11)&&decide ((nth u (u.length-1)).K=12))||(decide ((nth t (t.length-1)).K=12)&&decide ((nth u (u.length-1)).K=11)))=false): rnt t u=([],120):=by
 unfold rnt Gy;by_cases g:(nth t (t.length-1)).K=11<;>by_cases f:(nth t (t.length-1)).K=12<;>by_cases e:(nth u (u.length-1)).K=11<;>by_cases d:(nth u (u.length-1)).K=12<;>simp_all
end
def tdv{n:Int}(h0:0<=n)(a:n<1000): 0<=n.tdiv 2/\n.tdiv 2<1000:=by
 rw [Int.tdiv_eq_ediv_of_nonneg h0];omega
def YU{n:Int}(h:((!hdR (nth t (t.length-1)))||(!hdR (nth u (u.length-1))))=true): rty n t u=([],120):=by
 simp at h;simp [rty,h]
def YV{n:Int}(a:((!hdR (nth t (t.length-1)))||(!hdR (nth u (u.length-1))))=false)(h:((!decide ((nth t (t.length-1)).K=(nth u (u.length-1)).K))||((!decide (nth t (t.length-1)=nth u (u.length-1)))&&(!decide ((nth t (t.length-1)).K=22))))=true): rty n t u=([kN 14 0],0):=by
 simp at h a;unfold rty;rw [Ac (by simp [a]),Ae h]
def JZ{n:Int}(a:((!hdR (nth t (t.length-1)))||(!hdR (nth u (u.length-1))))=false)(hd:((!decide ((nth t (t.length-1)).K=(nth u (u.length-1)).K))||((!decide (nth t (t.length-1)=nth u (u.length-1)))&&(!decide ((nth t (t.length-1)).K=22))))=false): rty n t u=if many (nth t (t.length-1))=0 then ([kN 16 0],0) else if (nth t (t.length-1)).K=3 then rtP n (nth t (t.length-1)).N (bP0 t) (bP0 u) else if (nth t (t.length-1)).K=6 then rtS n (nth t (t.length-1)).N (bP0 t) (bP0 u) else rtQ n (bP0 t) (bP0 u):=by
 simp at hd a;unfold rty;rw [Ac (by simp [a]),Ac (by rintro (q|⟨c,b⟩);exact q hd.1;exact b (hd.2 c))]
def H3{k:Int}(h:n.K=k)(hk:k=2\/k=10\/k=25): many n=0:=by
 subst h;rcases hk with e|e|e<;>simp [many,binds,e,shp]
def YT(hd:((!decide ((nth t (t.length-1)).K=(nth u (u.length-1)).K))||((!decide (nth t (t.length-1)=nth u (u.length-1)))&&(!decide ((nth t (t.length-1)).K=22))))=false)(hk:¬(nth t (t.length-1)).K=22): nth u (u.length-1)=nth t (t.length-1):=by
 simp at hd;exact (Classical.byContradiction fun q=>hk (hd.2 fun e=>q e.symm))
def rty_kk(hd:((!decide ((nth t (t.length-1)).K=(nth u (u.length-1)).K))||((!decide (nth t (t.length-1)=nth u (u.length-1)))&&(!decide ((nth t (t.length-1)).K=22))))=false)(hk:(nth t (t.length-1)).K=22): (nth u (u.length-1)).K=22:=by
 simp at hd;rw [<-hd.1];exact hk
def rty_22(c:((!hdR (nth t (t.length-1)))||(!hdR (nth u (u.length-1))))=false)(b:¬many (nth t (t.length-1))=0)(e:¬(nth t (t.length-1)).K=3)(d:¬(nth t (t.length-1)).K=6): (nth t (t.length-1)).K=22:=by
 simp at c;have a:=c.1;unfold hdR at a;simp [e,d] at a;rcases a with ((a|a)|a)|a
 ·exact absurd (H3 a (.inl rfl)) b
 ·exact absurd (H3 a (.inr (.inl rfl))) b
 ·exact absurd (H3 a (.inr (.inr rfl))) b
 ·exact a
end
end
section
open Go Go.RowKit
section
abbrev rtn(t:zM): Nd:=nth t (t.length-1)
def re_un(h:((decide ((rtn t).K=29)||decide ((rtn u).K=29))||YL (rtn a))=true): reB a t u=([kN 16 0],0):=by
 simp only [Hp,A9,or_assoc] at h;unfold reB;exact Ae h
def Hj(h:((decide ((rtn t).K=29)||decide ((rtn u).K=29))||YL (rtn a))=false): reB a t u =
  if (rtn a).K=3 then rpi (rtn a) (bP0 a) (t,0) (u,0)
  else if (rtn a).K=6 then rsg (rtn a).N (bP0 a 0) (bP0 a 1) (t,0) (u,0)
  else if (rtn a).K=10 then rnt t u
  else if (rtn a).K=25 then rdt (rtn a).S (rtn t) (rtn u)
  else if (rtn a).K=22 then (if (rtn t).K=23/\(rtn u).K=23 then bAt (bP0 a 1) [bP0 u 1,bP0 t 1] else ([],120))
  else if (rtn a).K=2 then (if 0<(rtn a).N then rty (rtn a).N t u else rpr (t,0) (u,0))
  else ([],120):=by
 simp only [Bool.or_eq_false_iff,BI] at h;unfold reB;exact Ac (by rintro (q|q|q);exact h.1.1 q;exact h.1.2 q;rw [h.2] at q;cases q)
end
def bzz(B:Nat)(x:Bd): Prop:=sml x.1/\x.1.length<=B
section
variable {A D:Nat} {a b c d x y:Bd} {n:Nd} {k j:Int}
def bzz.mono(h:bzz A x)(a:A<=B:=by decide): bzz B x:=⟨h.1,Ax h.2 a⟩
def AbB: bzz 0 ([],e):=⟨BX,by simp⟩
def bq_l{n:Int}: bzz 1 ([⟨n,m,0,⟨#[]⟩⟩],e):=⟨(BD (e:=0) (n:=⟨n,m,0,⟨#[]⟩⟩) e0S (p:=[]) zY:sml (noL 0 _ [])),by simp⟩
def Rg(b:bzz A a)(hn:n.S.size<1000000:=by exact e0S): bzz (A+1) (bOf n [a]):=by
 have h:=Xh (r:=(bOf n [a]).1) (a:=a.1) (ae:=a.2) (n:=n) rfl hn b.1;exact ⟨h.2,by have:=h.1;have:=b.2;omega⟩
def PI(c:bzz A a)(hb:bzz B b)(hn:n.S.size<1000000:=by exact e0S): bzz (A+B+1) (bOf n [a,b]):=by
 have h:=MT (r:=(bOf n [a,b]).1) (a:=a.1) (ae:=a.2) (b:=b.1) (be:=b.2) (n:=n) rfl hn c.1 hb.1;exact ⟨h.2,by have:=h.1;have:=c.2;have:=hb.2;omega⟩
def TQ(d:bzz A a)(hb:bzz B b)(hc:bzz C c): bzz (A+B+C+1) (bEq a b c):=by
 have h:=TG (r:=(bEq a b c).1) (a:=a.1) (ae:=a.2) (b:=b.1) (be:=b.2) (c:=c.1) (ce:=c.2) rfl d.1 hb.1 hc.1;exact ⟨h.2,by have:=h.1;have:=d.2;have:=hb.2;have:=hc.2;omega⟩
def TP(d:bzz A a)(hb:bzz B b)(hc:bzz C c): bzz (A+B+C+2) (bCa a b c):=by
 have h:=TF (r:=(bCa a b c).1) (a:=a.1) (ae:=a.2) (b:=b.1) (be:=b.2) (c:=c.1) (ce:=c.2) rfl d.1 hb.1 hc.1;exact ⟨h.2,by have:=h.1;have:=d.2;have:=hb.2;have:=hc.2;omega⟩
def IK(b:bzz A a): bzz A (bUp a k j):=by
 have h:=ID (r:=(bUp a k j).1) (a:=a.1) (ae:=a.2) (x:=k) (y:=j) rfl b.1;exact ⟨h.2,by have:=h.1;have:=b.2;omega⟩
def Yz(b:bzz A a): bzz (A+1) (bPl k a):=by
 have h:=Y0 (r:=(bPl k a).1) (a:=a.1) (ae:=a.2) (m:=k) rfl b.1;exact ⟨h.2,by have:=h.1;have:=b.2;omega⟩
def Yy(c:bzz A a)(b:bzz B x): bzz (A+B+4000) (bAt a [x]):=by
 have h:=TB (r:=(bAt a [x]).1) (a:=a.1) (ae:=a.2) (x:=x.1) (xe:=x.2) rfl c.1 b.1;exact ⟨h.2,by have:=h.1;have:=c.2;have:=b.2;omega⟩
def bq_w2(d:bzz A a)(c:bzz B x)(b:bzz C y): bzz (A+B+C+4000) (bAt a [x,y]):=by
 have h:=Ab8 (r:=(bAt a [x,y]).1) (a:=a.1) (ae:=a.2) (x:=x.1) (xe:=x.2) (y:=y.1) (ye:=y.2) rfl d.1 c.1 b.1;exact ⟨h.2,by have:=h.1;have:=d.2;have:=c.2;have:=b.2;omega⟩
def AbZ{k:Nat}(hc:chk t=0)(hs:sml t): bzz 4000 (bP0 t k):=by
 rw [<-EI];exact DE (Q:=fun x=>sml x/\x.length<=4000) (Fu hc hs) ⟨BX,by simp⟩ k
def JS{p:Prop}[Decidable p](b:p->bzz A x)(a:¬p->bzz A y): bzz A (if p then x else y):=by
 split
 ·exact b ‹_›
 ·exact a ‹_›
end
def S4(hc:chk t=0)(hs:sml t): bzz 4000 (t,0):=⟨hs,D9 hc⟩
def reB_Z(j:chk a=0)(h:chk t=0)(g:chk u=0)(i:sml a)(st:sml t)(f:sml u): bzz 200000 (reB a t u):=by
 have pa:=fun k=>AbZ (k:=k) j i;have pt:=fun k=>AbZ (k:=k) h st;have b:=fun k=>AbZ (k:=k) g f;have d:=S4 h st;have c:=S4 g f;have L:∀{n m e:Int},bzz 1 ([⟨n,m,0,⟨#[]⟩⟩],e):=bq_l;refine JS (fun _=>L.mono) fun _=>JS (fun _=>?_) fun _=>JS (fun _=>?_) fun _=>JS (fun _=>?_) fun _=>JS (fun _=>?_) fun _=>JS (fun _=>?_) fun _=>JS (fun _=>?_) fun _=>AbB.mono
 ·exact (PI (pa 0) (TQ (pa 1) (PI (IK d) (Yz L)) (PI (IK c) (Yz L)))).mono
 ·refine JS (fun _=>(TQ (pa 0) (Rg d) (Rg c)).mono) fun _=>JS (fun _=>(TQ (Yy (pa 1) L) (Rg d) (Rg c)).mono) fun _=>?_;exact (PI (TQ (pa 0) (Rg d) (Rg c)) (IK (TQ (Yy (pa 1) (Rg c)) (TP (Yy (pa 1) (Rg d)) (Yy (pa 1) (Rg c)) (Rg d)) (Rg c)))).mono
 ·exact JS (fun _=>L.mono) fun _=>JS (fun _=>(TQ L (pt 0) (b 0)).mono) fun _=>JS (fun _=>L.mono) fun _=>AbB.mono
 ·exact JS (fun _=>L.mono) fun _=>AbB.mono
 ·exact JS (fun _=>(bq_w2 (pa 1) (b 1) (pt 1)).mono) fun _=>AbB.mono
 ·
  refine JS (fun _=>?_) fun _=>(PI (PI d (IK c)) (IK (PI c (IK d)))).mono;refine JS (fun _=>AbB.mono) fun _=>JS (fun _=>L.mono) fun _=>JS (fun _=>L.mono) fun _=>JS (fun _=>?_) fun _=>JS (fun _=>?_) fun _=>?_
  ·exact (PI (TQ L (b 0) (pt 0)) (PI (IK (b 0)) (TQ L (Yy (IK (pt 1)) (Yz (TP (IK (b 0)) (IK (pt 0)) L))) (IK (b 1))))).mono
  ·exact (PI (TQ L (pt 0) (b 0)) (PI (IK (pt 0)) (TQ L (IK (pt 1)) (Yy (IK (b 1)) (Yz (TP (IK (pt 0)) (IK (b 0)) L)))))).mono
  ·exact (PI (TQ L (pt 0) (b 0)) (PI (IK (pt 0)) (PI (IK (pt 0)) (TQ L (IK (pt 1)) (bq_w2 (IK (b 1)) (TP (IK (pt 0)) (IK (b 0)) L) (TP (IK (pt 0)) (IK (b 0)) L)))))).mono
section
def rQ_a(h:¬chk a=0): reQ a t u=([],chk a):=by
 have hc:crC a t u=chk a:=Ae h;unfold reQ;rw [hc,Ae h]
def rQ_t(b:chk a=0)(h:¬chk t=0): reQ a t u=([],chk t):=by
 have hc:crC a t u=chk t:=by unfold crC;rw [Ac zQ,Ae h]
 unfold reQ;rw [hc,Ae h]
def rQ_u(c:chk a=0)(b:chk t=0)(h:¬chk u=0): reQ a t u=([],chk u):=by
 have hc:=Og (t:=u) c b;unfold reQ;rw [hc,Ae h]
def XA(c:chk a=0)(b:chk t=0)(h:chk u=0): reQ a t u=EY (reB a t u):=by
 have hc:=Og (t:=u) c b;unfold reQ;rw [hc,Ac zQ]
end
def Zb(m:Int)(p q:Nat->Bd)(x:Bd): Bd:=
 let y:=bPl m (bCa (bUp (q 0) 1 0) (bUp (p 0) 1 0) (bV 0))
 bOf (kN 4 0) [q 0,bCa (bAt (bUp (p 1) 1 1) [y]) (q 1) (bOf (kN 5 0) [bUp x 1 0,y])]
def TJ(m:Int)(b:zM)(p q:Nat->Bd)(x:Bd): Bd:=
 bOf (kN 7 0) [(b,0),bPl m (bCa (p 0) (q 0) (bOf (kN 8 0) [x])),
  if m.tmod 2=0 then bCa (bAt (p 1) [bPl m (bOf (kN 8 0) [x])]) (bAt (q 1) [bPl m (bCa (p 0) (q 0) (bOf (kN 8 0) [x]))]) (bOf (kN 9 0) [x]) else bT]
def R9(a b t:zM): Bd:=
 let n:=rtn a
 if (rtn t).K=29 then bT
 else if ¬n=rtn b then ([],120)
 else if (decide (n.K=10)||decide (n.K=2)||decide (n.K=25))=true then (t,0)
 else if (decide (n.K=3)&&decide (n.N.tmod 2=0))=true then Zb n.N (bP0 a) (bP0 b) (t,0)
 else if (decide (n.K=6)&&!decide (n.N=3))=true then TJ n.N b (bP0 a) (bP0 b) (t,0)
 else if (decide (n.K=22)&&decide ((rtn t).K=23))=true then bOf (kN 23 0) [(b,0),bCa (bP0 a 0) (bP0 b 0) (bP0 t 1)]
 else ([],120)
def LV(a b t:zM): Bd:=if ¬crC a b t=0 then ([],crC a b t) else EY (R9 a b t)
def Abd(a b:zM): Bool:=decide (chk a=0)&&decide (chk b=0)&&decide ((rtn a).K=22)&&decide ((rtn b).K=22)
def bq_3o{A:Nat}{a b c:Bd}{n:Nd}(e:bzz A a)(hb:bzz B b)(hc:bzz C c)(hn:n.S.size<1000000:=by exact e0S): bzz (A+B+C+1) (bOf n [a,b,c]):=by
 have h:=bo_Z (r:=(bOf n [a,b,c]).1) rfl hn (by intro x d;simp only [Aj,Ah,or_false] at d;rcases d with rfl|rfl|rfl;exact e.1;exact hb.1;exact hc.1);refine ⟨h.2,?_⟩;have f:=h.1;have:=e.2;have:=hb.2;have:=hc.2;simp at f;omega
def Zc(j:chk a=0)(hb:chk b=0)(h:chk t=0)(i:sml a)(g:sml b)(st:sml t): bzz 200000 (R9 a b t):=by
 have pa:=fun k=>AbZ (k:=k) j i;have c:=fun k=>AbZ (k:=k) hb g;have pt:=fun k=>AbZ (k:=k) h st;have d:=S4 h st;have f:=S4 hb g;have L:∀{n m e:Int},bzz 1 ([⟨n,m,0,⟨#[]⟩⟩],e):=bq_l;refine JS (fun _=>L.mono) fun _=>JS (fun _=>AbB.mono) fun _=>JS (fun _=>d.mono) fun _=>JS (fun _=>?_) fun _=>JS (fun _=>?_) fun _=>JS (fun _=>?_) fun _=>AbB.mono
 ·exact (PI (c 0) (TP (Yy (IK (pa 1)) (Yz (TP (IK (c 0)) (IK (pa 0)) L))) (c 1) (PI (IK d) (Yz (TP (IK (c 0)) (IK (pa 0)) L))))).mono
 ·exact (bq_3o f (Yz (TP (pa 0) (c 0) (Rg d))) (JS (A:=60000) (fun _=>(TP (Yy (pa 1) (Yz (Rg d))) (Yy (c 1) (Yz (TP (pa 0) (c 0) (Rg d)))) (Rg d)).mono) fun _=>L.mono)).mono
 ·exact (PI f (TP (pa 0) (c 0) (pt 1))).mono
section
def r3_t(h:(rtn t).K=29): R9 a b t=bT:=Ae h
def r3_ne(h:¬(rtn t).K=29)(c:¬rtn a=rtn b): R9 a b t=([],120):=by
 unfold R9;rw [Ac h,Ae c]
def Hk(h:¬(rtn t).K=29)(c:rtn a=rtn b): R9 a b t =
  if (decide ((rtn a).K=10)||decide ((rtn a).K=2)||decide ((rtn a).K=25))=true then (t,0)
  else if (decide ((rtn a).K=3)&&decide ((rtn a).N.tmod 2=0))=true then Zb (rtn a).N (bP0 a) (bP0 b) (t,0)
  else if (decide ((rtn a).K=6)&&!decide ((rtn a).N=3))=true then TJ (rtn a).N b (bP0 a) (bP0 b) (t,0)
  else if (decide ((rtn a).K=22)&&decide ((rtn t).K=23))=true then bOf (kN 23 0) [(b,0),bCa (bP0 a 0) (bP0 b 0) (bP0 t 1)]
  else ([],120):=by
 unfold R9;rw [Ac h,Ac (by simpa using c)]
def r3Q_a(h:¬chk a=0): LV a b t=([],chk a):=by
 have hc:crC a b t=chk a:=Ae h;unfold LV;rw [hc,Ae h]
def r3Q_b(c:chk a=0)(h:¬chk b=0): LV a b t=([],chk b):=by
 have hc:crC a b t=chk b:=by unfold crC;rw [Ac zQ,Ae h]
 unfold LV;rw [hc,Ae h]
def r3Q_t(c:chk a=0)(hb:chk b=0)(h:¬chk t=0): LV a b t=([],chk t):=by
 have hc:=Og (t:=t) c hb;unfold LV;rw [hc,Ae h]
def R8(c:chk a=0)(hb:chk b=0)(h:chk t=0): LV a b t=EY (R9 a b t):=by
 have hc:=Og (t:=t) c hb;unfold LV;rw [hc,Ac zQ]
end
end
section
open Go Go.RowKit
def bRx(n x:Nd)(p q:List Bd): Bd:=
 if n.K=5/\x.K=4 then bAt (Ge q 1) [Ge p 1]
 else if n.K=8/\x.K=7 then Ge q 1
 else if n.K=9/\x.K=7 then Ge q 2
 else if n.K=13/\x.K=11 then Ge p 1
 else if n.K=13/\x.K=12 then bAt (Ge p 2) [bOf n [Ge p 0,Ge p 1,Ge p 2,Ge q 0],Ge q 0]
 else if n.K=24/\x.K=23 then bAt (Ge p 1) [Ge q 1]
 else ([],120)
section
variable {n x:Nd} {p:List Bd}
def bRx_5(h:n.K=5)(a:x.K=4): bRx n x p q=bAt (Ge q 1) [Ge p 1]:=Ae ⟨h,a⟩
def bRx_8(h:n.K=8)(a:x.K=7): bRx n x p q=Ge q 1:=by simp [bRx,h,a]
def bRx_9(h:n.K=9)(a:x.K=7): bRx n x p q=Ge q 2:=by simp [bRx,h,a]
def bRx_z(h:n.K=13)(a:x.K=11): bRx n x p q=Ge p 1:=by simp [bRx,h,a]
def bRx_s(h:n.K=13)(a:x.K=12): bRx n x p q=bAt (Ge p 2) [bOf n [Ge p 0,Ge p 1,Ge p 2,Ge q 0],Ge q 0]:=by simp [bRx,h,a]
def bRx_q(h:n.K=24)(a:x.K=23): bRx n x p q=bAt (Ge p 1) [Ge q 1]:=by simp [bRx,h,a]
end
def br_of{n:Nd}{a b c d:Bd}(hn:n.S.size<1000000)(f:sml a.1/\a.1.length<=4000)(hb:sml b.1/\b.1.length<=4000)(hc:sml c.1/\c.1.length<=4000)(hd:sml d.1/\d.1.length<=4000): sml (bOf n [a,b,c,d]).1/\(bOf n [a,b,c,d]).1.length<=100000:=by
 refine ⟨AbG hn ?_,Ax AbH ?_⟩
 ·
  intro x e;simp only [Aj,Ah,or_false] at e;rcases e with rfl|rfl|rfl|rfl
  ·exact f.1
  ·exact hb.1
  ·exact hc.1
  ·exact hd.1
 ·simp only [AA,AP,BO,List.flatten_nil,Ab,Ar];omega
def WK{a:Bd}{l:List Bd}(c:sml a.1/\a.1.length<=4000)(hl:∀x∈l,sml x.1/\x.1.length<=100000): sml (bAt a l).1/\(bAt a l).1.length<=100000:=by
 have e:∀l:List Bd,(∀x∈l,sml x.1/\x.1.length<=100000)->sml (fsE l).1/\(fsE l).1.length<=100000:=fun l=>by
  induction l with
  | nil=>exact fun _=>⟨BX,by simp [fsE]⟩
  | cons y m ih=>
   intro h;unfold fsE;split
   ·exact ih fun x b=>h x (List.mem_cons_of_mem _ b)
   ·exact h y yB
 unfold bAt;split
 ·exact ⟨c.1,by omega⟩
 ·
  split
  ·exact e l hl
  ·refine ⟨V6 c.1 ?_,Ax (V7 _ _) zS⟩;intro x b;obtain ⟨y,d,rfl⟩:=Do.1 b;exact (hl y d).1
def bRx_sz{n x:Nd}{p:List Bd}(hn:n.S.size<1000000)(i:∀x∈p,sml x.1/\x.1.length<=4000)(g:∀x∈q,sml x.1/\x.1.length<=4000): sml (bRx n x p q).1/\(bRx n x p q).1.length<=100000:=by
 have b:∀k,sml (Ge p k).1/\(Ge p k).1.length<=4000:=DE (Q:=fun x=>sml x/\x.length<=4000) i ⟨BX,by simp⟩;have c:∀k,sml (Ge q k).1/\(Ge q k).1.length<=4000:=DE (Q:=fun x=>sml x/\x.length<=4000) g ⟨BX,by simp⟩;have d:∀y:Bd,sml y.1/\y.1.length<=4000->sml y.1/\y.1.length<=100000:=fun y h=>⟨h.1,by omega⟩;have e:∀a:Bd,sml a.1/\a.1.length<=100000->∀x∈[a],sml x.1/\x.1.length<=100000:=fun a h x f=>by simp only [Aj,Ah,or_false] at f;rw [f];exact h
 unfold bRx
 (repeat' split)
 ·exact WK (c 1) (e _ (d _ (b 1)))
 ·exact d _ (c 1)
 ·exact d _ (c 2)
 ·exact d _ (b 1)
 ·
  refine WK (b 2) fun x f=>?_;simp only [Aj,Ah,or_false] at f;rcases f with rfl|rfl
  ·exact br_of hn (b 0) (b 1) (b 2) (c 0)
  ·exact d _ (c 0)
 ·exact WK (b 1) (e _ (d _ (c 1)))
 ·exact ⟨BX,by simp⟩
end
section
open Go Go.RowKit
def bRz(t:zM): Bd:=if tgK (nth t (t.length-1))<0 then ([],120) else bRx (nth t (t.length-1)) (nth (tgL t) ((tgL t).length-1)) (bP t) (bP (tgL t))
def MS(t:zM): Bd:=if chk t=0 then EY (bRz t) else ([],chk t)
def ZP{n x:Nd}{p:List Bd}(h:n.K=27): bRx n x p q=([],120):=by simp [bRx,h]
def ZO(hc:chk t=0)(hs:sml t): sml (bRz t).1/\(bRz t).1.length<=1000000:=by
 unfold bRz;split
 ·exact ⟨BX,by simp⟩
 ·rename_i a;have c:=B0 hc;obtain ⟨f,e⟩:=Ow hc (Nf hc a);have d:=(E6 hs _ e).1;obtain ⟨b,g⟩:=bRx_sz (n:=nth t (t.length-1)) (x:=nth (tgL t) ((tgL t).length-1)) (hs _ zQ) (Fu hc hs) (Fu (t:=tgL t) f d);exact ⟨b,by omega⟩
end
section
open Go Go.RowKit
variable {x:zM×zM×Int×Int}
abbrev HR:=zM×Int×Int
structure Rls where
 U:zM->Bd
 E:zM->zM->zM->Bd
 C:zM->zM->zM->Bd
def wi(t:zM)(j:Nat)(p:zM): zM:=((ptL t).set j p).flatten++[rtn t]
abbrev pt(t:zM)(j:Nat): zM:=Bv (ptL t) j
def isK(t:zM)(k:Int): Bool:=decide ((rtn t).K=k)
def wt_(t:zM)(d:Nat): Option Nat:=
 let K:=(rtn t).K
 if K=18 then (if d=0\/(d<3/\(d=2\/(isK (pt t 1) 29=false/\isK (pt t 2) 29=false/\lkR (pt t 0)=true))) then some d else none)
 else if K=20 then (if d<2 then some d else if d=2/\isK (pt t 3) 29=false/\Abd (pt t 0) (pt t 1)=true then some 3 else none)
 else if 0<=tgK (rtn t) then (if d=0 then some (tgK (rtn t)).toNat else none)
 else none
def rl_(R:Rls)(t:zM): Bd:=
 if (rtn t).K=18 then R.E (pt t 0) (pt t 1) (pt t 2)
 else if (rtn t).K=20 then R.C (pt t 0) (pt t 1) (pt t 3)
 else if 0<=tgK (rtn t) then R.U t
 else ([],120)
def go_(R:Rls)(H:Int->zM->HR): Nat->Int->zM->Nat->zM×zM×Int×Int
 | 0,n,_,_=>([],[],1,n)
 | f+1,n,t,d=>match wt_ t d with
  | none=>(t,(rl_ R t).1,(rl_ R t).2,n)
  | some j=>if (H n (pt t j)).2.1=0 then go_ R H f (H n (pt t j)).2.2 (wi t j (H n (pt t j)).1) (d+1) else ([],[],(H n (pt t j)).2.1,(H n (pt t j)).2.2)
def Gt(F:Int)(H:Int->zM->HR)(x:zM×zM×Int×Int): HR:=
 if x.2.2.1=120 then (if chk x.1=0 then (x.1,0,x.2.2.2) else ([],chk x.1,x.2.2.2))
 else if x.2.2.1=0 then (if F<=x.2.2.2 then ([],150,x.2.2.2) else H (x.2.2.2+1) x.2.1)
 else ([],x.2.2.1,x.2.2.2)
def hd(R:Rls)(F:Int): Nat->Int->zM->HR
 | 0,n,_=>([],1,n)
 | k+1,n,t=>Gt F (hd R F k) (go_ R (hd R F k) 4 n t 0)
def mes(F n:Int)(t:zM): Nat:=(F-n).toNat*5000+t.length
def hdT(R:Rls)(F n:Int)(t:zM): HR:=hd R F (mes F n t+1) n t
def Vd(t:zM): Prop:=chk t=0/\sml t
structure Gd (t:zM):Prop where
 b:Bn t=true
 s:sml t
 p:∀x∈ptL t,Vd x
 l:t.length<=40000
def Vd.gd(h:Vd t): Gd t where
 b:=Br h.1
 s:=h.2
 p x hx:=by
  rw [<-EW h.1] at hx;obtain ⟨k,hk,rfl⟩:=List.getElem_of_mem hx;have a:k<many (rtn t):=by rw [<-Cl (Br h.1),<-EW h.1];exact hk
  have c:=Ow h.1 a;have e:Bv (agA t) k=(agA t)[k]:=by simp [Bv,hk]
  rw [e] at c;exact ⟨c.1,(E6 h.2 _ hx).1⟩
 l:=Ax (D9 h.1) zS
def Gd.n(h:Gd t): right (rtn t)=true/\many (rtn t)=(ptL t).length/\(ptL t).length<=8:=by
 have h0:=Cz h.b;have a:right (rtn t)=true:=Cy h.b zQ;exact ⟨a,(Cl h.b).symm,by rw [Cl h.b];exact Eo a⟩
def flatB{B:Nat}:∀{l:zL},(∀x∈l,x.length<=B)->l.flatten.length<=l.length*B
 | [],_=>by simp
 | x::l,h=>by
  have c:=flatB (l:=l) fun y a=>h y (List.mem_cons_of_mem _ a);have b:=h x List.mem_cons_self;rw [BO,Ab,Af,Nat.succ_mul];omega
def Kr{p:zM}(h:Gd t)(g:Vd p): Gd (wi t j p)/\ptL (wi t j p)=(ptL t).set j p/\rtn (wi t j p)=rtn t/\chk (wi t j p)≠120:=by
 obtain ⟨k,i,l⟩:=h.n;have hv:∀x∈(ptL t).set j p,Vd x:=fun x f=>by
  rcases List.mem_or_eq_of_mem_set f with f|rfl
  ·exact h.p x f
  ·exact g
 obtain ⟨a,_,c,d⟩:=built (n:=rtn t) (p:=(ptL t).set j p) k (by rw [List.length_set];exact i) fun x f=>Br (hv x f).1;have h0:=Cz h.b;have hs:sml (wi t j p):=(BD (e:=0) (n:=rtn t) (h.s _ zQ) fun x f=>(hv x f).2:sml (noL 0 _ _));have hl:(wi t j p).length<=40000:=by
  have:=flatB (B:=4000) fun x f=>D9 (hv x f).1;rw [List.length_set] at this;unfold wi;rw [Ab,AD];omega
 refine ⟨⟨a,hs,fun x f=>hv x (by rw [<-c];exact f),hl⟩,c,d,fun e=>?_⟩;rcases Oh (t:=wi t j p) a with q|q|q<;>rw [e] at q<;>cases q
def AaD{p:zM}(h:Gd t)(b:Vd p)(a:j≠i): pt (wi t j p) i=pt t i:=by
 show Bv (ptL (wi t j p)) i=_;rw [(Kr h b).2.1];simp [Bv,AC,List.getElem?_set_ne a]
def Di(h:Gd t)(hj:j<(ptL t).length): Vd (pt t j)/\(pt t j).length<t.length:=by
 have hm:=Eh hj;refine ⟨h.p _ hm,?_⟩;exact (GU h.b hm).2.1
structure RF (R:Rls):Prop where
 U:∀{t},Gd t->(R.U t).2=0->Vd (R.U t).1
 E:∀{a t u},Vd a->Vd t->Vd u->(R.E a t u).2=0->Vd (R.E a t u).1
 C:∀{a t u},Vd a->Vd t->Vd u->(R.C a t u).2=0->Vd (R.C a t u).1
def HF(F:Int)(H:Int->zM->HR): Prop:=∀{n t},n<=F->Vd t->n<=(H n t).2.2/\(H n t).2.2<=F/\((H n t).2.1=0->Vd (H n t).1)/\sml (H n t).1
section
variable {R:Rls} {n:Int} {H H':Int->zM->HR}
def HP{n:Nd}(h:n.K=18): many n=3:=by simp [many,binds,h,shp]
def HO{n:Nd}(h:n.K=20): many n=4:=by simp [many,binds,h,shp]
def tg_lt{n:Nd}(hr:right n=true)(h:0<=tgK n): (tgK n).toNat<many n:=by
 have d:=Hy hr;unfold tgK at h ⊢;by_cases c:n.K=5\/n.K=8\/n.K=9
 ·rw [Ae c];rcases c with e|e|e<;>simp [many,binds,e,shp]
 ·
  rw [Ac c] at h ⊢;by_cases b:n.K=13\/n.K=24
  ·rw [Ae b];rcases b with e|e<;>simp [many,binds,e,shp]
  ·
   rw [Ac b] at h ⊢;by_cases a:n.K=27
   ·rw [Ae a,Vu a];omega
   ·rw [Ac a] at h;omega
def SJ{n:Nd}(h:n.K=18\/n.K=20):¬0<=tgK n:=by
 unfold tgK;rcases h with e|e<;>simp [e]
def KQ(h:Gd t)(a:wt_ t d=some j): j<(ptL t).length:=by
 obtain ⟨c,b,e⟩:=h.n;rw [<-b];unfold wt_ at a;simp only at a;split at a
 ·
  rename_i hk;rw [HP hk];split at a
  ·rename_i hd;cases a;rcases hd with rfl|⟨q,_⟩<;>omega
  ·cases a
 ·
  split at a
  ·
   rename_i hk;rw [HO hk];split at a
   ·cases a;omega
   ·
    split at a
    ·cases a;omega
    ·cases a
  ·
   split at a
   ·
    rename_i hk;split at a
    ·cases a;exact tg_lt c hk
    ·cases a
   ·cases a
def rl_f(d:RF R)(h:Gd t)(b:(rl_ R t).2=0): Vd (rl_ R t).1:=by
 obtain ⟨g,e,f⟩:=h.n;unfold rl_ at b ⊢;split at b
 ·rename_i hk;rw [HP hk] at e;rw [Ae hk];exact d.E (Di h zQ).1 (Di h zQ).1 (Di h zQ).1 b
 ·
  rename_i hk;rw [Ac hk];split at b
  ·rename_i a;rw [HO a] at e;rw [Ae a];exact d.C (Di h zQ).1 (Di h zQ).1 (Di h zQ).1 b
  ·
   rename_i a;rw [Ac a];split at b
   ·rename_i c;rw [Ae c];exact d.U h b
   ·cases b
def Ye(i:RF R)(k:HF F H):∀(f:Nat) (n:Int) (t:zM) (d:Nat),n<=F->Gd t->
  n<=(go_ R H f n t d).2.2.2/\(go_ R H f n t d).2.2.2<=F/\((go_ R H f n t d).2.2.1=0->Vd (go_ R H f n t d).2.1)/\sml (go_ R H f n t d).1
 | 0,n,t,d,hn,_=>⟨Int.le_refl _,hn,(fun h=>by cases h),BX⟩
 | f+1,n,t,d,hn,ht=>by
  unfold go_;cases hw:wt_ t d with
  | none=>exact ⟨Int.le_refl _,hn,fun h=>rl_f i ht h,ht.s⟩
  | some j=>
   have hv:=Di ht (KQ ht hw);obtain ⟨a,b,c,e⟩:=k hn hv.1;simp only;split
   ·rename_i g;obtain ⟨p,q,r,s⟩:=Ye i k f _ _ (d+1) b (Kr (j:=j) ht (c g)).1;exact ⟨Int.le_trans a p,q,r,s⟩
   ·rename_i g;exact ⟨a,b,fun h=>absurd h g,BX⟩
def fin_f(j:HF F H)(f:n<=x.2.2.2)(d:x.2.2.2<=F)(k:x.2.2.1=0->Vd x.2.1)(i:sml x.1):
  n<=(Gt F H x).2.2/\(Gt F H x).2.2<=F/\((Gt F H x).2.1=0->Vd (Gt F H x).1)/\sml (Gt F H x).1:=by
 unfold Gt;split
 ·
  split
  ·rename_i hc;exact ⟨f,d,fun _=>⟨hc,i⟩,i⟩
  ·rename_i hc;exact ⟨f,d,fun h=>absurd h hc,BX⟩
 ·
  split
  ·
   rename_i g;split
   ·exact ⟨f,d,(fun h=>by cases h),BX⟩
   ·obtain ⟨a,b,c,e⟩:=j (n:=x.2.2.2+1) (t:=x.2.1) zQ (k g);exact ⟨by omega,b,c,e⟩
  ·rename_i g;exact ⟨f,d,fun h=>absurd h g,BX⟩
def Sg(d:RF R):∀k,HF F (hd R F k)
 | 0=>fun hn _=>⟨Int.le_refl _,hn,(fun h=>by cases h),BX⟩
 | k+1=>fun hn ht=>by
  obtain ⟨a,b,c,e⟩:=Ye d (Sg d k) 4 _ _ 0 hn ht.gd;exact fin_f (Sg d k) a b c e
def Iv(t:zM)(d L:Nat): Prop:=((rtn t).K=18\/(rtn t).K=20->d<3->∀i,d<=i->(pt t i).length<L)/\(¬((rtn t).K=18\/(rtn t).K=20)->d=0->∀i,(pt t i).length<L)
def Iv.at(h:Iv t d L)(a:wt_ t d=some j): (pt t j).length<L/\(∀{p},Gd t->Vd p->Iv (wi t j p) (d+1) L):=by
 unfold wt_ at a;simp only at a;by_cases hk:(rtn t).K=18\/(rtn t).K=20
 ·
  have b:∀i,d<=i->d<3->(pt t i).length<L:=fun i hi hd=>h.1 hk hd i hi;have c:(d<=j/\d<3/\(j=d\/d=2)):=by
   split at a
   ·
    split at a
    ·rename_i q;cases a;rcases q with rfl|⟨q,_⟩<;>omega
    ·cases a
   ·
    rename_i f;rw [Ae (hk.resolve_left f)] at a;split at a
    ·cases a;omega
    ·
     split at a
     ·cases a;omega
     ·cases a
  refine ⟨b j c.1 c.2.1,fun {p} hg hp=>⟨fun _ hd i hi=>?_,fun hn=>?_⟩⟩
  ·
   have:j=d:=by omega
   subst this;rw [AaD hg hp zQ];exact b i zQ c.2.1
  ·rw [(Kr hg hp).2.2.1] at hn;exact absurd hk hn
 ·
  rw [Ac fun e=>hk (.inl e),Ac fun e=>hk (.inr e)] at a;have hd:d=0:=by
   split at a
   ·
    split at a
    ·assumption
    ·cases a
   ·cases a
  refine ⟨h.2 hk hd j,fun {p} hg hp=>⟨fun q=>?_,fun _ q=>by omega⟩⟩;rw [(Kr hg hp).2.2.1] at q;exact absurd q hk
def NX(h:HF F H):∀(f:Nat) (n:Int) (t:zM) (d:Nat),n<=F->Gd t->Iv t d L->(∀n' p,n<=n'->n'<=F->Vd p->p.length<L->H n' p=H' n' p)->go_ R H f n t d=go_ R H' f n t d
 | 0,_,_,_,_,_,_,_=>rfl
 | f+1,n,t,d,hn,ht,hi,heq=>by
  unfold go_;cases hw:wt_ t d with
  | none=>rfl
  | some j=>
   have hv:=Di ht (KQ ht hw);obtain ⟨hl,i⟩:=hi.at hw;obtain ⟨a,b,c,e⟩:=h hn hv.1;simp only;rw [<-heq n _ (Int.le_refl _) hn hv.1 hl];split
   ·rename_i g;exact NX h f _ _ (d+1) b (Kr ht (c g)).1 (i ht (c g)) fun n' p o m l k=>heq n' p (Int.le_trans a o) m l k
   ·rfl
def Iv.start(h:Gd t): Iv t 0 t.length:=by
 have:∀i,(pt t i).length<t.length:=fun i=>by
  by_cases hi:i<(ptL t).length
  ·exact (Di h hi).2
  ·
   have e:pt t i=[]:=by simp [Bv,AC,List.getElem?_eq_none (by omega:(ptL t).length<=i)]
   rw [e];exact Cz h.b
 exact ⟨fun _ _ i _=>this i,fun _ _ i=>this i⟩
def Py(h:x.2.2.1=0->x.2.2.2<F->H (x.2.2.2+1) x.2.1=H' (x.2.2.2+1) x.2.1): Gt F H x=Gt F H' x:=by
 unfold Gt;split
 ·rfl
 ·
  split
  ·
   rename_i a;split
   ·rfl
   ·exact h a zQ
  ·rfl
def hd_st(g:RF R):∀(k d:Nat) (n:Int) (t:zM),Vd t->n<=F->mes F n t<k->mes F n t<d->hd R F k n t=hd R F d n t:=by
 intro k;induction k with
 | zero=>intro _ _ _ _ _ h;omega
 | succ k ih=>
  intro d n t ht hn q o;cases d with
  | zero=>omega
  | succ d=>
   have hm:∀n' p,(F-n').toNat*5000+p.length<(F-n).toNat*5000+t.length->n'<=F->Vd p->hd R F k n' p=hd R F d n' p:=fun n' p hl f hp=>by
    have m:mes F n' p<mes F n t:=hl;exact ih d n' p hp f zQ zQ
   have l:go_ R (hd R F k) 4 n t 0=go_ R (hd R F d) 4 n t 0:=NX (Sg g k) 4 n t 0 hn ht.gd (Iv.start ht.gd) fun n' p a b c e=>hm n' p zQ b c;obtain ⟨a,b,c,e⟩:=Ye g (Sg g k) 4 _ _ 0 hn ht.gd;show Gt F (hd R F k) (go_ R (hd R F k) 4 n t 0)=Gt F (hd R F d) (go_ R (hd R F d) 4 n t 0);rw [<-l];generalize go_ R (hd R F k) 4 n t 0=x at a b c e;refine Py fun j hl=>?_;have i:=c j;have:=D9 i.1;exact hm _ _ zQ zQ i
def JN(a:RF R): HF F (hdT R F):=fun hn ht=>Sg a _ hn ht
def VC(d:RF R)(f:Vd t)(hn:n<=F): hdT R F n t=Gt F (hdT R F) (go_ R (hdT R F) 4 n t 0):=by
 have i:go_ R (hd R F (mes F n t)) 4 n t 0=go_ R (hdT R F) 4 n t 0:=NX (Sg d _) 4 n t 0 hn f.gd (Iv.start f.gd) fun n' p a b c e=>by
  refine hd_st d _ _ n' p c b ?_ ?_<;>unfold mes at *<;>omega
 show Gt F (hd R F (mes F n t)) (go_ R (hd R F (mes F n t)) 4 n t 0)=_;rw [i];obtain ⟨a,b,c,e⟩:=Ye d (JN d) 4 n t 0 hn f.gd;refine Py fun h hl=>?_;have g:=c h;have:=D9 g.1;refine hd_st d _ _ _ _ g zQ ?_ ?_<;>unfold mes at *<;>omega
end
end
section
open Go Go.RowKit
def nms(H:Int->zM->HR)(n:Int): zL->zL×Int×Int
 | []=>([],0,n)
 | p::l=>if (H n p).2.1=0 then ((H n p).1::(nms H (H n p).2.2 l).1,(nms H (H n p).2.2 l).2) else ([],(H n p).2.1,(H n p).2.2)
def nm1(R:Rls)(F:Int)(H:Int->zM->HR)(n:Int)(t:zM): HR:=
 let h:=hdT R F n t
 if h.2.1=0 then (let q:=nms H h.2.2 (ptL h.1);if q.2.1=0 then (q.1.flatten++[rtn h.1],0,q.2.2) else ([],q.2.1,q.2.2)) else ([],h.2.1,h.2.2)
def nm(R:Rls)(F:Int): Nat->Int->zM->HR
 | 0,n,_=>([],1,n)
 | k+1,n,t=>nm1 R F (nm R F k) n t
def nmT(R:Rls)(F n:Int)(t:zM): HR:=nm R F (mes F n t+1) n t
def M5(h:Bn t=true): t=(ptL t).flatten++[rtn t]:=by
 obtain ⟨f,b⟩:=BR h;cases e:Aq t with
 | mk n l=>
  have a:t=Az l++[n]:=by rw [<-Bf,<-e,b]
  have d:ptL t=l.map T.flat:=by unfold ptL;rw [e];rfl
  have c:rtn t=n:=by
   show nth t (t.length-1)=n;rw [a];simp [nth]
  rw [c,d,F4];exact a
section
variable {R:Rls} {n:Int} {H H':Int->zM->HR}
def Aaa(h:Gd t): wi t j (pt t j)=t:=by
 unfold wi;have e:(ptL t).set j (pt t j)=ptL t:=by
  apply List.ext_getElem?;intro i;by_cases a:j=i
  ·
   subst a;by_cases c:j<(ptL t).length
   ·simp [Bv,c]
   ·rw [List.set_eq_of_length_le zQ]
  ·rw [List.getElem?_set_ne a]
 rw [e];exact (M5 h.b).symm
def SM(F:Int)(H:Int->zM->HR): Prop:=∀{n t},n<=F->Vd t->(H n t).2.1=0->(H n t).2.2=n->(H n t).1=t
def VD(o:RF R)(l:HF F H)(m:SM F H):∀(f:Nat) (n:Int) (t:zM) (d:Nat),n<=F->Gd t->(go_ R H f n t d).2.2.1=120->(go_ R H f n t d).2.2.2=n->chk (go_ R H f n t d).1=0->(go_ R H f n t d).1=t
 | 0,_,_,_,_,_,h,_,_=>by cases h
 | f+1,n,t,d,hn,ht,h,hm,hc=>by
  unfold go_ at *;cases hw:wt_ t d with
  | none=>rfl
  | some j=>
   have hv:=Di ht (KQ ht hw);obtain ⟨a,b,c,e⟩:=l hn hv.1;simp only [hw] at h hm hc ⊢;split
   ·
    rename_i i;rw [Ae i] at h hm hc;have g:=Ye o l f _ _ (d+1) b (Kr (j:=j) ht (c i)).1;have k:(H n (pt t j)).2.2=n:=by omega
    have hs:=m hn hv.1 i k;have:=VD o l m f _ _ (d+1) b (Kr (j:=j) ht (c i)).1 h (hm.trans k.symm) hc;rw [this,hs];exact Aaa ht
   ·rename_i i;rw [Ac i] at hc;exact absurd (show chk ([]:zM)=0 from hc) zS
def Yd(j:RF R)(p:SM F (hd R F k))(hn:n<=F)(o:Vd t)(h:(hd R F (k+1) n t).2.1=0)(hm:(hd R F (k+1) n t).2.2=n): (hd R F (k+1) n t).1=t:=by
 have g:(Gt F (hd R F k) (go_ R (hd R F k) 4 n t 0)).2.1=0:=h;have d:(Gt F (hd R F k) (go_ R (hd R F k) 4 n t 0)).2.2=n:=hm;show (Gt F (hd R F k) (go_ R (hd R F k) 4 n t 0)).1=t;obtain ⟨a,b,c,e⟩:=Ye j (Sg j k) 4 _ _ 0 hn o.gd;have i:=VD j (Sg j k) p 4 n t 0 hn o.gd;generalize go_ R (hd R F k) 4 n t 0=x at a b c e g d i;unfold Gt at *;split
 ·
  rename_i l;rw [Ae l] at g d;split
  ·rename_i f;rw [Ae f] at d;exact i l d f
  ·rename_i f;rw [Ac f] at g;exact absurd g f
 ·
  rename_i l;rw [Ac l] at g d;split
  ·
   rename_i f;rw [Ae f] at g d;split
   ·rename_i m;rw [Ae m] at g;cases g
   ·rename_i m;rw [Ac m] at d;have:=Sg (F:=F) j k (n:=x.2.2.2+1) (t:=x.2.1) zQ (c f);omega
  ·rename_i f;rw [Ac f] at g;exact absurd g f
def VA(a:RF R):∀k,SM F (hd R F k)
 | 0=>fun _ _ h=>by cases h
 | k+1=>Yd a (VA a k)
def NF_(F:Int)(H:Int->zM->HR): Prop:=∀{n t},n<=F->Vd t->n<=(H n t).2.2/\(H n t).2.2<=F/\((H n t).2.1=0->Bn (H n t).1=true/\((H n t).1.length:Int)<=t.length+4000*((H n t).2.2-n))/\sml (H n t).1
def XN(g:NF_ F H):∀(l:zL) (n:Int),n<=F->(∀x∈l,Vd x)->n<=(nms H n l).2.2/\(nms H n l).2.2<=F/\(∀x∈(nms H n l).1,sml x)/\
  ((nms H n l).2.1=0->(∀x∈(nms H n l).1,Bn x=true)/\(nms H n l).1.length=l.length/\((nms H n l).1.flatten.length:Int)<=l.flatten.length+4000*((nms H n l).2.2-n))
 | [],n,hn,_=>⟨Int.le_refl _,hn,(fun _ h=>by cases h),fun _=>⟨(fun _ h=>by cases h),rfl,by simp [nms]⟩⟩
 | p::l,n,hn,hv=>by
  obtain ⟨a,b,c,e⟩:=g hn (hv p List.mem_cons_self);unfold nms;split
  ·
   rename_i f;obtain ⟨q,o,m,k⟩:=XN g l _ b fun x d=>hv x (List.mem_cons_of_mem _ d);obtain ⟨r,c2⟩:=c f;refine ⟨Int.le_trans a q,o,fun x d=>?_,fun h=>?_⟩
   ·
    rcases Aj.1 d with rfl|d
    ·exact e
    ·exact m x d
   ·
    obtain ⟨j,i,s⟩:=k h;refine ⟨fun x d=>?_,by simp only [Af,i],?_⟩
    ·
     rcases Aj.1 d with rfl|d
     ·exact r
     ·exact j x d
    ·simp only [BO,Ab];omega
  ·rename_i f;exact ⟨a,b,(fun _ h=>by cases h),fun h=>absurd h f⟩
def QU(f:RF R)(hn:n<=F)(d:Vd t)(h:(hdT R F n t).2.1=0): ((hdT R F n t).1.length:Int)<=t.length+4000*((hdT R F n t).2.2-n)/\((hdT R F n t).2.2=n->(hdT R F n t).1=t):=by
 obtain ⟨a,b,c,e⟩:=JN f hn d;have hs:(hdT R F n t).2.2=n->(hdT R F n t).1=t:=fun q=>VA f _ hn d h q;refine ⟨?_,hs⟩;by_cases q:(hdT R F n t).2.2=n
 ·rw [hs q,q];omega
 ·have:=D9 (c h).1;omega
def nm1_f(i:RF R)(r:NF_ F H): NF_ F (nm1 R F H):=by
 intro n t hn ht;obtain ⟨a,b,c,e⟩:=JN i hn ht;have hl:=QU i hn ht;unfold nm1;generalize hdT R F n t=h at a b c e hl;simp only;split
 ·
  rename_i d;have hg:=(c d).gd;obtain ⟨q,n2,w⟩:=hg.n;obtain ⟨g,f,o,m⟩:=XN r (ptL h.1) _ b hg.p;have h0:=Cz hg.b;split
  ·rename_i hq;obtain ⟨l,k,v⟩:=m hq;obtain ⟨j,_,_,_⟩:=built (n:=rtn h.1) (p:=(nms H h.2.2 (ptL h.1)).1) q (by rw [k];exact n2) l;have x:=(hl d).1;have u:=congrArg List.length (M5 hg.b);rw [Ab,AD] at u;refine ⟨Int.le_trans a g,f,fun _=>⟨j,?_⟩,(BD (e:=0) (n:=rtn h.1) (hg.s _ zQ) o:sml (noL 0 _ _))⟩;rw [Ab,AD];simp only;omega
  ·rename_i hq;exact ⟨Int.le_trans a g,f,fun h=>absurd h hq,BX⟩
 ·rename_i d;exact ⟨a,b,fun h=>absurd h d,BX⟩
def nm_f(a:RF R):∀k,NF_ F (nm R F k)
 | 0=>fun hn _=>⟨Int.le_refl _,hn,(fun h=>by cases h),BX⟩
 | k+1=>nm1_f a (nm_f a k)
def Pg(c:NF_ F H):∀(l:zL) (n:Int),n<=F->(∀x∈l,Vd x)->(∀n' p,n<=n'->n'<=F->p∈l->H n' p=H' n' p)->nms H n l=nms H' n l
 | [],_,_,_,_=>rfl
 | p::l,n,hn,hv,heq=>by
  obtain ⟨a,b,_,_⟩:=c hn (hv p List.mem_cons_self);unfold nms;rw [<-heq n p (Int.le_refl _) hn List.mem_cons_self];split
  ·rw [Pg c l _ b (fun x d=>hv x (List.mem_cons_of_mem _ d)) fun n' q g f e=>heq n' q (Int.le_trans a g) f (List.mem_cons_of_mem _ e)]
  ·rfl
def Ph(i:RF R)(k:NF_ F H)(hn:n<=F)(g:Vd t)(d:∀n' p,n<=n'->n'<=F->Vd p->mes F n' p<mes F n t->H n' p=H' n' p): nm1 R F H n t=nm1 R F H' n t:=by
 obtain ⟨a,b,c,e⟩:=JN i hn g;have hl:=QU i hn g;unfold nm1;generalize hdT R F n t=h at a b c e hl;simp only;split
 ·
  rename_i f;have hg:=(c f).gd;rw [Pg k (ptL h.1) _ b hg.p fun n' p r o j=>d n' p (Int.le_trans a r) o (hg.p p j) ?_];have m:=(GU hg.b j).2.1;have h6:=D9 (c f).1;have l:=(hl f).2;show (F-n').toNat*5000+p.length<(F-n).toNat*5000+t.length;by_cases q:h.2.2=n
  ·rw [l q] at m;omega
  ·omega
 ·rfl
def nm_st(f:RF R):∀(k d:Nat) (n:Int) (t:zM),Vd t->n<=F->mes F n t<k->mes F n t<d->nm R F k n t=nm R F d n t:=by
 intro k;induction k with
 | zero=>intro _ _ _ _ _ h;omega
 | succ k ih=>
  intro d n t ht hn i g;cases d with
  | zero=>omega
  | succ d=>exact Ph f (nm_f f k) hn ht fun n' p a b c e=>ih d n' p c b zQ zQ
def QG(a:RF R): NF_ F (nmT R F):=fun hn ht=>nm_f a _ hn ht
def RP(d:RF R)(f:Vd t)(hn:n<=F): nmT R F n t=nm1 R F (nmT R F) n t:=
 Ph d (nm_f d _) hn f fun n' p a b c e=>nm_st d _ _ _ _ c b e zQ
end
end
section
open Go Go.RowKit
def DR:Rls:=⟨MS,reQ,LV⟩
def er3{a:Act}{l:zD}{t u x:Nat}{v b:Value}(d:Reg a N l)(h:R (.returned (.tuple #[v,v',b])) w)(h0:l.lookup 1000000=some (.bool false):=by exact rfl)(hr:fn.results=#[.tmp t,.tmp u,.tmp x]:=by exact rfl)
  (hv:ev l (.tmp t)=some v:=by exact rfl) (e:ev l (.tmp u)=some v':=by exact rfl) (c:ev l (.tmp x)=some b:=by exact rfl):bodyPost P fn R .ret a w:=by
 have i:a.tmps.getD t undef=v:=d.ev hv;have g:a.tmps.getD u undef=v':=d.ev e;have f:a.tmps.getD x undef=b:=d.ev c;exact ⟨d.dfr h0,.tuple #[v,v',b],by rw [<-i,<-g,<-f];simp [results,hr],h⟩
def Rh{x:Bd}(h:sml x.1)(a:(EY x).2=0): Vd (EY x).1:=by
 unfold EY at *;split at a
 ·
  rename_i c;rw [Ae c];split at a
  ·rename_i b;rw [Ae b];exact ⟨b,h⟩
  ·rename_i b;exact absurd a b
 ·rename_i c;exact absurd a c
def rfD:RF DR where
 U {t} h c:=by
  show Vd (MS t).1;have c:(MS t).2=0:=c;unfold MS at *;split at c
  ·rename_i hc;rw [Ae hc];exact Rh (ZO hc h.s).1 c
  ·rename_i hc;exact absurd c hc
 E {a t u} ha ht hu c:=by
  show Vd (reQ a t u).1;have c:(reQ a t u).2=0:=c;rw [XA ha.1 ht.1 hu.1] at *;exact Rh (reB_Z ha.1 ht.1 hu.1 ha.2 ht.2 hu.2).1 c
 C {a b t} ha hb ht c:=by
  show Vd (LV a b t).1;have c:(LV a b t).2=0:=c;rw [R8 ha.1 hb.1 ht.1] at *;exact Rh (Zc ha.1 hb.1 ht.1 ha.2 hb.2 ht.2).1 c
def GS(F:Int): HF F (hdT DR F):=JN rfD
section
variable {H:Int->zM->HR} {n:Int}
def pa(H:Int->zM->HR)(n:Int)(t:zM)(j:Nat): HR:=if (H n (pt t j)).2.1=0 then (wi t j (H n (pt t j)).1,0,(H n (pt t j)).2.2) else ([],(H n (pt t j)).2.1,(H n (pt t j)).2.2)
def so(H:Int->zM->HR)(n:Int)(t:zM): zK->HR
 | []=>(t,0,n)
 | j::l=>if (pa H n t j.toNat).2.1=0 then so H (pa H n t j.toNat).2.2 (pa H n t j.toNat).1 l else pa H n t j.toNat
def OU(h:(H n (pt t j)).2.1=0): pa H n t j=(wi t j (H n (pt t j)).1,0,(H n (pt t j)).2.2):=Ae h
def OV(h:¬(H n (pt t j)).2.1=0): pa H n t j=([],(H n (pt t j)).2.1,(H n (pt t j)).2.2):=Ac h
def wi_st{Ys:zN}{s:Sl}{l:zL}(h:AK Ys=l.take i)(hi:i<l.length)(hs:s.2.2=Bv l i): AK (Ys++[s])=l.take (i+1):=by
 rw [E8,h,List.take_add_one];congr 1;have e:l[i]?=some (Bv l i):=by simp [Bv,hi]
 rw [e,<-hs];rfl
def Vi{l:zL}{p:zM}(h:i=k)(hi:i<l.length): Bv (l.set k p) i=p:=by
 subst h;simp [Bv,hi]
def Vh{l:zL}{p:zM}(h:¬i=k): Bv (l.set k p) i=Bv l i:=by
 simp [Bv,AC,List.getElem?_set_ne (Ne.symm h)]
def Ss{l:zK}(hi:i<l.length): l.drop i=C7 l i::l.drop (i+1):=by
 rw [List.drop_eq_getElem_cons hi];congr 1;simp [C7,hi]
def so_nx{l:zK}{ev:Int}(h:so H n t l=if ev=0 then so H nv u (l.drop i) else (u,ev,nv))(a:ev=0)(hi:i<l.length):
  so H n t l=if (pa H nv u (C7 l i).toNat).2.1=0 then so H (pa H nv u (C7 l i).toNat).2.2 (pa H nv u (C7 l i).toNat).1 (l.drop (i+1)) else ((pa H nv u (C7 l i).toNat).1,(pa H nv u (C7 l i).toNat).2.1,(pa H nv u (C7 l i).toNat).2.2):=by
 rw [h,Ae a,Ss hi];rfl
def Aar{l:zK}{ev:Int}(h:so H n t l=if ev=0 then so H nv u (l.drop i) else (u,ev,nv))(hi:¬ev=0\/l.length<=i): so H n t l=(u,ev,nv):=by
 rw [h];split
 ·rename_i e;rw [List.drop_eq_nil_of_le (hi.resolve_left (fun q=>q e)),e];rfl
 ·rfl
def soG(t u:zM)(l:zK): Prop:=Gd u/\(ptL u).length=(ptL t).length/\∀x∈l,pt u x.toNat=pt t x.toNat
def so_gd{l:zK}(hg:soG t u (l.drop i))(hnd:l.Nodup)(hi:i<l.length)(d:∀x∈l,0<=x)(hv:(H nv (pt u (C7 l i).toNat)).2.1=0->Vd (H nv (pt u (C7 l i).toNat)).1)
  (h:(pa H nv u (C7 l i).toNat).2.1=0):soG t (pa H nv u (C7 l i).toNat).1 (l.drop (i+1)):=by
 by_cases h0:(H nv (pt u (C7 l i).toNat)).2.1=0
 ·
  rw [OU h0];obtain ⟨a,b,c,_⟩:=Kr (j:=(C7 l i).toNat) hg.1 (hv h0);refine ⟨a,by show (ptL (wi u _ _)).length=_;rw [b,List.length_set];exact hg.2.1,fun x f=>?_⟩;have hd:=Ss hi;have g:(C7 l i::l.drop (i+1)).Nodup:=by rw [<-hd];exact hnd.sublist (List.drop_sublist _ _)
  have k:C7 l i≠x:=fun e=>(List.nodup_cons.1 g).1 (e▸f);have n:0<=x:=d x (List.mem_of_mem_drop f);have m:0<=C7 l i:=d _ (by have:=List.mem_of_mem_drop (i:=i) (l:=l) (a:=C7 l i) (by rw [hd];exact List.mem_cons_self);exact this);show pt (wi u _ _) x.toNat=_;rw [AaD hg.1 (hv h0) zQ];exact hg.2.2 x (by rw [hd];exact List.mem_cons_of_mem _ f)
 ·rw [OV h0] at h;exact absurd h h0
def so_in{l:zK}(hi:i<l.length): C7 l i∈l:=List.mem_of_mem_drop (i:=i) (by rw [Ss hi];exact List.mem_cons_self)
def pa_f(c:HF F H)(hn:n<=F)(hg:Gd t)(hj:j<(ptL t).length): n<=(pa H n t j).2.2/\(pa H n t j).2.2<=F:=by
 obtain ⟨a,b,_,_⟩:=c hn (Di hg hj).1;unfold pa;split<;>exact ⟨a,b⟩
end
end
section
open Go Go.RowKit
variable {H:Int->zM->HR}{X:zM×zM×Int×Int}{b:Nat}{k:Int}{q:Int×Int}
variable {R:Rls} {n:Int} {f:Nat}
structure Sm (t u:zM):Prop where
 g:Gd u
 r:rtn u=rtn t
 l:(ptL u).length=(ptL t).length
def TL(e:HF F H)(hn:n<=F)(hg:Gd t)(hj:j<(ptL t).length): n<=(pa H n t j).2.2/\(pa H n t j).2.2<=F/\((pa H n t j).2.1=0->Sm t (pa H n t j).1/\∀i,j≠i->pt (pa H n t j).1 i=pt t i):=by
 obtain ⟨a,b⟩:=pa_f e hn hg hj;obtain ⟨_,_,c,_⟩:=e hn (Di hg hj).1;refine ⟨a,b,fun d=>?_⟩;by_cases h0:(H n (pt t j)).2.1=0
 ·obtain ⟨x,y,z,_⟩:=Kr (j:=j) hg (c h0);rw [OU h0];exact ⟨⟨x,z,by show (ptL (wi t j _)).length=_;rw [y,List.length_set]⟩,fun i hi=>AaD hg (c h0) hi⟩
 ·rw [OV h0] at d;exact absurd d h0
def AbV(e:HF F H):∀(l:zK) (n:Int) (t:zM),n<=F->Gd t->(∀x∈l,x.toNat<(ptL t).length)->
  n<=(so H n t l).2.2/\(so H n t l).2.2<=F/\((so H n t l).2.1=0->Sm t (so H n t l).1/\∀i,(∀x∈l,x.toNat≠i)->pt (so H n t l).1 i=pt t i)
 | [],n,t,hn,hg,_=>⟨Int.le_refl _,hn,fun _=>⟨⟨hg,rfl,rfl⟩,fun _ _=>rfl⟩⟩
 | k::l,n,t,hn,hg,hl=>by
  obtain ⟨a,b,c⟩:=TL e hn hg (hl k List.mem_cons_self);unfold so;split
  ·
   rename_i h0;obtain ⟨⟨x,y,z⟩,p⟩:=c h0;obtain ⟨a',b',c'⟩:=AbV e l _ _ b x fun q hq=>by rw [z];exact hl q (List.mem_cons_of_mem _ hq)
   refine ⟨Int.le_trans a a',b',fun d=>?_⟩;obtain ⟨⟨h,g,f⟩,j⟩:=c' d;exact ⟨⟨h,g.trans y,f.trans z⟩,fun i hi=>(j i fun q hq=>hi q (List.mem_cons_of_mem _ hq)).trans (p i (hi k List.mem_cons_self))⟩
  ·rename_i h0;exact ⟨a,b,fun d=>absurd d h0⟩
def Fx(h:wt_ t d=some j): go_ R H (f+1) n t d=if (pa H n t j).2.1=0 then go_ R H f (pa H n t j).2.2 (pa H n t j).1 (d+1) else ([],[],(pa H n t j).2.1,(pa H n t j).2.2):=by
 show (match wt_ t d with|none=>_|some j=>_)=_;rw [h];by_cases h0:(H n (pt t j)).2.1=0
 ·rw [OU h0];simp only [Ae h0];rfl
 ·rw [OV h0];simp only [Ac h0]
def Gs(h:wt_ t d=none): go_ R H (f+1) n t d=(t,(rl_ R t).1,(rl_ R t).2,n):=by
 show (match wt_ t d with|none=>_|some j=>_)=_;rw [h]
def TN(t:zM): Prop:=isK (pt t 1) 29=false/\isK (pt t 2) 29=false/\lkR (pt t 0)=true
def Xf(t:zM): Prop:=isK (pt t 3) 29=false/\Abd (pt t 0) (pt t 1)=true
section
variable (hk:(rtn t).K=18)
include hk
def rl18:rl_ R t=R.E (pt t 0) (pt t 1) (pt t 2):=Ae hk
def TR:wt_ t 0=some 0:=by simp [wt_,hk]
def wt18_1(h:TN t): wt_ t 1=some 1:=by unfold TN at h;simp [wt_,hk,h]
def wt18_n(h:¬TN t): wt_ t 1=none:=by
 unfold wt_;simp only;rw [Ae hk,Ac];rintro (q|⟨_,q|q⟩)
 ·cases q
 ·cases q
 ·exact h q
def wt18_2:wt_ t 2=some 2:=by simp [wt_,hk]
def wt18_3:wt_ t 3=none:=by simp [wt_,hk]
end
section
variable (hk:(rtn t).K=20)
include hk
def rl20:rl_ R t=R.C (pt t 0) (pt t 1) (pt t 3):=by simp [rl_,hk]
def wt20_0:wt_ t 0=some 0:=by simp [wt_,hk]
def wt20_1:wt_ t 1=some 1:=by simp [wt_,hk]
def Y9(h:Xf t): wt_ t 2=some 3:=by unfold Xf at h;simp [wt_,hk,h]
def wt20_n(h:¬Xf t): wt_ t 2=none:=by
 unfold wt_;simp only;rw [Ac zQ,Ae hk,Ac zQ,Ac];exact fun q=>h q.2
def wt20_3:wt_ t 3=none:=by simp [wt_,hk]
end
def so_2{i:Int}: so H n t [i,k]=if (pa H n t i.toNat).2.1=0 then (if (pa H (pa H n t i.toNat).2.2 (pa H n t i.toNat).1 k.toNat).2.1=0 then ((pa H (pa H n t i.toNat).2.2 (pa H n t i.toNat).1 k.toNat).1,0,(pa H (pa H n t i.toNat).2.2 (pa H n t i.toNat).1 k.toNat).2.2) else pa H (pa H n t i.toNat).2.2 (pa H n t i.toNat).1 k.toNat) else pa H n t i.toNat:=rfl
def Z7{i:Int}(b:HF F H)(hn:n<=F)(hg:Gd t)(e:wt_ t d=some i.toNat)(c:∀u,rtn u=rtn t->wt_ u (d+1)=some k.toNat)(hi:i.toNat<(ptL t).length):
  go_ R H (f+2) n t d=if (so H n t [i,k]).2.1=0 then go_ R H f (so H n t [i,k]).2.2 (so H n t [i,k]).1 (d+2) else ([],[],(so H n t [i,k]).2.1,(so H n t [i,k]).2.2):=by
 rw [Fx e,so_2];by_cases h0:(pa H n t i.toNat).2.1=0
 ·
  rw [Ae h0,Ae h0,Fx (c _ ((TL b hn hg hi).2.2 h0).1.r)];generalize pa H (pa H n t i.toNat).2.2 (pa H n t i.toNat).1 k.toNat=x;by_cases a:x.2.1=0
  ·rw [Ae a,Ae a,Ae rfl]
  ·rw [Ac a,Ac a,Ac a]
 ·rw [Ac h0,Ac h0,Ac h0]
section
variable (hH:HF F H) (hn:n<=F) (hg:Gd t)
include hH hn hg
omit hH hn in
def FH(hk:(rtn t).K=18): (ptL t).length=3:=by rw [<-hg.n.2.1,HP hk]
omit hH hn in
def Fs(hk:(rtn t).K=20): (ptL t).length=4:=by rw [<-hg.n.2.1,HO hk]
omit hH hn hg in
def t18_e(hk:(rtn t).K=18)(a:¬(pa H n t (Int.toNat 0)).2.1=0): go_ R H 4 n t 0=([],[],(pa H n t (Int.toNat 0)).2.1,(pa H n t (Int.toNat 0)).2.2):=by rw [Fx (j:=Int.toNat 0) (TR hk),Ac a]
def Aah(hk:(rtn t).K=18)(a:(pa H n t (Int.toNat 0)).2.1=0): (rtn (pa H n t (Int.toNat 0)).1).K=18:=by rw [((TL hH hn hg (by rw [FH hg hk];decide)).2.2 a).1.r];exact hk
def t18_n(hk:(rtn t).K=18)(b:(pa H n t (Int.toNat 0)).2.1=0)(hl:¬TN (pa H n t (Int.toNat 0)).1): go_ R H 4 n t 0=((pa H n t (Int.toNat 0)).1,(R.E (pt (pa H n t (Int.toNat 0)).1 0) (pt (pa H n t (Int.toNat 0)).1 1) (pt (pa H n t (Int.toNat 0)).1 2)).1,(R.E (pt (pa H n t (Int.toNat 0)).1 0) (pt (pa H n t (Int.toNat 0)).1 1) (pt (pa H n t (Int.toNat 0)).1 2)).2,(pa H n t (Int.toNat 0)).2.2):=by
 have a:=Aah hH hn hg hk b;rw [Fx (j:=Int.toNat 0) (TR hk),Ae b,Gs (wt18_n a hl),rl18 a]
def t18_s(hk:(rtn t).K=18)(d:(pa H n t (Int.toNat 0)).2.1=0)(hl:TN (pa H n t (Int.toNat 0)).1): go_ R H 4 n t 0=if (so H (pa H n t (Int.toNat 0)).2.2 (pa H n t (Int.toNat 0)).1 [1,2]).2.1=0 then go_ R H 1 (so H (pa H n t (Int.toNat 0)).2.2 (pa H n t (Int.toNat 0)).1 [1,2]).2.2 (so H (pa H n t (Int.toNat 0)).2.2 (pa H n t (Int.toNat 0)).1 [1,2]).1 3 else ([],[],(so H (pa H n t (Int.toNat 0)).2.2 (pa H n t (Int.toNat 0)).1 [1,2]).2.1,(so H (pa H n t (Int.toNat 0)).2.2 (pa H n t (Int.toNat 0)).1 [1,2]).2.2):=by
 have e:=Aah hH hn hg hk d;obtain ⟨a,b,c⟩:=TL (j:=Int.toNat 0) hH hn hg (by rw [FH hg hk];decide);have hs:=(c d).1;rw [Fx (j:=Int.toNat 0) (TR hk),Ae d];exact Z7 (i:=1) (k:=2) hH b hs.g (wt18_1 e hl) (fun u f=>wt18_2 (by rw [f];exact e)) (by rw [hs.l,FH hg hk];decide)
def t18_f(hk:(rtn t).K=18)(a:(pa H n t (Int.toNat 0)).2.1=0)(hl:TN (pa H n t (Int.toNat 0)).1)(hs:¬(so H (pa H n t (Int.toNat 0)).2.2 (pa H n t (Int.toNat 0)).1 [1,2]).2.1=0): go_ R H 4 n t 0=([],[],(so H (pa H n t (Int.toNat 0)).2.2 (pa H n t (Int.toNat 0)).1 [1,2]).2.1,(so H (pa H n t (Int.toNat 0)).2.2 (pa H n t (Int.toNat 0)).1 [1,2]).2.2):=by
 rw [t18_s hH hn hg hk a hl,Ac hs]
def t18_o(hk:(rtn t).K=18)(e:(pa H n t (Int.toNat 0)).2.1=0)(hl:TN (pa H n t (Int.toNat 0)).1)(hs:(so H (pa H n t (Int.toNat 0)).2.2 (pa H n t (Int.toNat 0)).1 [1,2]).2.1=0)(hv:v=(so H (pa H n t (Int.toNat 0)).2.2 (pa H n t (Int.toNat 0)).1 [1,2]).1): go_ R H 4 n t 0=(v,(R.E (pt v 0) (pt v 1) (pt v 2)).1,(R.E (pt v 0) (pt v 1) (pt v 2)).2,(so H (pa H n t (Int.toNat 0)).2.2 (pa H n t (Int.toNat 0)).1 [1,2]).2.2):=by
 have h:=Aah hH hn hg hk e;obtain ⟨a,b,c⟩:=TL (j:=Int.toNat 0) hH hn hg (by rw [FH hg hk];decide);have hq:=(c e).1;have d:(rtn v).K=18:=by
  rw [hv,((AbV hH [1,2] _ _ b hq.g (fun x f=>by rw [hq.l,FH hg hk];simp at f;omega)).2.2 hs).1.r];exact h
 rw [t18_s hH hn hg hk e hl,Ae hs,<-hv,Gs (wt18_3 d),rl18 d]
def Xs(hk:(rtn t).K=20): go_ R H 4 n t 0=if (so H n t [0,1]).2.1=0 then go_ R H 2 (so H n t [0,1]).2.2 (so H n t [0,1]).1 2 else ([],[],(so H n t [0,1]).2.1,(so H n t [0,1]).2.2):=
 Z7 (i:=0) (k:=1) hH hn hg (wt20_0 hk) (fun u a=>wt20_1 (by rw [a];exact hk)) (by rw [Fs hg hk];decide)
def t20_e(hk:(rtn t).K=20)(a:¬(so H n t [0,1]).2.1=0): go_ R H 4 n t 0=([],[],(so H n t [0,1]).2.1,(so H n t [0,1]).2.2):=by rw [Xs hH hn hg hk,Ac a]
def Xt(hk:(rtn t).K=20)(d:(so H n t [0,1]).2.1=0): Sm t (so H n t [0,1]).1/\pt (so H n t [0,1]).1 3=pt t 3/\(rtn (so H n t [0,1]).1).K=20:=by
 obtain ⟨a,b⟩:=(AbV hH [0,1] _ _ hn hg (fun x c=>by rw [Fs hg hk];simp at c;omega)).2.2 d;exact ⟨a,b 3 (fun x c=>by simp at c;omega),by rw [a.r];exact hk⟩
def t20_n(hk:(rtn t).K=20)(b:(so H n t [0,1]).2.1=0)(hv:v=(so H n t [0,1]).1)(hl:¬Xf v): go_ R H 4 n t 0=(v,(R.C (pt v 0) (pt v 1) (pt v 3)).1,(R.C (pt v 0) (pt v 1) (pt v 3)).2,(so H n t [0,1]).2.2):=by
 subst hv;have a:=(Xt hH hn hg hk b).2.2;rw [Xs hH hn hg hk,Ae b,Gs (wt20_n a hl),rl20 a]
def t20_f(hk:(rtn t).K=20)(a:(so H n t [0,1]).2.1=0)(hv:v=(so H n t [0,1]).1)(hl:Xf v)(hs:¬(pa H (so H n t [0,1]).2.2 v (Int.toNat 3)).2.1=0): go_ R H 4 n t 0=([],[],(pa H (so H n t [0,1]).2.2 v (Int.toNat 3)).2.1,(pa H (so H n t [0,1]).2.2 v (Int.toNat 3)).2.2):=by
 subst hv;rw [Xs hH hn hg hk,Ae a,Fx (j:=Int.toNat 3) (Y9 (Xt hH hn hg hk a).2.2 hl),Ac hs]
def t20_o(hk:(rtn t).K=20)(f:(so H n t [0,1]).2.1=0)(hv:v=(so H n t [0,1]).1)(hl:Xf v)(hs:(pa H (so H n t [0,1]).2.2 v (Int.toNat 3)).2.1=0)(d:x=(pa H (so H n t [0,1]).2.2 v (Int.toNat 3)).1): go_ R H 4 n t 0=(x,(R.C (pt x 0) (pt x 1) (pt x 3)).1,(R.C (pt x 0) (pt x 1) (pt x 3)).2,(pa H (so H n t [0,1]).2.2 v (Int.toNat 3)).2.2):=by
 subst hv;obtain ⟨a,b,c⟩:=Xt hH hn hg hk f;obtain ⟨_,p,_⟩:=AbV hH [0,1] _ _ hn hg (fun x d=>by rw [Fs hg hk];simp at d;omega);have e:(rtn x).K=20:=by rw [d,((TL hH p a.g (by rw [a.l,Fs hg hk];decide)).2.2 hs).1.r];exact c
 rw [Xs hH hn hg hk,Ae f,Fx (j:=Int.toNat 3) (Y9 c hl),Ae hs,<-d,Gs (wt20_3 e),rl20 e]
end
section
variable (hk:k=tgK (rtn t)) (h0:0<=k)
include hk h0
def wtg_0:wt_ t 0=some k.toNat:=by
 subst hk;unfold wt_;simp only;rw [Ac fun e=>SJ (.inl e) h0,Ac fun e=>SJ (.inr e) h0,Ae h0];rfl
def wtg_1:wt_ t 1=none:=by
 subst hk;unfold wt_;simp only;rw [Ac fun e=>SJ (.inl e) h0,Ac fun e=>SJ (.inr e) h0,Ae h0,Ac zQ]
def rlg:rl_ R t=R.U t:=by subst hk;unfold rl_;rw [Ac fun e=>SJ (.inl e) h0,Ac fun e=>SJ (.inr e) h0,Ae h0]
def lenG(hg:Gd t): k.toNat<(ptL t).length:=by rw [<-hg.n.2.1,hk];exact tg_lt hg.n.1 zQ
def tg_e(a:¬(pa H n t k.toNat).2.1=0): go_ R H 4 n t 0=([],[],(pa H n t k.toNat).2.1,(pa H n t k.toNat).2.2):=by rw [Fx (wtg_0 hk h0),Ac a]
def tg_o(c:HF F H)(hn:n<=F)(hg:Gd t)(b:(pa H n t k.toNat).2.1=0): go_ R H 4 n t 0=((pa H n t k.toNat).1,(R.U (pa H n t k.toNat).1).1,(R.U (pa H n t k.toNat).1).2,(pa H n t k.toNat).2.2):=by
 have a:=((TL c hn hg (lenG hk h0 hg)).2.2 b).1.r;rw [Fx (wtg_0 hk h0),Ae b,Gs (wtg_1 (by rw [a];exact hk) h0),rlg (by rw [a];exact hk) h0]
end
def Et{L:zN}(h:AK L=ptL x)(k:Nat): (At L k).2.2=pt x k:=by rw [Av,h]
def Vd.s(h:Vd t): sml t:=h.2
def Vd.l(h:Vd t): t.length<=5000:=Ax (D9 h.1) zS
def K6(h:Vd t): t.length<=1000000:=Ax (D9 h.1) zS
def Vd.p(h:Vd t): 0<t.length:=B0 h.1
def t_no(h0:¬0<=tgK (rtn t))(b:¬(rtn t).K=18)(a:¬(rtn t).K=20): go_ R H 4 n t 0=(t,[],120,n):=by
 rw [Gs (by unfold wt_;simp only;rw [Ac b,Ac a,Ac h0])];unfold rl_;rw [Ac b,Ac a,Ac h0]
def t_no1(h:(rtn t).K=1): go_ R H 4 n t 0=(t,[],120,n):=t_no (by unfold tgK;simp [h]) zQ zQ
def Tn(h:mes F n t<=b+1)(hn:n<=m)(hl:u.length<t.length): mes F m u<=b:=by
 have a:=Nat.mul_le_mul_right 5000 (show (F-m).toNat<=(F-n).toNat by omega);exact Nat.le_of_lt_succ (B4 (Nat.add_lt_add_of_le_of_lt a hl) h)
def go_l(e:RF R)(a:HF F H):∀(f:Nat) (n:Int) (t:zM) (d:Nat),n<=F->Gd t->(go_ R H f n t d).1.length<=40000
 | 0,_,_,_,_,_=>Nat.zero_le _
 | f+1,n,t,d,hn,ht=>by
  cases hw:wt_ t d with
  | none=>rw [Gs hw];exact ht.l
  | some j=>
   obtain ⟨_,b,c⟩:=TL (n:=n) a hn ht (KQ ht hw);rw [Fx hw];split
   ·rename_i h;exact go_l e a f _ _ _ b (c h).1.g
   ·exact Nat.zero_le _
section
variable (hR:RF R) (hv:Vd t) (hn:n<=F) (hX:X=go_ R (hdT R F) 4 n t 0)
include hR hv hn hX
def hd_X:hdT R F n t=Gt F (hdT R F) X:=by rw [hX];exact VC hR hv hn
def hd_s0(h:X.2.2.1=120)(hc:chk X.1=0): hdT R F n t=(X.1,0,X.2.2.2):=by rw [hd_X hR hv hn hX];unfold Gt;rw [Ae h,Ae hc]
def hd_s1(h:X.2.2.1=120)(hc:¬chk X.1=0): hdT R F n t=([],chk X.1,X.2.2.2):=by rw [hd_X hR hv hn hX];unfold Gt;rw [Ae h,Ac hc]
def hd_er(h:¬X.2.2.1=120)(h0:¬X.2.2.1=0): hdT R F n t=([],X.2.2.1,X.2.2.2):=by rw [hd_X hR hv hn hX];unfold Gt;rw [Ac h,Ac h0]
def hd_fu(h0:X.2.2.1=0)(hf:F<=X.2.2.2): hdT R F n t=([],150,X.2.2.2):=by rw [hd_X hR hv hn hX];unfold Gt;rw [Ac zQ,Ae h0,Ae hf]
def hd_nx(h0:X.2.2.1=0)(hf:¬F<=X.2.2.2): hdT R F n t=hdT R F (X.2.2.2+1) X.2.1:=by rw [hd_X hR hv hn hX];unfold Gt;rw [Ac zQ,Ae h0,Ac hf]
end
def ms_nx(h:mes F n t<=b)(hn:n<=m)(hm:m<F)(hl:u.length<=4000): mes F (m+1) u<=b:=by
 have a:=Nat.mul_le_mul_right 5000 (show (F-(m+1)).toNat+1<=(F-n).toNat by omega);rw [Nat.succ_mul] at a;have c:mes F (m+1) u<=(F-n).toNat*5000:=Ax (Nat.add_le_add_left (Ax hl zS) _) a;exact Ax c (Ax (Nat.le_add_right _ _) h)
def H2{l:zL}(hi:i<l.length): l.drop i=Bv l i::l.drop (i+1):=by
 rw [List.drop_eq_getElem_cons hi];congr 1;simp [Bv,hi]
def nms_c{p:zM}{l:zL}: nms H n (p::l)=if (H n p).2.1=0 then ((H n p).1::(nms H (H n p).2.2 l).1,(nms H (H n p).2.2 l).2) else ([],(H n p).2.1,(H n p).2.2):=rfl
section
variable {l:zL} {Ys:zN} {s:Sl} (h:nms H n0 l=(AK Ys++(nms H nv (l.drop i)).1,(nms H nv (l.drop i)).2))
include h
def ns_nx{p:zM}(hi:i<l.length)(a:p=Bv l i)(b:(H nv p).2.1=0)(hs:s.2.2=(H nv p).1): nms H n0 l=(AK (Ys++[s])++(nms H (H nv p).2.2 (l.drop (i+1))).1,(nms H (H nv p).2.2 (l.drop (i+1))).2):=by
 rw [h,H2 hi,<-a,nms_c,Ae b,E8,AW,<-hs];rfl
def ns_er{p:zM}(hi:i<l.length)(a:p=Bv l i)(b:¬(H nv p).2.1=0): (nms H n0 l).2=(H nv p).2:=by
 rw [h,H2 hi,<-a,nms_c,Ac b]
def Vk(hi:l.length<=i): nms H n0 l=(AK Ys,0,nv):=by
 rw [h,List.drop_eq_nil_of_le hi];simp [nms]
end
section
variable (hR:RF R) (hv:Vd t) (hn:n<=F)
include hR hv hn
def nm_e1(a:¬(hdT R F n t).2.1=0): nmT R F n t=([],(hdT R F n t).2.1,(hdT R F n t).2.2):=by rw [RP hR hv hn];unfold nm1;simp only;rw [Ac a]
def nm_e2(b:(hdT R F n t).2.1=0)(h:(nms (nmT R F) (hdT R F n t).2.2 (ptL (hdT R F n t).1)).2=q)(a:¬q.1=0): nmT R F n t=([],q.1,q.2):=by
 rw [RP hR hv hn];unfold nm1;simp only;rw [Ae b,h,Ac a]
def AaT(a:(hdT R F n t).2.1=0){l:zL}(h:nms (nmT R F) (hdT R F n t).2.2 (ptL (hdT R F n t).1)=(l,0,m)): nmT R F n t=(l.flatten++[rtn (hdT R F n t).1],0,m):=by
 rw [RP hR hv hn];unfold nm1;simp only;rw [Ae a,h];rfl
def nm_ms(d:(hdT R F n t).2.1=0){p:zM}(k:(hdT R F n t).2.2<=m)(hm:m<=F)(g:p∈ptL (hdT R F n t).1)(hb:mes F n t<=b+1): mes F m p<=b:=by
 obtain ⟨a,_,c,_⟩:=JN hR hn hv;have e:=(GU (c d).gd.b g).2.1;have h6:=D9 (c d).1;have i:=(QU hR hn hv d).2;by_cases q:(hdT R F n t).2.2=n
 ·rw [i q] at e;exact Tn hb zQ e
 ·
  have h:(F-m).toNat+1<=(F-n).toNat:=by omega
  have f:=Nat.mul_le_mul_right 5000 h;rw [Nat.succ_mul] at f;have j:(F-m).toNat*5000+p.length<(F-n).toNat*5000+t.length:=B4 (B4 (Nat.add_lt_add_left (show p.length<5000 by omega) _) f) (Nat.le_add_right _ _);exact Nat.le_of_lt_succ (B4 j hb)
end
def nrF(R:Rls)(t:zM)(k:Int): zM×Int×Int:=
 if chk t=0 then (if (nmT R k 0 (erA t)).2.1=0 then (if chk (nmT R k 0 (erA t)).1=0 then ((nmT R k 0 (erA t)).1,(nmT R k 0 (erA t)).2.2,0) else ([],0,chk (nmT R k 0 (erA t)).1)) else ([],0,(nmT R k 0 (erA t)).2.1)) else ([],0,chk t)
def VZ(h:chk t=0)(hs:sml t): Vd (erA t):=by
 obtain ⟨a,b,_⟩:=Wh h hs;rw [Sp h];exact ⟨b,a⟩
section
def nr_0(h:¬chk t=0): nrF R t k=([],0,chk t):=Ac h
variable (h:chk t=0)
include h
def nr_1(a:¬(nmT R k 0 (erA t)).2.1=0): nrF R t k=([],0,(nmT R k 0 (erA t)).2.1):=by unfold nrF;rw [Ae h,Ac a]
def nr_2(b:(nmT R k 0 (erA t)).2.1=0)(a:¬chk (nmT R k 0 (erA t)).1=0): nrF R t k=([],0,chk (nmT R k 0 (erA t)).1):=by unfold nrF;rw [Ae h,Ae b,Ac a]
def nr_3(b:(nmT R k 0 (erA t)).2.1=0)(a:chk (nmT R k 0 (erA t)).1=0): nrF R t k=((nmT R k 0 (erA t)).1,(nmT R k 0 (erA t)).2.2,0):=by unfold nrF;rw [Ae h,Ae b,Ae a]
end
def tk_le(l:zL)(i:Nat): (l.take i).flatten.length<=l.flatten.length:=by
 have h:=congrArg (fun x=>(List.flatten x).length) (List.take_append_drop i l);simp only [List.flatten_append,Ab] at h;omega
def tk_nx{p:zN}(a:u=((AK p).take i).flatten)(hi:i<p.length): u++(At p i).2.2=((AK p).take (i+1)).flatten:=by
 have hl:i<(AK p).length:=by rw [AQ];exact hi
 have e:(AK p)[i]?=some (Bv (AK p) i):=by simp [Bv,hl]
 rw [a,Av,List.take_add_one,List.flatten_append,e];simp
def tk_x{p:zN}(a:u=((AK p).take i).flatten)(hi:i<p.length): u.length+(At p i).2.2.length<=(AK p).flatten.length:=by
 have h:=tk_le (AK p) (i+1);rw [<-tk_nx a hi,Ab] at h;exact h
def wsB(n:Nd)(p:zN)(d:Int): Bool:=
 if n.K=18 then decide (d=0)||(decide (d<3)&&(decide (d=2)||(!isK (At p 1).2.2 29&&!isK (At p 2).2.2 29&&lkR (At p 0).2.2)))
 else if n.K=20 then decide (d<2)||(decide (d=2)&&!isK (At p 3).2.2 29&&Abd (At p 0).2.2 (At p 1).2.2)
 else if 0<=tgK n then decide (d=0) else false
def wkI(n:Nd)(d:Int): Int:=if n.K=18 then d else if n.K=20 then (if d<2 then d else 3) else if 0<=tgK n then tgK n else 0
def Kt{p:zN}{k:Nat}(hv:∀x∈AK p,Vd x)(h:k<p.length): Vd (At p k).2.2:=by
 rw [Av];exact hv _ (Eh (by rw [AQ];exact h))
end
section
open Go Go.RowKit
variable {a:Act}{b:Res}{m:zO}{t:zI}
section
variable {Next:zC} {l:zD}
end
section
variable {Next:zC} {l:zD} {x y:zJ}
def UJ{ps rs:Array zI}{e:Bool}(hs:SteV P X Next o a w)(c:Reg a N l)(hd:o.dst=some d)(i:o.op=.binOp .eql t x y t2)(g:ev l x=some .nilFunc)(f:ev l y=some .nilFunc)
  (h:P.underlying t=some (.func ps rs e)) (b:d<N) (k:∀a',Reg a' N ((d,.bool true)::l)->Next a' w):X:=by
 refine hs.val (.bool true) w ?_ (by rw [hd];exact k _ (c.put b _));have j:(Op.equal t .nilFunc .nilFunc).run P w=.ok true w:=by
  unfold Op.equal Op.maxDepth Op.equalIn;simp [AB,run_underlying h,Ay]
 unfold execOp;rw [i];have n:(eqGuard .eql t x y .nilFunc .nilFunc).run P w=.ok () w:=rfl;have m:binOp .eql t .nilFunc .nilFunc=(do pure (.bool (<-Op.equal t .nilFunc .nilFunc))):=rfl;simp only [c.ev g,c.ev f,AB,n,Ay,m,j,Ba]
end
section
variable {g n e:Nat}
def not_M(h:St w0 Z M w m ds){r:Res}(hi:m[i]?=some r)(b:∀k,M k->∃j r,j≠i/\m[j]?=some r/\r.blk=some k)(hk:r.blk=some k):¬M k:=fun hm=>by
 obtain ⟨j,s,a,hs,e⟩:=b k hm;exact Cv h.apart (Ne.symm a) hi hs hk e
def VY(h:St w0 Z M w m ds){r:Res}(hi:m[i]?=some r)(f:∀k,M k->∃j r,j≠i/\m[j]?=some r/\r.blk=some k)(hk:r.blk=some k): imm Z w0 (m.eraseIdx i) w k:=by
 refine ⟨(h.own _ (A0 hi) k hk).1,fun hlt=>?_,fun s b e=>?_⟩
 ·
  rcases (h.own _ (A0 hi) k hk).2 with d|d
  ·omega
  ·exact absurd d (not_M h hi f hk)
 obtain ⟨j',a⟩:=List.mem_iff_getElem?.1 b;rw [List.getElem?_eraseIdx] at a;by_cases c:j'<i
 ·rw [Ae c] at a;exact Cv h.apart (by omega:j'≠i) a hi e hk
 ·rw [Ac c] at a;exact Cv h.apart (by omega:j'+1≠i) a hi e hk
def St.row_dataG(h:St w0 Z M w m ds)(hi:m[i]?=some (.row A n cap e size xs))(d:∀k,M k->∃j r,j≠i/\m[j]?=some r/\r.blk=some k): St w0 Z M w (m.eraseIdx i) ds/\RowI w (imm Z w0 (m.eraseIdx i) w) size A n xs:=by
 have a:w.ownsRow 0 e size (.slice A n cap) n xs:=h.res hi;refine ⟨h.drop _ (List.eraseIdx_sublist m i),a.1,fun hn=>?_⟩;obtain ⟨b,rfl⟩:=Gc a hn;exact ⟨_,rfl,VY h hi d rfl,fun j u c=>a.cells (g:=b) rfl j u c⟩
def two_M(h0:m[0]?=some (.box g t cs))(c:m[1]?=some (.row A n cap e size xs))(b:0≠i)(a:1≠i):∀k,(k=g\/rM A k)->∃j r,j≠i/\m[j]?=some r/\r.blk=some k:=fun k hk=>by
 rcases hk with rfl|hk
 ·exact ⟨0,_,b,h0,rfl⟩
 ·exact ⟨1,_,a,c,hk⟩
def JV(w0:zH)(Z:zG)(b:zP)(hb:(Res.box g t cs).holds w0)(hr:(Res.row A n cap e size xs).holds w0)(hn:∀k,rM A k->k≠g)(h:∀d∈b,d.φ w0 (imm Z w0 [.box g t cs,.row A n cap e size xs] w0)):
  St w0 Z (fun k=>k=g\/rM A k) w0 [.box g t cs,.row A n cap e size xs] b:=by
 refine ⟨rfl,rfl,rfl,Ag _,fun _ _ _=>rfl,fun r hm=>?_,fun r hm k a=>?_,?_,h⟩
 ·
  simp only [Aj,Ah,or_false] at hm;rcases hm with rfl|rfl
  ·exact hb
  ·exact hr
 ·
  simp only [Aj,Ah,or_false] at hm;rcases hm with rfl|rfl
  ·
   have:g=k:=by simpa [Res.blk] using a
   subst this;exact ⟨(AO.1 hb).1,.inr (.inl rfl)⟩
  ·exact ⟨R0 hr a,.inr (.inr a)⟩
 ·
  refine .cons (fun s hs k f c=>?_) (.cons (fun _ h=>by cases h) .nil);rw [A7] at hs;subst hs;have:g=k:=by simpa [Res.blk] using f
  exact hn k c this.symm
def I5(c:∀k,Z k->k<w0.heap.size)(hg:¬Z g)(d:∀k,rM A k->¬Z k)(hk:Z k): imm Z w0 [.box g t cs,.row A n cap e size xs] w0 k/\w0.heap[k]?=w0.heap[k]?:=
 ⟨⟨c k hk,fun _=>hk,fun r a b=>by
  simp only [Aj,Ah,or_false] at a;rcases a with rfl|rfl
  ·
   have:g=k:=by simpa [Res.blk] using b
   subst this;exact hg hk
  ·exact d k b hk⟩,rfl⟩
def St.rowne(h:St w0 Z M w m ds)(hi:m[i]?=some (.box g t cs))(hj:m[j]?=some (.row A n cap e size xs))(a:i≠j):∀k,rM A k->k≠g:=fun k hk b=>by
 subst b;exact Cv h.apart a hi hj rfl hk
def WP(h:m.Pairwise fun r s=>∀k,r.blk=some k->s.blk≠some k)(hi:m[i]?=some (.box g t cs))(hb:b.blk=some g): (m.set i b).Pairwise fun r s=>∀k,r.blk=some k->s.blk≠some k:=by
 have d:(m.set i b).map Res.blk=m.map Res.blk:=by
  rw [List.map_set,hb];apply List.ext_getElem?;intro k;rw [List.getElem?_set];split
  ·
   rename_i hk;subst hk;have:i<(m.map Res.blk).length:=by rw [BK];exact (List.getElem?_eq_some_iff.1 hi).1
   rw [Ae this,FT,hi];rfl
  ·rfl
 have c:∀l:zO,(l.Pairwise fun r s=>∀k,r.blk=some k->s.blk≠some k)↔((l.map Res.blk).Pairwise fun a b=>∀k,a=some k->b≠some k):=fun l=>by rw [List.pairwise_map]
 rw [c,d,<-c];exact h
def MC{s:Res}(h:s∈m.set i b): s=b\/∃k,k≠i/\m[k]?=some s:=by
 obtain ⟨k,hk⟩:=List.mem_iff_getElem?.1 h;rw [List.getElem?_set] at hk;split at hk
 ·
  split at hk
  ·exact .inl (Bc hk).symm
  ·cases hk
 ·rename_i a;exact .inr ⟨k,Ne.symm a,hk⟩
def Yv(hf:Fr (fun k=>k=g\/rM A k) w w')(hi:m[i]?=some (.box g t cs))(hj:m[j]?=some (.row A n cap e size xs))(hk:k<w.heap.size)(a:∀r∈m,r.blk≠some k): w'.heap[k]?=w.heap[k]?:=
 hf.old k hk (fun hm=>by
  rcases hm with rfl|hm
  ·exact a _ (A0 hi) rfl
  ·exact a _ (A0 hj) hm)
def WE(h:St w0 Z M w m ds)(hf:Fr (fun k=>k=g\/rM A k) w w')(hi:m[i]?=some (.box g t cs))(hj:m[j]?=some (.row A n cap e size xs)){s:Res}(c:k≠i)(a:k≠j)(hk:m[k]?=some s): s.holds w':=
 Ec (h.res hk) (fun b hb=>hf.old b (h.own s (A0 hk) b hb).1 (fun hm=>by
  rcases hm with rfl|hm
  ·exact Cv h.apart c hk hi hb rfl
  ·exact Cv h.apart a hk hj hb hm))
def St.callMK(h:St w0 Z M w m ds)(hi:m[i]?=some (.box g t cs))(hj:m[j]?=some (.row A n cap e size xs))(f:i≠j)(hf:Fr (fun k=>k=g\/rM A k) w w')(hb:(Res.box g t cs').holds w')(hr:(Res.row A n cap e size xs).holds w'): St w0 Z M w' (m.set i (.box g t cs')) ds:=by
 refine h.step hf.os hf.tape hf.output hf.size (fun k hk l=>Yv hf hi hj hk l) (fun s hs=>?_) (fun s hs k c=>?_) (WP h.apart hi rfl)
 ·
  rcases MC hs with rfl|⟨k,hk,a⟩
  ·exact hb
  ·
   by_cases b:k=j
   ·subst b;rw [hj] at a;obtain rfl:=Bc a;exact hr
   ·exact WE h hf hi hj hk b a
 ·
  rcases MC hs with rfl|⟨o,d,a⟩
  ·
   have:g=k:=by simpa [Res.blk] using c
   subst this;exact ⟨(AO.1 hb).1,.inl ⟨_,A0 hi,rfl⟩⟩
  ·exact ⟨B4 (h.own s (A0 a) k c).1 hf.size,.inl ⟨s,A0 a,c⟩⟩
def St.base(h:St w0 Z M w [.box g t cs] ds): St w (imm Z w0 [.box g t cs] w) (·=g) w [.box g t cs] ds:=
 ⟨rfl,rfl,rfl,Ag _,fun _ _ _=>rfl,h.hold,fun r b k a=>⟨(h.own r b k a).1,.inr (by
  rw [A7.1 b] at a
  exact (by simpa [Res.blk] using a:g=k).symm)⟩,h.apart,fun d hd=>d.mono _ _ _ _ (Ag _) (h.dat d hd) fun k hk=>⟨⟨hk.1,fun _=>hk,hk.2.2⟩,rfl⟩⟩
end
section
variable {l:zD}
def Wo{t g u:Nat}{e ty:zI}{d:TypeDesc}(p:Reg a N l)(r:St w0 Z M w m ds)(h0:l.lookup 1000000=some (.bool false))(hr:fn.results=#[.cell t ty,.tmp u])(hv:ev l (.tmp t)=some (.pointer (some ⟨g,0,none⟩)))
  (f:ev l (.tmp u)=some v') (hi:m[i]?=some (.box g e vs)) (q:P.underlying ty=some d) (o:F0 d=true) (j:(P.info? ty).map (·.size)=some vs.length) (h:R (.returned (.tuple #[.agg vs.toArray,v'])) w):bodyPost P fn R .ret a w:=by
 have hc:CellsAt w ⟨g,0,none⟩ vs:=FL (r.res hi);have hl:=Ht (P:=P) q o j hc;have n:a.tmps.getD t undef=.pointer (some ⟨g,0,none⟩):=p.ev hv;have k:a.tmps.getD u undef=v':=p.ev f;exact ⟨p.dfr h0,.tuple #[.agg vs.toArray,v'],by
  simp only [results,hr];have c:a.tmps[t]?.getD undef=.pointer (some ⟨g,0,none⟩):=by rw [<-Array.getD_eq_getD_getElem?];exact n
  have b:a.tmps[u]?.getD undef=v':=by rw [<-Array.getD_eq_getD_getElem?];exact k
  simp [AB,c,b,asAddr,hl],h⟩
end
end
section
open Go Go.RowKit
section
variable {m:zO} {g g' t t':Nat}
def St.addb(h:St w0 Z M w0 m ds)(hb:(Res.box g t cs).holds w0)(i:¬Z g)(hne:∀r∈m,r.blk≠some g): St w0 Z (fun k=>M k\/k=g) w0 (m++[.box g t cs]) ds where
 os:=h.os
 tape:=h.tape
 output:=h.output
 size:=h.size
 old k hk hm:=h.old k hk fun q=>hm (.inl q)
 hold r c:=by
  rcases Bi.1 c with c|c
  ·exact h.hold r c
  ·rw [A7.1 c];exact hb
 own r c k hk:=by
  rcases Bi.1 c with c|c
  ·obtain ⟨a,b⟩:=h.own r c k hk;exact ⟨a,b.imp id .inl⟩
  ·
   rw [A7.1 c] at hk;have e:g=k:=by simpa [Res.blk] using hk
   subst e;exact ⟨(AO.1 hb).1,.inr (.inr rfl)⟩
 apart:=by
  refine List.pairwise_append.2 ⟨h.apart,List.pairwise_singleton _ _,fun r c s hs k hk e=>?_⟩;rw [A7.1 hs] at e;have f:g=k:=by simpa [Res.blk] using e
  subst f;exact hne r c hk
 dat d hd:=d.mono _ _ _ _ (Ag _) (h.dat d hd) fun k hk=>⟨⟨hk.1,hk.2.1,fun r c e=>by
  rcases Bi.1 c with c|c
  ·exact hk.2.2 r c e
  ·
   rw [A7.1 c] at e;have f:g=k:=by simpa [Res.blk] using e
   subst f
   exact i (hk.2.1 hk.1)⟩,rfl⟩
def Fr.less(h:Fr (fun k=>M k\/k=g) w w')(h0:(Res.box g t cs).holds w)(a:(Res.box g t cs).holds w'): Fr M w w' where
 os:=h.os
 tape:=h.tape
 output:=h.output
 size:=h.size
 old k hk hm:=by
  by_cases e:k=g
  ·subst e;unfold Res.holds at h0 a;exact Eq.trans a (Eq.symm h0)
  ·exact h.old k hk fun q=>q.elim hm e
def St.boxne(h:St w0 Z M w m ds)(hi:m[i]?=some (.box g t cs))(hj:m[j]?=some (.box g' t' cs'))(a:i≠j): g≠g':=fun b=>by
 subst b;exact Cv h.apart a hi hj rfl rfl
end
def FA(l:zM)(n:Nd): rtn (l++[n])=n:=by
 show nth (l++[n]) ((l++[n]).length-1)=n;simp [nth]
section
variable {R:Rls} {n:Nd} {p:zN} (hp:ptL ((AK p).flatten++[n])=AK p)
include hp
def AaE(k:Nat): pt ((AK p).flatten++[n]) k=(At p k).2.2:=by
 show Bv (ptL _) k=_;rw [hp,Av]
def rlF18(hk:n.K=18): rl_ R ((AK p).flatten++[n])=R.E (At p 0).2.2 (At p 1).2.2 (At p 2).2.2:=by
 rw [rl18 (by rw [FA];exact hk),AaE hp,AaE hp,AaE hp]
def rlF20(hk:n.K=20): rl_ R ((AK p).flatten++[n])=R.C (At p 0).2.2 (At p 1).2.2 (At p 3).2.2:=by
 rw [rl20 (by rw [FA];exact hk),AaE hp,AaE hp,AaE hp]
omit hp in
def AbW(h:0<=tgK n): rl_ R ((AK p).flatten++[n])=R.U ((AK p).flatten++[n]):=rlg (k:=tgK n) (by rw [FA]) h
omit hp in
def rlFn(h:¬0<=tgK n)(b:¬n.K=18)(a:¬n.K=20): rl_ R ((AK p).flatten++[n])=([],120):=by
 unfold rl_;rw [FA,Ac b,Ac a,Ac h]
end
def wt_F{n:Nd}{p:zN}(h:ptL ((AK p).flatten++[n])=AK p)(d:Nat): wt_ ((AK p).flatten++[n]) d=if wsB n p d=true then some (wkI n d).toNat else none:=by
 unfold wt_;simp only [FA,AaE h];unfold wsB wkI;by_cases e:n.K=18
 ·
  simp only [Ae e];by_cases h0:d=0
  ·subst h0;simp
  ·
   by_cases c:d=2
   ·subst c;simp
   ·
    by_cases a:d<3
    ·
     have:(d:Int)<3:=by omega
     have g:¬(d:Int)=2:=by omega
     simp [h0,c,g,a,this,and_assoc]
    ·
     have:¬(d:Int)<3:=by omega
     simp [h0,a,this]
 ·
  simp only [Ac e];by_cases b:n.K=20
  ·
   simp only [Ae b];by_cases c:d<2
   ·
    have:(d:Int)<2:=by omega
    simp [c,this]
   ·
    have:¬(d:Int)<2:=by omega
    by_cases a:d=2
    ·subst a;simp
    ·
     have f:¬(d:Int)=2:=by omega
     simp [c,this,a,f]
  ·
   simp only [Ac b];by_cases hg:0<=tgK n
   ·
    simp only [Ae hg];by_cases h0:d=0
    ·simp [h0]
    ·simp [h0]
   ·simp [hg]
def PR:Rls:=⟨fun t=>(urA t,urE t),fun a t u=>(eyA a t u,eyE a t u),fun a b t=>(crA a b t,crE a b t)⟩
end
section
open Go Go.RowKit
section
variable {R:Rls} {n:Int} {H:Int->zM->HR}
def gd_120(h:Gd t): chk t≠120:=fun e=>by
 rcases Oh (t:=t) h.b with q|q|q<;>rw [e] at q<;>cases q
def N1(F:Int)(H:Int->zM->HR): Prop:=∀{n t},n<=F->Vd t->(H n t).2.1≠120
def Z8(k:RF R)(e:HF F H)(i:N1 F H):∀(f:Nat) (n:Int) (t:zM) (d:Nat),n<=F->Gd t->(go_ R H f n t d).2.2.1=120->chk (go_ R H f n t d).1≠120
 | 0,_,_,_,_,_=>fun h=>by cases h
 | f+1,n,t,d,hn,ht=>by
  cases hw:wt_ t d with
  | none=>rw [Gs hw];exact fun _=>gd_120 ht
  | some j=>
   have a:=KQ ht hw;obtain ⟨_,b,c⟩:=TL (n:=n) e hn ht a;rw [Fx hw];split
   ·rename_i h;exact Z8 k e i f _ _ _ b (c h).1.g
   ·
    rename_i h;intro q;have hq:(pa H n t j).2.1=120:=q;have l:(pa H n t j).2.1=(H n (pt t j)).2.1:=by
     by_cases h0:(H n (pt t j)).2.1=0
     ·rw [OU h0] at h;exact absurd rfl h
     ·rw [OV h0]
    rw [l] at hq;exact absurd hq (i hn (Di ht a).1)
def VB(d:RF R):∀k,N1 F (hd R F k)
 | 0=>fun _ _ h=>by cases h
 | k+1=>fun hn ht=>by
  have f:=Z8 d (Sg d k) (VB d k) 4 _ _ 0 hn ht.gd;obtain ⟨a,b,c,e⟩:=Ye d (Sg d k) 4 _ _ 0 hn ht.gd;show (Gt F (hd R F k) (go_ R (hd R F k) 4 _ _ 0)).2.1≠120;generalize go_ R (hd R F k) 4 _ _ 0=x at a b c e f ⊢;unfold Gt;split
  ·
   rename_i hs;split
   ·exact fun q=>by cases q
   ·exact f hs
  ·
   rename_i hs;split
   ·
    rename_i h0;split
    ·exact fun q=>by cases q
    ·exact VB d k zQ (c h0)
   ·exact hs
def Abr(a:RF R): N1 F (hdT R F):=fun hn ht=>VB a _ hn ht
abbrev Fm:=Nd×(zE×Nat×zN)×Int×Int
abbrev trm(n:Nd)(p:zN): zM:=(AK p).flatten++[n]
def rs1(R:Rls)(F:Int)(f:Fm)(r:HR): HR:=
 if r.2.1=0 then Gt F (hdT R F) (go_ R (hdT R F) (3-f.2.2.1.toNat) r.2.2 (wi (trm f.1 f.2.1.2.2) f.2.2.2.toNat r.1) (f.2.2.1.toNat+1)) else ([],r.2)
def rsm(R:Rls)(F:Int)(K:List Fm)(r:HR): HR:=K.foldr (rs1 R F) r
def Rz(K:List Fm)(f:Fm)(r:HR): rsm R F (K++[f]) r=rsm R F K (rs1 R F f r):=by simp [rsm,List.foldr_append]
def Nq{e m:Int}(a:e≠0):∀K:List Fm,rsm R F K ([],e,m)=([],e,m)
 | []=>rfl
 | f::K=>by
  show rs1 R F f (rsm R F K ([],e,m))=_;rw [Nq a K];exact Ac a
def inn(R:Rls)(F n:Int)(t:zM)(d:Nat): HR:=Gt F (hdT R F) (go_ R (hdT R F) (4-d) n t d)
def Abq(b:RF R)(a:Vd t)(hn:n<=F): hdT R F n t=inn R F n t 0:=VC b a hn
def XV(b:RF R){f:Fm}(hg:Gd (trm f.1 f.2.1.2.2))(hn:n<=F)(a:wt_ (trm f.1 f.2.1.2.2) f.2.2.1.toNat=some f.2.2.2.toNat)(hd:f.2.2.1.toNat<4):
  inn R F n (trm f.1 f.2.1.2.2) f.2.2.1.toNat=rs1 R F f (hdT R F n (pt (trm f.1 f.2.1.2.2) f.2.2.2.toNat)):=by
 have d:4-f.2.2.1.toNat=(3-f.2.2.1.toNat)+1:=by omega
 have hv:=(Di hg (KQ hg a)).1;have c:=Abr (F:=F) b hn hv;unfold inn rs1;rw [d,Fx a];by_cases h0:(hdT R F n (pt (trm f.1 f.2.1.2.2) f.2.2.2.toNat)).2.1=0
 ·rw [OU h0,Ae rfl,Ae h0]
 ·rw [OV h0,Ac h0,Ac h0];unfold Gt;rw [Ac c,Ac h0]
def XW(a:wt_ t d=none)(hd:d<4): inn R F n t d=Gt F (hdT R F) (t,(rl_ R t).1,(rl_ R t).2,n):=by
 have b:4-d=(3-d)+1:=by omega
 unfold inn;rw [b,Gs a]
def rmn(n:Nd)(l:zL)(d:Nat): Nat:=if d=0 then l.flatten.length else if (n.K=18\/n.K=20)/\d<3 then (l.drop d).flatten.length else 0
def Oc{l:zL}(hi:i<l.length): (l.drop i).flatten.length=(Bv l i).length+(l.drop (i+1)).flatten.length:=by
 rw [H2 hi,BO,Ab]
def Abx(l:zL)(i:Nat): (l.drop i).flatten.length<=l.flatten.length:=by
 have h:=congrArg (fun x=>(List.flatten x).length) (List.take_append_drop i l);simp only [List.flatten_append,Ab] at h;omega
def rmn_le(n:Nd)(l:zL)(d:Nat): rmn n l d<=(l.drop d).flatten.length:=by
 unfold rmn;split
 ·rename_i h;subst h;exact Ag _
 ·
  split
  ·exact Ag _
  ·exact Nat.zero_le _
def X1{n:Nd}{p:zN}(h:ptL (trm n p)=AK p)(hg:Gd (trm n p))(a:wt_ (trm n p) d=some j):
  (pt (trm n p) j).length+rmn n ((AK p).set j x) (d+1)<=rmn n (AK p) d:=by
 have i:j<(AK p).length:=by rw [<-h];exact KQ hg a
 have e:pt (trm n p) j=Bv (AK p) j:=by show Bv (ptL _) j=_;rw [h]
 have u:(Bv (AK p) j).length<=((AK p).drop j).flatten.length:=by rw [Oc i];omega
 have h0:=Abx (AK p) j;have c:((AK p).set j x).drop (j+1)=(AK p).drop (j+1):=List.drop_set_of_lt zQ;have m:=Oc i;have s:(rtn (trm n p)).K=n.K:=by rw [FA]
 rw [e];unfold wt_ at a;simp only [s] at a;have b:d=j->d<3->(n.K=18\/n.K=20)->(Bv (AK p) j).length+rmn n ((AK p).set j x) (d+1)<=rmn n (AK p) d:=fun t r hk=>by
  subst t;have o:=rmn_le n ((AK p).set d x) (d+1);rw [c] at o;have w:rmn n (AK p) d=((AK p).drop d).flatten.length:=by
   unfold rmn;split
   ·rename_i q;subst q;rfl
   ·rw [Ae ⟨hk,r⟩]
  omega
 split at a
 ·
  rename_i hk;split at a
  ·rename_i hd;cases a;exact b rfl (by rcases hd with rfl|⟨q,_⟩<;>omega) (.inl hk)
  ·cases a
 ·
  split at a
  ·
   rename_i hk;split at a
   ·cases a;exact b rfl zQ (.inr hk)
   ·
    split at a
    ·
     rename_i hd;cases a;obtain ⟨hd,_⟩:=hd;subst hd;have h6:rmn n ((AK p).set 3 x) (2+1)=0:=by simp [rmn]
     have k:rmn n (AK p) 2=((AK p).drop 2).flatten.length:=by unfold rmn;rw [Ac zQ,Ae ⟨.inr hk,by omega⟩]
     have v:((AK p).drop 2).flatten.length=(Bv (AK p) 2).length+((AK p).drop 3).flatten.length:=Oc zQ;omega
    ·cases a
  ·
   rename_i g f;split at a
   ·
    split at a
    ·
     rename_i hd;cases a;subst hd;have h6:∀l,rmn n l (0+1)=0:=fun l=>by simp [rmn,g,f]
     have k:rmn n (AK p) 0=(AK p).flatten.length:=by simp [rmn]
     rw [h6,k];omega
    ·cases a
   ·cases a
end
section
variable {A:zO} {e:Nat}
def Nr(e:Nat)(f:Fm): Res:=.row f.2.1.1 f.2.1.2.2.length f.2.1.2.1 e 1 (Bh f.2.1.2.2)
def Y7{K:List Fm}{f:Fm}(h:St w0 Z M w (A++[.row f.2.1.1 f.2.1.2.2.length f.2.1.2.1 e 1 (Bh f.2.1.2.2)]++K.map (Nr e)) ds): St w0 Z M w (A++(K++[f]).map (Nr e)) ds:=
 h.perm (by
  rw [Cq,AW]
  exact List.Perm.append_left A List.perm_append_comm)
def St.popF{K:List Fm}{f:Fm}(h:St w0 Z M w (A++(K++[f]).map (Nr e)) ds): St w0 Z M w (A++[.row f.2.1.1 f.2.1.2.2.length f.2.1.2.1 e 1 (Bh f.2.1.2.2)]++K.map (Nr e)) ds:=
 h.perm (by
  rw [Cq,AW]
  exact List.Perm.append_left A List.perm_append_comm)
end
end
section
open Go Go.RowKit
variable {K a t:List Fm}{e:Nat}{f:Fm}
def fmz:Fm:=(ndz,(none,0,[]),0,0)
def Abw(s:Fm): zF:=[.int .i64 s.1.K,.int .i64 s.1.N,.int .i64 s.1.M,.string s.1.S,.slice s.2.1.1 s.2.1.2.2.length s.2.1.2.1,.int .i64 s.2.2.1,.int .i64 s.2.2.2]
def Hl(l:List Fm): zF:=l.flatMap Abw
def FF(t:List Fm)(k:Nat): Fm:=t.getD k fmz
def Oa(s:Fm): (Abw s).length=7:=rfl
def Ym(l:List Fm):∀u∈Hl l,u.oneCell'=true:=by
 intro u a;obtain ⟨n,_,hn⟩:=List.mem_flatMap.1 a;simp [Abw] at hn;rcases hn with rfl|rfl|rfl|rfl|rfl|rfl|rfl<;>rfl
def Zi(h:(Res.row A t.length cap e 7 (Hl t)).holds w)(hk:k<t.length): ElemAt w A (k*7) (Abw (FF t k)):=by
 have:=HN h hk;rwa [show (Hl t)=t.flatMap Abw from rfl,Hi Oa t k hk fmz] at this
def N8(h:k<t.length): FF t k∈t:=by
 have:FF t k=t[k]:=by simp [FF,h]
 rw [this];exact List.getElem_mem h
def FY(t:List Fm): Dat:=⟨fun w I=>∀f∈t,(BS f.2.1.2.2).φ w I,fun _ _ _ _ hs h hk f a=>(BS _).mono _ _ _ _ hs (h f a) hk⟩
section
def AbM(h:(FY t).φ w I)(hk:k<t.length): (BS (FF t k).2.1.2.2).φ w I:=h _ (N8 hk)
def SF:(FY []).φ w I:=fun _ h=>by cases h
def WT(h:(BS f.2.1.2.2).φ w I)(a:(FY t).φ w I): (FY (f::t)).φ w I:=fun s hs=>by
 rcases Aj.1 hs with rfl|hs
 ·exact h
 ·exact a s hs
def Rj{b:List Fm}(c:(FY a).φ w I)(hb:(FY b).φ w I): (FY (a++b)).φ w I:=fun s hs=>by
 rcases Bi.1 hs with hs|hs
 ·exact c s hs
 ·exact hb s hs
def WS(b:(FY a).φ w I)(k:Nat): (FY (a.take k)).φ w I:=fun s hs=>b s (List.mem_of_mem_take hs)
end
def V3(h:0<K.length): K.take (K.length-1)++[FF K (K.length-1)]=K:=by
 have hl:K.length-1<K.length:=by omega
 have e:FF K (K.length-1)=K[K.length-1]:=by simp [FF,hl]
 rw [e,List.take_append_getElem,AM zQ]
section
variable {A:zO}
def AbR(h:St w0 Z M w (A++K.map (Nr e)) ds)(a:0<K.length): St w0 Z M w (A++[.row (FF K (K.length-1)).2.1.1 (FF K (K.length-1)).2.1.2.2.length (FF K (K.length-1)).2.1.2.1 e 1 (Bh (FF K (K.length-1)).2.1.2.2)]++(K.take (K.length-1)).map (Nr e)) ds:=by
 have b:=V3 a;rw [<-b] at h;exact h.popF
end
section
variable {R:Rls} {n:Int} {t:zM} {p:zN} {d:Int} {c:Nat}
structure CF (nd:Nd) (p:zN) (d:Int):Prop where
 g:Gd (trm nd p)
 p:ptL (trm nd p)=AK p
 d0:0<=d
 d4:d<4
structure KF (f:Fm):Prop where
 c:CF f.1 f.2.1.2.2 f.2.2.1
 x0:0<=f.2.2.2
 w:wt_ (trm f.1 f.2.1.2.2) f.2.2.1.toNat=some f.2.2.2.toNat
def KFs(K:List Fm): Prop:=∀f∈K,KF f
def rk(f:Fm): Nat:=rmn f.1 (AK f.2.1.2.2) (f.2.2.1.toNat+1)
def rkS(K:List Fm): Nat:=(K.map rk).sum
def muH(F n:Int)(K:List Fm): Nat:=(F-n).toNat*5000+rkS K
def Aa0(K L:List Fm): rkS (K++L)=rkS K+rkS L:=by simp [rkS]
def Aaz(f:Fm): rkS [f]=rk f:=by simp [rkS]
def kf_nil:KFs []:=fun _ h=>by cases h
def wt_FI(a:ptL (trm nd p)=AK p)(h0:0<=d): wt_ (trm nd p) d.toNat=if wsB nd p d=true then some (wkI nd d).toNat else none:=by
 have h:=wt_F a d.toNat
 rwa [Fa h0] at h
def wt_d3{d:Nat}(h:wt_ t d=some j): d<3:=by
 unfold wt_ at h;simp only at h;split at h
 ·
  split at h
  ·rename_i q;rcases q with rfl|q<;>omega
  ·cases h
 ·
  split at h
  ·
   split at h
   ·omega
   ·
    split at h
    ·omega
    ·cases h
  ·
   split at h
   ·
    split at h
    ·omega
    ·cases h
   ·cases h
def wk_0(h0:0<=d)(h:wsB nd p d=true): 0<=wkI nd d:=by
 unfold wsB at h;unfold wkI;split
 ·exact h0
 ·
  split
  ·split<;>omega
  ·
   split
   ·assumption
   ·rename_i a b e;rw [Ac a,Ac b,Ac e] at h;cases h
def Uj(hv:Vd t)(a:AK Ls=agA t): trm (nth t (t.length-1)) Ls=t:=by
 show (AK Ls).flatten++[rtn t]=t;rw [a,EW hv.1];exact (M5 (Br hv.1)).symm
def Ab6(hv:Vd t)(a:AK Ls=agA t): CF (nth t (t.length-1)) Ls 0:=by
 have e:=Uj hv a;refine ⟨by rw [e];exact hv.gd,?_,Int.le_refl _,by decide⟩;rw [e,a,EW hv.1]
def U9(hv:Vd t)(a:AK Ls=agA t): rmn (nth t (t.length-1)) (AK Ls) (Int.toNat 0)+1=t.length:=by
 have e:=congrArg List.length (Uj hv a);have h0:trm (nth t (t.length-1)) Ls=(AK Ls).flatten++[nth t (t.length-1)]:=rfl;rw [h0,Ab,AD] at e;have:rmn (nth t (t.length-1)) (AK Ls) (Int.toNat 0)=(AK Ls).flatten.length:=by simp [rmn]
 rw [this];exact e
def Abp(a:RF R)(hn:n<=F)(hv:Vd t)(b:AK Ls=agA t): rsm R F K (hdT R F n t)=rsm R F K (inn R F n (trm (nth t (t.length-1)) Ls) (Int.toNat 0)):=by
 rw [Uj hv b,Abq a hv hn];rfl
def WA(hc:CF nd p d)(h:wsB nd p d=true): KF (nd,(A,c,p),d,wkI nd d)/\(wkI nd d).toNat<p.length/\(At p (wkI nd d).toNat).2.2=pt (trm nd p) (wkI nd d).toNat/\Vd (At p (wkI nd d).toNat).2.2/\(At p (wkI nd d).toNat).2.2.length+rk (nd,(A,c,p),d,wkI nd d)<=rmn nd (AK p) d.toNat:=by
 have b:wt_ (trm nd p) d.toNat=some (wkI nd d).toNat:=by rw [wt_FI hc.p hc.d0,Ae h]
 have a:=KQ hc.g b;have e:(At p (wkI nd d).toNat).2.2=pt (trm nd p) (wkI nd d).toNat:=by rw [Av,<-hc.p]
 have hm:=X1 (x:=Bv (AK p) (wkI nd d).toNat) hc.p hc.g b;refine ⟨⟨hc,wk_0 hc.d0 h,b⟩,?_,e,by rw [e];exact (Di hc.g a).1,?_⟩
 ·rw [hc.p,AQ] at a;exact a
 ·
  rw [<-e] at hm;have f:(AK p).set (wkI nd d).toNat (Bv (AK p) (wkI nd d).toNat)=AK p:=by
   rw [hc.p] at a;have:Bv (AK p) (wkI nd d).toNat=(AK p)[(wkI nd d).toNat]:=by simp [Bv,a]
   rw [this,List.set_getElem_self]
  rw [f] at hm;exact hm
def Abk(h:KFs K)(hf:KF f): KFs (K++[f]):=fun x a=>by
 rcases Bi.1 a with a|a
 ·exact h x a
 ·rw [A7.1 a];exact hf
def Abo(a:RF R)(hn:n<=F)(hf:KF f): rsm R F K (inn R F n (trm f.1 f.2.1.2.2) f.2.2.1.toNat)=rsm R F (K++[f]) (hdT R F n (pt (trm f.1 f.2.1.2.2) f.2.2.2.toNat)):=by
 rw [Rz,XV a hf.c.g hn hf.w (by have:=hf.c.d4;have:=hf.c.d0;omega)]
def QK: muH F n (K++[f])=muH F n K+rk f:=by unfold muH;rw [Aa0,Aaz];omega
def LJ(hc:CF nd p d)(h:¬wsB nd p d=true): inn R F n (trm nd p) d.toNat=Gt F (hdT R F) (trm nd p,(rl_ R (trm nd p)).1,(rl_ R (trm nd p)).2,n):=
 XW (by rw [wt_FI hc.p hc.d0,Ac h]) (by have:=hc.d4;have:=hc.d0;omega)
def fi_no{e:Int}(hs:¬e=120)(a:¬e=0): Gt F (hdT R F) (x,u,e,n)=([],e,n):=(Ac hs).trans (Ac a)
def fi_fu{e:Int}(a:e=0)(hf:F<=n): Gt F (hdT R F) (x,u,e,n)=([],150,n):=by
 subst a;exact (Ac (show ¬(0:Int)=120 by decide)).trans ((Ae rfl).trans (Ae hf))
def fi_st{e:Int}(a:e=0)(hf:n<F): Gt F (hdT R F) (x,u,e,n)=hdT R F (n+1) u:=by
 subst a;exact (Ac (show ¬(0:Int)=120 by decide)).trans ((Ae rfl).trans (Ac (by show ¬F<=n;omega)))
def fi_ck{e:Int}(a:e=120)(hk:¬chk x=0): Gt F (hdT R F) (x,u,e,n)=([],chk x,n):=(Ae a).trans (Ac hk)
def fi_ok{e:Int}(a:e=120)(hk:chk x=0): Gt F (hdT R F) (x,u,e,n)=(x,0,n):=(Ae a).trans (Ae hk)
def Ab1(hc:CF nd p d)(h:¬wsB nd p d=true)(a:(rl_ R (trm nd p)).2=0)(hf:F<=n): rsm R F K (inn R F n (trm nd p) d.toNat)=([],150,n):=by
 rw [LJ hc h,fi_fu a hf];exact Nq zS K
def Ab0(hc:CF nd p d)(h:¬wsB nd p d=true)(a:(rl_ R (trm nd p)).2=0)(hf:n<F): rsm R F K (inn R F n (trm nd p) d.toNat)=rsm R F K (hdT R F (n+1) (rl_ R (trm nd p)).1):=by
 rw [LJ hc h,fi_st a hf]
def cn_err(hc:CF nd p d)(h:¬wsB nd p d=true)(a:¬(rl_ R (trm nd p)).2=0)(hs:¬(rl_ R (trm nd p)).2=120): rsm R F K (inn R F n (trm nd p) d.toNat)=([],(rl_ R (trm nd p)).2,n):=by
 rw [LJ hc h,fi_no hs a];exact Nq a K
def cn_chk(hc:CF nd p d)(h:¬wsB nd p d=true)(hs:(rl_ R (trm nd p)).2=120)(hk:¬chk (trm nd p)=0): rsm R F K (inn R F n (trm nd p) d.toNat)=([],chk (trm nd p),n):=by
 rw [LJ hc h,fi_ck hs hk];exact Nq hk K
def cn_ok(hc:CF nd p d)(h:¬wsB nd p d=true)(hs:(rl_ R (trm nd p)).2=120)(hk:chk (trm nd p)=0): rsm R F K (inn R F n (trm nd p) d.toNat)=rsm R F K (trm nd p,0,n):=by
 rw [LJ hc h,fi_ok hs hk]
def WB{z:Sl}(hf:KF f)(hv:Vd v)(m:z.2.2=v): CF f.1 (f.2.1.2.2.set f.2.2.2.toNat z) (f.2.2.1+1)/\trm f.1 (f.2.1.2.2.set f.2.2.2.toNat z)=wi (trm f.1 f.2.1.2.2) f.2.2.2.toNat v/\rmn f.1 (AK (f.2.1.2.2.set f.2.2.2.toNat z)) (f.2.2.1+1).toNat=rk f:=by
 have n:=KQ hf.c.g hf.w;have e:trm f.1 (f.2.1.2.2.set f.2.2.2.toNat z)=wi (trm f.1 f.2.1.2.2) f.2.2.2.toNat v:=by
  show (AK _).flatten++[f.1]=((ptL (trm f.1 f.2.1.2.2)).set _ v).flatten++[rtn (trm f.1 f.2.1.2.2)];rw [hf.c.p,FA,KE,m]
 obtain ⟨a,b,c,_⟩:=Kr (j:=f.2.2.2.toNat) hf.c.g hv;have o:=wt_d3 hf.w;have h0:=hf.c.d0;refine ⟨⟨by rw [e];exact a,?_,by omega,by omega⟩,e,?_⟩
 ·rw [e,b,hf.c.p,KE,m]
 ·
  have i:(f.2.2.1+1).toNat=f.2.2.1.toNat+1:=by omega
  rw [i,KE];have h:¬f.2.2.1.toNat+1=0:=by omega
  unfold rk rmn;simp only [Ac h];split
  ·
   rename_i hk;have d:=hf.w;unfold wt_ at d;simp only [FA] at d;have:f.2.2.2.toNat<f.2.2.1.toNat+1:=by
    rcases hk.1 with l|k
    ·
     rw [Ae l] at d;split at d
     ·have:=Bc d;omega
     ·cases d
    ·
     rw [Ac zQ,Ae k] at d;split at d
     ·have:=Bc d;omega
     ·omega
   rw [List.drop_set_of_lt this]
  ·rfl
def hq_pop{z:Sl}(f:KFs K)(h0:0<K.length)(hv:Vd v)(d:z.2.2=v):
  rsm R F K (v,0,n)=rsm R F (K.take (K.length-1)) (inn R F n (trm (FF K (K.length-1)).1 ((FF K (K.length-1)).2.1.2.2.set (FF K (K.length-1)).2.2.2.toNat z)) ((FF K (K.length-1)).2.2.1+1).toNat):=by
 have a:=f _ (N8 (show K.length-1<K.length by omega));have g:=V3 h0;have b:=Rz (R:=R) (F:=F) (K.take (K.length-1)) (FF K (K.length-1)) (v,0,n);rw [g] at b;rw [b];congr 1;have e:=a.c.d0;have j:=wt_d3 a.w;unfold rs1;rw [Ae rfl,(WB a hv d).2.1];unfold inn;have i:((FF K (K.length-1)).2.2.1+1).toNat=(FF K (K.length-1)).2.2.1.toNat+1:=by omega
 have h:4-((FF K (K.length-1)).2.2.1.toNat+1)=3-(FF K (K.length-1)).2.2.1.toNat:=by omega
 rw [i,h]
def Zp(h0:0<K.length): muH F n K=muH F n (K.take (K.length-1))+rk (FF K (K.length-1)):=by
 have h:=QK (F:=F) (n:=n) (K:=K.take (K.length-1)) (f:=FF K (K.length-1));rwa [V3 h0] at h
def kf_pop(h:KFs K)(k:Nat): KFs (K.take k):=fun f a=>h f (List.mem_of_mem_take a)
def Vo(h:n<F): muH F (n+1) K+5000=muH F n K:=by unfold muH;omega
def Zy(h0:0<K.length): (K.take (K.length-1)).length+1=K.length:=by rw [Ak];omega
end
end
section
open Go Go.RowKit
def lft(p:zL): List Bd:=p.map fun x=>(x,(0:Int))
def Abe(p:zL)(k:Nat): Ge (lft p) k=(Bv p k,0):=by
 unfold Ge lft Bv;by_cases h:k<p.length
 ·simp [h]
 ·simp [AC,List.getElem?_eq_none (by omega:p.length<=k)]
def lft_1(p:zL): (lft p).map (·.1)=p:=by
 unfold lft;rw [List.map_map];exact List.map_id p
def VG(p:zL): (fsE (lft p)).2=0:=by
 induction p with
 | nil=>rfl
 | cons x p ih=>
  show (if (0:Int)=0 then fsE (lft p) else (x,0)).2=0;rw [Ae rfl];exact ih
def bOf_1{n:Nd}{l:List Bd}(h:(fsE l).2=0): bOf n l=((l.map (·.1)).flatten++[n],0):=Ae h
def ur_rel{n x:Nd}{p q:zL}(h:n.K=13->p.length=4): urR n x p q=bRx n x (lft p) (lft q):=by
 have b:∀a l,bAt (a,0) (lft l)=(inL 0 a l,inQ 0 a l):=fun a l=>by
  unfold bAt;rw [Ac (CX rfl),Ac (CX (VG l)),lft_1];rfl
 unfold urR urX bRx;simp only [Abe];by_cases i:n.K=5/\x.K=4
 ·rw [Ae i,Ae i];exact (b _ [_]).symm
 rw [Ac i,Ac i];by_cases c2:n.K=8/\x.K=7
 ·rw [Ae c2,Ae c2];rfl
 rw [Ac c2,Ac c2];by_cases g:n.K=9/\x.K=7
 ·rw [Ae g,Ae g];rfl
 rw [Ac g,Ac g];by_cases f:n.K=13/\x.K=11
 ·rw [Ae f,Ae f];rfl
 rw [Ac f,Ac f];by_cases c:n.K=13/\x.K=12
 ·
  rw [Ae c,Ae c];have j:=h c.1;have hb:bOf n [((Bv p 0,0):Bd),(Bv p 1,0),(Bv p 2,0),(Bv q 0,0)]=(noL 0 n (p.set (p.length-1) (Bv q 0)),0):=by
   have e:[((Bv p 0,0):Bd),(Bv p 1,0),(Bv p 2,0),(Bv q 0,0)]=lft (p.set (p.length-1) (Bv q 0)):=by
    match p,j with
    | [_,_,_,_],_=>rfl
   rw [e,bOf_1 (VG _),lft_1];rfl
  rw [hb];exact (b _ [_,_]).symm
 rw [Ac c,Ac c];by_cases d:n.K=24/\x.K=23
 ·rw [Ae d,Ae d];exact (b _ [_]).symm
 rw [Ac d,Ac d];rfl
def ZN(t:zM): MS t=(urA t,urE t):=by
 by_cases hc:chk t=0
 ·
  unfold MS bRz;rw [Ae hc];by_cases c:tgK (nth t (t.length-1))<0
  ·obtain ⟨a,b⟩:=Uf hc c;rw [Ae c,a,b];rfl
  ·
   rw [Ac c];have hm:=(Cl (Br hc));have e:bRx (nth t (t.length-1)) (nth (tgL t) ((tgL t).length-1)) (bP t) (bP (tgL t))=urR (nth t (t.length-1)) (nth (tgL t) ((tgL t).length-1)) (agA t) (agA (tgL t)):=by
    rw [ur_rel (fun h=>by rw [EW hc,hm,NI h]),EW hc,EW (Aag hc c)];rfl
   obtain ⟨a,b⟩:=ur_of hc c e;rw [a,b];generalize bRx (nth t (t.length-1)) (nth (tgL t) ((tgL t).length-1)) (bP t) (bP (tgL t))=R;unfold EY;by_cases h0:R.2=0
   ·
    simp only [Ae h0];by_cases d:chk R.1=0
    ·simp [d]
    ·simp [d]
   ·simp [h0]
 ·obtain ⟨a,b⟩:=Ug hc;unfold MS;rw [Ac hc,a,b]
def YK(h:Vd t): Sz 5000 t:=⟨h.2,Ax (D9 h.1) zS⟩
def eyL_Z(e:Vd a)(g:Vd t)(f:Vd u): Sz 100000 (eyL a t u).1:=by
 have d:=YK e;have c:=YK g;have b:=YK f;have hn:(nth a (a.length-1)).S.size<1000000:=e.2 _ (by have:=B0 e.1;omega);unfold eyL;dsimp only;split
 ·exact EB (k:=1) (a:=noL 0 (kN 16 0) []) (Ef e0S) zS
 ·
  split
  ·exact epL_Z hn (IX d) c b
  ·
   split
   ·exact esL_Z (IX d) c b
   ·
    split
    ·exact ntL_Z d c b
    ·
     split
     ·exact edL_Z
     ·
      split
      ·exact eqL_Z d c b
      ·
       split
       ·
        split
        ·exact etL_Z hn c b
        ·exact e0L_Z c b
       ·exact EB OA zS
def piL_Z{p q:zL}(b:∀k,Sz 5000 (Bv p k))(a:∀k,Sz 5000 (Bv q k))(c:Sz 5000 t): Sz 100000 (piL e p q t m):=by
 have y:Sz 20000 (piY e p q m):=EB (Qj (KZ (E0 (a 0)) (E0 (b 0)) (Ef e0S))) zS;exact EB (ED e0S (a 0) (KZ (IW (E0 (b 1)) y) (a 1) (ED e0S (E0 c) y))) zS
def sgL_Z{p q:zL}(g:∀k,Sz 5000 (Bv p k))(d:∀k,Sz 5000 (Bv q k))(hb:Sz 5000 b)(a:Sz 5000 t): Sz 100000 (sgL e p q b t m):=by
 have f:Sz 6000 (sgF e t m):=EB (Qj (Gb e0S a)) zS;have c:Sz 20000 (sgC e p q t m):=EB (Qj (KZ (g 0) (d 0) f)) zS;have s:Sz 20000 (if EN m 1=0 then sgS e p q t m else noL e ⟨29,0,0,⟨#[]⟩⟩ []):=by
  split
  ·exact EB (KZ (IW (g 1) f) (IW (d 1) c) (Gb e0S a)) zS
  ·exact EB (Ef e0S) zS
 exact EB (Ga e0S hb c s) zS
def crQ_Z(i:Vd a)(hb:Vd b)(g:Vd t)(h:crQ a b t=some (x,e)): Sz 100000 x:=by
 have f:=IX (YK i);have d:=IX (YK hb);have c:=YK g;have hn:(nth t (t.length-1)).S.size<1000000:=g.2 _ (by have:=B0 g.1;omega);unfold crQ at h;split at h
 ·cases h;exact EB (Ef e0S) zS
 ·
  split at h
  ·
   split at h
   ·cases h;exact EB c zS
   ·
    split at h
    ·cases h;exact piL_Z f d c
    ·
     split at h
     ·cases h;exact sgL_Z f d (YK hb) c
     ·
      split at h
      ·cases h;exact EB (ED hn (YK hb) (KZ (f 0) (d 0) (IX c 1))) zS
      ·cases h
  ·cases h
def rfP:RF PR where
 U {t} hg c:=by
  have e:=ZN t;have d:(MS t).2=0:=by rw [e];exact c
  have f:=rfD.U hg d;have g:(DR.U t).1=urA t:=congrArg (fun x=>x.1) e;rw [g] at f;exact f
 E {a t u} ha ht hu c:=by
  have c:eyE a t u=0:=c;obtain ⟨d,f⟩:=Ee ha.1 ht.1 hu.1 (R:=eyL a t u) rfl;show Vd (eyA a t u);rw [d] at c;rw [f,Ae c];split at c
  ·exact ⟨c,(eyL_Z ha ht hu).1⟩
  ·rename_i h0;exact absurd c h0
 C {a b t} ha hb ht c:=by
  have c:crE a b t=0:=c;show Vd (crA a b t);cases hq:crQ a b t with
  | none=>
   obtain ⟨d,_⟩:=Of ha.1 hb.1 ht.1 hq;rw [d] at c;cases c
  | some y=>
   obtain ⟨x,e⟩:=y;obtain ⟨d,f⟩:=Ew ha.1 hb.1 ht.1 hq;rw [d] at c;rw [f,Ae c];split at c
   ·exact ⟨c,(crQ_Z ha hb ht hq).1⟩
   ·rename_i h0;exact absurd c h0
end
section
open Go Go.RowKit
section
variable {H:Int->zM->HR} {l:zL} {s:Sl} {p:zM}
structure NP (H:Int->zM->HR) (n0 nv:Int) (l:zL) (fp:zN) (i:Nat):Prop where
 e:nms H n0 l=(AK (fp.take i)++(nms H nv (l.drop i)).1,(nms H nv (l.drop i)).2)
 d:AK (fp.drop i)=l.drop i
 n:fp.length=l.length
def np_0(a:AK fp=l): NP H n0 n0 l fp 0:=⟨rfl,a,by rw [<-a,AQ]⟩
def np_at(h:NP H n0 nv l fp i)(hi:i<l.length): (At fp i).2.2=Bv l i:=by
 have a:=h.d;rw [H2 hi,List.drop_eq_getElem_cons (show i<fp.length by rw [h.n];exact hi)] at a;have b:At fp i=fp[i]'(by rw [h.n];exact hi):=by
  have:i<fp.length:=by rw [h.n];exact hi
  simp [At,this]
 rw [b];exact (List.cons.inj a).1
def np_nx(h:NP H n0 nv l fp i)(hi:i<l.length)(b:p=Bv l i)(c:(H nv p).2.1=0)(hs:s.2.2=(H nv p).1): NP H n0 (H nv p).2.2 l (fp.set i s) (i+1):=by
 have hl:i<fp.length:=by rw [h.n];exact hi
 have f:(fp.set i s).take (i+1)=fp.take i++[s]:=by
  rw [List.take_add_one,List.getElem?_set_self hl,List.take_set_of_le (Ag _)];rfl
 refine ⟨by rw [f];exact ns_nx h.e hi b c hs,?_,by rw [List.length_set];exact h.n⟩;rw [List.drop_set_of_lt zQ];have a:=h.d;rw [H2 hi,List.drop_eq_getElem_cons hl] at a;exact (List.cons.inj a).2
def np_er(h:NP H n0 nv l fp i)(hi:i<l.length)(a:p=Bv l i)(b:¬(H nv p).2.1=0): (nms H n0 l).2=(H nv p).2:=ns_er h.e hi a b
def Zl(h:NP H n0 nv l fp i)(hi:l.length<=i): nms H n0 l=(AK fp,0,nv):=by
 have a:=Vk h.e hi;rw [AM (by rw [h.n];exact hi)] at a;exact a
end
section
variable {R:Rls} {n:Int}
def np_len(e:RF R)(hn:n<=F)(h0:0<=n)(hf:F<=200)(hv:Vd t)(f:(hdT R F n t).2.1=0)(h:NP (nmT R F) (hdT R F n t).2.2 nv (ptL (hdT R F n t).1) fp i)(hi:(ptL (hdT R F n t).1).length<=i): (AK fp).flatten.length<=5000000:=by
 obtain ⟨a,b,c,_⟩:=JN e hn hv;have hg:=(c f).gd;have d:=XN (QG (R:=R) (F:=F) e) (ptL (hdT R F n t).1) _ b hg.p;rw [Zl h hi] at d;have j:=(d.2.2.2 rfl).2.2;have g:=congrArg List.length (M5 hg.b);rw [Ab] at g;have k:=hg.l;have h6:=d.2.1;simp only at j h6;omega
end
section
variable {R:Rls} {k:Int} (h:chk t=0)
include h
def nr_i1(a:(if (nmT R k 0 (erA t)).2.1=0 then chk (nmT R k 0 (erA t)).1 else (nmT R k 0 (erA t)).2.1)=0): nrF R t k=((nmT R k 0 (erA t)).1,(nmT R k 0 (erA t)).2.2,0):=by
 split at a
 ·rename_i h0;exact nr_3 h h0 a
 ·rename_i h0;exact absurd a h0
def nr_i0(a:¬(if (nmT R k 0 (erA t)).2.1=0 then chk (nmT R k 0 (erA t)).1 else (nmT R k 0 (erA t)).2.1)=0): nrF R t k=([],0,if (nmT R k 0 (erA t)).2.1=0 then chk (nmT R k 0 (erA t)).1 else (nmT R k 0 (erA t)).2.1):=by
 by_cases h0:(nmT R k 0 (erA t)).2.1=0
 ·rw [Ae h0] at a ⊢;exact nr_2 h h0 a
 ·rw [Ac h0];exact nr_1 h h0
end
end
section
open Go Go.RowKit
def ag2(x y:Bd): Prop:=(x.2=0\/x.2=120)->(y.2=0\/y.2=120)->x.2=y.2/\(x.2=0->x.1=y.1)
structure RR (D P:Rls):Prop where
 U:∀{t},Gd t->ag2 (D.U t) (P.U t)
 E:∀{a t u},Vd a->Vd t->Vd u->ag2 (D.E a t u) (P.E a t u)
 C:∀{a t u},Vd a->Vd t->Vd u->ag2 (D.C a t u) (P.C a t u)
section
variable {D P:Rls} {n:Int} {H H':Int->zM->HR}
def rl_2(c:RR D P)(h:Gd t): ag2 (rl_ D t) (rl_ P t):=by
 obtain ⟨f,d,e⟩:=h.n;unfold rl_;by_cases a:(rtn t).K=18
 ·rw [HP a] at d;rw [Ae a,Ae a];exact c.E (Di h zQ).1 (Di h zQ).1 (Di h zQ).1
 ·
  rw [Ac a,Ac a];by_cases k2:(rtn t).K=20
  ·rw [HO k2] at d;rw [Ae k2,Ae k2];exact c.C (Di h zQ).1 (Di h zQ).1 (Di h zQ).1
  ·
   rw [Ac k2,Ac k2];by_cases b:0<=tgK (rtn t)
   ·rw [Ae b,Ae b];exact c.U h
   ·rw [Ac b,Ac b];exact fun _ _=>⟨rfl,fun _=>rfl⟩
def A2(F:Int)(H a:Int->zM->HR): Prop:=∀n t,n<=F->Vd t->(H n t).2.1=0->(a n t).2.1=0->H n t=a n t
def okX(x:zM×zM×Int×Int): Prop:=x.2.2.1=0\/(x.2.2.1=120/\chk x.1=0)
def go_2(r:RF D)(q:RF P)(m:RR D P)(p:HF F H)(s:HF F H')(o:A2 F H H'):∀(f:Nat) (n:Int) (t:zM) (d:Nat),n<=F->Gd t->okX (go_ D H f n t d)->okX (go_ P H' f n t d)->
  (go_ D H f n t d).1=(go_ P H' f n t d).1/\(go_ D H f n t d).2.2=(go_ P H' f n t d).2.2/\((go_ D H f n t d).2.2.1=0->(go_ D H f n t d).2.1=(go_ P H' f n t d).2.1)
 | 0,_,_,_,_,_,_,_=>⟨rfl,rfl,fun _=>rfl⟩
 | f+1,n,t,d,hn,ht,h,g=>by
  unfold go_ at *;cases hw:wt_ t d with
  | none=>
   simp only [hw,okX] at h g;obtain ⟨a,b⟩:=rl_2 m ht (h.imp id And.left) (g.imp id And.left);exact ⟨rfl,by simp only [a],b⟩
  | some j=>
   simp only [hw] at h g ⊢;have hv:=Di ht (KQ ht hw);have k:¬chk ([]:zM)=0:=by decide
   by_cases i:(H n (pt t j)).2.1=0
   ·
    by_cases l:(H' n (pt t j)).2.1=0
    ·rw [Ae i] at h ⊢;rw [Ae l] at g ⊢;have e:=o n _ hn hv.1 i l;obtain ⟨_,b,c,_⟩:=p hn hv.1;rw [<-e] at g ⊢;exact go_2 r q m p s o f _ _ (d+1) b (Kr ht (c i)).1 h g
    ·
     rw [Ac l] at g;rcases g with g|g
     ·exact absurd g l
     ·exact absurd g.2 k
   ·
    rw [Ac i] at h;rcases h with h|h
    ·exact absurd h i
    ·exact absurd h.2 k
def finX{x:zM×zM×Int×Int}(h:(Gt F H x).2.1=0): okX x:=by
 unfold Gt at h;split at h
 ·
  rename_i e;split at h
  ·rename_i c;exact .inr ⟨e,c⟩
  ·rename_i c;exact absurd h c
 ·
  split at h
  ·rename_i e;exact .inl e
  ·rename_i e;exact absurd h e
def hd_2(i:RF D)(j:RF P)(l:RR D P):∀k,A2 F (hd D F k) (hd P F k)
 | 0,_,_,_,_,h,_=>by cases h
 | k+1,n,t,hn,ht,h1,h2=>by
  have f:(Gt F (hd D F k) (go_ D (hd D F k) 4 n t 0)).2.1=0:=h1;have d:(Gt F (hd P F k) (go_ P (hd P F k) 4 n t 0)).2.1=0:=h2;show Gt F (hd D F k) (go_ D (hd D F k) 4 n t 0)=Gt F (hd P F k) (go_ P (hd P F k) 4 n t 0);obtain ⟨a,b,c⟩:=go_2 i j l (Sg i k) (Sg j k) (hd_2 i j l k) 4 n t 0 hn ht.gd (finX f) (finX d);have g:=Ye i (Sg i k) 4 n t 0 hn ht.gd;have p:=hd_2 i j l k;generalize go_ D (hd D F k) 4 n t 0=x at *;generalize go_ P (hd P F k) 4 n t 0=y at *;obtain ⟨B,A,z,w⟩:=x;obtain ⟨v,u,s,r⟩:=y;simp only at a b c g;cases a;cases b;unfold Gt at *;simp only at f d ⊢;split
  ·rfl
  ·
   rename_i o;rw [Ac o] at f d;split
   ·
    rename_i q;rw [Ae q] at f d;have e:=c q;subst e;split
    ·rfl
    ·rename_i m;rw [Ac m] at f d;exact p _ _ zQ (g.2.2.1 q) f d
   ·rfl
def hdT_2(c:RF D)(b:RF P)(a:RR D P): A2 F (hdT D F) (hdT P F):=fun n t=>hd_2 c b a _ n t
end
end
end Go.Proofs.YtgddkjdhnolahaaGreatDoor
