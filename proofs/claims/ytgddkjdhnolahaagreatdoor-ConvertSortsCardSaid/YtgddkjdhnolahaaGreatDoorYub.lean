import Derived.Test.YtgddkjdhnolahaaGreatDoorYua
import Derived.Sort.LoopGhostIn
import Derived.RangeFuncNested
import Derived.RangeFuncLeaves
import Derived.WalkSpells
set_option linter.defProp false
namespace Go.Proofs.YtgddkjdhnolahaaGreatDoor
open Go Go.RowKit
def As := @decide_eq_false
def AC := @List.getD_eq_getElem?_getD
def AD := @List.length_singleton
def AF := @decide_eq_true
def AM := @List.take_of_length_le
def AV := @wp_loop_ghost
def Bm := @wpList_nil
def BH := @Decidable.em
def BK := @List.length_map
def BO := @List.flatten_cons
def BT := @List.append_nil
def Cq := @List.map_append
def CO := @Bool.eq_false_or_eq_true
def Do := @List.mem_map
def DS := @List.take_append_of_le_length
def FT := @List.getElem?_map
end Go.Proofs.YtgddkjdhnolahaaGreatDoor
namespace Go.Proofs.YtgddkjdhnolahaaGreatDoor
set_option linter.unusedSimpArgs false
set_option linter.unusedVariables false
open _root_.Go.Proofs.Tryz
variable {A A' B:zE}{C' C0 C1 I I0 M M' M0 M1 Z Zd:zG}{D N b c' c2 cap d e gf i j k ll lp n' n2 off q size:Nat}{Dt S:zH->Prop}{K:zC}{L t:zM}{Ls:zN}{P:Program}{Q:zB}{R:Ending->zH->Prop}{W W' W0 w w' w0 wl:zH}{X:Prop}{a:Act}{ad:Addr}{assign body:Code}{bs us:zK}{by_ f u:Int}{ds ds' ds0:zP}{fn:Func}{how:Exit}{ki tk:IntKind}{l':zD}{late:List Nat}{lb:Array Value}{listed:Array Bool}{ls rest:List Oper}{m m' m0:zO}{o oi oj op:Oper}{ob:Obj}{ops:Array Oper}{pre:List (Int×Int)}{st':List T}{ts:Array zI}{v v':Value}{vs xs:zF}{x y:zJ}{α β:Type}
section
def meas(o:Int): List T->List (Int×Int)
 | []=>[]
 | t::l=>(o,(t.deep:Int))::meas (o+t.flat.length) l
mutual
def Xi(o:Int): T->List (Int×Int)
 | .mk _ l=>DJ o l++[(o,((Cg l+1:Nat):Int))]
def DJ(o:Int): List T->List (Int×Int)
 | []=>[]
 | t::l=>Xi o t++DJ (o+t.flat.length) l
end
def E9(o:Int)(l:List T): (meas o l).length=l.length:=by
 induction l generalizing o with
 | nil=>rfl
 | cons t l ih=>simp [meas,ih]
def I1(o:Int)(a b:List T): meas o (a++b)=meas o a++meas (o+(Az a).length) b:=by
 induction a generalizing o with
 | nil=>simp [meas,AZ]
 | cons t a ih=>simp [meas,ih,Bg,Int.add_assoc]
def Ko(o:Int)(a b:List T): DJ o (a++b)=DJ o a++DJ (o+(Az a).length) b:=by
 induction a generalizing o with
 | nil=>simp [DJ,AZ]
 | cons t a ih=>simp [DJ,ih,Bg,Int.add_assoc]
mutual
def LP(o:Int):∀t:T,(Xi o t).length=t.flat.length
 | .mk n l=>by
  simp only [Xi,Bf,Ab,Gl o l];rfl
def Gl(o:Int):∀l:List T,(DJ o l).length=(Az l).length
 | []=>by simp [DJ,AZ]
 | t::l=>by simp only [DJ,Bg,Ab,LP o t,Gl _ l]
end
def IA(n:Nd)(l:List T): (T.mk n l).deep=Cg l+1:=by simp [T.deep]
def Su{t:T}{l:List T}(h:t∈l): t.deep<=Cg l:=by
 induction l with
 | nil=>cases h
 | cons u l ih=>
  simp only [Cg];rcases Aj.1 h with rfl|h
  ·omega
  ·have:=ih h;omega
mutual
def Wq:∀t:T,t.deep<=t.flat.length
 | .mk n l=>by
  have:=HY l;simp only [T.deep,Bf,Ab,AD];omega
def HY:∀l:List T,Cg l<=(Az l).length
 | []=>by simp [Cg]
 | t::l=>by
  have b:=Wq t;have a:=HY l;simp only [Cg,Bg,Ab];omega
end
def GZ(k:Nat)(L:List (Int×Int))(b q:Nat): Int:=if q=0 then k else (J6 L b).1
def GF(L:List (Int×Int))(b:Nat): Nat->Int
 | 0=>1
 | q+1=>max (GF L b q) ((J6 L (b+q)).2+1)
def Jm{st:List T}(h:i<st.length):∃o,J6 (meas 0 st) i=(o,(st[i].deep:Int))/\o=((Az (st.take i)).length:Int):=by
 have b:meas 0 st=meas 0 (st.take i)++meas (0+(Az (st.take i)).length) (st.drop i):=by
  rw [<-I1,List.take_append_drop]
 have a:st.drop i=st[i]::st.drop (i+1):=List.drop_eq_getElem_cons h;have hl:(meas 0 (st.take i)).length=i:=by rw [E9,Ak];omega
 refine ⟨_,?_,rfl⟩;rw [J6,b,a,meas,AC,CZ zQ,hl];simp
def Kf{st:List T}: 0<=(J6 (meas 0 st) i).2/\(J6 (meas 0 st) i).2<=(Az st).length:=by
 by_cases h:i<st.length
 ·
  obtain ⟨o,a,_⟩:=Jm h;rw [a];have c:=Su (List.getElem_mem h);have b:=HY st;constructor
  ·simp
  ·simp only;omega
 ·
  have:J6 (meas 0 st) i=(0,0):=by
   rw [J6,AC,List.getElem?_eq_none (by rw [E9];omega)];rfl
  rw [this];simp
def Yp{st:List T}: 1<=GF (meas 0 st) b q/\GF (meas 0 st) b q<=(Az st).length+1:=by
 induction q with
 | zero=>simp only [GF];omega
 | succ q ih=>
  have:=Kf (st:=st) (i:=b+q);simp only [GF];omega
def MQ{st:List T}{b:Nat}:∀{q:Nat},b+q<=st.length->GF (meas 0 st) b q=((Cg ((st.drop b).take q)+1:Nat):Int)
 | 0,_=>by simp [GF,Cg]
 | q+1,h=>by
  have c:=MQ (st:=st) (b:=b) (q:=q) zQ;obtain ⟨o,d,_⟩:=Jm (st:=st) (i:=b+q) zQ;have ht:(st.drop b).take (q+1)=(st.drop b).take q++[st[b+q]]:=by
   rw [List.take_add_one,List.getElem?_drop,Bk zQ];rfl
  have hd:∀a b:List T,Cg (a++b)=max (Cg a) (Cg b):=by
   intro a b;induction a with
   | nil=>simp [Cg]
   | cons t a c=>simp [Cg,c,Nat.max_assoc]
  simp only [GF,c,d,ht,hd,Cg];omega
def Lp{st:List T}{n:Nd}(h:Fp st n=some st')(hk:(Az st).length=k):
  meas 0 st'=(meas 0 st).take (st.length-many n)++[(GZ k (meas 0 st) (st.length-many n) (many n),GF (meas 0 st) (st.length-many n) (many n))]/\
  DJ 0 st'=DJ 0 st++[(GZ k (meas 0 st) (st.length-many n) (many n),GF (meas 0 st) (st.length-many n) (many n))]:=by
 unfold Fp at h;split at h
 ·
  rename_i hc;simp only [A5,A9] at hc;obtain rfl:=Bc h;have hb:st.length-many n+many n<=st.length:=by omega
  have hd:=MQ hb;rw [AM (by rw [BC];omega)] at hd;rw [hd];have a:GZ k (meas 0 st) (st.length-many n) (many n)=0+((Az (st.take (st.length-many n))).length:Int):=by
   unfold GZ;split
   ·rename_i h0;rw [h0,Nat.sub_zero,CD,hk];omega
   ·obtain ⟨o,c,b⟩:=Jm (st:=st) (i:=st.length-many n) zQ;rw [c,b];omega
  have e:(meas 0 st).take (st.length-many n)=meas 0 (st.take (st.length-many n)):=by
   have hm:meas 0 st=meas 0 (st.take (st.length-many n))++meas (0+(Az (st.take (st.length-many n))).length) (st.drop (st.length-many n)):=by
    rw [<-I1,List.take_append_drop]
   rw [hm,List.take_left' (by rw [E9,Ak];omega)]
  have d:DJ 0 st=DJ 0 (st.take (st.length-many n))++DJ (0+(Az (st.take (st.length-many n))).length) (st.drop (st.length-many n)):=by
   rw [<-Ko,List.take_append_drop]
  constructor
  ·rw [I1,a,e];simp [meas,IA]
  ·rw [Ko,a,d,AW];simp [DJ,Xi]
 ·cases h
def DY(t:zM): List (Int×Int):=match De [] t with
 | some st=>DJ 0 st
 | none=>[]
def Bn(t:zM): Bool:=match De [] t with
 | some [_]=>true
 | _=>false
def Xr(h:k<t.length): t.take (k+1)=t.take k++[nth t k]:=by
 rw [List.take_add_one,Bk h];simp [nth,h]
def Fo{st:List T}(h:De [] (t.take k)=some st)(hk:k<t.length): De [] (t.take (k+1))=Fp st (nth t k):=by
 rw [Xr hk,Em,h];simp only [Option.bind_some,De];cases Fp st (nth t k)<;>rfl
def IZ{st:List T}(h:De [] (t.take k)=some st)(hk:k<t.length)(a:Fp st (nth t k)=none): De [] t=none:=by
 have:t=t.take (k+1)++t.drop (k+1):=(List.take_append_drop _ _).symm;rw [this,Em,Fo h hk,a];rfl
def F6{st:List T}(h:De [] (t.take k)=some st)(hk:k<=t.length): (Az st).length=k:=by
 rw [(G4 h (by simp [T.wfs])).1];simp [AZ,hk]
def Lo{st:List T}{n:Nd}(h:right n=false\/st.length<many n): Fp st n=none:=by
 unfold Fp;rw [Ac];simp only [A5,A9];rintro ⟨a,b⟩;rcases h with h|h
 ·rw [a] at h;cases h
 ·omega
def Hz{st:List T}{n:Nd}(h:right n=true)(a:many n<=st.length):∃st',Fp st n=some st'/\st'.length=st.length-many n+1:=by
 unfold Fp;rw [Ae (by simp [h,a])];exact ⟨_,rfl,by simp⟩
def sml(t:zM): Prop:=∀k,k<t.length->(nth t k).S.size<1000000
def Vr{st:List T}(h:De [] t=some st): DY t=DJ 0 st:=by
 unfold DY;rw [h]
def Pi{st:List T}(h:De [] t=some st): Bn t=decide (((st.length:Nat):Int)=1):=by
 unfold Bn;rw [h];cases st with
 | nil=>rfl
 | cons a l=>cases l with
  | nil=>simp
  | cons b l=>simp;omega
def NE(h:De [] t=none): DY t=[]/\Bn t=false:=by
 unfold DY Bn;rw [h];exact ⟨rfl,rfl⟩
def DN(h:Bn t=true):∃x:T,De [] t=some [x]/\DY t=Xi 0 x/\x.wf=true/\x.flat=t:=by
 unfold Bn at h;split at h
 ·rename_i x hs;have:=G4 hs (by simp [T.wfs]);simp [Az,T.wfs] at this;exact ⟨x,hs,by unfold DY;rw [hs];simp [DJ],this.2,this.1⟩
 ·cases h
def LQ(x:T): J6 (Xi 0 x) ((Xi 0 x).length-1)=(0,(x.deep:Int))/\0<(Xi 0 x).length:=by
 cases x with
 | mk n l=>
  simp only [Xi,IA];constructor
  ·simp [J6]
  ·simp
def Vq(h:Bn t=true): 0<(DY t).length:=by
 obtain ⟨x,_,a,_⟩:=DN h;rw [a];exact (LQ x).2
def Kg(h:Bn t=true): (DY t).length=t.length:=by
 obtain ⟨x,_,b,_,a⟩:=DN h;rw [b,LP,a]
def Oj(hl:t.length<=4000)(h:Bn t=false): chk t=20:=by
 unfold chk;rw [Ac zQ];unfold Bn at h;rcases hs:De [] t with _|_|⟨x,_|⟨y,l⟩⟩
 ·rfl
 ·rfl
 ·rw [hs] at h;cases h
 ·rfl
def Ok(hl:t.length<=4000)(h:Bn t=true)(hd:60<(J6 (DY t) ((DY t).length-1)).2): chk t=22:=by
 obtain ⟨x,hs,a,_⟩:=DN h;rw [a,(LQ x).1] at hd;unfold chk;rw [Ac zQ,hs];simp only;rw [Ae];simp only at hd;omega
def Oi(hl:t.length<=4000)(h:Bn t=true)(hd:¬60<(J6 (DY t) ((DY t).length-1)).2): chk t=0:=by
 obtain ⟨x,hs,a,_⟩:=DN h;rw [a,(LQ x).1] at hd;unfold chk;rw [Ac zQ,hs];simp only;rw [Ac];simp only at hd;omega
def J3(hl:4000<t.length): chk t=21:=by
 unfold chk;rw [Ae zQ]
def Eu(t:zM): List (Int×Int):=if chk t=0 then DY t else []
def L9(h:¬chk t=0): Eu t=[]:=by unfold Eu;rw [Ac h]
def JK(h:chk t=0): Eu t=DY t:=by unfold Eu;rw [Ae h]
def B0(h:chk t=0): 0<t.length:=by
 obtain ⟨x,_,rfl,_⟩:=PD.1 h;exact EK x
end
section
def Fg{n:Nd}(h:right n=true): (Ca n).length=many n:=by
 rw [IF h];rfl
def dl(st:List T): zK:=st.map fun x=>(x.deep:Int)
def LH(st:List T): (dl st).length=st.length:=by simp [dl]
def H6(a b:List T): Cg (a++b)=max (Cg a) (Cg b):=by
 induction a with
 | nil=>simp [Cg]
 | cons t a ih=>simp [Cg,ih,Nat.max_assoc]
def Mo(st:List T)(j:Nat): Int:=(Cg (st.drop (st.length-j)):Int)
def Vs(st:List T): Mo st 0=0:=by simp [Mo,Cg]
def Vt{st:List T}(h:j<st.length): max (Mo st j) (C7 (dl st) (st.length-j-1))=Mo st (j+1):=by
 have a:st.length-j-1<st.length:=by omega
 have c:C7 (dl st) (st.length-j-1)=(st[st.length-j-1].deep:Int):=by simp [C7,dl,a]
 have b:st.drop (st.length-(j+1))=st[st.length-j-1]::st.drop (st.length-j):=by
  rw [show st.length-(j+1)=st.length-j-1 by omega,List.drop_eq_getElem_cons a,show st.length-j-1+1=st.length-j by omega]
 rw [c,Mo,Mo,b,Cg];omega
def AaV{st:List T}: 0<=Mo st j/\Mo st j<=(Az st).length:=by
 have b:=HY (st.drop (st.length-j));have a:(Az st).length=(Az (st.take (st.length-j))).length+(Az (st.drop (st.length-j))).length:=by
  rw [<-Ab,<-BN,List.take_append_drop]
 unfold Mo;omega
def Q0{st:List T}{n:Nd}(h:Fp st n=some st'): dl st'=(dl st).take (st.length-many n)++[Mo st (many n)+1]/\Cg st<=Cg st'/\Mo st (many n)+1<=(Cg st':Int):=by
 unfold Fp at h;split at h
 ·
  rename_i hc;simp only [A5,A9] at hc;obtain rfl:=Bc h;have hs:st=st.take (st.length-many n)++st.drop (st.length-many n):=(List.take_append_drop _ _).symm;have a:Cg st=max (Cg (st.take (st.length-many n))) (Cg (st.drop (st.length-many n))):=by rw [<-H6,List.take_append_drop]
  refine ⟨?_,?_,?_⟩
  ·simp [dl,Mo,IA,List.map_take]
  ·rw [H6,a];simp only [Cg,IA];omega
  ·rw [H6];simp only [Cg,IA,Mo];omega
 ·cases h
def SO:∀{a st':List T},De a t=some st'->Cg a<=Cg st':=by
 induction t with
 | nil=>intro a st' h;simp only [De] at h;obtain rfl:=Bc h;exact Ag _
 | cons n t ih=>
  intro a st' h;simp only [De] at h;cases hp:Fp a n with
  | none=>simp [hp] at h
  | some s=>
   simp only [hp] at h;exact Ax (Q0 hp).2.1 (ih h)
def Rb(t:zM): Bool:=match De [] t with
 | some [x]=>decide (60<x.deep)
 | _=>false
def T1{st:List T}(hb:Bn t=true)(h:De [] (t.take k)=some st)(hk:k<t.length)(hr:right (nth t k)=true)(hm:many (nth t k)<=st.length)(hd:60<Mo st (many (nth t k))+1): Rb t=true:=by
 obtain ⟨x,hs,_⟩:=DN hb;obtain ⟨st',hp,_⟩:=Hz hr hm;have a:=Fo h hk;rw [hp] at a;have c:De st' (t.drop (k+1))=some [x]:=by
  have:=hs;rw [show t=t.take (k+1)++t.drop (k+1) from (List.take_append_drop _ _).symm,Em,a] at this;simpa using this
 have b:=SO c;have d:=(Q0 hp).2.2;unfold Rb;rw [hs];simp only [Cg] at b;simp only [A9];omega
def Nj(st:List T): Prop:=∀x∈st,x.deep<=60
def OD{st:List T}{n:Nd}(h:Fp st n=some st')(hs:Nj st)(hd:¬60<Mo st (many n)+1): Nj st':=by
 unfold Fp at h;split at h
 ·
  obtain rfl:=Bc h;intro x a;rcases Bi.1 a with a|a
  ·exact hs x (List.mem_of_mem_take a)
  ·rw [A7] at a;subst a;rw [IA];unfold Mo at hd;omega
 ·cases h
def Ra{st:List T}(h:De [] t=some st)(hs:Nj st): Rb t=false:=by
 unfold Rb;rw [h];match st,hs with
 | [],_=>rfl
 | [x],hs=>simp [hs x yB]
 | x::y::l,_=>rfl
def PC(hl:t.length<=4000)(h:Bn t=true): chk t=if Rb t=true then 22 else 0:=by
 obtain ⟨x,hs,_⟩:=DN h;unfold chk Rb;rw [Ac zQ,hs];simp only [A9]
def Xm{st:List T}(h:De [] (t.take k)=some st)(hk:k<t.length)(b:right (nth t k)=false\/((st.length:Nat):Int)<(((Ca (nth t k)).length:Nat):Int)): Bn t=false:=by
 refine (NE (IZ h hk (Lo ?_))).2;rcases CO (right (nth t k)) with a|a
 ·
  rcases b with h|h
  ·exact .inl h
  ·rw [Fg a] at h;exact .inr zQ
 ·exact .inl a
def RW{st:List T}(hb:Bn t=true)(h:De [] (t.take k)=some st)(hk:k<t.length): right (nth t k)=true/\many (nth t k)<=st.length:=by
 obtain ⟨x,hs,_⟩:=DN hb;cases hp:Fp st (nth t k) with
 | none=>rw [IZ h hk hp] at hs;cases hs
 | some s=>
  unfold Fp at hp;split at hp
  ·rename_i hc;simp only [A5,A9] at hc;exact hc
  ·cases hp
def Jv(b:Nat)(t:zM): Bool:=decide (b<t.length)||t.any fun n=>decide (100<n.S.size)
def NT(t:zM)(k:Nat): Prop:=∀i,i<k->(nth t i).S.size<=100
def Tq(hi:NT t k)(h:(nth t k).S.size<=100): NT t (k+1):=fun i a=>by
 by_cases e:i=k
 ·subst e;exact h
 ·exact hi i zQ
def JE(h:k<t.length): nth t k∈t:=by
 have:nth t k=t[k]:=by simp [nth,h]
 rw [this];exact List.getElem_mem h
def V9(h:b<t.length): Jv b t=true:=by simp [Jv,h]
def Yc(hk:k<t.length)(h:100<(nth t k).S.size): Jv b t=true:=by
 unfold Jv;rw [Hp,List.any_eq_true];exact .inr ⟨_,JE hk,by simpa using h⟩
def Yb(hi:NT t k)(hk:t.length<=k)(hl:t.length<=b): Jv b t=false:=by
 unfold Jv;rw [Bool.or_eq_false_iff];refine ⟨by simpa using hl,?_⟩;rw [List.any_eq_false];intro n hn;obtain ⟨i,hlt,rfl⟩:=List.mem_iff_getElem.1 hn;have:=hi i zQ;have e:nth t i=t[i]:=by simp [nth,hlt]
 rw [e] at this;simp;omega
def GY(h:Jv b t=false): t.length<=b/\sml t:=by
 unfold Jv at h;rw [Bool.or_eq_false_iff] at h;refine ⟨by simpa using h.1,fun k hk=>?_⟩;have:=List.any_eq_false.1 h.2 _ (JE hk);simp at this;omega
def GC{p:zN}(h:k<p.length): (AK (p.take (k+1))).flatten=(AK (p.take k)).flatten++(At p k).2.2:=by
 have e:p.take (k+1)=p.take k++[At p k]:=by
  rw [List.take_add_one,Bk h];simp [At,h]
 rw [e];simp only [AK,Cq,List.flatten_append,AA,AP,BO,List.flatten_nil,BT]
def Abt{p:zN}(hb:∀s∈p,s.2.2.length<=b)(h:k<=p.length): (AK (p.take k)).flatten.length<=k*b/\(At p k).2.2.length<=b:=by
 constructor
 ·
  induction k with
  | zero=>simp [AK]
  | succ k ih=>
   rw [GC zQ,Ab,Nat.add_mul];have:=ih zQ;have:=hb _ (Jl (t:=p) (k:=k) zQ);omega
 ·
  by_cases hk:k<p.length
  ·exact hb _ (Jl hk)
  ·
   have:At p k=slz:=by simp [At,AC,List.getElem?_eq_none (by omega:p.length<=k)]
   rw [this];simp [slz]
end
section
open Go Go.RowKit
abbrev rI(l:Nat): Fence:=Fence.wide.inRound l
def Fl(o:Oper): Bool:=match o.op with
 | .defer _=>false
 | _=>true
def Ly(h:Fl o=true):∀c,o.op≠.defer c:=fun c e=>by
 unfold Fl at h;rw [e] at h;cases h
def Mx(Q:zB): Prop:=∀a w,¬Q .outgrown a w
def B3(h:Mx Q): Mx (Exit.then K Q):=fun a w hq=>h a w hq
def BA{b:Nat}(h:Mx Q): Mx (Exit.inBlock b Q):=fun a w hq=>h a w hq
section
variable {l:Nat} {n:Nat}
def AaP(hnd:Fl o=true){j:zC}(i:∀a w,K a w->j a w)(h:o.wp P a w K Q): o.wpIn (rI l) n P a w j Q:=by
 refine ⟨fun _ _=>trivial,?_⟩;rw [Oper.semAt_eq _ _ _ (Ly hnd)];unfold Oper.wp at h;generalize (execOp a.eval o).run P w=r at *;cases r with
 | ok x w'=>
  cases x with
  | value v=>exact i _ _ h
  | skip=>exact i _ _ h
  | defer d=>exact i _ _ h
  | enter f args=>
   refine ⟨(fun hd=>by cases hd),CallsIn.inRound l (callsIn_wide.2 (Calls.mono h fun e w' g=>?_))⟩;cases e with
   | returned v=>exact i _ _ g
   | panicked c=>exact g
   | outgrown=>exact g
  | row r args=>
   refine ⟨(fun hd=>by cases hd),?_⟩;have m:RowsIn Fence.wide (n-1) P r args w' fun v b=>j (a.put o.dst v) b:=fun c cs _=>by
    obtain ⟨v,b,k,hs⟩:=Rows.mono h (fun v b g=>i _ _ g) c cs;exact ⟨v,b,k,stepsIn_wide.2 hs⟩
   exact m
  | _=>exact h.elim
 | halt x w'=>
  cases x with
  | panic v=>exact h
  | _=>exact h.elim
def M6(hnd:ops.all Fl=true)(b:Mx Q):∀(is:List Nat) (a:Act) (w:zH),wpOps P ops Q is a w->wpOpsIn (rI l) n P ops Q is a w
 | [],_,_,h=>h
 | i::rest,a,w,h=>by
  unfold wpOps at h;unfold wpOpsIn;cases ho:ops[i]? with
  | none=>rw [ho] at h;exact M6 hnd b rest a w h
  | some o=>
   rw [ho] at h;simp only at h ⊢;have e:Fl o=true:=by
    rw [Array.all_eq_true] at hnd;obtain ⟨hlt,d⟩:=AO.1 ho;rw [<-d];exact hnd i hlt
   split
   ·
    rename_i c;rw [Ae c] at h;rcases h with h|⟨_,a',w',hl⟩
    ·exact AaP e (fun a w=>M6 hnd b rest a w) h
    ·exact absurd hl (b a' w')
   ·rename_i c;rw [Ac c] at h;exact ⟨fun _ _=>trivial,M6 hnd b rest _ w h⟩
end
section
variable {l n:Nat}
def MX:∀(k:Nat) (a:Act) (w:zH),wpList P ops Q (ops.toList.drop k) a w->wpOps P ops Q ((List.range ops.size).drop k) a w:=by
 intro k;induction hd:ops.size-k generalizing k with
 | zero=>
  intro a w h;rw [List.drop_eq_nil_of_le yH] at h;rw [List.drop_eq_nil_of_le yH];exact h
 | succ m ih=>
  intro a w h;have hk:k<ops.size:=by omega
  have d:ops.toList.drop k=ops[k]::ops.toList.drop (k+1):=by
   rw [List.drop_eq_getElem_cons (by simpa using hk)];simp
  have c:(List.range ops.size).drop k=k::(List.range ops.size).drop (k+1):=by
   rw [List.drop_eq_getElem_cons (by simpa using hk)];simp
  rw [d] at h;rw [c];unfold wpOps;rw [Array.getElem?_eq_getElem hk];unfold wpList at h;simp only;split
  ·rename_i b;rw [Ae b] at h;exact h.imp (fun h=>Oper.wp_mono (fun a w=>ih (k+1) zQ a w) h) id
  ·rename_i b;rw [Ac b] at h;exact ih (k+1) zQ _ _ h
def BF{b:Nat}(hnd:ls.toArray.all Fl=true)(c:Mx Q)(h:wpList P ls.toArray Q ls a w): (Code.region b ls.toArray false).wpIn (rI l) n P Q a w:=
 wpIn_region (M6 hnd c _ _ _ (by have:=MX (P:=P) (ops:=ls.toArray) (Q:=Q) 0 a w (by simpa using h);simpa using this))
def MP
  {b k:Nat} (hm:P.follows .mixedOrders=true) (hn:ops.size=k) (hnd:ops.all Fl=true) (d:St w0 Z M w m ds) (c:D6 Q) (e:Mx Q)
  (h:∀(Q':zB),D6 Q'->(∀a w,Q .normal a w->Q' .normal a w)->∀w',St w0 Z M w' m ds->wpAnyH P .any ops Q' S k (Array.replicate k false) a w'):(Code.region b ops true).wpIn (rI l) n P Q a w:=by
 refine wpIn_region_draw fun t=>M6 hnd e _ _ _ ?_;simp only [Region.schedule,hm,Bool.true_or,if_true];refine wpAny_sound ops.size t _ a _ (wpAny_of_held (S:=S) _ _ _ _ ?_);subst hn;exact h Q c (fun _ _ h=>h) _ d.drew
end
end
section
open Go Go.RowKit
variable {t:zJ}{xs:List zJ}
structure Chg (C Mc:zG) (W W':zH) (C' Mc':zG):Prop where
 os:W'.os=W.os
 tape:W'.tape=W.tape
 output:W'.output=W.output
 size:W.heap.size<=W'.heap.size
 old:∀k,k<W.heap.size->¬Mc k->W'.heap[k]?=W.heap[k]?
 c:∀k,C' k->C k\/W.heap.size<=k
 m:∀k,Mc' k->Mc k\/W.heap.size<=k
structure JF (α:Type) where
 J:List α->zH->zG->zG->Prop
 abide:∀s W W' C Mc,J s W C Mc->W.heap.size<=W'.heap.size->(∀k,C k->W'.heap[k]?=W.heap[k]?)->J s W' C Mc
 sub:∀s W C Mc,J s W C Mc->(∀k,Mc k->C k)/\(∀k,C k->k<W.heap.size)
def MW(W W':zH): Prop:=W'.os=W.os/\W'.tape=W.tape/\W'.output=W.output
def LR(P:Program)(g:Nat)(c:Array Value)(encs:α->Array Value)(xs:List α)(a:zG)(b:zH): Prop:=
 ∀(l:Nat) (jf jx:JF α) (W:zH) (C Mc:zG),b.heap.size<=W.heap.size->(∀k,a k->W.heap[k]?=b.heap[k]?)->(∀k,a k->k<W.heap.size/\¬Mc k)->
  jf.J [] W C Mc->
  (∀pre x W1 C1 M1,jf.J pre W1 C1 M1->MW W W1->pre++[x] <+: xs->YieldAt Fence.wide 0 P l (encs x) W1 fun e W'=>∃C' M',Chg C1 M1 W1 W' C' M'/\
   ((e=.returned (.bool true)/\jf.J (pre++[x]) W' C' M')\/(e=.returned (.bool false)/\jx.J (pre++[x]) W' C' M')))->
  CallsIn Fence.wide 0 P g (#[.func (.yield l) #[] #[]]++c) W fun e W'=>(∃v,e=.returned v)/\∃C' M',Chg C Mc W W' C' M'/\
   (jf.J xs W' C' M'\/∃pre,pre <+: xs/\jx.J pre W' C' M')
def dJ(jf:JF α)(s:List α)(g f:zG)(s0:Nat): Dat:=
 ⟨fun w I=>∃C Mc,jf.J s w C Mc/\(∀k,C k->I k)/\(∀k,C k->g k\/s0<=k)/\(∀k,Mc k->f k\/s0<=k),fun w w' I I' hs h hk=>by
  obtain ⟨C,Mc,e,b,d,c⟩:=h
  exact ⟨C,Mc,jf.abide s w w' C Mc e hs (fun k a=>(hk k (b k a)).2),fun k a=>(hk k (b k a)).1,d,c⟩⟩
section
variable {ls:zD}
def GQ{r:Result Next}(b:Reg a N ls)(f:o.op=.call { callee:=.value t,args:=xs.toArray,argTypes:=ts })
  (e:ev ls t=some (.func (.yield lp) #[] #[])) (d:evs ls xs=some vs) (c:(Instr.yield lp vs.toArray).run P w=r):(execOp a.eval o).run P w=r:=by
 have hm:xs.toArray.map a.eval=vs.toArray:=by rw [<-b.evs d];simp
 unfold execOp;rw [f];simp only [resolve,hm,b.ev e,Deferred.ofValue,AB,Ba,Ay,invoke,Array.append_empty,Array.empty_append];exact c
structure Ys {α:Type} (P:Program) (lp:Nat) (encs:α->Array Value) (xs:List α) (jf jx:JF α) (w0:zH) (C0 M0 Zd:zG):Prop where
 zd:∀k,Zd k->k<w0.heap.size/\¬M0 k
 c0:∀k,C0 k->k<w0.heap.size
 y:∀pre x W1 C1 M1,jf.J pre W1 C1 M1->MW w0 W1->pre++[x] <+: xs->YieldAt Fence.wide 0 P lp (encs x) W1 fun e W'=>∃C' M',Chg C1 M1 W1 W' C' M'/\
   ((e=.returned (.bool true)/\jf.J (pre++[x]) W' C' M')\/(e=.returned (.bool false)/\jx.J (pre++[x]) W' C' M'))
abbrev FE(w0:zH): Nat->Prop:=fun k=>k<w0.heap.size
def GM{jf j:JF α}{pre h:List α}(a:St w0 (FE w0) M0 w m ds)
  (D:∀k,C1 k->imm (FE w0) w0 m w k) (h0:∀k,C1 k->C0 k\/w0.heap.size<=k) (E:∀k,M1 k->M0 k\/w0.heap.size<=k) (z:∀k,M1 k->C1 k)
  (hc:Chg C1 M1 w w' C' M') (p:j.J h w' C' M')
  (o:∀k,Zd k->k<w0.heap.size/\¬M0 k) (y:∀d∈ds0,d.φ w0 Zd):St w0 (FE w0) M0 w' m (dJ j h C0 M0 w0.heap.size::ds0):=by
 have f:∀r∈m,∀k,r.blk=some k->w'.heap[k]?=w.heap[k]?:=fun r b k e=>by
  refine hc.old k (a.own r b k e).1 (fun v=>?_);exact (D k (z k v)).2.2 r b e
 have l:∀r∈m,r.holds w':=fun r b=>by
  have u:=a.hold r b;cases r with
  | box g t cs=>exact (f _ b g rfl).trans u
  | mp g es c=>exact (f _ b g rfl).trans u
  | row A n cap e size xs=>
   refine ⟨u.1,?_⟩;rcases u.2 with x|⟨g,s,C,hv,x,G,F⟩
   ·exact .inl x
   ·
    refine .inr ⟨g,s,C,hv,x,?_,F⟩;have H:A=some ⟨g,0,none⟩:=by injection hv
    exact (f _ b g (by simp [Res.blk,H])).trans G
 have i:∀k,k<w0.heap.size->¬M0 k->w'.heap[k]?=w0.heap[k]?:=fun k hk v=>by
  refine (hc.old k (B4 hk a.size) (fun B=>?_)).trans (a.old k hk v);rcases E k B with q|q
  ·exact v q
  ·omega
 refine ⟨hc.os.trans a.os,hc.tape.trans a.tape,hc.output.trans a.output,Ax a.size hc.size,i,l,
  fun r b k e=>⟨B4 (a.own r b k e).1 hc.size,(a.own r b k e).2⟩,a.apart,fun d hd=>?_⟩
 rcases Aj.1 hd with rfl|hd
 ·
  refine ⟨C',M',p,fun k hk=>⟨(j.sub _ _ _ _ p).2 k hk,fun hlt=>hlt,fun r b e=>?_⟩,fun k hk=>?_,fun k hk=>?_⟩
  ·
   rcases hc.c k hk with q|q
   ·exact (D k q).2.2 r b e
   ·have:=(a.own r b k e).1;omega
  ·
   rcases hc.c k hk with q|q
   ·exact h0 k q
   ·exact .inr (Ax a.size q)
  ·
   rcases hc.m k hk with q|q
   ·exact E k q
   ·exact .inr (Ax a.size q)
 ·
  refine d.mono _ _ _ _ (Ax a.size hc.size) (y d hd) fun k hk=>⟨⟨B4 (o k hk).1 (Ax a.size hc.size),fun _=>(o k hk).1,fun r b e=>?_⟩,i k (o k hk).1 (o k hk).2⟩;rcases (a.own r b k e).2 with q|q
  ·have:=(o k hk).1;omega
  ·exact (o k hk).2 q
def Rm{n:Option Nat}{encs:α->Array Value}{z:List α}{jf jx:JF α}{pre:List α}
  (u:Ys P lp encs z jf jx w0 C0 M0 Zd) (hg:o.guard=none) (v:Reg a N ls) (k:St w0 (FE w0) M0 w m ds) (hd:o.dst=some d)
  (A:o.op=.call { callee:=.value t,args:=xs.toArray,argTypes:=ts }) (G:ev ls t=some (.func (.yield lp) #[] #[])) (F:evs ls xs=some vs) (q:d<N)
  (x:α) (I:vs.toArray=encs x) (hi:ds[i]?=some (dJ jf pre C0 M0 w0.heap.size)) (H:pre++[x] <+: z) (p:∀d∈ds0,d.φ w0 Zd)
  (D:∀a' w',Reg a' N ((d,.bool true)::ls)->St w0 (FE w0) M0 w' m (dJ jf (pre++[x]) C0 M0 w0.heap.size::ds0)->wpListIn (wf n) 0 P ops Q rest a' w')
  (E:∀a' w',Reg a' N ((d,.bool false)::ls)->St w0 (FE w0) M0 w' m (dJ jx (pre++[x]) C0 M0 w0.heap.size::ds0)->wpListIn (wf n) 0 P ops Q rest a' w'):
  wpListIn (wf n) 0 P ops Q (o::rest) a w:=by
 obtain ⟨C1,M1,s,B,h0,C⟩:=k.get hi;obtain ⟨fn,l,assign,body,g,f⟩:=u.y pre x w C1 M1 s ⟨k.os,k.tape,k.output⟩ H;rw [<-I] at g;have h:=GQ v A G F g;have r:∀c,o.op≠.defer c:=fun c e=>by rw [A] at e;cases e
 unfold wpListIn;rw [Ae (by simp [Region.wanted,hg])];refine ⟨fun _ _=>trivial,?_⟩;rw [Oper.semAt_eq _ _ _ r,h];refine ⟨fun hd=>by simp [wf,Fence.wide] at hd,?_⟩;have b:RoundIn (wf n) 0 P lp fn l assign body w fun e W'=>∃C' M',Chg C1 M1 w W' C' M'/\
   ((e=.returned (.bool true)/\jf.J (pre++[x]) W' C' M')\/(e=.returned (.bool false)/\jx.J (pre++[x]) W' C' M')):=by
  cases n<;>exact f
 refine b.mono ?_;rintro e W' ⟨C',M',hc,⟨rfl,j⟩|⟨rfl,j⟩⟩
 ·rw [hd];exact D _ _ (v.put q _) (GM (jf:=jf) (pre:=pre) k B h0 C (jf.sub _ _ _ _ s).1 hc j u.zd p)
 ·rw [hd];exact E _ _ (v.put q _) (GM (jf:=jf) (pre:=pre) k B h0 C (jf.sub _ _ _ _ s).1 hc j u.zd p)
end
end
section
open Go Go.RowKit
def Hm(m:zO)(k:Nat): Prop:=∃r∈m,r.blk=some k
structure CSt (w0:zH) (M I0:zG) (wl:zH) (m0:zO) (W:zH) (m:zO) (ds:zP):Prop where
 hold:∀r∈m,r.holds W
 own:∀r∈m,∀k,r.blk=some k->k<W.heap.size/\¬I0 k/\(w0.heap.size<=k\/M k)/\(Hm m0 k\/wl.heap.size<=k)
 apart:m.Pairwise fun r s=>∀k,r.blk=some k->s.blk≠some k
 dat:∀d∈ds,d.φ W I0
 low:∀k,k<wl.heap.size->k<W.heap.size
 old:∀k,k<wl.heap.size->¬Hm m0 k->W.heap[k]?=wl.heap[k]?
def Gn{r:Res}(h:r.holds w)(hk:r.blk=some k):∃o,w.heap[k]?=some o/\PY o:=by
 cases r with
 | box g t cs=>
  have:g=k:=by simpa [Res.blk] using hk
  subst this;exact ⟨_,h,.inl ⟨_,_,_,rfl⟩⟩
 | mp g es c=>
  have:g=k:=by simpa [Res.blk] using hk
  subst this;exact ⟨_,h,.inr ⟨_,_,rfl⟩⟩
 | row A n cap e size xs=>
  rcases h.2 with ⟨d,_⟩|⟨g,a,i,hv,_,b,_⟩
  ·
   have:A=none:=by injection d
   subst this;cases hk
  ·
   have f:A=some ⟨g,0,none⟩:=by injection hv
   subst f;have:g=k:=by simpa [Res.blk] using hk
   subst this;exact ⟨_,b,.inl ⟨_,_,_,rfl⟩⟩
def Ec{r:Res}(h:r.holds w)(hk:∀k,r.blk=some k->w'.heap[k]?=w.heap[k]?): r.holds w':=by
 cases r with
 | box g t cs=>exact (hk g rfl).trans h
 | mp g es c=>exact (hk g rfl).trans h
 | row A n cap e size xs=>
  refine ⟨h.1,?_⟩;rcases h.2 with b|⟨g,a,d,hv,b,i,f⟩
  ·exact .inl b
  ·
   refine .inr ⟨g,a,d,hv,b,?_,f⟩;have j:A=some ⟨g,0,none⟩:=by injection hv
   exact (hk g (by simp [Res.blk,j])).trans i
def V1(h:k<w.heap.size)(hk:w'.heap[k]?=w.heap[k]?): k<w'.heap.size:=by
 rw [Array.getElem?_eq_getElem h] at hk;exact (AO.1 hk).1
section
def CSt.keep(h:CSt w0 M I0 wl m0 W m ds)(hs:W.heap.size<=W'.heap.size)(b:∀k,I0 k->k<wl.heap.size)(c:∀k,k<wl.heap.size->W'.heap[k]?=W.heap[k]?)(hm:∀k,Hm m k->W'.heap[k]?=W.heap[k]?): CSt w0 M I0 wl m0 W' m ds:=
 ⟨fun r a=>Ec (h.hold r a) (fun k e=>hm k ⟨r,a,e⟩),fun r a k e=>⟨V1 (h.own r a k e).1 (hm k ⟨r,a,e⟩),(h.own r a k e).2⟩,h.apart,
  fun d hd=>d.mono _ _ _ _ hs (h.dat d hd) (fun k hk=>⟨hk,c k (b k hk)⟩),fun k hk=>V1 (h.low k hk) (c k hk),fun k hk hn=>(c k hk).trans (h.old k hk hn)⟩
def CSt.st(h:CSt w0 M (imm Z w0 m0 wl) wl m0 W m ds)(hl:St w0 Z M wl m0 ds')(c:MW wl W)(b:wl.heap.size<=W.heap.size): St w0 Z M W m (ds++[dAg W (imm Z w0 m W)]):=by
 have g:∀k,imm Z w0 m0 wl k->imm Z w0 m W k:=fun k hk=>⟨h.low k hk.1,hk.2.1,fun r a e=>(h.own r a k e).2.1 hk⟩;refine ⟨c.1.trans hl.os,c.2.1.trans hl.tape,c.2.2.trans hl.output,Ax hl.size b,fun k hk f=>?_,h.hold,fun r a k e=>⟨(h.own r a k e).1,(h.own r a k e).2.2.1⟩,h.apart,fun d hd=>?_⟩
 ·
  refine (h.old k (B4 hk hl.size) (fun ⟨r,a,e⟩=>?_)).trans (hl.old k hk f);rcases (hl.own r a k e).2 with q|q
  ·omega
  ·exact f q
 ·
  rcases Bi.1 hd with hd|hd
  ·exact d.mono _ _ _ _ (Ag _) (h.dat d hd) (fun k hk=>⟨g k hk,rfl⟩)
  ·rw [A7] at hd;subst hd;exact ⟨Ag _,fun k hk=>⟨hk,rfl⟩⟩
def Xc(j:St w0 Z M W m ds)(b:St w0 Z M W' m' ds')(hi:ds'[i]?=some (dAg W (imm Z w0 m W)))(h:∀k,M k->Hm m k):
  (∀k,k<W.heap.size->¬Hm m k->W'.heap[k]?=W.heap[k]?)/\(∀k,Hm m' k->Hm m k\/W.heap.size<=k)/\W.heap.size<=W'.heap.size:=by
 have a:=b.get hi;have c:∀k,k<W.heap.size->¬Hm m k->(k<w0.heap.size->Z k)->imm Z w0 m W k:=fun k g n l=>⟨g,l,fun r f e=>n ⟨r,f,e⟩⟩;have g:∀k,k<W.heap.size->¬Hm m k->W'.heap[k]?=W.heap[k]?:=fun k hk hn=>by
  by_cases hq:k<w0.heap.size
  ·have d:¬M k:=fun q=>hn (h k q);exact (b.old k hq d).trans (j.old k hq d).symm
  ·exact (a.2 k (c k hk hn (fun q=>absurd q hq))).2
 refine ⟨g,fun k ⟨r,f,e⟩=>?_,?_⟩
 ·
  by_cases hn:Hm m k
  ·exact .inl hn
  ·
   right;refine Nat.le_of_not_lt fun hk=>?_;rcases (b.own r f k e).2 with q|q
   ·exact (a.2 k (c k hk hn (fun o=>by omega))).1.2.2 r f e
   ·exact hn (h k q)
 ·exact a.1
end
def T2(B D:Nat): Dat:=⟨fun w I=>B<=D/\I D/\w.heap[D]?=some (.deferred (some [])),fun _ _ _ _ _ h hk=>⟨h.1,(hk D h.2.1).1,(hk D h.2.1).2.trans h.2.2⟩⟩
abbrev Zr(D:Nat): Deferred:={ target:=.collected D,args:=#[] }
def Aa6(d:List α->zO->Prop)(c:Code->List α->zO->Prop)(w0:zH)(Z M:zG)(s:List α)(W:zH)(m:zO): Exit->zC
 | .normal,_,W'=>∃(b:zO) (a:zP) (i:Nat),St w0 Z M W' b a/\a[i]?=some (dAg W (imm Z w0 m W))/\d s b
 | .ret,_,W'=>∃(b:zO) (a:zP) (i:Nat),St w0 Z M W' b a/\a[i]?=some (dAg W (imm Z w0 m W))/\c .ret s b
 | .exit id,_,W'=>∃(b:zO) (a:zP) (i:Nat),St w0 Z M W' b a/\a[i]?=some (dAg W (imm Z w0 m W))/\c (.exit id) s b
 | .goto t,_,W'=>∃(b:zO) (a:zP) (i:Nat),St w0 Z M W' b a/\a[i]?=some (dAg W (imm Z w0 m W))/\c (.goto t) s b
 | .panic _,_,_=>False
 | .outgrown,_,_=>False
def C4{a:List α->zO->Prop}{b:Code->List α->zO->Prop}{s:List α}: Mx (Aa6 a b w0 Z M s W m):=fun _ _ h=>h
def G6{a:List α->zO->Prop}{b:Code->List α->zO->Prop}{s:List α}: D6 (Aa6 a b w0 Z M s W m):=fun _ _ _ _ _ h=>h
def rJ{γ:Type}(K:γ->List α->zO->Prop)(w0:zH)(Z M:zG)(b:zH)(i:zO)(p:zP)(l D:Nat)(o:γ->Obj): JF α where
 J s W C Mc:=∃c a,K c s a/\CSt w0 M (imm Z w0 i b) b i W a p/\b.heap.size<=W.heap.size/\W.heap[l]?=some (o c)/\W.heap[D]?=some (.deferred (some []))/\C=(fun k=>k<b.heap.size\/Hm a k\/k=l\/k=D)/\Mc=(fun k=>Hm a k\/k=l)
 abide s W W' C Mc h hs hk:=by
  obtain ⟨c,a,m,d,j,g,f,rfl,rfl⟩:=h;exact ⟨c,a,m,d.keep hs (fun k q=>q.1) (fun k q=>hk k (.inl q)) (fun k q=>hk k (.inr (.inl q))),Ax j hs,(hk l (.inr (.inr (.inl rfl)))).trans g,(hk D (.inr (.inr (.inr rfl)))).trans f,rfl,rfl⟩
 sub s W C Mc h:=by
  obtain ⟨c,a,m,d,j,g,f,rfl,rfl⟩:=h;refine ⟨fun k q=>?_,fun k q=>?_⟩
  ·
   rcases q with q|q
   ·exact .inr (.inl q)
   ·exact .inr (.inr (.inl q))
  ·
   rcases q with q|⟨r,n,e⟩|rfl|rfl
   ·exact d.low k q
   ·exact (d.own r n k e).1
   ·exact (AO.1 g).1
   ·exact (AO.1 f).1
def Lv{l:Nat}{o:Obj}(hm:∀r∈m,r.holds W)(h:W.heap[l]?=some o)(b:¬PY o):¬Hm m l:=fun ⟨r,a,e⟩=>by
 obtain ⟨c,hc,hp⟩:=Gn (hm r a) e;rw [h] at hc;rw [<-Bc hc] at hp;exact b hp
def CSt.back(h:CSt w0 M (imm Z w0 m0 wl) wl m0 W m ds)(a:St w0 Z M W' m' ds')(f:wl.heap.size<=W.heap.size)
  (l:∀k,k<W.heap.size->¬Hm m k->W'.heap[k]?=W.heap[k]?) (j:∀k,Hm m' k->Hm m k\/W.heap.size<=k) (i:W.heap.size<=W'.heap.size):CSt w0 M (imm Z w0 m0 wl) wl m0 W' m' ds:=by
 have n:∀k,imm Z w0 m0 wl k->W'.heap[k]?=W.heap[k]?:=fun k hk=>l k (h.low k hk.1) (fun ⟨r,b,e⟩=>(h.own r b k e).2.1 hk);refine ⟨a.hold,fun r b k e=>⟨(a.own r b k e).1,fun hk=>?_,(a.own r b k e).2,?_⟩,a.apart,fun d hd=>d.mono _ _ _ _ i (h.dat d hd) (fun k hk=>⟨hk,n k hk⟩),fun k hk=>B4 (h.low k hk) i,fun k hk hn=>?_⟩
 ·
  rcases j k ⟨r,b,e⟩ with ⟨r',c,g⟩|q
  ·exact (h.own r' c k g).2.1 hk
  ·have:=h.low k hk.1;omega
 ·
  rcases j k ⟨r,b,e⟩ with ⟨r',c,g⟩|q
  ·exact (h.own r' c k g).2.2.2
  ·exact .inr (Ax f q)
 ·
  refine (l k (h.low k hk) (fun ⟨r,b,e⟩=>?_)).trans (h.old k hk hn);rcases (h.own r b k e).2.2.2 with q|q
  ·exact hn q
  ·omega
def St.cst(h:St w0 Z M wl m ds): CSt w0 M (imm Z w0 m wl) wl m wl m ds:=
 ⟨h.hold,fun r a k e=>⟨(h.own r a k e).1,fun hk=>hk.2.2 r a e,(h.own r a k e).2,.inl ⟨r,a,e⟩⟩,h.apart,h.dat,fun _ hk=>hk,fun _ _ _=>rfl⟩
end
section
open Go Go.RowKit
def rBody(P:Program)(l:Nat)(c:Code)(d:List α->zO->Prop)(j:Code->List α->zO->Prop)(w0:zH)(Z M:zG)(f:zP)(s:List α)(W:zH)(e:zO)(g:Act)(h:zH): Prop:=
 ∃(a:zO) (b:zP) (i:Nat),St w0 Z M h a b/\b[i]?=some (dAg W (imm Z w0 e W))/\(∀k,M k->Hm e k)/\(∀k,M k->Hm a k)/\
  ∀W2,St w0 Z M W2 a (f++[dAg W2 (imm Z w0 a W2)])->c.wpIn (rI l) 0 P (Aa6 d j w0 Z M s W2 a) g W2
def NS{r:Loop}:¬PY (Obj.loop r):=by
 rintro (⟨_,_,_,h⟩|⟨_,_,h⟩)<;>cases h
def Wp{r:Option (List Deferred)}:¬PY (Obj.deferred r):=by
 rintro (⟨_,_,_,h⟩|⟨_,_,h⟩)<;>cases h
section
def KT{g:zJ}{ps:Array Tmp}{encs:α->Array Value}{xs:List α}
  (hg:a.eval g=.func (.func gf) #[] lb) (hok:FOK P gf) (hseq:LR P gf lb encs xs Zd w) (hps:∀x,(encs x).size=ps.size)
  (hS:St w0 Z M w m ds) (hZd:∀k,Zd k->imm Z w0 m w k) (Inv:List α->zO->Prop) (Ix:Code->List α->zO->Prop) (h0:Inv [] m)
  (hround:∀(l:Nat) (pre:List α) (x:α) (W:zH) (O:zO),pre++[x] <+: xs->Inv pre O->St w0 Z M W O (ds++[dAg W (imm Z w0 O W)])->
   assign.wpIn (rI l) 0 P (Exit.then (rBody P l body Inv Ix w0 Z M ds (pre++[x]) W O) (fun _ _ _=>False)) { tmps:=(ps.zip (encs x)).foldl (fun t (p,v)=>t.setIfInBounds p v) a.tmps,defers:=[] } W)
  (hdone:∀(D:Nat) (m':zO) (W:zH),Inv xs m'->St w0 Z M W m' (ds++[T2 w0.heap.size D])->Q .normal { a with defers:=Zr D::a.defers } W)
  (hstop:∀(D:Nat) (c:Code) (pre:List α) (m':zO) (W:zH),pre <+: xs->Ix c pre m'->St w0 Z M W m' (ds++[T2 w0.heap.size D])->c.wp P Q { a with defers:=Zr D::a.defers } W):
  (Code.rangeFunc g ps assign body).wp P Q a w:=by
 refine (wpIn_wide (n:=0)).1 (wpIn_rangeFunc ?_);intro fn _;obtain ⟨d,f⟩:∃d:LoopState->Option Code->Loop,d=fun st pe=>{ state:=st,pending:=pe,fn,tmps:=a.tmps,params:=ps,assign,body,defers:=w.heap.size }:=⟨_,rfl⟩;obtain ⟨L,V⟩:∃L,(w.alloc (.deferred (some []))).alloc (.loop (d .ready none))=L:=⟨_,rfl⟩;have hsz1:L.heap.size=w.heap.size+2:=by rw [<-V];simp
 have hL1:L.heap[w.heap.size+1]?=some (.loop (d .ready none)):=by
  rw [<-V];have:=World.alloc_heap_new (w.alloc (.deferred (some []))) (.loop (d .ready none));rwa [World.size_alloc] at this
 have hK1:L.heap[w.heap.size]?=some (.deferred (some [])):=by
  rw [<-V];exact (Below.heap_alloc _ _ _ yB).trans (World.alloc_heap_new w _)
 have J:Below w.heap.size w L:=by
  rw [<-V];exact (((Below.refl _ w).alloc (Ag _) _).alloc yB _)
 have B:∀k,k<w.heap.size->L.heap[k]?=w.heap[k]?:=fun k hk=>J.block k hk;have hc0:=hS.cst;have S:MW w L:=⟨J.os,J.tape,J.output⟩;have hc1:CSt w0 M (imm Z w0 m w) w m L m ds:=hc0.keep zQ (fun k hk=>hk.1) B (fun k ⟨r,s,e⟩=>B k (hS.own r s k e).1);refine ⟨w.heap.size+1,[Zr w.heap.size],L,{ target:=.fn (.func gf) lb,args:=#[.func (.yield (w.heap.size+1)) #[] #[]] },L,gf,
  #[.func (.yield (w.heap.size+1)) #[] #[]]++lb,L,?_,?_,fun _ _=>trivial,?_,(fun h=>by cases h),?_⟩
 ·rw [<-V,f];exact run_enterLoop_outer _ _ _ _ _
 ·simp only [resolve,hg];simp [go_sem]
 ·simp [invoke,go_sem,hok _ _]
 ·
  refine (hseq (w.heap.size+1) (rJ (fun (_:Unit)=>Inv) w0 Z M w m ds (w.heap.size+1) w.heap.size (fun _=>.loop (d .ready none)))
   (rJ Ix w0 Z M w m ds (w.heap.size+1) w.heap.size (fun c=>.loop (d .done (some c)))) L _ _ zQ ?_ ?_ ⟨(),m,h0,hc1,by omega,hL1,hK1,rfl,rfl⟩ ?_).mono ?_
  ·intro k hk;exact B k (hZd k hk).1
  ·
   intro k hk;have hi:=hZd k hk;have hlt:k<w.heap.size:=hi.1;refine ⟨by omega,?_⟩;rintro (⟨r,s,e⟩|rfl)
   ·exact hi.2.2 r s e
   ·omega
  ·
   -- one round
   rintro pre x W C1 M1 ⟨⟨⟩,O,U,K,hlz,hl,hk,rfl,rfl⟩ hso hp;have hy:=run_yield (P:=P) (args:=encs x) hl (by rw [f];exact hps x);rw [f] at hy;have hnl:¬Hm O (w.heap.size+1):=Lv K.hold hl NS;have hnd:¬Hm O w.heap.size:=Lv K.hold hk Wp;have hso':MW w W:=⟨hso.1.trans S.1,hso.2.1.trans S.2.1,hso.2.2.trans S.2.2⟩;have Y:=K.st hS hso' hlz;refine ⟨fn,_,assign,body,hy,roundIn_of_wpIn trivial (wpIn_mono (hround (w.heap.size+1) pre x W O hp U Y) ?_)⟩;rintro e a1 R he;cases e with
   | normal=>
    obtain ⟨m2,ds2,i2,X,hi2,hM1,hM2,hbody⟩:=he;obtain ⟨q1,q2,q3⟩:=Xc Y X hi2 hM1;have hla:R.heap[w.heap.size+1]?=some (.loop (d .ready none)):=(q1 _ (AO.1 hl).1 hnl).trans hl;have hka:R.heap[w.heap.size]?=some (.deferred (some [])):=(q1 _ (AO.1 hk).1 hnd).trans hk;have hlt:w.heap.size+1<R.heap.size:=(AO.1 hla).1;refine ⟨_,run_beginRound hla (by rw [f]),?_⟩;have hca:=K.back X hlz q1 q2 q3;have hnl2:¬Hm m2 (w.heap.size+1):=Lv hca.hold hla NS;have hnd2:¬Hm m2 w.heap.size:=Lv hca.hold hka Wp;have o:∀k,k≠w.heap.size+1->(R.putObj (w.heap.size+1) (.loop { d .ready none with state:=.busy })).heap[k]?=R.heap[k]?:=fun k h=>World.putObj_heap_other h;have hcb:CSt w0 M (imm Z w0 m w) w m (R.putObj (w.heap.size+1) (.loop { d .ready none with state:=.busy })) m2 ds:=
     hca.keep yP (fun k hk=>hk.1) (fun k hk=>o k zQ) (fun k hk=>o k (fun e=>hnl2 (e▸hk)))
    have hsa:MW w (R.putObj (w.heap.size+1) (.loop { d .ready none with state:=.busy })):=⟨X.os.trans hS.os.symm,X.tape.trans hS.tape.symm,X.output.trans hS.output.symm⟩;have hS2:=hcb.st hS hsa yP;refine wpIn_mono (hbody _ hS2) ?_;have hl2:(R.putObj (w.heap.size+1) (.loop { d .ready none with state:=.busy })).heap[w.heap.size+1]?=some (.loop { d .ready none with state:=.busy }):=World.putObj_heap_same hlt;have hk2:(R.putObj (w.heap.size+1) (.loop { d .ready none with state:=.busy })).heap[w.heap.size]?=some (.deferred (some [])):=(o _ zQ).trans hka;have fin:∀(b:Option Code) (E:zH) (z:zO) (u:zP) (i3:Nat),St w0 Z M E z u->u[i3]?=some (dAg (R.putObj (w.heap.size+1) (.loop { d .ready none with state:=.busy })) (imm Z w0 m2 (R.putObj (w.heap.size+1) (.loop { d .ready none with state:=.busy }))))->
      (Instr.endRound (w.heap.size+1) b).run P E=.ok (.bool b.isNone) (E.putObj (w.heap.size+1) (.loop (d (if b.isNone then .ready else .done) b)))/\
      CSt w0 M (imm Z w0 m w) w m (E.putObj (w.heap.size+1) (.loop (d (if b.isNone then .ready else .done) b))) z ds/\
      w.heap.size<=(E.putObj (w.heap.size+1) (.loop (d (if b.isNone then .ready else .done) b))).heap.size/\
      (E.putObj (w.heap.size+1) (.loop (d (if b.isNone then .ready else .done) b))).heap[w.heap.size+1]?=some (.loop (d (if b.isNone then .ready else .done) b))/\
      (E.putObj (w.heap.size+1) (.loop (d (if b.isNone then .ready else .done) b))).heap[w.heap.size]?=some (.deferred (some []))/\
      Chg (fun k=>k<w.heap.size\/Hm O k\/k=w.heap.size+1\/k=w.heap.size) (fun k=>Hm O k\/k=w.heap.size+1) W (E.putObj (w.heap.size+1) (.loop (d (if b.isNone then .ready else .done) b)))
       (fun k=>k<w.heap.size\/Hm z k\/k=w.heap.size+1\/k=w.heap.size) (fun k=>Hm z k\/k=w.heap.size+1):=fun b E z u i3 j C=>by
     obtain ⟨p1,p2,p3⟩:=Xc hS2 j C hM2;rw [World.putObj_size] at p3;have hl3:E.heap[w.heap.size+1]?=some (.loop { d .ready none with state:=.busy }):=(p1 _ (by simpa using hlt) hnl2).trans hl2;have hk3:E.heap[w.heap.size]?=some (.deferred (some [])):=(p1 _ (AO.1 hk2).1 hnd2).trans hk2;have s:=run_endRound (P:=P) b hl3;have hlt3:=(AO.1 hl3).1;have y:=hcb.back j yP p1 p2 (by rw [World.putObj_size];exact p3);have hnl3:¬Hm z (w.heap.size+1):=Lv y.hold hl3 NS;have A:∀k,k≠w.heap.size+1->(E.putObj (w.heap.size+1) (.loop (d (if b.isNone then .ready else .done) b))).heap[k]?=E.heap[k]?:=fun k h=>World.putObj_heap_other h;have T:∀k,Hm z k->Hm O k\/W.heap.size<=k:=fun k q=>by
      rcases p2 k q with q|q
      ·exact q2 k q
      ·rw [World.putObj_size] at q;right;omega
     refine ⟨by rw [f] at s ⊢;exact s,y.keep yP (fun k hk=>hk.1) (fun k hk=>A k zQ) (fun k hk=>A k (fun e=>hnl3 (e▸hk))),by rw [World.putObj_size];omega,World.putObj_heap_same hlt3,(A _ zQ).trans hk3,?_⟩;refine ⟨j.os.trans Y.os.symm,j.tape.trans Y.tape.symm,j.output.trans Y.output.symm,by rw [World.putObj_size];omega,fun k hk hM=>?_,fun k q=>?_,fun k q=>?_⟩
     ·
      have hkl:k≠w.heap.size+1:=fun e=>hM (.inr e);have hk1:¬Hm O k:=fun e=>hM (.inl e);have hka':k<R.heap.size:=B4 hk q3;have hn2:¬Hm m2 k:=fun q=>by
       rcases q2 k q with q|q
       ·exact hk1 q
       ·omega
      rw [A k hkl,p1 k (by rw [World.putObj_size];exact hka') hn2,o k hkl];exact q1 k hk hk1
     ·
      rcases q with q|q|q
      ·exact .inl (.inl q)
      ·
       rcases T k q with q|q
       ·exact .inl (.inr (.inl q))
       ·exact .inr q
      ·exact .inl (.inr (.inr q))
     ·
      rcases q with q|q
      ·
       rcases T k q with q|q
       ·exact .inl (.inl q)
       ·exact .inr q
      ·exact .inl (.inr q)
    rintro e a3 E N;cases e with
    | normal=>
     obtain ⟨z,u,i3,j,C,G⟩:=N;obtain ⟨s,y,F,H,I,i⟩:=fin none E z u i3 j C;exact ⟨_,_,s,_,_,i,.inl ⟨rfl,(),z,G,y,F,H,I,rfl,rfl⟩⟩
    | ret=>
     obtain ⟨z,u,i3,j,C,G⟩:=N;obtain ⟨s,y,F,H,I,i⟩:=fin (some .ret) E z u i3 j C;exact ⟨_,_,s,_,_,i,.inr ⟨rfl,.ret,z,G,y,F,H,I,rfl,rfl⟩⟩
    | exit id=>
     obtain ⟨z,u,i3,j,C,G⟩:=N;obtain ⟨s,y,F,H,I,i⟩:=fin (some (.exit id)) E z u i3 j C;exact ⟨_,_,s,_,_,i,.inr ⟨rfl,.exit id,z,G,y,F,H,I,rfl,rfl⟩⟩
    | goto t=>
     obtain ⟨z,u,i3,j,C,G⟩:=N;obtain ⟨s,y,F,H,I,i⟩:=fin (some (.goto t)) E z u i3 j C;exact ⟨_,_,s,_,_,i,.inr ⟨rfl,.goto t,z,G,y,F,H,I,rfl,rfl⟩⟩
    | panic ch=>exact N.elim
    | outgrown=>exact N.elim
   | _=>exact he.elim
  ·
   -- behind the iterator
   have after:∀(rc:Loop) (m':zO) (W':zH) (C' M':zG),CSt w0 M (imm Z w0 m w) w m W' m' ds->W'.heap[w.heap.size+1]?=some (.loop rc)->W'.heap[w.heap.size]?=some (.deferred (some []))->
     (∀k,Hm m' k->C' k)->Chg (fun k=>k<w.heap.size\/Hm m k\/k=w.heap.size+1\/k=w.heap.size) (fun k=>Hm m k\/k=w.heap.size+1) L W' C' M'->
     St w0 Z M (W'.putObj (w.heap.size+1) (.loop { rc with state:=.exhausted })) m' (ds++[T2 w0.heap.size w.heap.size]):=fun rc m' W' C' M' hc hl hk hC i=>by
    have hnl:¬Hm m' (w.heap.size+1):=Lv hc.hold hl NS;have hnd:¬Hm m' w.heap.size:=Lv hc.hold hk Wp;have o:∀k,k≠w.heap.size+1->(W'.putObj (w.heap.size+1) (.loop { rc with state:=.exhausted })).heap[k]?=W'.heap[k]?:=fun k h=>World.putObj_heap_other h;have hsz:=i.size;have hS':St w0 Z M (W'.putObj (w.heap.size+1) (.loop { rc with state:=.exhausted })) m' ds:=by
     refine hS.step (i.os.trans J.os) (i.tape.trans J.tape) (i.output.trans J.output) yP (fun k hk hne=>?_)
      (fun r s=>Ec (hc.hold r s) (fun k e=>o k (fun e'=>hnl (e'▸⟨r,s,e⟩)))) (fun r s k e=>⟨by rw [World.putObj_size];exact (hc.own r s k e).1,?_⟩) hc.apart
     ·rw [o k zQ,i.old k zQ (by rintro (⟨r,s,e⟩|rfl);exact hne r s e;omega)];exact B k hk
     ·exact (hc.own r s k e).2.2.2.imp (fun ⟨r',hr',e'⟩=>⟨r',hr',e'⟩) id
    refine hS'.data _ ⟨hS.size,⟨?_,fun hlt=>?_,fun r s e=>hnd ⟨r,s,e⟩⟩,(o _ zQ).trans hk⟩
    ·rw [World.putObj_size];exact (AO.1 hk).1
    ·have:=hS.size;omega
   rintro e W' ⟨⟨v,rfl⟩,C',M',i,⟨⟨⟩,m',U,hc,_,hl,hk,rfl,rfl⟩|⟨pre,hpre,c,m',hix,hc,_,hl,hk,rfl,rfl⟩⟩
   ·have he:=run_endLoop (P:=P) hl (by rw [f];simp);rw [f] at he;refine ⟨none,_,he,hdone _ m' _ U ?_⟩;have:=after _ m' W' _ _ hc hl hk (fun k q=>.inr (.inl q)) i;rw [f] at this;exact this
   ·have he:=run_endLoop (P:=P) hl (by rw [f];simp);rw [f] at he;refine ⟨some c,_,he,wpIn_wide.2 (hstop _ c pre m' _ hpre hix ?_)⟩;have:=after _ m' W' _ _ hc hl hk (fun k q=>.inr (.inl q)) i;rw [f] at this;exact this
end
end
section
open Go Go.RowKit
section
variable {jf jx:JF α} {C Mc:zG} {xs s:List α} {l:zD}
def Sf(hj:jf.J [] W C Mc)(a:∀d∈ds0,d.φ W Zd)(b:∀k,Zd k->k<W.heap.size/\¬Mc k): St W (FE W) Mc W [] (dJ jf [] C Mc W.heap.size::ds0):=by
 refine St.start W _ _ _ fun d hd=>?_;rcases Aj.1 hd with rfl|hd
 ·exact ⟨C,Mc,hj,fun k c=>⟨(jf.sub _ _ _ _ hj).2 k c,fun h=>h,fun _ h=>by cases h⟩,fun _ h=>.inl h,fun _ h=>.inl h⟩
 ·exact d.mono _ _ _ _ (Ag _) (a d hd) fun k hk=>⟨⟨(b k hk).1,fun h=>h,fun _ h=>by cases h⟩,rfl⟩
def MJ(jf jx:JF α)(xs:List α)(b a:zG)(w0:zH)(e:Ending)(W':zH): Prop:=
 (∃v,e=.returned v)/\∃C' M',Chg b a w0 W' C' M'/\(jf.J xs W' C' M'\/∃pre,pre <+: xs/\jx.J pre W' C' M')
def Z1(a:St w0 (FE w0) M0 w m ds)(hi:ds[i]?=some (dJ jf s C0 M0 w0.heap.size)):∃C' M',Chg C0 M0 w0 w C' M'/\jf.J s w C' M':=by
 obtain ⟨C',M',d,e,c,b⟩:=a.get hi;exact ⟨C',M',⟨a.os,a.tape,a.output,a.size,a.old,c,b⟩,d⟩
def V4(a:St w0 (FE w0) M0 w m ds)(hi:ds[i]?=some (dJ jf s C0 M0 w0.heap.size))(h:s=xs): MJ jf jx xs C0 M0 w0 (.returned v) w:=by
 subst h;obtain ⟨C',M',c,b⟩:=Z1 a hi;exact ⟨⟨v,rfl⟩,C',M',c,.inl b⟩
def NV(a:St w0 (FE w0) M0 w m ds)(hi:ds[i]?=some (dJ jx s C0 M0 w0.heap.size))(h:s <+: xs): MJ jf jx xs C0 M0 w0 (.returned v) w:=by
 obtain ⟨C',M',c,b⟩:=Z1 a hi;exact ⟨⟨v,rfl⟩,C',M',c,.inr ⟨s,h,b⟩⟩
def KL{g:Nat}{c:Code}{e:zF}{encs:α->Array Value}(hf:P.funcs[g]?=some fn)(hb:fn.body=some c)(hN:fn.ntmps=N)(f:decide (e.length+1<=N/\N<=1000000)=true)
  (ds0:zP) (i:∀d∈ds0,d.φ W0 Zd)
  (h:∀(lp:Nat) (jf jx:JF α) (w0:zH) (C0 M0:zG),Ys P lp encs xs jf jx w0 C0 M0 Zd->(∀d∈ds0,d.φ w0 Zd)->∀a,Reg a N ((1000000,.bool false)::idx 0 (.func (.yield lp) #[] #[]::e))->
   St w0 (FE w0) M0 w0 [] (dJ jf [] C0 M0 w0.heap.size::ds0)->c.wp P (bodyPost P fn (MJ jf jx xs C0 M0 w0)) a w0):LR P g e.toArray encs xs Zd W0:=by
 intro lp jf jx W C Mc hs j l m n;have b:∀d∈ds0,d.φ W Zd:=fun d hd=>d.mono _ _ _ _ hs (i d hd) fun k hk=>⟨hk,j k hk⟩;have o:(#[.func (.yield lp) #[] #[]]++e.toArray:Array Value)=(Value.func (.yield lp) #[] #[]::e).toArray:=by simp
 rw [o];refine callsIn_wide.2 (Gw hf hb hN (by simpa using f) fun a hR=>?_);exact h lp jf jx W C Mc ⟨l,(jf.sub _ _ _ _ m).2,n⟩ b a hR (Sf m b l)
end
section
variable {ro:Option Nat}
def H7{b:Nat}(h:wpListIn (wf none) 0 P ls.toArray Q ls a w): (Code.region b ls.toArray false).wp P Q a w:=
 (wpIn_wide (n:=0)).1 (wpIn_region_lit h)
def T3{b l:Nat}(h:wpListIn (wf (some l)) 0 P ls.toArray Q ls a w): (Code.region b ls.toArray false).wpIn (rI l) 0 P Q a w:=wpIn_region_lit h
def Hh{F:Fence}{n:Nat}(h:Q .normal a w): wpListIn F n P ops Q [] a w:=h
def Ut(hg:o.guard=none)(hnd:Fl o=true): Ste P (wpListIn (wf ro) 0 P ops Q (o::rest) a w) (wpListIn (wf ro) 0 P ops Q rest) o a w:=
 Qm (Ly hnd) (by simp [Region.wanted,hg])
def B5(hg:o.guard=none)(hnd:Fl o=true): SteV P (wpListIn (wf ro) 0 P ops Q (o::rest) a w) (wpListIn (wf ro) 0 P ops Q rest) o a w:=(Ut hg hnd).toSteV
end
section
variable {l:zD}
def PL(P:Program)(b:Func)(R:Ending->zH->Prop): Exit->zC
 | .panic _,_,_=>False
 | .outgrown,_,_=>False
 | e,a,w=>bodyPostM Fence.wide 0 P b R e a w
def Lu:D6 (PL P fn R):=fun _ _ _ _ _ h=>h
def Y1{e:Exit}(h:PL P fn R e a w): bodyPostM Fence.wide 0 P fn R e a w:=by
 cases e with
 | panic _=>exact h.elim
 | outgrown=>exact h.elim
 | _=>exact h
def Hc{f:FuncId}{c:Code}(hf:P.funcs[f]?=some fn)(hb:fn.body=some c)(hN:fn.ntmps=N)(d:decide (vs.length<=N/\N<=1000000)=true)
  (h:∀a,Reg a N ((1000000,.bool false)::idx 0 vs)->c.wp P (PL P fn R) a w):Calls P f vs.toArray w R:=by
 subst hN;have b:=Ad d;refine (callsIn_wide (n:=0)).1 (callsIn_of_wp_marks hf hb trivial (wpIn_wide.2 (wp_mono (h _ (Reg.start vs.toArray fn.ntmps (by simpa using b.1) b.2 _ fun i v hv=>?_)) (fun _ _ _ h=>Y1 h))));obtain ⟨_,j⟩:=QS vs 0 i v hv;have g:vs[i]?=some v:=by simpa using j
 obtain ⟨hlt,e⟩:=List.getElem?_eq_some_iff.1 g;simp [Array.getElem?_append,hlt,e]
abbrev shut(w:zH)(D:Nat): World:=w.putObj D (.deferred none)
def L4(b:how=.ret\/how=.normal)(c:Reg a N l)(h0:l.lookup 1000000=some (.bool false))(hr:(results fn a.tmps).run P w=.ok v w)(h:R (.returned v) w): PL P fn R how a w:=by
 have d:LeavesInM Fence.wide 0 P fn a.tmps R a.defers .returning w:=by
  rw [c.dfr h0];exact ⟨v,hr,h⟩
 rcases b with rfl|rfl<;>exact d
def H4(b:how=.ret\/how=.normal)(c:Reg a N l)(h0:l.lookup 1000000=some (.int .i64 (D:Int)))(d:w.heap[D]?=some (.deferred (some [])))(hr:(results fn a.tmps).run P (shut w D)=.ok v (shut w D))(h:R (.returned v) (shut w D)): PL P fn R how a w:=by
 have e:LeavesInM Fence.wide 0 P fn a.tmps R a.defers .returning w:=by
  rw [c.dfr1 D h0];exact ⟨by simp,.inl ⟨D,_,rfl,run_takeDeferred d,v,hr,h⟩⟩
 rcases b with rfl|rfl<;>exact e
def res0(hr:fn.results=#[])(w:zH): (results fn a.tmps).run P w=.ok (.tuple #[]) w:=results_none hr _ _ _
def res1{t:Nat}(b:Reg a N l)(hr:fn.results=#[.tmp t])(hv:ev l (.tmp t)=some v)(w:zH): (results fn a.tmps).run P w=.ok v w:=by
 have c:a.tmps.getD t undef=v:=b.ev hv;rw [results_tmp hr,c]
def X3{t u:Nat}(c:Reg a N l)(hr:fn.results=#[.tmp t,.tmp u])(hv:ev l (.tmp t)=some v)(b:ev l (.tmp u)=some v')(w:zH): (results fn a.tmps).run P w=.ok (.tuple #[v,v']) w:=by
 have e:a.tmps.getD t undef=v:=c.ev hv;have d:a.tmps.getD u undef=v':=c.ev b;rw [results_tmp2 hr,e,d]
def Rk(w:zH)(k:Nat): Prop:=∃o,w.heap[k]?=some o/\PY o
def DatC(d:Dat): Prop:=∀(w w':zH) (I:zG),d.φ w I->(∀k,Rk w k->w'.heap[k]?=w.heap[k]?)->d.φ w' I
def YW{n:Nat}(h:RowI w I size A n xs)(hs:size≠0)(hk:∀k,Rk w k->w'.heap[k]?=w.heap[k]?): RowI w' I size A n xs:=
 ⟨h.1,fun hn=>by
  obtain ⟨ad,rfl,b,hc⟩:=h.2 hn;refine ⟨ad,rfl,b,hc.keep (hk _ ?_)⟩;have a:0<xs.length:=by rw [h.1];exact Nat.mul_pos hn (Nat.pos_of_ne_zero hs)
  have h0:=hc 0 xs[0] (Bk a);rw [Hf] at h0;unfold World.cell? at h0;cases ho:w.heap[ad.block]? with
  | none=>simp [ho] at h0
  | some o=>
   cases o with
   | cells cs t fz=>exact ⟨_,ho,.inl ⟨cs,t,fz,rfl⟩⟩
   | _=>simp [ho] at h0⟩
def Od(hs:size≠0)(A:zE)(n cap:Nat)(xs:zF): DatC (B6 size A n cap xs):=fun _ _ _ h hk=>⟨h.1,YW h.2 hs hk⟩
def Sv(t:zN): DatC (BS t):=fun _ _ _ h hk s hs=>⟨(h s hs).1,YW (h s hs).2 zS hk⟩
def St.shut(h:St w0 Z M w m ds)(hi:ds[i]?=some (T2 w0.heap.size D))(j:zP)(hd:∀d∈j,d∈ds/\DatC d): w.heap[D]?=some (.deferred (some []))/\St w0 Z M (shut w D) m j:=by
 obtain ⟨s,q,l⟩:=h.get hi;have b:∀k,Rk w k->(YtgddkjdhnolahaaGreatDoor.shut w D).heap[k]?=w.heap[k]?:=fun k ⟨o,hk,hp⟩=>World.putObj_heap_other (fun e=>by
  subst e;rw [l] at hk;rw [<-Bc hk] at hp
  rcases hp with ⟨_,_,_,h⟩|⟨_,_,h⟩<;>cases h)
 have g:∀r∈m,∀k,r.blk=some k->(YtgddkjdhnolahaaGreatDoor.shut w D).heap[k]?=w.heap[k]?:=fun r a k e=>b k (Gn (h.hold r a) e);refine ⟨l,h.os,h.tape,h.output,by rw [World.putObj_size];exact h.size,fun k hk n=>(World.putObj_heap_other zQ).trans (h.old k hk n),fun r a=>Ec (h.hold r a) (g r a),
  fun r a k e=>⟨by rw [World.putObj_size];exact (h.own r a k e).1,(h.own r a k e).2⟩,h.apart,fun d f=>?_⟩
 have p:=(hd d f).2 w (YtgddkjdhnolahaaGreatDoor.shut w D) _ (h.dat d (hd d f).1) b;have c:imm Z w0 m (YtgddkjdhnolahaaGreatDoor.shut w D)=imm Z w0 m w:=by
  funext k;unfold imm;rw [World.putObj_size]
 rw [c];exact p
end
end
section
open Go Go.RowKit
section
variable {Next:zC} {l:zD}
def Aax{b:BinOp}{t u:zI}{A2:zE}{n c:Nat}(d:Reg a N l)(g:o.op=.binOp b t x y u)(f:ev l x=some (.slice A n c))(e:ev l y=some (.slice A2 n2 c2))
  (h:(binOp b t (.slice A n c) (.slice A2 n2 c2)).run P w=.ok v w):(execOp a.eval o).run P w=.ok (.value v) w:=by
 have hg:(eqGuard b t x y (.slice A n c) (.slice A2 n2 c2)).run P w=.ok () w:=by
  unfold eqGuard;cases b<;>rfl
 unfold execOp;rw [g];simp only [d.ev f,d.ev e,AB,hg,Ay,h,Ba]
def K9{t u e:zI}{n c:Nat}(hs:SteV P X Next o a w)(f:Reg a N l)(hd:o.dst=some d)(j:o.op=.binOp .eql t x y u)(h:ev l x=some (.slice A n c))(g:ev l y=some (.slice none n2 c2))
  (i:P.underlying t=some (.slice e)) (b:d<N) (k:∀a',Reg a' N ((d,.bool A.isNone)::l)->Next a' w):X:=
 C6 hs f hd b (Aax f j h g (Lib.run_eql_slice_nil w t e A n c n2 c2 i)) k
def NA{n:Nat}(h:(B6 size A n cap xs).φ w I)(a:A.isNone=true): n=0:=by
 refine Nat.eq_zero_of_not_pos fun hn=>?_;obtain ⟨ad,rfl,_⟩:=h.2.2 hn;cases a
def St.callO(h:St w0 Z M w m ds){r:Res}(hf:Fr Be w w')(hr:r.holds w')(a:∀k,r.blk=some k->w.heap.size<=k): St w0 Z M w' (m++[r]) ds:=by
 have hb:=hf.below;refine h.step hf.os hf.tape hf.output hf.size (fun k hk _=>hb.block k hk) ?_ ?_ ?_
 ·
  intro s hs;rcases Bi.1 hs with hs|hs
  ·exact FN (h.hold s hs) hb (fun k e=>(h.own s hs k e).1)
  ·rw [A7] at hs;subst hs;exact hr
 ·
  intro s hs k e;rcases Bi.1 hs with hs|hs
  ·exact ⟨B4 (h.own s hs k e).1 hf.size,.inl ⟨s,hs,e⟩⟩
  ·rw [A7] at hs;subst hs;obtain ⟨_,hc,_⟩:=Gn hr e;exact ⟨(AO.1 hc).1,.inr (a k e)⟩
 ·rw [List.pairwise_append];refine ⟨h.apart,by simp,fun s hs t ht k e b=>?_⟩;rw [A7] at ht;subst ht;have:=(h.own s hs k e).1;have:=a k b;omega
def St.fresh{r:Res}(h:St w0 Z Be w m ds)(hi:m[i]?=some r)(k:Nat)(hk:r.blk=some k): w0.heap.size<=k:=
 (h.own r (A0 hi) k hk).2.resolve_right (fun x=>x)
def St.trim(h:St w0 Z M w m ds){f:α->zF}(hf:∀x,(f x).length=size){L:List α}(hi:m[i]?=some (.row A L.length cap e size (L.flatMap f)))(q:Nat)(c:q<=L.length):
  St w0 Z M w (m.set i (.row A (L.take q).length cap e size ((L.take q).flatMap f))) ds:=by
 have d:w.ownsRow 0 e size (.slice A L.length cap) L.length (L.flatMap f):=h.res hi;have b:=RI d c;have hl:(L.take q).length=q:=by rw [Ak];omega
 rw [Ha hf] at b;refine h.turn hi rfl rfl rfl (Ag _) (fun _ _ _=>rfl) ?_ (fun k hk=>?_)
 ·rw [hl];exact b
 ·have a:(Res.row A L.length cap e size (L.flatMap f)).blk=some k:=hk;exact ⟨(h.own _ (A0 hi) k a).1,.inl a⟩
def Reg.conss(h:Reg a N l)(b:Reg a N l'){n c:Nat}(hv:l.lookup i=some (.slice A n c))(hn:n'=n): Reg a N ((i,.slice A n' c)::l'):=h.cons b (by rw [hv,hn])
def Fi{p:Nat}{b u:Value}(h:Reg a N ((1000000,b)::l'))(e:p<N)(d:q<N)(hk:l'.lookup 1000000=none):
  Reg { tmps:=(#[p,q].zip #[u,v]).foldl (fun t (p,v)=>t.setIfInBounds p v) a.tmps,defers:=[] } N ((q,v)::(p,u)::(1000000,.bool false)::l'):=
 h.round2 e d u v (fun i w hi c=>by rw [BW hi];exact c) hk
def EL(h:Reg a N ((1000000,.bool false)::l'))(D:Nat): Reg { a with defers:=Zr D::a.defers } N ((1000000,.int .i64 (D:Int))::l'):=by
 refine ⟨fun q=>?_,fun b q=>?_,h.top,h.size,fun i v hi hv=>h.get i v hi (by rw [BW hi] at hv ⊢;exact hv)⟩
 ·rw [Ce] at q;cases q
 ·
  rw [Ce] at q;have:D=b:=by
   injection q with q;injection q with _ q;omega
  subst this;show Zr D::a.defers=_;rw [h.dfr Ce]
def Jp: (Res.row none 0 0 e size []).holds w:=⟨by simp,.inl ⟨rfl,rfl⟩⟩
def Jo:∀k,(Res.row none 0 0 e size []).blk=some k->w0.heap.size<=k:=fun k hk=>by cases hk
end
def KN(h:Q .normal a w): Exit.noGoto Q .normal a w:=h
def KM(h:Q .ret a w): Exit.noGoto Q .ret a w:=h
def KO(h:Q (.exit i) a w): Exit.noGoto Q (.exit i) a w:=h
def H0(h:D6 Q): D6 (Exit.noGoto Q):=fun c a d v w hq=>h c a d v w hq
end
section
variable {A:List T}{i:Int}
def bwL(t:zM): List (Int×Nd):=(List.range t.length).map fun i=>(((t.length-1-i:Nat):Int),nth t (t.length-1-i))
def JR(t:zM): (bwL t).length=t.length:=by simp [bwL]
def WF(h:k<t.length): (bwL t)[k]?=some (((t.length-1-k:Nat):Int),nth t (t.length-1-k)):=by simp [bwL,h]
def S6{n:Nat}(h:k<t.length/\i=(t.length:Int)-(k:Int)-1/\n=t.length-(k+1)): (bwL t).take k++[(i,nth t n)]=(bwL t).take (k+1):=by
 rw [List.take_add_one,WF h.1];obtain ⟨a,rfl,rfl⟩:=h;simp only [Option.toList_some];congr 3
 ·omega
 ·congr 1;omega
def TC{n:Nat}(h:k<t.length/\i=(t.length:Int)-(k:Int)-1/\n=t.length-(k+1)): (bwL t).take k++[(i,nth t n)] <+: bwL t:=by
 rw [S6 h];exact List.take_prefix _ _
def Ab7(h:t.length<=k): (bwL t).take k=bwL t:=AM (by rw [JR];exact h)
mutual
def TI(o u:Int): T->List (Int×Int)
 | .mk n l=>(o+(Az l).length,u)::ER o l ((binds n).map (u+·))
def ER(o:Int): List T->zK->List (Int×Int)
 | [],_=>[]
 | _::_,[]=>[]
 | t::l,u::us=>ER (o+t.flat.length) l us++TI o u t
end
def JW(o:Int)(A B:List T)(a vs:zK)(h:A.length=a.length): ER o (A++B) (a++vs)=ER (o+(Az A).length) B vs++ER o A a:=by
 induction A generalizing o a with
 | nil=>
  cases a with
  | nil=>simp [ER,AZ]
  | cons _ _=>simp at h
 | cons t A ih=>
  cases a with
  | nil=>simp at h
  | cons u a=>
   simp only [List.cons_append,ER,ih (o+t.flat.length) a (by simpa using h),Bg,Ab,AW];congr 2;omega
def O3(o u:Int)(t:T): ER o [t] [u]=TI o u t:=by simp [ER]
def Aq(t:zM): T:=match De [] t with
 | some [x]=>x
 | _=>.mk ndz []
def Da{x:T}(h:x.wf=true): Aq x.flat=x:=by
 unfold Aq;rw [HJ [] x h];rfl
def Dg(h:chk t=0): (Aq t).wf=true/\(Aq t).flat=t/\(Aq t).deep<=60/\t.length<=4000:=by
 obtain ⟨x,a,rfl,hl,hd⟩:=PD.1 h;rw [Da a];exact ⟨a,rfl,hd,hl⟩
def CS(t:zM): List (Int×Int):=TI 0 0 (Aq t)
structure VInv (t:zM) (k:Nat) (A:List T) (us:zK):Prop where
 len:A.length=us.length
 flat:Az A=t.take (t.length-k)
 wfs:T.wfs A=true
 rest:CS t=(CS t).take k++ER 0 A us
 klen:((CS t).take k).length=k
 bd:∀u∈us,0<=u/\u<=2*(k:Int)
def VInv.zero(h:chk t=0): VInv t 0 [Aq t] [0]:=by
 obtain ⟨c,b,_,_⟩:=Dg h;refine ⟨rfl,by rw [D5,b];simp,by simp [T.wfs,c],by rw [O3];rfl,rfl,fun u a=>?_⟩;rw [A7] at a;subst a;simp
def shp_b(k:Nat):∀b∈(shp k).b,0<=b/\b<=2:=by
 unfold shp;split<;>simp
def Or(n:Nd):∀b∈binds n,0<=b/\b<=2:=by
 intro b hb;unfold binds at hb;split at hb
 ·have:=List.eq_of_mem_replicate hb;omega
 ·
  split at hb
  ·
   rcases Aj.1 hb with rfl|hb
   ·omega
   ·have:=List.eq_of_mem_replicate hb;omega
  ·exact shp_b _ _ hb
def OC{L:List α}(h:0<L.length):∃p x,L=p++[x]:=by
 rcases List.eq_nil_or_concat L with rfl|⟨p,x,rfl⟩
 ·simp at h
 ·exact ⟨p,x,by simp⟩
def O9{Y X R:List α}{e:α}(h:Y=X++e::R)(hk:X.length=k): Y.take (k+1)=X++[e]:=by
 subst hk;rw [h,List.take_append,AM zQ];simp
def Bs(n:Nd): zK:=if right n=true then binds n else []
def HC{n:Nd}(h:right n=true): Bs n=binds n:=Ae h
def GG(n:Nd): (Bs n).length<=8:=by
 unfold Bs;split
 ·rename_i h;exact Eo h
 ·simp
def VInv.step(h:VInv t k A us)(hk:k<t.length):
  right (nth t (t.length-(k+1)))=true/\0<us.length/\us.length<=t.length/\(0<=C7 us (us.length-1)/\C7 us (us.length-1)<=2*(k:Int))/\
  (CS t).take k++[((t.length:Int)-(k:Int)-1,C7 us (us.length-1))]=(CS t).take (k+1)/\
  ∃A',VInv t (k+1) A' (us.take (us.length-1)++(Bs (nth t (t.length-(k+1)))).map (C7 us (us.length-1)+·)):=by
 have o:(Az A).length=t.length-k:=by rw [h.flat,Ak];omega
 have y:0<A.length:=by
  cases A with
  | nil=>simp [AZ] at o;omega
  | cons _ _=>simp
 obtain ⟨Ap,⟨n,l⟩,rfl⟩:=OC y;have z:0<us.length:=by rw [<-h.len];exact y
 obtain ⟨f,u,rfl⟩:=OC z;have e:Ap.length=f.length:=by have:=h.len;simpa using this
 have g:C7 (f++[u]) ((f++[u]).length-1)=u:=by simp [C7]
 have q:(f++[u]).take ((f++[u]).length-1)=f:=by simp
 have w:Az Ap++(Az l++[n])=t.take (t.length-k):=by
  have:=h.flat
  rwa [BN,D5,Bf] at this
 have i:Az (Ap++l)++[n]=t.take (t.length-k):=by rw [BN,AW];exact w
 have m:(Az (Ap++l)).length=t.length-(k+1):=by
  have:=congrArg List.length i;rw [Ab,Ak,AD] at this;omega
 have hn:nth t (t.length-(k+1))=n:=by
  have j:(t.take (t.length-k))[t.length-(k+1)]?=some n:=by
   rw [<-i,<-m];simp
  rw [List.getElem?_take_of_lt zQ] at j;simp [nth,j]
 have s:Az (Ap++l)=t.take (t.length-(k+1)):=by
  have j:=congrArg (List.take (t.length-(k+1))) i;rw [DS zQ,AM zQ,IJ] at j;rw [j];congr 1;omega
 have p:=h.wfs;rw [Gm,A5] at p;have c:(T.mk n l).wf=true:=by simpa [T.wfs] using p.2
 rw [Gx] at c;simp only [A5,beq_iff_eq] at c;have hv:ER 0 (Ap++[T.mk n l]) (f++[u])=((t.length:Int)-(k:Int)-1,u)::ER 0 (Ap++l) (f++(binds n).map (u+·)):=by
  rw [JW _ _ _ _ _ e,JW _ _ _ _ _ e,O3,TI];simp only [List.cons_append,List.cons.injEq,Ed,and_true];rw [BN,Ab] at m;omega
 have r:=h.rest;rw [hv] at r;have a:(CS t).take (k+1)=(CS t).take k++[((t.length:Int)-(k:Int)-1,u)]:=by
  exact O9 r h.klen
 have x:=h.bd u yB;rw [hn,g,q,HC c.1.1];refine ⟨c.1.1,by simp,?_,x,a.symm,Ap++l,⟨?_,s,?_,?_,?_,?_⟩⟩
 ·have j:=Gg (Ap++[T.mk n l]);rw [o,h.len] at j;omega
 ·rw [Ab,Ab,BK,e];have:(binds n).length=l.length:=c.1.2;omega
 ·rw [Gm,p.1,c.2];rfl
 ·rw [a,AW];exact r
 ·rw [a,Ab,h.klen];rfl
 ·
  intro v d;rcases Bi.1 d with d|d
  ·have:=h.bd v (List.mem_append_left _ d);omega
  ·obtain ⟨b,hb,rfl⟩:=Do.1 d;have:=Or n b hb;omega
def VInv.all(h:VInv t k A us)(hk:t.length<=k): (CS t).take k=CS t:=by
 have a:=h.flat
 rw [show t.length-k=0 by omega,List.take_zero] at a;cases A with
 | nil=>
  have:=h.rest;simpa [ER] using this.symm
 | cons x A=>
  rw [Bg] at a;have:=WZ x;simp_all
def RX(h:j<bs.length): (bs.take (j+1)).map (u+·)=(bs.take j).map (u+·)++[u+C7 bs j]:=by
 have hn:C7 bs j=bs[j]:=by simp [C7,h]
 rw [List.take_add_one,Bk h,hn,Cq];rfl
def LM{n:Nd}(j:Nat): 0<=C7 (binds n) j/\C7 (binds n) j<=2:=by
 by_cases h:j<(binds n).length
 ·
  have:C7 (binds n) j=(binds n)[j]:=by simp [C7,h]
  rw [this];exact Or n _ (List.getElem_mem h)
 ·
  have:C7 (binds n) j=0:=by simp [C7,AC,List.getElem?_eq_none (by omega:(binds n).length<=j)]
  omega
def JT{n:Nd}(j:Nat): 0<=C7 (Bs n) j/\C7 (Bs n) j<=2:=by
 unfold Bs;split
 ·exact LM j
 ·simp [C7]
def DW(t:zM)(k:Nat)(x:List (Int×Int)×Int×Int): List (Int×Int)×Int×Int:=
 if x.2.1<0/\(nth t (t.length-(k+1))).K≠28 then x else
  if 0<(if x.2.1<0 then 1 else x.2.2)+((Bs (nth t (t.length-(k+1)))).length:Int)-1 then
   (x.1,(if x.2.1<0 then ((t.length-(k+1):Nat):Int) else x.2.1),(if x.2.1<0 then 1 else x.2.2)+((Bs (nth t (t.length-(k+1)))).length:Int)-1)
  else (x.1++[(((t.length-(k+1):Nat):Int),(if x.2.1<0 then ((t.length-(k+1):Nat):Int) else x.2.1))],-1,(if x.2.1<0 then 1 else x.2.2)+((Bs (nth t (t.length-(k+1)))).length:Int)-1)
def prS(t:zM): Nat->List (Int×Int)×Int×Int
 | 0=>([],-1,0)
 | k+1=>DW t k (prS t k)
def RD(t:zM): List (Int×Int):=(prS t t.length).1
def OS(t:zM):∀k,k<=t.length->-1<=(prS t k).2.1/\(prS t k).2.1<t.length/\-(k:Int)<=(prS t k).2.2/\(prS t k).2.2<=8*(k:Int)+1
 | 0,_=>by simp [prS];omega
 | k+1,hk=>by
  obtain ⟨e,d,c,b⟩:=OS t k zQ;have hb:=GG (nth t (t.length-(k+1)));show -1<=(DW t k (prS t k)).2.1/\(DW t k (prS t k)).2.1<t.length/\-((k+1:Nat):Int)<=(DW t k (prS t k)).2.2/\(DW t k (prS t k)).2.2<=8*((k+1:Nat):Int)+1;unfold DW;by_cases a:(prS t k).2.1<0
  ·
   simp only [a,true_and,if_true];split
   ·omega
   ·split<;>simp only []<;>omega
  ·simp only [a,false_and,if_false];split<;>simp only []<;>omega
def SZ(t:zM)(k:Nat)(x:List (Int×Int)×Int×Int): x.1 <+: (DW t k x).1:=by
 unfold DW
 (repeat' split)<;>first|exact List.prefix_refl _|exact List.prefix_append _ _
def AaJ(t:zM)(k j:Nat): (prS t k).1 <+: (prS t (k+j)).1:=by
 induction j with
 | zero=>exact List.prefix_refl _
 | succ j ih=>exact ih.trans (SZ t _ _)
def KB(h:k<=t.length): (prS t k).1 <+: RD t:=by
 have:=AaJ t k (t.length-k);rwa [show k+(t.length-k)=t.length by omega] at this
def XH(b:(prS t k).2.1<0)(a:(nth t (t.length-(k+1))).K≠28): prS t (k+1)=prS t k:=by
 show DW t k (prS t k)=_;unfold DW;rw [Ae ⟨b,a⟩]
def XI{n r:Int}(b:(prS t k).2.1<0)(a:(nth t (t.length-(k+1))).K=28)(c:0<n)(hn:n=(Bs (nth t (t.length-(k+1)))).length)(hr:r=((t.length-(k+1):Nat):Int)): prS t (k+1)=((prS t k).1,r,n):=by
 show DW t k (prS t k)=_;unfold DW;simp only [b,a,true_and,if_true,ne_eq,not_true_eq_false,if_false];rw [Ae zQ];congr 2
 ·exact hr.symm
 ·omega
def Ny{n r:Int}(b:(prS t k).2.1<0)(a:(nth t (t.length-(k+1))).K=28)(c:¬0<n)(hn:n=(Bs (nth t (t.length-(k+1)))).length)(hr:r=((t.length-(k+1):Nat):Int)): prS t (k+1)=((prS t k).1++[(r,r)],-1,n):=by
 show DW t k (prS t k)=_;unfold DW;simp only [b,a,true_and,if_true,ne_eq,not_true_eq_false,if_false];rw [Ac zQ,hr];congr 2;omega
def prS_on{n:Int}(a:¬(prS t k).2.1<0)(b:0<n)(hn:n=(prS t k).2.2+(Bs (nth t (t.length-(k+1)))).length-1): prS t (k+1)=((prS t k).1,(prS t k).2.1,n):=by
 show DW t k (prS t k)=_;unfold DW;simp only [a,false_and,if_false];rw [Ae zQ,hn]
def Q3{n:Int}(a:¬(prS t k).2.1<0)(b:¬0<n)(hn:n=(prS t k).2.2+(Bs (nth t (t.length-(k+1)))).length-1)(hi:i=((t.length-(k+1):Nat):Int)): prS t (k+1)=((prS t k).1++[(i,(prS t k).2.1)],-1,n):=by
 show DW t k (prS t k)=_;unfold DW;simp only [a,false_and,if_false];rw [Ac zQ,hn,hi]
end
section
open Go Go.RowKit
section
variable {l:zD} {fuel:Nat}
def El(P:Program)(ops:Array Oper)(Q:zB)(S:zH->Prop)(late:List Nat): Nat->Array Bool->zC
 | 0,listed,a,w=>Region.ready .any ops listed=[]/\Q .normal a w
 | fuel+1,listed,a,w=>(Region.ready .any ops listed=[]->Q .normal a w)/\
   ∀j∈Region.ready .any ops listed,wpOp P ops Q j (fun a' w'=>(late.contains j=false->S w->S w')/\El P ops Q S late fuel (listed.setIfInBounds j true) a' w') a w
def GH:∀(fuel:Nat) (listed:Array Bool) (a:Act) (w:zH),El P ops Q S late fuel listed a w->wpAny P .any ops Q fuel listed a w
 | 0,_,_,_,h=>h
 | fuel+1,_,_,_,h=>⟨h.1,fun i hi=>wpOp_mono (fun _ _ b=>GH fuel _ _ _ b.2) (h.2 i hi)⟩
def TY(ops:Array Oper)(late:List Nat)(i:Nat): Bool:=late.all fun j=>match ops[j]? with
 | some oj=>oj.after.toList.any fun e=>Region.binds .any e&&e.on == i
 | none=>true
def TX(hl:TY ops late i=true)(hj:late.contains j=true)(c:ops[j]?=some oj):¬∀e∈oj.after,Region.binds .any e=true->e.on≠i:=by
 unfold TY at hl;rw [List.all_eq_true] at hl;have b:=hl j (by simpa using hj);simp only [c] at b;intro a;obtain ⟨e,d,hb⟩:=List.any_eq_true.1 b;rw [A5,beq_iff_eq] at hb;exact a e (by simpa using d) hb.1 hb.2
def MI{v:Value}(hi:ops[i]?=some oi)(f:∀(j:Nat) (o:Oper) cs b,ops[j]?=some o->o.op≠.select cs b)(hl:TY ops late i=true)
  (B:∀c a w,Q (.panic c) (a.put oi.dst v) w->Q (.panic c) a w):∀(fuel:Nat) (listed:Array Bool) (a:Act) (w:zH),
   (∀j oj,ops[j]?=some oj->j≠i->listed.getD j true=false->(∀e∈oj.after,Region.binds .any e=true->e.on≠i)->oi.apart ops oj=true)->
   i∈Region.ready .any ops listed->YieldsIf P ops S oi v a->S w->
   El P ops Q S late fuel (listed.setIfInBounds i true) (a.put oi.dst v) w->El P ops Q S late (fuel+1) listed a w
 | 0,listed,a,w,_,hr,hy,hS,H=>by
  refine ⟨fun h=>(by rw [h] at hr;cases hr),fun j s=>?_⟩;by_cases d:j=i
  ·subst d;exact hy.wpOp hi hS ⟨fun _ h=>h,H⟩
  ·have:=ready_mono s d;rw [H.1] at this;cases this
 | fuel+1,listed,a,w,hfree,hr,hy,hS,H=>by
  refine ⟨fun h=>(by rw [h] at hr;cases hr),fun j s=>?_⟩;by_cases d:j=i
  ·subst d;exact hy.wpOp hi hS ⟨fun _ h=>h,H⟩
  ·
   obtain ⟨m,oj,g,q⟩:=mem_ready.1 s;have l:∀e∈oj.after,Region.binds .any e=true->e.on≠i:=fun e C hb z=>by
    have r:=q e C hb;have h0:=(mem_ready.1 hr).1;rw [z] at r;rcases Nat.lt_or_ge i listed.size with A|A
    ·simp [A] at h0 r;rw [h0] at r;cases r
    ·simp [Array.getElem?_eq_none A] at r
   have x:late.contains j=false:=by
    cases hc:late.contains j with
    | false=>rfl
    | true=>exact absurd l (TX hl hc g)
   refine wpOp_mono (fun a' w' t=>⟨t.2.1,MI hi f hl B fuel (listed.setIfInBounds j true) a' w' (fun k ok hk y n u=>hfree k ok hk y ?_ u) (ready_mono hr (Ne.symm d)) t.1 (t.2.1 x hS) ?_⟩)
    (wpOp_putIf g (hfree j oj g d m l) (fun cs b=>f i oi cs b hi) (fun cs b=>f j oj cs b g) B hy (H.2 j (ready_mono s d)))
   ·
    by_cases p:j=k
    ·subst p;exact m
    ·rw [getD_set_ne true p] at n;exact n
   ·rw [Array.setIfInBounds_comm _ _ d];exact t.2.2
def Se{v:Value}(hi:ops[i]?=some oi)(f:∀(j:Nat) (o:Oper) cs b,ops[j]?=some o->o.op≠.select cs b)
  (A:∀c a w,Q (.panic c) (a.put oi.dst v) w->Q (.panic c) a w):∀(fuel:Nat) (listed:Array Bool) (a:Act) (w:zH),
   (∀j oj,ops[j]?=some oj->j≠i->listed.getD j true=false->(∀e∈oj.after,Region.binds .any e=true->e.on≠i)->oi.apart ops oj=true)->
   i∈Region.ready .any ops listed->YieldsIf P ops (fun _=>True) oi v a->
   El P ops Q S late fuel (listed.setIfInBounds i true) (a.put oi.dst v) w->El P ops Q S late (fuel+1) listed a w
 | 0,listed,a,w,_,hr,hy,H=>by
  refine ⟨fun h=>(by rw [h] at hr;cases hr),fun j s=>?_⟩;by_cases d:j=i
  ·subst d;exact hy.wpOp hi trivial ⟨fun _ h=>h,H⟩
  ·have:=ready_mono s d;rw [H.1] at this;cases this
 | fuel+1,listed,a,w,hfree,hr,hy,H=>by
  refine ⟨fun h=>(by rw [h] at hr;cases hr),fun j s=>?_⟩;by_cases d:j=i
  ·subst d;exact hy.wpOp hi trivial ⟨fun _ h=>h,H⟩
  ·
   obtain ⟨g,oj,l,q⟩:=mem_ready.1 s;have n:∀e∈oj.after,Region.binds .any e=true->e.on≠i:=fun e B hb x=>by
    have r:=q e B hb;have h0:=(mem_ready.1 hr).1;rw [x] at r;rcases Nat.lt_or_ge i listed.size with z|z
    ·simp [z] at h0 r;rw [h0] at r;cases r
    ·simp [Array.getElem?_eq_none z] at r
   refine wpOp_mono (fun a' w' y=>⟨y.2.1,Se hi f A fuel (listed.setIfInBounds j true) a' w' (fun k ok hk u m t=>hfree k ok hk u ?_ t) (ready_mono hr (Ne.symm d)) y.1 ?_⟩)
    (wpOp_putIf l (hfree j oj l d g n) (fun cs b=>f i oi cs b hi) (fun cs b=>f j oj cs b l) A hy (H.2 j (ready_mono s d)))
   ·
    by_cases p:j=k
    ·subst p;exact g
    ·rw [getD_set_ne true p] at m;exact m
   ·rw [Array.setIfInBounds_comm _ _ d];exact y.2.2
def Yn(hi:ops[i]?=some oi)(hs:Region.noSelect ops=true)(hf:Region.free .any ops listed i=true)(hr:(Region.ready .any ops listed).contains i=true)
  (j:∀c a w,Q (.panic c) (a.put oi.dst v) w->Q (.panic c) a w) (hd:oi.dst=some d) (b:d<N) (g:Reg a N l) (f:Region.wanted oi (yielded ops a.tmps)=true) (e:∀x,(execOp a.eval oi).run P x=.ok (.value v) x)
  (h:∀a',Reg a' N ((d,v)::l)->El P ops Q S late fuel (listed.setIfInBounds i true) a' w):El P ops Q S late (fuel+1) listed a w:=
 Se hi (Region.noSelect_spec hs) j fuel listed a w (Region.free_spec hi hf) (by simpa using hr) (.inl ⟨f,fun x _=>e x⟩) (by rw [hd];exact h _ (g.put b v))
def EH{b n:Nat}(late:List Nat)(hm:P.follows .mixedOrders=true)(hn:ops.size=n)(d:St w0 Z M w m ds)(c:D6 Q)
  (h:∀(Q':zB),D6 Q'->(∀a w,Q .normal a w->Q' .normal a w)->∀w',St w0 Z M w' m ds->El P ops Q' S late n (Array.replicate n false) a w'):(Code.region b ops true).wp P Q a w:=
 wp_region_any hm (GH _ _ _ _ (by rw [hn];exact h Q c (fun _ _ h=>h) _ d.drew))
def I9{l n b:Nat}(late:List Nat)(hm:P.follows .mixedOrders=true)(hn:ops.size=k)(hnd:ops.all Fl=true)(d:St w0 Z M w m ds)(c:D6 Q)(e:Mx Q)
  (h:∀(Q':zB),D6 Q'->(∀a w,Q .normal a w->Q' .normal a w)->∀w',St w0 Z M w' m ds->El P ops Q' S late k (Array.replicate k false) a w'):(Code.region b ops true).wpIn (rI l) n P Q a w:=by
 refine wpIn_region_draw fun t=>M6 hnd e _ _ _ ?_;simp only [Region.schedule,hm,Bool.true_or,if_true];refine wpAny_sound ops.size t _ a _ (GH (S:=S) (late:=late) _ _ _ _ ?_);subst hn;exact h Q c (fun _ _ h=>h) _ d.drew
def Aby(hi:ops[i]?=some oi)(hs:Region.noSelect ops=true)(hf:Region.free .any ops listed i=true)(hr:(Region.ready .any ops listed).contains i=true)(hl:TY ops late i=true)
  (k:∀c a w,Q (.panic c) (a.put oi.dst v) w->Q (.panic c) a w) (hd:oi.dst=some d) (b:d<N) (j:Reg a N l) (f:Region.wanted oi (yielded ops a.tmps)=true) (e:∀x,S x->(execOp a.eval oi).run P x=.ok (.value v) x) (g:S w)
  (h:∀a',Reg a' N ((d,v)::l)->El P ops Q S late fuel (listed.setIfInBounds i true) a' w):El P ops Q S late (fuel+1) listed a w:=
 MI hi (Region.noSelect_spec hs) hl k fuel listed a w (Region.free_spec hi hf) (by simpa using hr) (.inl ⟨f,e⟩) g (by rw [hd];exact h _ (j.put b v))
def dl_all{rs:List Nat}(hr:Region.ready .any ops listed=rs)(hne:rs≠[])
  (h:∀i∈rs,wpOp P ops Q i (fun a' w'=>(late.contains i=false->S w->S w')/\El P ops Q S late fuel (listed.setIfInBounds i true) a' w') a w):El P ops Q S late (fuel+1) listed a w:=
 ⟨fun h0=>absurd (hr▸h0) hne,hr▸h⟩
def CY(hr:Region.ready .any ops listed=[i])(h:wpOp P ops Q i (fun a' w'=>(late.contains i=false->S w->S w')/\El P ops Q S late fuel (listed.setIfInBounds i true) a' w') a w): El P ops Q S late (fuel+1) listed a w:=
 dl_all hr yB (fun j b=>by rw [A7] at b;subst b;exact h)
def FI(hr:Region.ready .any ops listed=[])(h:Q .normal a w):∀fuel,El P ops Q S late fuel listed a w
 | 0=>⟨hr,h⟩
 | _+1=>⟨fun _=>h,by rw [hr];simp⟩
end
end
section
open Go Go.RowKit
section
variable {Next:zC} {l:zD}
def UZ(xs a vs:List α)(o:Nat)(h:o+vs.length<=xs.length): (((xs++a).take o++vs++(xs++a).drop (o+vs.length)).take xs.length=xs.take o++vs++xs.drop (o+vs.length))/\
  ((xs++a).take o++vs++(xs++a).drop (o+vs.length)).length=(xs++a).length:=by
 have d:(xs++a).take o=xs.take o:=DS zQ;have c:(xs++a).drop (o+vs.length)=xs.drop (o+vs.length)++a:=List.drop_append_of_le_length h;rw [d,c,<-AW];have b:(xs.take o++vs++xs.drop (o+vs.length)).length=xs.length:=by simp;omega
 refine ⟨?_,by rw [Ab,b,Ab]⟩;rw [<-b,List.take_left'];rfl
def addr0(g o:Nat): (⟨g,0,none⟩:Addr).add o=⟨g,o,none⟩:=by unfold Addr.add;split<;>simp_all
def Xb(r:St w0 Z M w m ds){n:Nat}(hi:m[i]?=some (.row A n cap e size xs))(p:A=some ad)(o:Nat)(vs:zF)(j:o+vs.length<=xs.length)
  (D:∀v∈vs,v.oneCell'=true):∃w',(storeCells (ad.add o) vs).run P w=.ok () w'/\St w0 Z M w' (m.set i (.row A n cap e size (xs.take o++vs++xs.drop (o+vs.length)))) ds:=by
 have t:w.ownsRow 0 e size (.slice A n cap) n xs:=r.res hi;rcases t.2 with ⟨u,s⟩|⟨g,x,a,hv,u,s,C,B,h6,z⟩
 ·injection u with ha;rw [ha] at p;cases p
 ·
  injection hv with ha hb hc;subst hc;rw [ha] at p;obtain rfl:=Bc p;have b:a.toList=xs++a.toList.drop (n*size):=by rw [<-z,List.take_append_drop]
  have f:xs.length=n*size:=t.1;have y:xs.length+(a.toList.drop (n*size)).length=a.size:=by
   have:=congrArg List.length b;simpa using this.symm
  obtain ⟨d,c⟩:=UZ xs (a.toList.drop (n*size)) vs o j;rw [<-b] at d c;have l:(⟨g,0,none⟩:Addr).add o=⟨g,o,none⟩:=addr0 g o;refine ⟨_,by rw [l];exact run_storeCells_at P g o e vs 0 a w s zQ D,?_⟩;simp only [Nat.add_zero];refine r.turn hi rfl rfl rfl yB (fun k hk q=>setRow_other w g k _ (fun E=>q (by rw [E,ha];rfl))) ⟨?_,.inr ⟨g,cap,_,by rw [ha],Nat.zero_le _,setRow_heap w g _ _ e (0,0) s,C,B,?_,?_⟩⟩ (fun k hk=>?_)
  ·simp;omega
  ·simpa [h6] using c
  ·rw [<-f];simpa using d
  ·have h:(Res.row A n cap e size xs).blk=some k:=hk;exact ⟨by simpa using (r.own _ (A0 hi) k h).1,.inl h⟩
def KK{f:α->zF}(j:St w0 Z M w m ds){L:List α}(hi:m[i]?=some (.row A L.length cap e size (L.flatMap f)))(n:A=some ad)(hf:∀x,(f x).length=size)
  (a:∀x,∀v∈f x,v.oneCell'=true) (k:Nat) (K:List α) (b:k+K.length<=L.length) (c:List α) (l:L.take k++K++L.drop (k+K.length)=c):
  ∃w',(storeCells (ad.add (k*size)) (K.flatMap f)).run P w=.ok () w'/\St w0 Z M w' (m.set i (.row A c.length cap e size (c.flatMap f))) ds:=by
 subst l;have d:(K.flatMap f).length=K.length*size:=Eb hf K;obtain ⟨w',o,g⟩:=Xb (P:=P) j hi n (k*size) (K.flatMap f) (by rw [d,Eb hf,<-Nat.add_mul];exact Nat.mul_le_mul_right _ b) (fun v hv=>by
  obtain ⟨x,_,h⟩:=List.mem_flatMap.1 hv
  exact a x v h)
 refine ⟨w',o,?_⟩;rw [d,<-Nat.add_mul,Ha hf,J0 hf] at g;have hl:(L.take k++K++L.drop (k+K.length)).length=L.length:=by simp;omega
 rw [hl,List.flatMap_append,List.flatMap_append];exact g
def Jd(b:St w0 Z M w m ds){n:Nat}(hi:m[i]?=some (.row A n cap e size xs))(hn:0<n):∃ad,A=some ad:=by
 have a:w.ownsRow 0 e size (.slice A n cap) n xs:=b.res hi;obtain ⟨g,rfl⟩:=Gc a hn;exact ⟨_,rfl⟩
def Gf{f:α->zF}{t:zI}{L:List α}{z:α}(hs:Ste P X Next op a w)(h:Reg a N l)(n:St w0 Z M w m ds)(hd:op.dst=none)(s:op.op=.store t x y)
  (r:ev l x=some (.pointer (eP A j))) (q:ev l y=some v) (hi:m[i]?=some (.row A L.length cap e size (L.flatMap f))) (hj:j=k*size) (hk:k<L.length) (hf:∀x,(f x).length=size) (c:∀x,∀v∈f x,v.oneCell'=true)
  (hv:v.cells.toList=f z) (b:(P.info? t).map (·.size)=some size)
  (p:∀a' w',Reg a' N l->St w0 Z M w' (m.set i (.row A (L.set k z).length cap e size ((L.set k z).flatMap f))) ds->Next a' w'):X:=by
 subst hj;obtain ⟨ad,rfl⟩:=Jd n hi zQ;obtain ⟨w',o,B⟩:=KK (P:=P) n hi rfl hf c k [z] (by rw [AD];omega) (L.set k z) (by rw [List.set_eq_take_append_cons_drop,Ae hk];simp);cases hq:P.info? t with
 | none=>simp [hq] at b
 | some inf=>
  have g:inf.size=size:=by simpa [hq] using b
  have d:v.cells.size=inf.size:=by
   have:=congrArg List.length hv;rw [hf] at this;simpa [g] using this
  have u:(storeVar t (ad.add (k*size)) v).run P w=.ok () w':=by
   rw [List.flatMap_cons,List.flatMap_nil,BT,<-hv] at o;simp [storeVar,AB,sizeOf,typeInfo,hq,d,o]
  refine hs.skip w' ?_ ?_
  ·unfold execOp;rw [s];simp only [h.ev r,h.ev q,eP,C2,Instr.storeAt,Instr.sureAddr,AB,Ba,Ay,u]
  ·rw [hd];exact p _ _ (h.put_none _) B
abbrev rM(A:zE): Nat->Prop:=fun k=>A.map (·.block)=some k
def R0{n:Nat}(h:(Res.row A n cap e size xs).holds w)(hk:rM A k): k<w.heap.size:=by
 obtain ⟨_,hc,_⟩:=Gn h (k:=k) hk;exact (AO.1 hc).1
def PV(w0:zH)(Z:zG)(b:zP)(A:zE)(n cap e a:Nat)(xs:zF)(hb:(Res.row A n cap e a xs).holds w0)(h:∀d∈b,d.φ w0 (imm Z w0 [.row A n cap e a xs] w0)): St w0 Z (rM A) w0 [.row A n cap e a xs] b:=
 ⟨rfl,rfl,rfl,Ag _,fun _ _ _=>rfl,(fun r h=>by rw [A7] at h;subst h;exact hb),(fun r h k e=>by
  rw [A7] at h;subst h
  exact ⟨R0 hb e,.inr e⟩),.cons (fun _ h=>by cases h) .nil,h⟩
def Tu{n:Nat}(b:∀k,Z k->k<w0.heap.size)(hg:∀k,rM A k->¬Z k)(hk:Z k): imm Z w0 [.row A n cap e size xs] w0 k/\w0.heap[k]?=w0.heap[k]?:=
 ⟨⟨b k hk,fun _=>hk,fun r a e=>by
  rw [A7] at a;subst a
  exact hg k e hk⟩,rfl⟩
def St.callR(h:St w0 Z M w m ds){n:Nat}{a:zF}(hi:m[i]?=some (.row A n cap e size xs))(hf:Fr (rM A) w w')(hb:(Res.row A n' cap e size a).holds w'): St w0 Z M w' (m.set i (.row A n' cap e size a)) ds:=
 h.turn hi hf.os hf.tape hf.output hf.size (fun k hk b=>hf.old k hk (fun e=>b e)) hb (fun k hk=>⟨R0 hb hk,.inl hk⟩)
def Ev{n:Nat}(hi:m[i]?=some (.row A n cap e size xs)):∀k,rM A k->¬imm Z w0 m w k:=fun k hk h=>h.2.2 _ (A0 hi) hk
end
end
section
open Go Go.RowKit
section
variable {Next:zC} {l:zD}
def LX(z:Array Value)(n:Nat): (Builtin.zeroCells z n).toList=(List.replicate n z.toList).flatten:=by
 unfold Builtin.zeroCells;rw [Array.toList_map,Array.toList_range];induction n with
 | zero=>simp
 | succ n ih=>
  rw [Nat.succ_mul,List.range_add,Cq,ih,List.replicate_succ',List.flatten_append,List.flatten_singleton];congr 1;rw [List.map_map];apply List.ext_getElem
  ·simp
  ·
   intro i a b;have hi:i<z.size:=by simpa using a
   simp [Nat.mul_add_mod_of_lt hi,hi]
def Oe(h:Cut size A A' k q)(c:A=some ad)(b:0<q): A'=some (ad.add (k*size)):=by
 subst c;have a:=h 0 b;cases A' with
 | none=>cases a
 | some ad'=>
  rw [Nat.zero_mul,Nat.add_zero] at a;simpa [Hf] using a
def Vz{f:α->zF}{t:zI}{L:List α}{d:Nat}{z:Value}{z0:α}(hs:SteV P X Next op a w)(C:Reg a N l)(r:St w0 Z M w m ds)(hd:op.dst=none)
  (H:op.op=.call { callee:=.builtin .clear,args:=#[x],argTypes:=#[t] }) (G:ev l x=some (.slice A' q c')) (hi:m[i]?=some (.row A L.length cap e size (L.flatMap f))) (n:Cut size A A' k q) (p:k+q<=L.length)
  (B:P.underlying t=some (.slice e)) (b:(P.info? e).map (fun i=>(i.zero,i.size,i.bytes))=some (some z,size,d)) (hf:∀x,(f x).length=size) (h:∀x,∀v∈f x,v.oneCell'=true) (F:z.cells.toList=f z0)
  (c:List α) (D:L.take k++List.replicate q z0++L.drop (k+q)=c)
  (E:∀a' w',Reg a' N l->St w0 Z M w' (m.set i (.row A c.length cap e size (c.flatMap f))) ds->Next a' w'):X:=by
 have j:∃w',(Builtin.clear_ #[t] op.type #[.slice A' q c']).run P w=.ok (.tuple #[]) w'/\St w0 Z M w' (m.set i (.row A c.length cap e size (c.flatMap f))) ds:=by
  rcases Nat.eq_zero_or_pos q with rfl|hq
  ·
   refine ⟨w,?_,?_⟩
   ·cases A'<;>simp [Builtin.clear_,run_underlying B]
   ·
    have:c=L:=by rw [<-D];simp
    subst this;have g:m.set i (.row A c.length cap e size (c.flatMap f))=m:=by
     obtain ⟨hlt,I⟩:=List.getElem?_eq_some_iff.1 hi;rw [<-I,List.set_getElem_self]
    rw [g];exact r
  ·
   obtain ⟨ad,rfl⟩:=Jd r hi zQ;obtain rfl:=Oe n rfl hq;obtain ⟨w',u,s⟩:=KK (P:=P) r hi rfl hf h k (List.replicate q z0) (by rw [BB];exact p) c (by rw [BB];exact D);refine ⟨w',?_,s⟩;have hv:(zeroValue e).run P w=.ok z w:=by
    cases hqi:P.info? e with
    | none=>simp [hqi] at b
    | some inf=>
     simp only [hqi,C2,Cm,Ed] at b;simp [zeroValue,typeInfo,hqi,b.1]
   have o:(Builtin.zeroCells z.cells q).toList=(List.replicate q z0).flatMap f:=by
    rw [LX,F,List.flatMap_def,List.map_replicate]
   obtain ⟨y,rfl⟩:∃y,q=y+1:=⟨q-1,by omega⟩;simp [Builtin.clear_,run_underlying B,hv,o,u]
 obtain ⟨w',u,s⟩:=j;refine hs.val (.tuple #[]) w' ?_ ?_
 ·unfold execOp;rw [H];simp only [resolve,invoke,builtin,AB,Ba,Ay,List.map_toArray,AA,AP,C.ev G,u]
 ·rw [hd];exact E _ _ (C.put_none _) s
def Zx{f:α->zF}{t J:zI}{L K:List α}{s:Nat}(hs:SteV P X Next op a w)(E:Reg a N l)(D:St w0 Z M w m ds)(hd:op.dst=some d)
  (U:op.op=.call { callee:=.builtin .copy,args:=#[x,y],argTypes:=#[t,J] }) (T:ev l x=some (.slice A' q c')) (S:ev l y=some (.slice B s c2)) (hi:m[i]?=some (.row A L.length cap e size (L.flatMap f))) (r:Cut size A A' k q) (V:k+q<=L.length)
  (O:P.underlying t=some (.slice e)) (g:(P.info? e).map (·.size)=some size) (hf:∀x,(f x).length=size) (o:∀x,∀v∈f x,v.oneCell'=true) (G:K.length=Nat.min s q) (h:0<K.length->∃ad,B=some ad/\CellsAt w ad (K.flatMap f))
  (c:List α) (Q:L.take k++K++L.drop (k+K.length)=c) (C:d<N)
  (R:∀a' w',Reg a' N ((d,.int .i64 (K.length:Int))::l)->St w0 Z M w' (m.set i (.row A c.length cap e size (c.flatMap f))) ds->Next a' w'):X:=by
 have Y:K.length<=q:=G▸Nat.min_le_right _ _;have p:∃w',(Builtin.copy_ #[t,J] op.type #[.slice A' q c',.slice B s c2]).run P w=.ok (.int .i64 (K.length:Int)) w'/\St w0 Z M w' (m.set i (.row A c.length cap e size (c.flatMap f))) ds:=by
  cases hqi:P.info? e with
  | none=>simp [hqi] at g
  | some inf=>
   have z:inf.size=size:=by simpa [hqi] using g
   rcases Nat.eq_zero_or_pos K.length with h0|n
   ·
    have F:K=[]:=Bw h0;subst F;refine ⟨w,?_,?_⟩
    ·have hm:Nat.min s q=0:=G.symm;have u:∀b,(loadCells b 0).run P w=.ok #[] w:=fun b=>run_loadCells_list (P:=P) w b [] yB;cases A'<;>cases B<;>simp [Builtin.copy_,run_underlying O,Builtin.lenOf,Builtin.firstCells,sizeOf,typeInfo,hqi,hm,storeCells,goInt,u]
    ·
     have:c=L:=by rw [<-Q];simp
     subst this;have j:m.set i (.row A c.length cap e size (c.flatMap f))=m:=by
      obtain ⟨hlt,W⟩:=List.getElem?_eq_some_iff.1 hi;rw [<-W,List.set_getElem_self]
     rw [j];exact D
   ·obtain ⟨ad,rfl⟩:=Jd D hi zQ;obtain rfl:=Oe r rfl zQ;obtain ⟨w',I,H⟩:=KK (P:=P) D hi rfl hf o k K zQ c Q;obtain ⟨bd,rfl,hc⟩:=h n;refine ⟨w',?_,H⟩;have hl:=run_loadCells_list (P:=P) w bd (K.flatMap f) hc;rw [Eb hf] at hl;simp [Builtin.copy_,run_underlying O,Builtin.lenOf,Builtin.firstCells,sizeOf,typeInfo,hqi,z,<-G,hl,I,goInt]
 obtain ⟨w',I,H⟩:=p;refine hs.val (.int .i64 (K.length:Int)) w' ?_ ?_
 ·unfold execOp;rw [U];simp only [resolve,invoke,builtin,AB,Ba,Ay,List.map_toArray,AA,AP,E.ev T,E.ev S,I]
 ·rw [hd];exact R _ _ (E.put C _) H
def Td{f:α->zF}(h:∀l:List α,∀u∈l.flatMap f,u.oneCell'=true)(x:α):∀v∈f x,v.oneCell'=true:=fun v hv=>h [x] v (by simpa using hv)
def N3{f:α->zF}{L:List α}(d:St w0 Z M w m ds)(hi:m[i]?=some (.row A L.length cap e size (L.flatMap f)))(b:Cut size A A' k q)(hf:∀x,(f x).length=size)(c:k+q<=L.length):
  0<((L.drop k).take q).length->∃ad,A'=some ad/\CellsAt w ad (((L.drop k).take q).flatMap f):=fun a=>by
 have hq:0<q:=by rw [Ak] at a;omega
 have g:w.ownsRow 0 e size (.slice A L.length cap) L.length (L.flatMap f):=d.res hi;obtain ⟨ad,rfl,hc⟩:=RJ g zQ;refine ⟨_,Oe b rfl hq,?_⟩;rw [<-Ha hf,<-J0 hf];exact (hc.drop _).take _
def Ch{n c:Nat}(h:n=n'): Value.slice A n c=.slice A n' c:=by rw [h]
def QM{f:α->zF}{t:zI}{L K:List α}{n s:Nat}(hs:SteV P X Next op a w)(u:Reg a N l)(r:St w0 Z M w m ds)(hd:op.dst=some d)
  (I:op.op=.call { callee:=.builtin .append,args:=#[x,y],argTypes:=#[t,t] }) (G:ev l x=some (.slice A n cap)) (F:ev l y=some (.slice B s c2)) (hi:m[i]?=some (.row A L.length cap e size (L.flatMap f))) (z:n+s<=L.length) (h:0<s)
  (H:P.underlying t=some (.slice e)) (b:(P.info? e).map (·.size)=some size) (hf:∀x,(f x).length=size) (j:∀x,∀v∈f x,v.oneCell'=true) (O:K.length=s) (c:0<K.length->∃ad,B=some ad/\CellsAt w ad (K.flatMap f))
  (k:List α) (J:L.take n++K++L.drop (n+K.length)=k) (p:d<N)
  (E:∀a' w',Reg a' N ((d,.slice A (n+s) cap)::l)->St w0 Z M w' (m.set i (.row A k.length cap e size (k.flatMap f))) ds->Next a' w'):X:=by
 subst O;have C:L.length<=cap:=ES (r.res hi);obtain ⟨ad,rfl⟩:=Jd r hi zQ;obtain ⟨D,rfl,hc⟩:=c h;obtain ⟨w',R,Q⟩:=KK (P:=P) r hi rfl hf j n K zQ k J;cases hqi:P.info? e with
 | none=>simp [hqi] at b
 | some inf=>
  have o:inf.size=size:=by simpa [hqi] using b
  have hl:=run_loadCells_list (P:=P) w D (K.flatMap f) hc;rw [Eb hf] at hl;have q:n+K.length<=cap:=by omega
  have g:(Builtin.append_ #[t,t] op.type #[.slice (some ad) n cap,.slice (some D) K.length c2]).run P w=.ok (.slice (some ad) (n+K.length) cap) w':=by
   simp [Builtin.append_,run_underlying H,Builtin.lenOf,Builtin.firstCells,sizeOf,typeInfo,hqi,o,hl,q,R]
  refine hs.val (.slice (some ad) (n+K.length) cap) w' ?_ ?_
  ·unfold execOp;rw [I];simp only [resolve,invoke,builtin,AB,Ba,Ay,List.map_toArray,AA,AP,u.ev G,u.ev F,g]
  ·rw [hd];exact E _ _ (u.put p _) Q
def cut_A(h:k+q<=cap): Cut size A (if cap=k then A else A.map (·.add (k*size))) k q:=fun j a=>by
 rw [Ac zQ];cases A with
 | none=>rfl
 | some ad=>simp [EJ,Nat.add_mul]
def r_cap{t u:zI}{n c:Nat}{e:zI}(hs:SteV P X Next op a w)(f:Reg a N l)(hd:op.dst=some d)(i:op.op=.call { callee:=.builtin .cap,args:=#[x],argTypes:=#[t] })(_hu:op.type=u)
  (g:ev l x=some (.slice A n c)) (h:P.underlying t=some (.slice e)) (b:d<N) (k:∀a',Reg a' N ((d,.int .i64 (c:Int))::l)->Next a' w):X:=
 C6 hs f hd b (by
  unfold execOp;rw [i];simp only [resolve,invoke,builtin,AB,Ba,Ay,List.map_toArray,AA,AP,f.ev g,Builtin.cap_]
  simp [run_underlying h,goInt]) k
end
end
section
open Go Go.RowKit
variable {b:Bool}{t u:zI}
section
variable {Next:zC} {l:zD}
def Ln{p:Int}(hs:SteV P X Next o a w)(c:Reg a N l)(hd:o.dst=some d)(h:o.op=.convert t u x)(e:ev l x=some (.int ki p))(g:P.underlying t=some (.int tk))(f:P.underlying u=some (.int .i64))(b:d<N)
  (j:-1000000000000000<=p) (i:p<=1000000000000000) (k:∀a',Reg a' N ((d,.int .i64 p)::l)->Next a' w):X:=
 C6 hs c hd b (by
  unfold execOp;rw [h]
  simp only [c.ev e,convert,AB,run_underlying g,run_underlying f,Ay,Conv.intToInt,Ba,KR rfl j i]) k
def D0(hs:SteV P X Next o a w)(c:Reg a N l)(hd:o.dst=some d)(f:o.op=.nilCheck x)(e:ev l x=some (.pointer (eP A j)))(g:A.isSome=true)(b:d<N)
  (k:∀a',Reg a' N ((d,.pointer (eP A j))::l)->Next a' w):X:=by
 obtain ⟨ad,rfl⟩:=Option.isSome_iff_exists.1 g;exact C6 hs c hd b (by unfold execOp;rw [f];simp only [c.ev e];rfl) k
def JB{p q z:Int}(hs:SteV P X Next o a w)(c:Reg a N l)(hd:o.dst=some d)(i:o.op=.binOp .rem t x y u)(g:ev l x=some (.int .i64 p))(f:ev l y=some (.int .i64 q))(b:d<N)
  (e:p.tmod q=z) (h:q≠0) (k:∀a',Reg a' N ((d,.int .i64 z)::l)->Next a' w):X:=
 C6 hs c hd b (Gq c i g f (by simp [binOp,Op.intDiv,h,e])) k
def GJ(p q:Nat): ((p:Nat):Int).tmod ((q:Nat):Int)=((p%q:Nat):Int):=rfl
def Ry{d:BinOp}{c:Bool}(e:Reg a N l)(i:o.op=.binOp d t x y u)(g:ev l x=some (.bool b))(f:ev l y=some (.bool c))
  (h:(binOp d t (.bool b) (.bool c)).run P w=.ok v w):(execOp a.eval o).run P w=.ok (.value v) w:=by
 have hg:(eqGuard d t x y (.bool b) (.bool c)).run P w=.ok () w:=by
  unfold eqGuard;cases d<;>rfl
 unfold execOp;rw [i];simp only [e.ev g,e.ev f,AB,hg,Ay,h,Ba]
def Wj(a:P.underlying t=some .bool)(b c:Bool): (Op.equal t (.bool b) (.bool c)).run P w=.ok (b == c) w:=by
 unfold Op.equal Op.maxDepth Op.equalIn;simp only [AB,run_underlying a,Ay,Ba]
def OP{c:Bool}(hs:SteV P X Next o a w)(f:Reg a N l)(hd:o.dst=some d)(j:o.op=.binOp .eql t x y u)(h:ev l x=some (.bool b))(g:ev l y=some (.bool c))(i:P.underlying t=some .bool)(e:d<N)
  (k:∀a',Reg a' N ((d,.bool (b == c))::l)->Next a' w):X:=
 C6 hs f hd e (Ry f j h g (by unfold binOp;simp only [AB,Wj i,Ay,Ba])) k
def YZ{c:Bool}(hs:SteV P X Next o a w)(f:Reg a N l)(hd:o.dst=some d)(j:o.op=.binOp .neq t x y u)(h:ev l x=some (.bool b))(g:ev l y=some (.bool c))(i:P.underlying t=some .bool)(e:d<N)
  (k:∀a',Reg a' N ((d,.bool (!(b == c)))::l)->Next a' w):X:=
 C6 hs f hd e (Ry f j h g (by unfold binOp;simp only [AB,Wj i,Ay,Ba])) k
end
end
section
open Go Go.RowKit
def H1{z:Nd}(h:k<L.length): nth (L.set k z) k=z:=by simp [nth,h]
def K1{f:α->zF}(hf:∀x,(f x).length=size){L:List α}(hk:k<L.length)(i:off<size){z:α}(a:f z=(f L[k]).set off v):
  (L.flatMap f).take (k*size+off)++[v]++(L.flatMap f).drop (k*size+off+1)=(L.set k z).flatMap f:=by
 have e:L=L.take k++L[k]::L.drop (k+1):=by rw [<-List.drop_eq_getElem_cons hk,List.take_append_drop]
 have g:L.set k z=L.take k++z::L.drop (k+1):=by rw [List.set_eq_take_append_cons_drop,Ae hk]
 have hl:((L.take k).flatMap f).length=k*size:=by
  rw [Eb hf,Ak,Nat.min_eq_left zQ]
 have h:(f L[k]).length=size:=hf _;have d:L.flatMap f=(L.take k).flatMap f++(f L[k]++(L.drop (k+1)).flatMap f):=by
  have:=congrArg (List.flatMap f) e;rw [List.flatMap_append,List.flatMap_cons] at this;exact this
 rw [g,List.flatMap_append,List.flatMap_cons,a,d];generalize (L.drop (k+1)).flatMap f=B;generalize (L.take k).flatMap f=A at hl ⊢;rw [<-hl];have c:(A++(f L[k]++B)).take (A.length+off)=A++(f L[k]).take off:=by
  rw [List.take_length_add_append,DS zQ]
 have b:(A++(f L[k]++B)).drop (A.length+off+1)=(f L[k]).drop (off+1)++B:=by
  rw [Nat.add_assoc,List.drop_length_add_append,List.drop_append_of_le_length zQ]
 rw [c,b,List.set_eq_take_append_cons_drop,Ae zQ];simp
section
variable {Next:zC} {l:zD}
def Sa{t:zI}{z:Nd}(hs:Ste P X Next op a w)(n:Reg a N l)(p:St w0 Z M w m ds)(hd:op.dst=none)(C:op.op=.store t x y)
  (B:ev l x=some (.pointer (eP A j))) (u:ev l y=some v) (hi:m[i]?=some (.row A L.length cap e 4 (L.flatMap Ei))) (hj:j=k*4+off) (hk:k<L.length) (f:off<4)
  (o:Ei z=(Ei (nth L k)).set off v) (hc:v.cells.toList=[v]) (E:v.oneCell'=true) (b:(P.info? t).map (·.size)=some 1)
  (s:∀a' w',Reg a' N l->St w0 Z M w' (m.set i (.row A (L.set k z).length cap e 4 ((L.set k z).flatMap Ei))) ds->Next a' w'):X:=by
 subst hj;have g:nth L k=L[k]:=by simp [nth,hk]
 rw [g] at o;obtain ⟨ad,rfl⟩:=Jd p hi zQ;have c:(L.flatMap Ei).length=L.length*4:=Eb BQ L;obtain ⟨w',r,q⟩:=Xb (P:=P) p hi rfl (k*4+off) [v] (by rw [c,AD];omega) (by simpa using E);rw [AD,K1 BQ hk f o] at q;have F:St w0 Z M w' (m.set i (.row (some ad) (L.set k z).length cap e 4 ((L.set k z).flatMap Ei))) ds:=by rw [List.length_set];exact q
 cases hq:P.info? t with
 | none=>simp [hq] at b
 | some inf=>
  have h:inf.size=1:=by simpa [hq] using b
  have d:v.cells.size=inf.size:=by
   have:=congrArg List.length hc;simpa [h] using this
  have D:(storeVar t (ad.add (k*4+off)) v).run P w=.ok () w':=by
   rw [<-hc] at r;simp [storeVar,AB,sizeOf,typeInfo,hq,d,r]
  refine hs.skip w' ?_ ?_
  ·unfold execOp;rw [C];simp only [n.ev B,n.ev u,eP,C2,Instr.storeAt,Instr.sureAddr,AB,Ba,Ay,D]
  ·rw [hd];exact s _ _ (n.put_none _) F
end
end
section
open Go Go.RowKit
variable {t:zJ}{xs:List zJ}
def dJX(jf:JF α)(s:List α)(p n:zG)(s0 l D:Nat)(o:Obj): Dat:=
 ⟨fun w I=>(∃C Mc,jf.J s w C Mc/\(∀k,C k->I k)/\(∀k,C k->p k\/s0<=k)/\(∀k,Mc k->n k\/s0<=k)/\¬C l/\¬C D)/\(I l/\I D)/\w.heap[l]?=some o/\w.heap[D]?=some (.deferred (some [])),fun w w' I I' hs h hk=>by
  obtain ⟨⟨C,Mc,m,e,j,i,g,h6⟩,⟨d,c⟩,f,b⟩:=h
  exact ⟨⟨C,Mc,jf.abide s w w' C Mc m hs (fun k a=>(hk k (e k a)).2),fun k a=>(hk k (e k a)).1,j,i,g,h6⟩,⟨(hk l d).1,(hk D c).1⟩,(hk l d).2.trans f,(hk D c).2.trans b⟩⟩
section
variable {ls:zD}
def Vb(a:∀k,Zd k->k<w0.heap.size/\¬M0 k)(f:∀d∈ds0,d.φ w0 Zd)(hs:w0.heap.size<=w'.heap.size)(c:∀k,k<w0.heap.size->¬M0 k->w'.heap[k]?=w0.heap[k]?)
  (b:∀r∈m,∀k,r.blk=some k->k<w'.heap.size/\(w0.heap.size<=k\/M0 k)):∀d∈ds0,d.φ w' (imm (FE w0) w0 m w'):=fun d hd=>by
 refine d.mono _ _ _ _ hs (f d hd) fun k hk=>⟨⟨B4 (a k hk).1 hs,fun _=>(a k hk).1,fun r g e=>?_⟩,c k (a k hk).1 (a k hk).2⟩;rcases (b r g k e).2 with q|q
 ·have:=(a k hk).1;omega
 ·exact (a k hk).2 q
def St.putL{jf:JF α}{s:List α}{l:Nat}{r:Loop}(b:St w0 (FE w0) M0 w m (dJX jf s C0 M0 w0.heap.size l D ob::ds))(hl:w0.heap.size<=l)(j:l≠D)
  (u:∀k,Zd k->k<w0.heap.size/\¬M0 k) (n:∀d∈ds0,d.φ w0 Zd):St w0 (FE w0) M0 (w.putObj l (.loop r)) m (dJX jf s C0 M0 w0.heap.size l D (.loop r)::ds0):=by
 obtain ⟨⟨C,Mc,E,B,A,z,t,h6⟩,⟨o,y⟩,G,p⟩:=b.dat _ (List.mem_cons_self ..);have hlt:l<w.heap.size:=o.1;have a:∀k,k≠l->(w.putObj l (.loop r)).heap[k]?=w.heap[k]?:=fun k h=>World.putObj_heap_other h;have i:∀q∈m,∀k,q.blk=some k->k≠l:=fun q hq k e F=>o.2.2 q hq (F▸e);have f:∀k,k<w0.heap.size->¬M0 k->(w.putObj l (.loop r)).heap[k]?=w0.heap[k]?:=fun k hk v=>(a k zQ).trans (b.old k hk v);have c:∀q∈m,∀k,q.blk=some k->k<(w.putObj l (.loop r)).heap.size/\(w0.heap.size<=k\/M0 k):=fun q hq k e=>⟨by rw [World.putObj_size];exact (b.own q hq k e).1,(b.own q hq k e).2⟩;have g:imm (FE w0) w0 m (w.putObj l (.loop r))=imm (FE w0) w0 m w:=by
  funext k;unfold imm;rw [World.putObj_size]
 refine ⟨b.os,b.tape,b.output,by rw [World.putObj_size];exact b.size,f,fun q hq=>Ec (b.hold q hq) (fun k e=>a k (i q hq k e)),c,b.apart,fun d hd=>?_⟩;rcases Aj.1 hd with rfl|hd
 ·rw [g];exact ⟨⟨C,Mc,jf.abide s w _ C Mc E (by rw [World.putObj_size];exact Ag _) (fun k x=>a k (fun e=>t (e▸x))),B,A,z,t,h6⟩,⟨o,y⟩,World.putObj_heap_same hlt,(a D (Ne.symm j)).trans p⟩
 ·exact Vb u n (by rw [World.putObj_size];exact b.size) f c d hd
def Ig{jf f:JF α}{pre a:List α}{l:Nat}(o:St w0 (FE w0) M0 w m ds)
  (x:∀k,C1 k->imm (FE w0) w0 m w k) (h0:∀k,C1 k->C0 k\/w0.heap.size<=k) (y:∀k,M1 k->M0 k\/w0.heap.size<=k) (i:∀k,M1 k->C1 k)
  (j:¬C1 l) (n:¬C1 D) (hl:imm (FE w0) w0 m w l) (u:imm (FE w0) w0 m w D) (p:w.heap[l]?=some ob) (t:w.heap[D]?=some (.deferred (some [])))
  (hc:Chg C1 M1 w w' C' M') (g:f.J a w' C' M')
  (z:∀k,Zd k->k<w0.heap.size/\¬M0 k) (s:∀d∈ds0,d.φ w0 Zd):St w0 (FE w0) M0 w' m (dJX f a C0 M0 w0.heap.size l D ob::ds0):=by
 have h:=GM (jf:=jf) (pre:=pre) o x h0 y i hc g z s;have b:∀k,imm (FE w0) w0 m w k->imm (FE w0) w0 m w' k:=fun k hk=>⟨B4 hk.1 hc.size,hk.2.1,hk.2.2⟩;refine ⟨h.os,h.tape,h.output,h.size,h.old,h.hold,h.own,h.apart,fun d hd=>?_⟩;rcases Aj.1 hd with rfl|hd
 ·
  refine ⟨⟨C',M',g,fun k hk=>⟨(f.sub _ _ _ _ g).2 k hk,fun hlt=>hlt,fun r v e=>?_⟩,fun k hk=>?_,fun k hk=>?_,fun hk=>?_,fun hk=>?_⟩,⟨b l hl,b D u⟩,(hc.old l hl.1 (fun q=>j (i l q))).trans p,(hc.old D u.1 (fun q=>n (i D q))).trans t⟩
  ·
   rcases hc.c k hk with q|q
   ·exact (x k q).2.2 r v e
   ·have:=(o.own r v k e).1;omega
  ·
   rcases hc.c k hk with q|q
   ·exact h0 k q
   ·exact .inr (Ax o.size q)
  ·
   rcases hc.m k hk with q|q
   ·exact y k q
   ·exact .inr (Ax o.size q)
  ·
   rcases hc.c l hk with q|q
   ·exact j q
   ·have:=hl.1;omega
  ·
   rcases hc.c D hk with q|q
   ·exact n q
   ·have:=u.1;omega
 ·exact h.dat d (List.mem_cons_of_mem _ hd)
def ZU{p:Option Nat}{encs:α->Array Value}{B:List α}{jf jx:JF α}{pre:List α}{l:Nat}
  (z:Ys P lp encs B jf jx w0 C0 M0 Zd) (hg:o.guard=none) (A:Reg a N ls) (k:St w0 (FE w0) M0 w m ds) (hd:o.dst=some d)
  (I:o.op=.call { callee:=.value t,args:=xs.toArray,argTypes:=ts }) (S:ev ls t=some (.func (.yield lp) #[] #[])) (R:evs ls xs=some vs) (s:d<N)
  (x:α) (U:vs.toArray=encs x) (hi:ds[i]?=some (dJX jf pre C0 M0 w0.heap.size l D ob)) (T:pre++[x] <+: B) (r:∀d∈ds0,d.φ w0 Zd)
  (M:∀a' w',Reg a' N ((d,.bool true)::ls)->St w0 (FE w0) M0 w' m (dJX jf (pre++[x]) C0 M0 w0.heap.size l D ob::ds0)->wpListIn (wf p) 0 P ops Q rest a' w')
  (O:∀a' w',Reg a' N ((d,.bool false)::ls)->St w0 (FE w0) M0 w' m (dJX jx (pre++[x]) C0 M0 w0.heap.size l D ob::ds0)->wpListIn (wf p) 0 P ops Q rest a' w'):
  wpListIn (wf p) 0 P ops Q (o::rest) a w:=by
 obtain ⟨⟨C1,M1,v,K,h0,L,H,G⟩,⟨F,E⟩,C,q⟩:=k.get hi;obtain ⟨fn,n,assign,body,g,f⟩:=z.y pre x w C1 M1 v ⟨k.os,k.tape,k.output⟩ T;rw [<-U] at g;have h:=GQ A I S R g;have u:∀c,o.op≠.defer c:=fun c e=>by rw [I] at e;cases e
 unfold wpListIn;rw [Ae (by simp [Region.wanted,hg])];refine ⟨fun _ _=>trivial,?_⟩;rw [Oper.semAt_eq _ _ _ u,h];refine ⟨fun hd=>by simp [wf,Fence.wide] at hd,?_⟩;have b:RoundIn (wf p) 0 P lp fn n assign body w fun e W'=>∃C' M',Chg C1 M1 w W' C' M'/\
   ((e=.returned (.bool true)/\jf.J (pre++[x]) W' C' M')\/(e=.returned (.bool false)/\jx.J (pre++[x]) W' C' M')):=by
  cases p<;>exact f
 refine b.mono ?_;rintro e W' ⟨C',M',hc,⟨rfl,j⟩|⟨rfl,j⟩⟩
 ·rw [hd];exact M _ _ (A.put s _) (Ig (jf:=jf) (pre:=pre) k K h0 L (jf.sub _ _ _ _ v).1 H G F E C q hc j z.zd r)
 ·rw [hd];exact O _ _ (A.put s _) (Ig (jf:=jf) (pre:=pre) k K h0 L (jf.sub _ _ _ _ v).1 H G F E C q hc j z.zd r)
def ZV{l:Option Nat}
  (hg:o.guard=none) (q:Reg a N ls) (hd:o.dst=some d)
  (p:o.op=.call { callee:=.value t,args:=xs.toArray,argTypes:=ts }) (u:ev ls t=some (.func (.yield lp) #[] #[])) (s:evs ls xs=some vs) (n:d<N)
  (r:YieldAt Fence.wide 0 P lp vs.toArray w R)
  (k:∀e w',R e w'->∃b,e=.returned (.bool b)/\∀a',Reg a' N ((d,.bool b)::ls)->wpListIn (wf l) 0 P ops Q rest a' w'):
  wpListIn (wf l) 0 P ops Q (o::rest) a w:=by
 obtain ⟨fn,i,assign,body,j,g⟩:=r;have h:=GQ q p u s j;have m:∀c,o.op≠.defer c:=fun c e=>by rw [p] at e;cases e
 unfold wpListIn;rw [Ae (by simp [Region.wanted,hg])];refine ⟨fun _ _=>trivial,?_⟩;rw [Oper.semAt_eq _ _ _ m,h];refine ⟨fun hd=>by simp [wf,Fence.wide] at hd,?_⟩;have f:RoundIn (wf l) 0 P lp fn i assign body w R:=by cases l<;>exact g
 refine f.mono fun e W' v=>?_;obtain ⟨b,rfl,hk⟩:=k e W' v;rw [hd];exact hk _ (q.put n _)
end
def WY(P:Program)(g:Nat)(b:Array Value)(encs:α->Array Value)(xs:List α)(c:zH->Prop): Prop:=
 ∀(l:Nat) (J a:List α->zH->Prop) (W:zH),(∀pre W,J pre W->c W)->J [] W->
  (∀pre x W1,J pre W1->pre++[x] <+: xs->YieldAt Fence.wide 0 P l (encs x) W1 fun e W'=>(e=.returned (.bool true)/\J (pre++[x]) W')\/(e=.returned (.bool false)/\a (pre++[x]) W'))->
  CallsIn Fence.wide 0 P g (#[.func (.yield l) #[] #[]]++b) W fun e W'=>(∃v,e=.returned v)/\(J xs W'\/∃pre,pre <+: xs/\a pre W')
section
def Za(d:List α->List β->zO->Prop)(f:Code->List β->zO->Prop)(w0:zH)(e c:zG)(jf jx:JF β)(l D:Nat)(o:Obj)(s:List α): Exit->zC
 | .normal,_,W'=>∃(s':List β) (b:zO) (a:zP),St w0 (FE w0) c W' b (dJX jf s' e c w0.heap.size l D o::a)/\d s s' b
 | .ret,_,W'=>∃(s':List β) (b:zO) (a:zP),St w0 (FE w0) c W' b (dJX jx s' e c w0.heap.size l D o::a)/\f .ret s' b
 | _,_,_=>False
def EF{a:List α->List β->zO->Prop}{b:Code->List β->zO->Prop}{jf jx:JF β}{l:Nat}{o:Obj}{s:List α}: Mx (Za a b w0 C0 M0 jf jx l D o s):=fun _ _ h=>h
def rBodyP(P:Program)(l D:Nat)(o:Obj)(a:Code)(d:List α->List β->zO->Prop)(j:Code->List β->zO->Prop)(w0:zH)(e b:zG)(jf jx:JF β)(ds0:zP)(s:List α)(f:List β)(h:Act)(i:zH): Prop:=
 ∃(g:zO) (c:zP),St w0 (FE w0) b i g (dJX jf f e b w0.heap.size l D o::c)/\
  ∀o2 W2,St w0 (FE w0) b W2 g (dJX jf f e b w0.heap.size l D o2::ds0)->a.wpIn (rI l) 0 P (Za d j w0 e b jf jx l D o2 s) h W2
def Xn{g:zJ}{ps:Array Tmp}{encs:α->Array Value}{xs:List α}{jf jx:JF β}{sb:List β}
  (hg:a.eval g=.func (.func gf) #[] lb) (hok:FOK P gf) (hseq:WY P gf lb encs xs Dt) (hps:∀x,(encs x).size=ps.size)
  (B:St w0 (FE w0) M0 w m ds) (hi:ds[i]?=some (dJ jf sb C0 M0 w0.heap.size)) (Z:∀k,Zd k->k<w0.heap.size/\¬M0 k) (F:∀d∈ds0,d.φ w0 Zd)
  (G:List α->List β->zO->Prop) (Ix:Code->List β->zO->Prop) (h0:G [] sb m)
  (hdat:∀pre s u W,G pre s u->(∀r∈u,r.holds W)->(∀d∈ds0,d.φ W (imm (FE w0) w0 u W))->Dt W)
  (L:∀(l D:Nat) (o:Obj) (pre:List α) (x:α) (s:List β) (W:zH) (u:zO),pre++[x] <+: xs->G pre s u->St w0 (FE w0) M0 W u (dJX jf s C0 M0 w0.heap.size l D o::ds0)->
   assign.wpIn (rI l) 0 P (Exit.then (rBodyP P l D o body G Ix w0 C0 M0 jf jx ds0 (pre++[x]) s) (fun _ _ _=>False)) { tmps:=(ps.zip (encs x)).foldl (fun t (p,v)=>t.setIfInBounds p v) a.tmps,defers:=[] } W)
  (X:∀(l D:Nat) (o:Obj) (s:List β) (m':zO) (W:zH),w0.heap.size<=D->G xs s m'->St w0 (FE w0) M0 W m' (dJX jf s C0 M0 w0.heap.size l D o::ds0)->Q .normal { a with defers:=Zr D::a.defers } W)
  (T:∀(l D:Nat) (o:Obj) (c:Code) (s:List β) (m':zO) (W:zH),w0.heap.size<=D->Ix c s m'->St w0 (FE w0) M0 W m' (dJX jx s C0 M0 w0.heap.size l D o::ds0)->c.wp P Q { a with defers:=Zr D::a.defers } W):
  (Code.rangeFunc g ps assign body).wp P Q a w:=by
 refine (wpIn_wide (n:=0)).1 (wpIn_rangeFunc ?_);intro fn _;obtain ⟨f,b⟩:∃f:LoopState->Option Code->Loop,f=fun st pe=>{ state:=st,pending:=pe,fn,tmps:=a.tmps,params:=ps,assign,body,defers:=w.heap.size }:=⟨_,rfl⟩;obtain ⟨E,J⟩:∃E,(w.alloc (.deferred (some []))).alloc (.loop (f .ready none))=E:=⟨_,rfl⟩;have hsz1:E.heap.size=w.heap.size+2:=by rw [<-J];simp
 have hL1:E.heap[w.heap.size+1]?=some (.loop (f .ready none)):=by
  rw [<-J];have:=World.alloc_heap_new (w.alloc (.deferred (some []))) (.loop (f .ready none));rwa [World.size_alloc] at this
 have hK1:E.heap[w.heap.size]?=some (.deferred (some [])):=by
  rw [<-J];exact (Below.heap_alloc _ _ _ yB).trans (World.alloc_heap_new w _)
 have M:Below w.heap.size w E:=by
  rw [<-J];exact (((Below.refl _ w).alloc (Ag _) _).alloc yB _)
 have A:∀k,k<w.heap.size->E.heap[k]?=w.heap[k]?:=fun k hk=>M.block k hk;obtain ⟨C,Mc,g1,g2,g3,g4⟩:=B.get hi;have hws:=B.size;have hS1:St w0 (FE w0) M0 E m (dJX jf sb C0 M0 w0.heap.size (w.heap.size+1) w.heap.size (.loop (f .ready none))::ds0):=by
  have O:∀k,k<w0.heap.size->¬M0 k->E.heap[k]?=w0.heap[k]?:=fun k hk hM=>(A k zQ).trans (B.old k hk hM);have N:∀r∈m,∀k,r.blk=some k->k<E.heap.size/\(w0.heap.size<=k\/M0 k):=fun r z k e=>⟨by have:=(B.own r z k e).1;omega,(B.own r z k e).2⟩;refine ⟨M.os.trans B.os,M.tape.trans B.tape,M.output.trans B.output,by omega,O,fun r z=>Ec (B.hold r z) (fun k e=>A k (B.own r z k e).1),N,B.apart,fun d hd=>?_⟩;rcases Aj.1 hd with rfl|hd
  ·
   refine ⟨⟨C,Mc,jf.abide sb w E C Mc g1 zQ (fun k hC=>A k (g2 k hC).1),fun k hC=>⟨by have:=(g2 k hC).1;omega,(g2 k hC).2.1,(g2 k hC).2.2⟩,g3,g4,fun h=>?_,fun h=>?_⟩,⟨⟨by omega,fun h=>?_,fun r z e=>?_⟩,⟨by omega,fun h=>?_,fun r z e=>?_⟩⟩,hL1,hK1⟩
   ·have:=(g2 _ h).1;omega
   ·have:=(g2 _ h).1;omega
   ·omega
   ·have:=(B.own r z _ e).1;omega
   ·omega
   ·have:=(B.own r z _ e).1;omega
  ·exact Vb Z F zQ O N d hd
 have I:w0.heap.size<=w.heap.size+1:=by omega
 have H:w.heap.size+1≠w.heap.size:=by omega
 refine ⟨w.heap.size+1,[Zr w.heap.size],E,{ target:=.fn (.func gf) lb,args:=#[.func (.yield (w.heap.size+1)) #[] #[]] },E,gf,
  #[.func (.yield (w.heap.size+1)) #[] #[]]++lb,E,?_,?_,fun _ _=>trivial,?_,(fun h=>by cases h),?_⟩
 ·rw [<-J,b];exact run_enterLoop_outer _ _ _ _ _
 ·simp only [resolve,hg];simp [go_sem]
 ·simp [invoke,go_sem,hok _ _]
 ·
  refine (hseq (w.heap.size+1) (fun pre W=>∃s u,G pre s u/\St w0 (FE w0) M0 W u (dJX jf s C0 M0 w0.heap.size (w.heap.size+1) w.heap.size (.loop (f .ready none))::ds0))
   (fun _ W=>∃c s u,Ix c s u/\St w0 (FE w0) M0 W u (dJX jx s C0 M0 w0.heap.size (w.heap.size+1) w.heap.size (.loop (f .done (some c)))::ds0)) E ?_ ⟨sb,m,h0,hS1⟩ ?_).mono ?_
  ·rintro pre W ⟨s,u,y,j⟩;exact hdat pre s u W y j.hold (fun d hd=>j.dat d (List.mem_cons_of_mem _ hd))
  ·
   -- one round
   rintro pre x W ⟨s,u,y,j⟩ hp;have hl:=(j.dat _ (List.mem_cons_self ..)).2.2.1;have hy:=run_yield (P:=P) (args:=encs x) hl (by rw [b];exact hps x);rw [b] at hy;refine ⟨fn,_,assign,body,hy,roundIn_of_wpIn trivial (wpIn_mono (L (w.heap.size+1) w.heap.size _ pre x s W u hp y j) ?_)⟩;rintro e a1 Wa R;cases e with
   | normal=>
    obtain ⟨m2,ds2,hSa,Y⟩:=R;have hla:=(hSa.dat _ (List.mem_cons_self ..)).2.2.1;refine ⟨_,run_beginRound hla (by rw [b]),?_⟩;have hS2:=hSa.putL (r:={ f .ready none with state:=.busy }) I H Z F;refine wpIn_mono (Y _ _ hS2) ?_;rintro e a3 W3 U;cases e with
    | normal=>
     obtain ⟨s',m3,ds3,K,S⟩:=U;have V:=(K.dat _ (List.mem_cons_self ..)).2.2.1;have z:=run_endRound (P:=P) none V;rw [b] at z;have q:=K.putL (r:=f .ready none) I H Z F;refine ⟨_,_,z,.inl ⟨rfl,s',m3,S,?_⟩⟩;rw [b] at q ⊢;exact q
    | ret=>
     obtain ⟨s',m3,ds3,K,S⟩:=U;have V:=(K.dat _ (List.mem_cons_self ..)).2.2.1;have z:=run_endRound (P:=P) (some .ret) V;rw [b] at z;have q:=K.putL (r:=f .done (some .ret)) I H Z F;refine ⟨_,_,z,.inr ⟨rfl,.ret,s',m3,S,?_⟩⟩;rw [b] at q ⊢;exact q
    | _=>exact U.elim
   | _=>exact R.elim
  ·
   -- behind the iterator
   rintro e W' ⟨⟨v,rfl⟩,⟨s,u,y,j⟩|⟨pre,hpre,c,s,u,hix,j⟩⟩
   ·have hl:=(j.dat _ (List.mem_cons_self ..)).2.2.1;have R:=run_endLoop (P:=P) hl (by rw [b];simp);rw [b] at R;have q:=j.putL (r:={ f .ready none with state:=.exhausted }) I H Z F;rw [b] at q;exact ⟨none,_,R,X _ _ _ s u _ B.size y q⟩
   ·have hl:=(j.dat _ (List.mem_cons_self ..)).2.2.1;have R:=run_endLoop (P:=P) hl (by rw [b];simp);rw [b] at R;have q:=j.putL (r:={ f .done (some c) with state:=.exhausted }) I H Z F;rw [b] at q;exact ⟨some c,_,R,wpIn_wide.2 (T _ _ _ c s u _ B.size hix q)⟩
end
end
section
open Go Go.RowKit
variable {o:Obj}
def bwD(q:Nat)(A:zE)(c:Nat)(t:zM)(W:zH): Prop:=W.cell? ⟨q,0,none⟩=some (.slice A t.length c)/\∀k,k<t.length->ElemAt W A (k*4) (Ei (nth t k))
def Yw{x:Int×Nd}(hk:k<=t.length)(h:(bwL t).take k++[x] <+: bwL t): k<t.length/\x=(((t.length-(k+1):Nat):Int),nth t (t.length-(k+1)))/\(bwL t).take k++[x]=(bwL t).take (k+1):=by
 obtain ⟨r,b⟩:=h;have hl:=congrArg List.length b;have hb:=JR t;have a:((bwL t).take k).length=k:=by rw [Ak];omega
 rw [Ab,Ab,AD,a,hb] at hl;have hlt:k<t.length:=by omega
 have d:(bwL t)[k]?=some x:=by
  rw [<-b,AW,CZ zQ,a];simp
 rw [WF hlt] at d;have c:=Bc d;refine ⟨hlt,?_,?_⟩
 ·rw [<-c,show t.length-1-k=t.length-(k+1) by omega]
 ·rw [List.take_add_one,WF hlt,c];rfl
set_option maxRecDepth 100000 in
def Ot(q:Nat)(tA:zE)(tc:Nat)(t:zM)(hl:t.length<=1000000):
  WY prog 220 [.pointer (some ⟨q,0,none⟩)].toArray (fun x:Int×Nd=>#[.int .i64 x.1,.agg (Ei x.2).toArray]) (bwL t) (bwD q tA tc t):=by
 intro lp J Jx w0 X h0 hY;refine callsIn_wide.2 (Gw func220 rfl ntmps220 rfl (vs:=[.func (.yield lp) #[] #[],.pointer (some ⟨q,0,none⟩)]) (fun a1 S=>?_));have U:=X [] w0 h0;refine wp_seq_k (fun K4 T=>?_);refine Cb ?_;refine CE sv S rfl rfl rfl U.1 Aw rfl zS (fun a6 R=>?_);refine r_len sv R rfl rfl rfl rfl Aw zS (fun a8 Q=>?_);refine UI (z:=((t.length:Nat):Int)-1) sv Q rfl rfl rfl rfl zS zQ zQ zQ (fun a10 K=>?_);refine asg K (fun a12 I=>?_);refine Bm (Bl (T _ _ ?_));refine wp_block ?_;refine AV (fun gn ga gw=>∃k:Nat,Reg ga 19 [(1000000,.bool false),(0,.func (.yield lp) #[] #[]),(1,.pointer (some ⟨q,0,none⟩)),(3,.int .i64 (((t.length:Nat):Int)-((k:Nat):Int)-1))]/\J ((bwL t).take k) gw/\(k<=t.length)/\(t.length-k)=gn) _ ⟨0,I.sub (rc rfl (rc rfl (rc rfl (rc (ri rfl zQ) rnl)))),h0,by omega,rfl⟩ ?_;rintro Z a15 r ⟨k,H,P,hk,W⟩;have O:=X _ _ P;refine wp_seq_k (fun K20 N=>?_);refine wp_seq_k (fun K22 M=>?_);refine Cb ?_;refine mv H (fun a24 G=>?_);refine Aa4 sv G rfl rfl rfl rfl zS (fun a26 m=>?_);refine Bm (Bl (M _ _ ?_));rcases BH (0<=(((t.length:Nat):Int)-((k:Nat):Int)-1)) with p|p
 ·
  skip;have l:=m.setb (d:=8) (b:=true) rfl (AF p);refine wp_cond_true (l.ev rfl) ?_;refine wp_skip ?_;refine Bl (N _ _ ?_);refine wp_seq_k (fun K30 L=>?_);refine wp_block ?_;refine wp_seq_k (fun K32 o=>?_);refine H7 ?_;have u:ElemAt r tA ((t.length-(k+1))*4) (Ei (nth t (t.length-(k+1)))):=O.2 _ zQ;refine DQ (B5 rfl rfl) l rfl rfl rfl zS (fun a34 F=>?_);refine DQ (B5 rfl rfl) F rfl rfl rfl zS (fun a36 E=>?_);refine CE (B5 rfl rfl) E rfl rfl rfl O.1 Aw rfl zS (fun a38 D=>?_);refine DQ (B5 rfl rfl) D rfl rfl rfl zS (fun a40 C=>?_);refine CG (i:=t.length-(k+1)) (j:=(t.length-(k+1))*4) (B5 rfl rfl) C rfl rfl rfl rfl Aw Hr zQ zQ u.some_ rfl zS (fun a42 B=>?_);refine Bo (B5 rfl rfl) B rfl rfl rfl u Bq rfl Hr zS (fun a44 A=>?_);have hx:=S6 (t:=t) (k:=k) (n:=t.length-(k+1)) (i:=((t.length:Nat):Int)-((k:Nat):Int)-1) zQ;have s:=TC (t:=t) (k:=k) (n:=t.length-(k+1)) (i:=((t.length:Nat):Int)-((k:Nat):Int)-1) zQ;refine ZV (t:=.tmp 11) (xs:=[.tmp 12,.tmp 16]) rfl A rfl rfl rfl rfl zS (hY _ ((((t.length:Nat):Int)-((k:Nat):Int)-1,nth t (t.length-(k+1))):Int×Nd) r P s) ?_;rintro e Y (⟨rfl,c⟩|⟨rfl,c⟩)
  ·refine ⟨true,rfl,fun V a=>?_⟩;refine JC (B5 rfl rfl) a rfl rfl rfl zS (fun a51 h=>?_);refine Hh ?_;refine Bl (o _ _ ?_);refine Dx (h.ev rfl) ?_;refine wp_skip ?_;refine IM ?_;refine Bl (L _ _ ?_);refine Cb ?_;refine mv h (fun a53 y=>?_);refine UI (z:=((t.length:Nat):Int)-((k:Nat):Int)-2) sv y rfl rfl rfl rfl zS zQ zQ zQ (fun a55 w=>?_);refine asg w (fun a57 v=>?_);refine Bm ?_;rw [hx] at c;exact ⟨_,by omega,k+1,v.sub (rc rfl (rc rfl (rc rfl (rc (ri rfl zQ) rnl)))),c,by omega,rfl⟩
  ·refine ⟨false,rfl,fun V a=>?_⟩;refine JC (B5 rfl rfl) a rfl rfl rfl zS (fun a61 g=>?_);refine Hh ?_;refine Bl (o _ _ ?_);refine wp_cond_true (g.ev rfl) ?_;refine wp_ret ?_;refine Gz ?_;refine HE ?_;refine HE ?_;refine Gz ?_;refine P4 g rfl rfl ?_;exact ⟨⟨_,rfl⟩,.inr ⟨_,s,c⟩⟩
 ·skip;have f:=m.setb (d:=8) (b:=false) rfl (As p);refine Dx (f.ev rfl) ?_;refine wp_exit ?_;refine HG ?_;refine HG ?_;refine G0 ?_;refine Kj f rfl rfl ?_;rw [Ab7 zQ] at P;exact ⟨⟨_,rfl⟩,.inl P⟩
section
variable {jf jx:JF α} {xs s:List α} {l:zD}
def SH{g:Nat}{c:Code}{e:zF}{encs:α->Array Value}(hf:P.funcs[g]?=some fn)(hb:fn.body=some c)(hN:fn.ntmps=N)(f:decide (e.length+1<=N/\N<=1000000)=true)
  (ds0:zP) (i:∀d∈ds0,d.φ W0 Zd)
  (h:∀(lp:Nat) (jf jx:JF α) (w0:zH) (C0 M0:zG),Ys P lp encs xs jf jx w0 C0 M0 Zd->(∀d∈ds0,d.φ w0 Zd)->∀a,Reg a N ((1000000,.bool false)::idx 0 (.func (.yield lp) #[] #[]::e))->
   St w0 (FE w0) M0 w0 [] (dJ jf [] C0 M0 w0.heap.size::ds0)->c.wp P (PL P fn (MJ jf jx xs C0 M0 w0)) a w0):LR P g e.toArray encs xs Zd W0:=by
 intro lp jf jx W C Mc hs j l m n;have b:∀d∈ds0,d.φ W Zd:=fun d hd=>d.mono _ _ _ _ hs (i d hd) fun k hk=>⟨hk,j k hk⟩;have o:(#[.func (.yield lp) #[] #[]]++e.toArray:Array Value)=(Value.func (.yield lp) #[] #[]::e).toArray:=by simp
 rw [o];refine callsIn_wide.2 (Hc hf hb hN (by simpa using f) fun a hR=>?_);exact h lp jf jx W C Mc ⟨l,(jf.sub _ _ _ _ m).2,n⟩ b a hR (Sf m b l)
def V5{l:Nat}(b:St w0 (FE w0) M0 w m (dJX jf s C0 M0 w0.heap.size l D o::ds))(n:w0.heap.size<=D): w.heap[D]?=some (.deferred (some []))/\∃C' M',Chg C0 M0 w0 (shut w D) C' M'/\jf.J s (shut w D) C' M':=by
 obtain ⟨⟨C',M',j,p,i,g,_,h6⟩,_,_,c⟩:=b.dat _ (List.mem_cons_self ..);have a:∀k,k≠D->(shut w D).heap[k]?=w.heap[k]?:=fun k h=>World.putObj_heap_other h;exact ⟨c,C',M',⟨b.os,b.tape,b.output,by rw [World.putObj_size];exact b.size,fun k hk d=>(a k zQ).trans (b.old k hk d),i,g⟩,
  jf.abide s w _ C' M' j (by rw [World.putObj_size];exact Ag _) (fun k f=>a k (fun e=>h6 (e▸f)))⟩
def m_allX(b:how=.ret\/how=.normal)(d:Reg a N l)(h0:l.lookup 1000000=some (.int .i64 (D:Int)))(hr:fn.results=#[])(c:St w0 (FE w0) M0 w m (dJX jf s C0 M0 w0.heap.size ll D o::ds))(e:w0.heap.size<=D)(h:s=xs): PL P fn (MJ jf jx xs C0 M0 w0) how a w:=by
 subst h;obtain ⟨i,C',M',g,f⟩:=V5 c e;exact H4 b d h0 i (res0 hr _) ⟨⟨_,rfl⟩,C',M',g,.inl f⟩
def AaY(b:how=.ret\/how=.normal)(d:Reg a N l)(h0:l.lookup 1000000=some (.int .i64 (D:Int)))(hr:fn.results=#[])(c:St w0 (FE w0) M0 w m (dJX jx s C0 M0 w0.heap.size ll D o::ds))(e:w0.heap.size<=D)(h:s <+: xs): PL P fn (MJ jf jx xs C0 M0 w0) how a w:=by
 obtain ⟨i,C',M',g,f⟩:=V5 c e;exact H4 b d h0 i (res0 hr _) ⟨⟨_,rfl⟩,C',M',g,.inr ⟨s,h,f⟩⟩
end
end
section
section
variable {t v z:List α}
def UD{B:List α}(hi:i<=t.length)(hj:j=t.length)(hB:B=t.take i++v++t.drop (i+v.length)): B.take (i+v.length)=t.take i++v++t.drop j:=by
 subst hB;rw [List.take_left' (by rw [Ab,Ak];omega),List.drop_eq_nil_of_le zQ,BT]
def X5{B C:List α}(hi:i<=t.length)(hj:j=t.length)(hB:B=t.take i++v++t.drop (i+v.length))(a:C=B.take (i+v.length)++z): C.take (i+v.length)=t.take i++v++t.drop j:=by
 rw [a,List.take_left',<-UD hi hj hB];rw [hB];simp;omega
def X4{B K C E d:List α}(l:i+v.length<=j)(k:j<=t.length)(h:D=i+v.length+t.length-j)(hB:B=t.take i++v++t.drop (i+v.length))(e:K=(B.drop j).take (t.length-j))
  (g:C=B.take (i+v.length)++K++B.drop (i+v.length+K.length)) (f:E=C.take D++z++d):E.take D=t.take i++v++t.drop j:=by
 have hX:(t.take i++v).length=i+v.length:=by rw [Ab,Ak];omega
 have a:K=t.drop j:=by
  rw [e,hB,<-hX,List.drop_append,List.drop_eq_nil_of_le zQ,List.nil_append,List.drop_drop,hX,show i+v.length+(j-(i+v.length))=j by omega];exact AM (by rw [BC];omega)
 have c:B.take (i+v.length)=t.take i++v:=by rw [hB];exact List.take_left' hX
 have b:C.take D=t.take i++v++t.drop j:=by
  rw [g,a,c];exact List.take_left' (by rw [Ab,hX,BC];omega)
 rw [f,b,AW];exact List.take_left' (by rw [Ab,hX,BC];omega)
end
end
section
structure PInv (t:zM) (k:Nat) (x:List (Int×Int)×Int×Int):Prop where
 bd:∀y∈x.1,(t.length:Int)-k<=y.1/\y.1<=y.2/\y.2<t.length
 srt:x.1.Pairwise fun a b=>b.2<a.1
 cur:0<=x.2.1->(t.length:Int)-k<=x.2.1/\x.2.1<t.length/\∀y∈x.1,x.2.1<y.1
def UU(t:zM):∀k,k<=t.length->PInv t k (prS t k)
 | 0,_=>⟨(fun _ h=>by cases h),List.Pairwise.nil,(fun h=>by simp [prS] at h)⟩
 | k+1,hk=>by
  have f:=UU t k zQ;rcases hx:prS t k with ⟨L,r,n⟩;rw [hx] at f;obtain ⟨d,e,i⟩:=f;simp only at d e i;have hst:prS t (k+1)=DW t k (L,r,n):=by rw [<-hx];rfl
  rw [hst];unfold DW;simp only;by_cases g:r<0
  ·
   simp only [g,true_and,if_true];split
   ·exact ⟨fun y c=>by have:=d y c;(try simp only at this ⊢);omega,e,fun h=>by (try simp only at h);omega⟩
   ·
    split
    ·exact ⟨fun y c=>by have:=d y c;omega,e,fun _=>⟨by (try simp only);omega,by (try simp only);omega,fun y c=>by have:=d y c;(try simp only);omega⟩⟩
    ·
     refine ⟨fun y c=>?_,?_,fun h=>by (try simp only at h);omega⟩
     ·
      rcases Bi.1 c with c|c
      ·have:=d y c;omega
      ·rw [A7] at c;subst c;(try simp only);omega
     ·
      refine List.pairwise_append.2 ⟨e,by simp,fun a ha b hb=>?_⟩;rw [A7] at hb;subst hb;have:=d a ha
      (try simp only)
      omega
  ·
   obtain ⟨l,j,h6⟩:=i zQ;simp only [g,false_and,if_false];split
   ·exact ⟨fun y c=>by have:=d y c;omega,e,fun _=>⟨by (try simp only);omega,j,h6⟩⟩
   ·
    refine ⟨fun y c=>?_,?_,fun h=>by (try simp only at h);omega⟩
    ·
     rcases Bi.1 c with c|c
     ·have:=d y c;omega
     ·rw [A7] at c;subst c;(try simp only);omega
    ·refine List.pairwise_append.2 ⟨e,by simp,fun a ha b hb=>?_⟩;rw [A7] at hb;subst hb;exact h6 a ha
def RC{x:Int×Int}(h:pre++[x] <+: RD t):∃i j:Nat,x=((i:Int),(j:Int))/\i<=j/\j<t.length/\∀y∈pre,(j:Int)<y.1:=by
 have hi:=UU t t.length (Ag _);obtain ⟨rest,c⟩:=h;have hb:=hi.bd x (by show x∈RD t;rw [<-c];simp);have hs:(RD t).Pairwise fun a b=>b.2<a.1:=hi.srt;rw [<-c,AW,List.pairwise_append] at hs;refine ⟨x.1.toNat,x.2.toNat,?_,by omega,by omega,fun y d=>?_⟩
 ·ext<;>simp only []<;>omega
 ·have:=hs.2.2 y d x yB;omega
abbrev AbS:Nd:=⟨29,0,0,⟨#[]⟩⟩
def Aa2(o:zM)(x:Int×Int): zM:=o.take x.1.toNat++[AbS]++o.drop (x.2.toNat+1)
def Ll(t:zM)(pre:List (Int×Int)): zM:=pre.foldl Aa2 t
def Lk(t:zM)(pre:List (Int×Int))(x:Int×Int): Ll t (pre++[x])=Aa2 (Ll t pre) x:=by simp [Ll]
def UE(t:zM)(pre:List (Int×Int)):∀m:Nat,(∀y∈pre,(m:Int)<=y.1)->m<=t.length->(Ll t pre).take m=t.take m:=by
 induction h:pre.length generalizing pre with
 | zero=>
  have:pre=[]:=Bw h;subst this;intro m _ _;rfl
 | succ n ih=>
  obtain ⟨p,x,rfl⟩:∃p x,pre=p++[x]:=⟨pre.dropLast,pre.getLast (by intro e;subst e;simp at h),(List.dropLast_concat_getLast _).symm⟩;intro m hm a;have b:=ih p (by simpa using h) m (fun y c=>hm y (List.mem_append_left _ c)) a;have d:=hm x yB;have hl:m<=(Ll t p).length:=by
   have:=congrArg List.length b;rw [Ak,Ak] at this;omega
  rw [Lk,Aa2,AW,DS (by rw [Ak];omega),IJ,Nat.min_eq_left zQ,b]
def R3(hj:j<t.length)(h:∀y∈pre,(j:Int)<y.1): j+1<=(Ll t pre).length:=by
 have b:=UE t pre (j+1) (fun y a=>by have:=h y a;omega) hj;have:=congrArg List.length b;rw [Ak,Ak] at this;omega
def Aa1(h:pre <+: RD t): (Ll t pre).length<=t.length:=by
 induction hn:pre.length generalizing pre with
 | zero=>
  have:pre=[]:=Bw hn;subst this;exact Ag _
 | succ n ih=>
  obtain ⟨p,x,rfl⟩:∃p x,pre=p++[x]:=⟨pre.dropLast,pre.getLast (by intro e;subst e;simp at hn),(List.dropLast_concat_getLast _).symm⟩;obtain ⟨i,j,rfl,c,b,a⟩:=RC h;have f:=ih (List.IsPrefix.trans (List.prefix_append _ _) h) (by simpa using hn);have d:=R3 b a;rw [Lk,Aa2];simp only [Ab,Ak,BC,AD,Int.toNat_natCast];omega
def UF: (Ll t pre).take i++[AbS]++(Ll t pre).drop (j+1)=Ll t (pre++[((i:Int),(j:Int))]):=by
 rw [Lk];rfl
end
section
open Go Go.RowKit
section
def St.perm(h:St w0 Z M w m ds)(g:m.Perm m'): St w0 Z M w m' ds:=by
 have a:∀r,r∈m'↔r∈m:=fun r=>g.symm.mem_iff;have c:imm Z w0 m' w=imm Z w0 m w:=by
  funext k;unfold imm;refine propext ⟨fun q=>⟨q.1,q.2.1,fun r b=>q.2.2 r ((a r).2 b)⟩,fun q=>⟨q.1,q.2.1,fun r b=>q.2.2 r ((a r).1 b)⟩⟩
 refine ⟨h.os,h.tape,h.output,h.size,h.old,fun r b=>h.hold r ((a r).1 b),fun r b=>h.own r ((a r).1 b),?_,fun d hd=>by rw [c];exact h.dat d hd⟩;refine (g.pairwise_iff ?_).1 h.apart;intro r s f k e i;exact f k i e
def MV{A T:zO}{r:Res}(h:St w0 Z M w (A++T++[r]) ds): St w0 Z M w (A++[r]++T) ds:=
 h.perm (by
  rw [AW,AW]
  exact List.Perm.append_left A List.perm_append_comm)
def FV(e:Nat)(s:Sl): Res:=.row s.1 s.2.2.length s.2.1 e 4 (B2 s.2.2)
def PX{A:zO}{c:Nat}(h:St w0 Z M w (A++[.row B L.length c e 4 (B2 L)]++Ls.map (FV e)) ds): St w0 Z M w (A++(Ls++[((B,c,L):Sl)]).map (FV e)) ds:=
 h.perm (by
  rw [Cq,AW]
  exact List.Perm.append_left A List.perm_append_comm)
def Kp{A:zO}(h:St w0 Z M w (A++Ls.map (FV e)) ds)(n:∀k,¬M k): St w0 Z M w A (ds++[BS Ls]):=by
 have o:St w0 Z M w A ds:=h.drop A (List.sublist_append_left _ _);refine o.data _ fun s hs=>?_;have b:FV e s∈A++Ls.map (FV e):=List.mem_append_right _ (List.mem_map_of_mem hs);have f:w.ownsRow 0 e 4 (.slice s.1 s.2.2.length s.2.1) s.2.2.length (B2 s.2.2):=h.hold _ b;refine ⟨ES f,f.1,fun hn=>?_⟩;obtain ⟨g,hg⟩:=Gc f hn;have c:(FV e s).blk=some g:=by show s.1.map (·.block)=some g;rw [hg];rfl
 have a:=h.own _ b g c;refine ⟨_,hg,⟨a.1,fun hlt=>?_,fun r i p=>?_⟩,fun j u m=>f.cells (g:=g) (by rw [hg];rfl) j u m⟩
 ·
  have l:g<w0.heap.size:=hlt;rcases a.2 with q|q
  ·omega
  ·exact absurd q (n g)
 ·have d:=h.apart;rw [List.pairwise_append] at d;exact d.2.2 r i _ (List.mem_map_of_mem hs) g p c
def Ww{f:α->zF}{L:List α}(h:(B6 size A L.length cap (L.flatMap f)).φ w I)(hf:∀x,(f x).length=size)(a:k+q<=L.length):
  (B6 size (if cap=k then A else A.map (·.add (k*size))) ((L.drop k).take q).length (cap-k) (((L.drop k).take q).flatMap f)).φ w I:=by
 have hq:((L.drop k).take q).length=q:=by rw [Ak,BC];omega
 rw [hq,<-Ha hf,<-J0 hf];have hc:L.length<=cap:=h.1;exact ⟨by omega,(h.2.from_ (k:=k) zQ hc).take (k:=q) zQ⟩
end
end
section
variable {R t:zN}
structure RevTo (t R:zN) (k:Nat):Prop where
 len:R.length=t.length
 at_:∀i,i<t.length->At R i=if i<k\/t.length-k<=i then At t (t.length-1-i) else At t i
def RM{u:Sl}(hi:i<R.length): At (R.set i u) j=if i=j then u else At R j:=by
 unfold At;rw [AC,List.getElem?_set,AC];split
 ·simp [*]
 ·rfl
def RevTo.zero(t:zN): RevTo t t 0:=⟨rfl,fun i hi=>by rw [Ac zQ]⟩
def RevTo.step{u v:Sl}(h:RevTo t R k)(hk:2*k+1<t.length)(hj:j=t.length-1-k)(e:u=At R j)(hv:v=At R k): RevTo t ((R.set k u).set j v) (k+1):=by
 subst hj;obtain ⟨f,a⟩:=h;refine ⟨by simp [f],fun i hi=>?_⟩;rw [RM yN,RM zQ,e,hv,a _ zQ,a _ zQ,a i hi];by_cases d:t.length-1-k=i
 ·subst d;rw [Ae rfl,Ac zQ,Ae zQ];congr 1;omega
 ·
  rw [Ac d];by_cases c:k=i
  ·subst c;rw [Ae rfl,Ac zQ,Ae zQ]
  ·
   rw [Ac c];by_cases b:i<k\/t.length-k<=i
   ·rw [Ae b,Ae zQ]
   ·rw [Ac b,Ac zQ]
def RevTo.done(h:RevTo t R k)(hk:t.length<=2*k+1): R=t.reverse:=by
 obtain ⟨f,e⟩:=h;apply List.ext_getElem
 ·simp [f]
 ·
  intro i hi a;have d:=e i zQ;have c:At R i=R[i]:=by simp [At,hi]
  have b:At t (t.length-1-i)=t[t.length-1-i]:=by
   have:t.length-1-i<t.length:=by omega
   simp [At,this]
  rw [List.getElem_reverse,<-c,d,<-b];split
  ·rfl
  ·congr 1;omega
def WQ(h:(BS t).φ w I): (BS t.reverse).φ w I:=fun s hs=>h s (List.mem_reverse.1 hs)
end
section
mutual
def prT(o:Nat): T->List (Int×Int)
 | .mk n l=>if n.K=28 then [((o:Int),((o+(Az l).length:Nat):Int))] else Zf o l
def Zf(o:Nat): List T->List (Int×Int)
 | []=>[]
 | t::l=>Zf (o+t.flat.length) l++prT o t
end
mutual
def erT:T->T
 | .mk n l=>if n.K=28 then .mk AbS [] else .mk n (K2 l)
def K2:List T->List T
 | []=>[]
 | t::l=>erT t::K2 l
end
def AaX{n:Nd}(h:n.K=28): many n=1:=by simp [many,binds,h,shp]
def Fw{t:T}{l:List T}(h:T.wfs (t::l)=true): t.wf=true/\T.wfs l=true:=by simpa [T.wfs] using h
def EQ{n:Nd}{l:List T}(h:(T.mk n l).wf=true): right n=true/\many n=l.length/\T.wfs l=true:=by
 rw [Gx] at h;simp only [A5,beq_iff_eq] at h;exact ⟨h.1.1,h.1.2,h.2⟩
def Vf{u v:zM}{n:Nd}(h:t=u++[n]++v): nth t (t.length-(v.length+1))=n/\t.length-(v.length+1)=u.length:=by
 subst h;have:(u++[n]++v).length-(v.length+1)=u.length:=by simp
 rw [this];exact ⟨by simp [nth],rfl⟩
def Nx(t:zM)(k:Nat): prS t (k+1)=DW t k (prS t k):=rfl
mutual
def UV(t:zM)(L:List (Int×Int))(r:Int)(hr:0<=r):∀(x:T) (u v:zM) (n:Int),x.wf=true->t=u++x.flat++v->prS t v.length=(L,r,n)->1<=n->
  prS t (v.length+x.flat.length)=if 1<n then (L,r,n-1) else (L++[((u.length:Int),r)],-1,0)
 | .mk m l,u,v,n,hw,ht,hs,hn=>by
  obtain ⟨d,c,b⟩:=EQ hw;have a:t=(u++Az l)++[m]++v:=by rw [ht,Bf];simp
  obtain ⟨hm,hp⟩:=Vf a;have hst:prS t (v.length+1)=DW t v.length (L,r,n):=by rw [Nx,hs]
  have hb:((Bs m).length:Int)=l.length:=by rw [HC d,<-c];rfl
  unfold DW at hst;simp only [show ¬r<0 by omega,false_and,if_false,hm,hb] at hst;rw [Bf,Ab,AD,show v.length+((Az l).length+1)=([m]++v).length+(Az l).length by simp;omega];cases l with
  | nil=>
   rw [hp] at hst;simp only [AZ,Ar,Nat.add_zero,Ab,AD] at hst ⊢;rw [show 1+v.length=v.length+1 by omega,hst];by_cases h:1<n
   ·rw [Ae zQ,Ae h];simp
   ·rw [Ac zQ,Ac h];simp;omega
  | cons y l=>
   simp only [Af] at hst;rw [Ae zQ] at hst;have hv:([m]++v).length=v.length+1:=by simp
   have:=Nz t L r hr (y::l) u ([m]++v) (n+((y::l).length:Int)-1) b (by rw [a];simp) (by rw [hv,hst];simp) yH yB;rw [this];by_cases h:1<n
   ·rw [Ae yH,Ae h];congr 2;simp;omega
   ·rw [Ac yH,Ac h]
def Nz(t:zM)(L:List (Int×Int))(r:Int)(hr:0<=r):∀(l:List T) (u v:zM) (n:Int),T.wfs l=true->t=u++Az l++v->prS t v.length=(L,r,n)->(l.length:Int)<=n->l≠[]->
  prS t (v.length+(Az l).length)=if (l.length:Int)<n then (L,r,n-l.length) else (L++[((u.length:Int),r)],-1,0)
 | [],_,_,_,_,_,_,_,h=>absurd rfl h
 | [y],u,v,n,hw,ht,hs,hn,_=>by
  have:=UV t L r hr y u v n (Fw hw).1 (by rw [ht,D5]) hs (by simpa using hn);rw [D5];simpa using this
 | y::z::l,u,v,n,hw,ht,hs,hn,_=>by
  obtain ⟨c,b⟩:=Fw hw;have a:=Nz t L r hr (z::l) (u++y.flat) v n b (by rw [ht,Bg];simp) hs (by simp at hn ⊢;omega) yB;rw [Ae (by simp at hn ⊢;omega)] at a;have:=UV t L r hr y u (Az (z::l)++v) (n-((z::l).length:Int)) c (by rw [ht,Bg];simp) (by rw [Ab,Nat.add_comm,a]) (by simp at hn ⊢;omega);rw [Bg,Ab,show v.length+(y.flat.length+(Az (z::l)).length)=(Az (z::l)++v).length+y.flat.length by simp;omega,this];simp only [Af] at hn ⊢;by_cases h:((l.length+1+1:Nat):Int)<n
  ·rw [Ae h,Ae zQ];congr 2;omega
  ·rw [Ac h,Ac zQ]
end
mutual
def prS_T(t:zM):∀(x:T) (u v:zM),x.wf=true->t=u++x.flat++v->(prS t v.length).2.1<0->
  (prS t (v.length+x.flat.length)).1=(prS t v.length).1++prT u.length x/\(prS t (v.length+x.flat.length)).2.1<0
 | .mk m l,u,v,hw,ht,hs=>by
  obtain ⟨d,c,b⟩:=EQ hw;have a:t=(u++Az l)++[m]++v:=by rw [ht,Bf];simp
  obtain ⟨hm,hp⟩:=Vf a;have hb:((Bs m).length:Int)=l.length:=by rw [HC d,<-c];rfl
  have hv:([m]++v).length=v.length+1:=by simp
  rw [Bf,Ab,AD,show v.length+((Az l).length+1)=([m]++v).length+(Az l).length by rw [hv];omega];by_cases hk:m.K=28
  ·
   have hl:=c;rw [AaX hk] at hl;match l,hl with
   | [y],_=>
    have hst:prS t (v.length+1)=((prS t v.length).1,((u.length+(Az [y]).length:Nat):Int),1):=by
     rw [Nx];unfold DW;rw [hm];simp only [hs,true_and,if_true,hk,hb,hp];simp
    have:=Nz t (prS t v.length).1 ((u.length+(Az [y]).length:Nat):Int) zQ [y] u ([m]++v) 1 b (by rw [a];simp) (by rw [hv];exact hst) yB yB;rw [this];simp [prT,hk]
  ·
   have hst:prS t (v.length+1)=prS t v.length:=by
    rw [Nx];unfold DW;rw [hm,Ae ⟨hs,hk⟩]
   have:=Zg t l u ([m]++v) b (by rw [a];simp) (by rw [hv,hst];exact hs);rw [hv,hst] at this;rw [hv];simpa [prT,hk] using this
def Zg(t:zM):∀(l:List T) (u v:zM),T.wfs l=true->t=u++Az l++v->(prS t v.length).2.1<0->
  (prS t (v.length+(Az l).length)).1=(prS t v.length).1++Zf u.length l/\(prS t (v.length+(Az l).length)).2.1<0
 | [],u,v,_,_,hs=>by simp [AZ,Zf,hs]
 | y::l,u,v,hw,ht,hs=>by
  obtain ⟨c,b⟩:=Fw hw;have a:=Zg t l (u++y.flat) v b (by rw [ht,Bg];simp) hs;have:=prS_T t y u (Az l++v) c (by rw [ht,Bg];simp) (by rw [Ab,Nat.add_comm];exact a.2);rw [Bg,Ab,show v.length+(y.flat.length+(Az l).length)=(Az l++v).length+y.flat.length by simp;omega];refine ⟨?_,this.2⟩;rw [this.1,Ab,Nat.add_comm (Az l).length,a.1];simp [Zf]
end
def US{x:T}(h:x.wf=true): RD x.flat=prT 0 x:=by
 have:=(prS_T x.flat x [] [] h yB (by simp [prS])).1;simpa [RD,prS] using this
mutual
def YX:∀(x:T) (u v:zM),(prT u.length x).foldl Aa2 (u++x.flat++v)=u++(erT x).flat++v
 | .mk m l,u,v=>by
  by_cases hk:m.K=28
  ·
   simp only [prT,erT,hk,if_true,List.foldl_cons,List.foldl_nil,Aa2,Bf,Int.toNat_natCast,AZ,List.nil_append];have a:u.length+(Az l).length+1=(u++(Az l++[m])).length:=by simp;omega
   rw [a,List.drop_left' rfl,AW u,List.take_left' rfl]
  ·simp only [prT,erT,hk,if_false,Bf];have:=UG l u ([m]++v);simpa using this
def UG:∀(l:List T) (u v:zM),(Zf u.length l).foldl Aa2 (u++Az l++v)=u++Az (K2 l)++v
 | [],u,v=>by simp [Zf,K2,AZ]
 | y::l,u,v=>by
  simp only [Zf,K2,Bg,List.foldl_append];have a:=UG l (u++y.flat) v;have b:=YX y u (Az (K2 l)++v);rw [Ab] at a;rw [show u++(y.flat++Az l)++v=u++y.flat++Az l++v by simp,a,show u++y.flat++Az (K2 l)++v=u++y.flat++(Az (K2 l)++v) by simp,b];simp
end
def T0{x:T}(h:x.wf=true): Ll x.flat (RD x.flat)=(erT x).flat:=by
 rw [US h];have:=YX x [] [];simpa [Ll] using this
mutual
def Wf:∀x:T,x.wf=true->(erT x).wf=true/\(erT x).deep<=x.deep/\(erT x).flat.length<=x.flat.length
 | .mk m l,hw=>by
  obtain ⟨c,f,b⟩:=EQ hw;by_cases hk:m.K=28
  ·simp only [erT,hk,if_true,Gx,T.wfs,T.deep,Cg,Bf,AZ,Ab,Ar,AD,Bool.and_true];refine ⟨by decide,by omega,by omega⟩
  ·obtain ⟨a,i2,e,d⟩:=Wc l b;simp only [erT,hk,if_false,Gx,T.deep,Bf,Ab,AD,A5,beq_iff_eq];exact ⟨⟨⟨c,by omega⟩,a⟩,by omega,by omega⟩
def Wc:∀l:List T,T.wfs l=true->T.wfs (K2 l)=true/\Cg (K2 l)<=Cg l/\(Az (K2 l)).length<=(Az l).length/\(K2 l).length=l.length
 | [],_=>by simp [K2,T.wfs]
 | y::l,hw=>by
  obtain ⟨b,a⟩:=Fw hw;obtain ⟨d,i,h⟩:=Wf y b;obtain ⟨c,g,f,e⟩:=Wc l a;simp only [K2,T.wfs,Cg,Bg,Ab,Af,d,c,Bool.and_self,true_and];refine ⟨by omega,by omega,by omega⟩
end
mutual
def ZC:∀x:T,∀n∈(erT x).flat,n.K≠28
 | .mk m l=>by
  by_cases hk:m.K=28
  ·simp [erT,hk,Bf,AZ]
  ·
   simp only [erT,hk,if_false,Bf,Bi,A7];rintro n (h|rfl)
   ·exact Wd l n h
   ·exact hk
def Wd:∀l:List T,∀n∈Az (K2 l),n.K≠28
 | []=>by simp [K2,AZ]
 | y::l=>by
  simp only [K2,Bg,Bi];rintro n (h|h)
  ·exact ZC y n h
  ·exact Wd l n h
end
mutual
def ZD:∀x:T,∀n∈(erT x).flat,n=AbS\/n∈x.flat
 | .mk m l=>by
  by_cases hk:m.K=28
  ·simp [erT,hk,Bf,AZ]
  ·
   simp only [erT,hk,if_false,Bf,Bi,A7];rintro n (h|rfl)
   ·
    rcases We l n h with h|h
    ·exact .inl h
    ·exact .inr (.inl h)
   ·exact .inr (.inr rfl)
def We:∀l:List T,∀n∈Az (K2 l),n=AbS\/n∈Az l
 | []=>by simp [K2,AZ]
 | y::l=>by
  simp only [K2,Bg,Bi];rintro n (h|h)
  ·
   rcases ZD y n h with h|h
   ·exact .inl h
   ·exact .inr (.inl h)
  ·
   rcases We l n h with h|h
   ·exact .inl h
   ·exact .inr (.inr h)
end
end
section
def frL(t:zM)(e:Nat): Nat:=match De [] (t.take (e+1)) with
 | some st=>(Az st.dropLast).length
 | none=>0
def C3(t:zM)(e j:Nat): Nat:=match De [] (t.take e) with
 | some st=>(Az (st.take (st.length-j))).length
 | none=>0
def U4{st:List T}(h:De [] t=some st)(k:Nat):∃s,De [] (t.take k)=some s:=by
 have a:=h;rw [<-List.take_append_drop k t,Em] at a;cases hs:De [] (t.take k) with
 | none=>rw [hs] at a;cases a
 | some s=>exact ⟨s,rfl⟩
def G7(h:Bn t=true)(k:Nat):∃s,De [] (t.take k)=some s:=by
 obtain ⟨x,hs,_⟩:=DN h;exact U4 hs k
def BR(h:Bn t=true): (Aq t).wf=true/\(Aq t).flat=t:=by
 obtain ⟨x,_,_,a,b⟩:=DN h;rw [<-b,Da a];exact ⟨a,rfl⟩
def ET{x:T}(h:x.wf=true): Bn x.flat=true:=by
 unfold Bn;rw [HJ [] x h];rfl
def Br(h:chk t=0): Bn t=true:=by
 obtain ⟨x,a,rfl,_⟩:=PD.1 h;exact ET a
def Cz(h:Bn t=true): 0<t.length:=by
 obtain ⟨x,_,_,_,rfl⟩:=DN h;exact EK x
def Lc{st:List T}(b:T.wfs st=true)(m:Nat): De [] (Az (st.take m))=some (st.take m):=by
 have c:T.wfs (st.take m)=true:=(FM _).2 fun x a=>(FM _).1 b x (List.mem_of_mem_take a);simpa using GP [] _ c
def E1(st:List T)(m:Nat): Az st=Az (st.take m)++Az (st.drop m):=by rw [<-BN,List.take_append_drop]
def Jh(h:Bn t=true)(a:e<=t.length): C3 t e 0=e:=by
 obtain ⟨b,hs⟩:=G7 h e;unfold C3;rw [hs];simp only [Nat.sub_zero,CD];rw [(G4 hs (by simp [T.wfs])).1];simp [AZ,a]
def L2{st:List T}(h:Bn t=true)(a:e<t.length)(hs:De [] (t.take e)=some st): right (nth t e)=true/\many (nth t e)<=st.length:=
 RW h hs a
def Cy(h:Bn t=true)(a:e<t.length): right (nth t e)=true:=by
 obtain ⟨b,hs⟩:=G7 h e;exact (L2 h a hs).1
def Ji(h:Bn t=true)(o:e<t.length)(hj:j<many (nth t e)): 0<C3 t e j/\C3 t e j<=e/\frL t (C3 t e j-1)=C3 t e (j+1)/\C3 t e (j+1)<C3 t e j:=by
 obtain ⟨a,hs⟩:=G7 h e;obtain ⟨_,hm⟩:=L2 h o hs;obtain ⟨f,n⟩:=G4 hs (by simp [T.wfs]);simp only [AZ,List.nil_append] at f;have hp:∀i,C3 t e i=(Az (a.take (a.length-i))).length:=fun i=>by unfold C3;rw [hs]
 have c:∀i,(Az (a.take i)).length<=e:=fun i=>by
  have p:=congrArg List.length (E1 a i);rw [f,Ak,Ab] at p;omega
 have b:a.take (a.length-j)=a.take (a.length-(j+1))++[a[a.length-(j+1)]'(by omega)]:=by
  rw [show a.length-j=a.length-(j+1)+1 by omega,List.take_add_one,Bk zQ];rfl
 have k:C3 t e j=C3 t e (j+1)+(a[a.length-(j+1)]'(by omega)).flat.length:=by
  rw [hp,hp,b,BN,D5,Ab]
 have g:=EK (a[a.length-(j+1)]'(by omega));refine ⟨by omega,by rw [hp];exact c _,?_,by omega⟩;unfold frL;have d:t.take (C3 t e j-1+1)=Az (a.take (a.length-j)):=by
  rw [show C3 t e j-1+1=C3 t e j by omega,hp];have m:=E1 a (a.length-j);rw [f] at m;have l:=congrArg (List.take (Az (a.take (a.length-j))).length) m;rw [IJ,List.take_left' rfl,Nat.min_eq_left (c _)] at l;exact l
 rw [d,Lc n,b];simp only [List.dropLast_concat];rw [hp]
def RE(h:Bn t=true)(a:e<t.length): C3 t e (many (nth t e))=frL t e:=by
 obtain ⟨d,hs⟩:=G7 h e;obtain ⟨b,hm⟩:=L2 h a hs;have c:=Fo hs a;unfold C3 frL;rw [hs,c];unfold Fp;rw [Ae (by simp [b,hm])];simp
def ptL(t:zM): zL:=(Aq t).args.map T.flat
def DD(h:Bn t=true):∃n l,Aq t=.mk n l/\right n=true/\many n=l.length/\T.wfs l=true/\t=Az l++[n]/\nth t (t.length-1)=n/\(Az l).length=t.length-1/\De [] (t.take (t.length-1))=some l:=by
 obtain ⟨b,a⟩:=BR h;rcases hx:Aq t with ⟨n,l⟩;rw [hx] at b a;obtain ⟨e,d,c⟩:=EQ b;rw [Bf] at a;have hl:(Az l).length=t.length-1:=by rw [<-a];simp
 refine ⟨n,l,rfl,e,d,c,a.symm,?_,hl,?_⟩
 ·rw [<-hl,<-a];simp [nth]
 ·rw [<-hl,<-a,List.take_left' rfl];simpa using GP [] l c
def OT(h:Bn t=true)(j:Nat): C3 t (t.length-1) j=(Az ((Aq t).args.take ((Aq t).args.length-j))).length:=by
 obtain ⟨n,l,a,_,_,_,_,_,_,hs⟩:=DD h;unfold C3;rw [hs,a];rfl
def FB(h:Bn t=true): many (nth t (t.length-1))=(Aq t).args.length:=by
 obtain ⟨n,l,a,_,c,_,_,b,_,_⟩:=DD h;rw [b,c,a];rfl
def ptD(t:zM)(j:Nat): zL:=((Aq t).args.drop ((Aq t).args.length-j)).map T.flat
def KA(t:zM): ptD t 0=[]:=by simp [ptD]
def SY(h:Bn t=true)(hj:j<=many (nth t (t.length-1))): (ptD t j).length=j:=by
 rw [FB h] at hj;simp [ptD];omega
def Nv(h:Bn t=true): ptD t (many (nth t (t.length-1)))=ptL t:=by
 rw [FB h];simp [ptD,ptL]
def XF{a:Nat}(h:Bn t=true)(hj:j<many (nth t (t.length-1)))(e:a=C3 t (t.length-1) (j+1))(hb:b=C3 t (t.length-1) j): (t.drop a).take (b-a)::ptD t j=ptD t (j+1):=by
 have hm:=FB h;obtain ⟨n,l,g,_,m,_,k,_,_,_⟩:=DD h;rw [OT h] at e hb;rw [hm,g] at hj;unfold ptD;rw [g] at e hb ⊢;simp only [T.args] at e hb hj ⊢;have i:l.length-(j+1)<l.length:=by omega
 have hd:l.drop (l.length-(j+1))=l[l.length-(j+1)]::l.drop (l.length-j):=by
  rw [List.drop_eq_getElem_cons i,show l.length-(j+1)+1=l.length-j by omega]
 have c:l.take (l.length-j)=l.take (l.length-(j+1))++[l[l.length-(j+1)]]:=by
  rw [show l.length-j=l.length-(j+1)+1 by omega,List.take_add_one,Bk i];rfl
 have d:Az l=Az (l.take (l.length-(j+1)))++(l[l.length-(j+1)].flat++Az (l.drop (l.length-j))):=by
  rw [E1 l (l.length-(j+1)),hd,Bg]
 rw [hd,AA];congr 1;have f:b-a=l[l.length-(j+1)].flat.length:=by
  rw [e,hb,c,BN,D5,Ab];omega
 rw [f,e,k,d,AW,List.drop_left' rfl,AW,List.take_left' rfl]
def GU{p:zM}(h:Bn t=true)(d:p∈ptL t): Bn p=true/\p.length<t.length/\(∀n∈p,n∈t):=by
 obtain ⟨n,l,e,_,j,i,g,_,h6,_⟩:=DD h;unfold ptL at d;rw [e] at d;obtain ⟨y,c,rfl⟩:=Do.1 d;simp only [T.args] at c;have f:=(FM l).1 i y c;obtain ⟨a,b,rfl⟩:=List.append_of_mem c;refine ⟨ET f,?_,fun m hm=>?_⟩
 ·have:=Cz h;rw [BN,Bg] at h6;simp only [Ab] at h6;omega
 ·rw [g,BN,Bg];simp [hm]
def Cl(h:Bn t=true): (ptL t).length=many (nth t (t.length-1)):=by rw [FB h];simp [ptL]
def Qn{p:zM}(h:sml t)(b:∀n∈p,n∈t): sml p:=fun k hk=>by
 have d:=b _ (JE hk);obtain ⟨i,hi,c⟩:=List.getElem_of_mem d;have a:=h i hi;have:nth t i=t[i]:=by simp [nth,hi]
 rw [this,c] at a;exact a
end
section
section
def St.sub(h:St w0 Z M w m ds)(hd:∀d∈ds',d∈ds): St w0 Z M w m ds':=⟨h.os,h.tape,h.output,h.size,h.old,h.hold,h.own,h.apart,fun d a=>h.dat d (hd d a)⟩
def GL:∀d∈([]:zP),d∈ds:=fun _ h=>by cases h
def AX{d:Dat}{l:zP}(h:ds[i]?=some d)(hl:∀x∈l,x∈ds):∀x∈d::l,x∈ds:=fun x a=>by
 rcases Aj.1 a with rfl|a
 ·exact A0 h
 ·exact hl x a
end
def Bv(l:zL)(k:Nat): zM:=l.getD k []
def E8(a b:zN): AK (a++b)=AK a++AK b:=by simp [AK]
def KG{c:Nat}: AK [((A,c,L):Sl)]=[L]:=rfl
def AQ(a:zN): (AK a).length=a.length:=by simp [AK]
def Av(a:zN)(k:Nat): (At a k).2.2=Bv (AK a) k:=by
 unfold At Bv AK;rw [AC,AC,FT];cases a[k]?<;>rfl
def Eh{l:zL}(h:k<l.length): Bv l k∈l:=by
 have:Bv l k=l[k]:=by simp [Bv,h]
 rw [this];exact List.getElem_mem h
def Uq{l:zL}(h:k<l.length): l.take (k+1)=l.take k++[Bv l k]:=by
 rw [List.take_add_one,Bk h];simp [Bv,h]
def Q5(h:Bn t=true)(hs:sml t)(b:AK Ls=ptL t)(hk:k<Ls.length):
  (At Ls k).2.2=Bv (ptL t) k/\k<(ptL t).length/\Bn (At Ls k).2.2=true/\(At Ls k).2.2.length<t.length/\sml (At Ls k).2.2/\0<(At Ls k).2.2.length:=by
 have e:=Av Ls k;rw [b] at e;have a:k<(ptL t).length:=by rw [<-b,AQ];exact hk
 obtain ⟨c,f,d⟩:=GU h (Eh a);rw [e];exact ⟨rfl,a,c,f,Qn hs d,Cz c⟩
def JD{c a:Nat}(hb:Bn t=true)(e:AK Ls=ptD t k)(hk:k<many (nth t (t.length-1)))(d:a=C3 t (t.length-1) (k+1))(hbb:b=C3 t (t.length-1) k):
  AK ([((A,c,(t.drop a).take (b-a)):Sl)]++Ls)=ptD t (k+1):=by
 rw [E8,KG,e,<-XF hb hk d hbb];rfl
def F4(l:List T): (l.map T.flat).flatten=Az l:=by
 induction l with
 | nil=>simp [AZ]
 | cons t l ih=>simp [Bg,ih]
def Tz{l:zL}(h:∀p∈l,p.length<=b): l.flatten.length<=l.length*b:=by
 induction l with
 | nil=>simp
 | cons p l ih=>
  have c:=h p yB;have a:=ih (fun q hq=>h q (by simp [hq]));simp only [BO,Ab,Af,Nat.add_mul];omega
def erL(t:zM): zM:=(erT (Aq t)).flat
def Yk(l:List T): K2 l=l.map erT:=by
 induction l with
 | nil=>rfl
 | cons t l ih=>simp [K2,ih]
def XP{l:List T}(h:T.wfs l=true)(f:T->β): (l.map T.flat).map (fun p=>f (Aq p))=l.map f:=by
 rw [List.map_map];refine List.map_congr_left fun y a=>?_;simp only [Function.comp];rw [Da ((FM l).1 h y a)]
def Abu(h:Bn t=true)(hk:(nth t (t.length-1)).K=28): erL t=[AbS]:=by
 obtain ⟨n,l,a,_,_,_,_,b,_,_⟩:=DD h;rw [b] at hk;simp [erL,a,erT,hk,Bf,AZ]
def Wg(h:Bn t=true)(hk:¬(nth t (t.length-1)).K=28): erL t=((ptL t).map erL).flatten++[nth t (t.length-1)]:=by
 obtain ⟨n,l,a,_,_,c,_,b,_,_⟩:=DD h;rw [b] at hk ⊢;have h6:(ptL t).map erL=l.map (fun y=>(erT y).flat):=by
  unfold ptL;rw [a];exact XP c (fun y=>(erT y).flat)
 rw [h6];unfold erL;rw [a];simp only [erT,hk,if_false,Bf,Yk];rw [<-F4,List.map_map];rfl
def Abv(h:Bn t=true): (erL t).length<=t.length:=by
 obtain ⟨a,b⟩:=BR h;have:=(Wf _ a).2.2;rw [b] at this;exact this
def era_eq(h:Bn t=true): Ll t (RD t)=erL t:=by
 obtain ⟨a,b⟩:=BR h;have:=T0 a;rw [b] at this;exact this
def NG{f:zM->zM}{c:Nat}(b:AK Ls=((ptL t).take k).map f)(hk:k<(ptL t).length)(a:L=f (Bv (ptL t) k)):
  AK (Ls++[((A,c,L):Sl)])=((ptL t).take (k+1)).map f:=by
 rw [E8,KG,b,Uq hk,Cq,a];rfl
def RB(h:Bn t=true): (ptL t).length<=8:=by
 rw [Cl h];exact Eo (Cy h (by have:=Cz h;omega))
end
section
def erA(t:zM): zM:=if chk t=0 then erL t else []
def Sp(h:chk t=0): erA t=erL t:=Ae h
def ZE(h:¬chk t=0): erA t=[]:=Ac h
def J7: sml t↔∀n∈t,n.S.size<1000000:=by
 constructor
 ·intro h n hn;obtain ⟨i,hi,rfl⟩:=List.getElem_of_mem hn;have:=h i hi;simpa [nth,hi] using this
 ·intro h k hk;exact h _ (JE hk)
def S3{x:T}(a:x.wf=true)(hd:x.deep<=60)(hl:x.flat.length<=4000): chk x.flat=0:=PD.2 ⟨x,a,rfl,hl,hd⟩
def Wh(hc:chk t=0)(hs:sml t): sml (erL t)/\chk (erL t)=0/\(erL t).length<=t.length/\erL (erL t)=erL t/\(∀k,k<(erL t).length->(nth (erL t) k).K≠28):=by
 obtain ⟨o,f,hd,hl⟩:=Dg hc;obtain ⟨i,p,g⟩:=Wf _ o;rw [f] at g;have a:=ZC (Aq t);have b:∀x:T,(∀n∈x.flat,n.K≠28)->erT x=x:=by
  have c:(∀x:T,(∀n∈x.flat,n.K≠28)->erT x=x):=by
   intro x;refine T.rec (motive_1:=fun x=>(∀n∈x.flat,n.K≠28)->erT x=x) (motive_2:=fun l=>(∀n∈Az l,n.K≠28)->K2 l=l) ?_ ?_ ?_ x
   ·intro n l j h;have hk:n.K≠28:=h n (by simp [Bf]);simp only [erT,hk,if_false];rw [j (fun m hm=>h m (by simp [Bf,hm]))]
   ·intro _;rfl
   ·intro y l e d h;simp only [K2];rw [e (fun m hm=>h m (by simp [Bg,hm])),d (fun m hm=>h m (by simp [Bg,hm]))]
  exact c
 refine ⟨J7.2 fun n hn=>?_,S3 i zQ (by show (erT (Aq t)).flat.length<=4000;omega),g,?_,fun k hk=>a _ (JE hk)⟩
 ·
  rcases ZD _ n hn with rfl|h
  ·decide
  ·rw [f] at h;exact J7.1 hs n h
 ·
  show (erT (Aq (erT (Aq t)).flat)).flat=(erT (Aq t)).flat
  rw [Da i,b _ a]
def Pv{f:zM->List α}(h:Bn t=true)(hf:∀p∈ptL t,(f p).length<=p.length)(k:Nat): (((ptL t).take k).map f).flatten.length<=8*t.length:=by
 have d:=RB h;have a:∀l:zL,(∀p∈l,(f p).length<=t.length)->(l.map f).flatten.length<=l.length*t.length:=by
  intro l;induction l with
  | nil=>simp
  | cons p l ih=>
   intro hl;have e:=hl p yB;have a:=ih (fun q hq=>hl q (by simp [hq]));simp only [AA,BO,Ab,Af,Nat.add_mul];omega
 have c:=a ((ptL t).take k) (fun p hp=>by
  have hm:=List.mem_of_mem_take hp;have:=hf p hm;have:=(GU h hm).2.1
  omega)
 have b:((ptL t).take k).length<=8:=by rw [Ak];omega
 exact Ax c (Nat.mul_le_mul_right _ b)
def HV(p:zN)(k:Nat): (AK (p.take k)).flatten.length<=(AK p).flatten.length:=by
 have h:AK p=AK (p.take k)++AK (p.drop k):=by rw [<-E8,List.take_append_drop]
 rw [h,List.flatten_append,Ab];omega
end
section
def AaG{p:zM}(h:chk t=0)(a:p∈ptL t): chk p=0:=by
 obtain ⟨e,f,hd,hl⟩:=Dg h;obtain ⟨n,l,c,_,_,d,_,_,_,_⟩:=DD (Br h);have i:=(GU (Br h) a).2.1;unfold ptL at a;rw [c] at a hd;obtain ⟨y,b,rfl⟩:=Do.1 a;simp only [T.args] at b;have g:=Su b;rw [IA] at hd;exact S3 ((FM l).1 d y b) zQ zQ
def Xv{l:List α}(h:j<l.length): l=l.take j++l[j]::l.drop (j+1):=by
 rw [<-List.drop_eq_getElem_cons h,List.take_append_drop]
def AaF(h:Bn t=true)(hj:j<(ptL t).length):∃a:j<(Aq t).args.length,Bv (ptL t) j=((Aq t).args[j]).flat/\Aq (Bv (ptL t) j)=(Aq t).args[j]:=by
 obtain ⟨n,l,b,_,_,c,_,_,_,_⟩:=DD h;have a:j<(Aq t).args.length:=by simpa [ptL] using hj
 have e:Bv (ptL t) j=((Aq t).args[j]).flat:=by simp [Bv,ptL,a]
 refine ⟨a,e,?_⟩;rw [e,Da];have:(Aq t).args=l:=by rw [b];rfl
 exact (FM l).1 c _ (by rw [<-this];exact List.getElem_mem a)
def Y4(h:Bn t=true)(hj:j<(ptL t).length)(u:Int): ((binds (nth t (t.length-1))).map (u+·))=((binds (nth t (t.length-1))).map (u+·)).take j++(u+C7 (binds (nth t (t.length-1))) j)::((binds (nth t (t.length-1))).map (u+·)).drop (j+1):=by
 have hl:j<(binds (nth t (t.length-1))).length:=by rw [Cl h] at hj;exact hj
 have:=Xv (l:=(binds (nth t (t.length-1))).map (u+·)) (j:=j) (by simpa using hl);rw [List.getElem_map] at this;have e:C7 (binds (nth t (t.length-1))) j=(binds (nth t (t.length-1)))[j]:=by simp [C7,hl]
 rw [e];exact this
def Ue(h:Bn t=true)(hk:(nth t (t.length-1)).K=0): 0<=(nth t (t.length-1)).N/\(nth t (t.length-1)).N<=99:=by
 have a:=Cy h (show t.length-1<t.length by have:=Cz h;omega);rw [Jf hk,A9] at a;exact ⟨a.1,a.2.1⟩
end
section
variable {Q:Nd->Prop}{b e k m:Int}
abbrev VR:=Nd->Int->Int×T
mutual
def trE(V:VR)(u:Int): T->Int
 | .mk n l=>if n.K=0 then (V n u).1 else FO V l ((binds n).map (u+·))
def FO(V:VR): List T->zK->Int
 | [],_=>0
 | _::_,[]=>0
 | t::l,u::us=>if trE V u t=0 then FO V l us else trE V u t
end
mutual
def trT(V:VR)(u:Int): T->T
 | .mk n l=>if n.K=0 then (V n u).2 else .mk n (Hg V l ((binds n).map (u+·)))
def Hg(V:VR): List T->zK->List T
 | [],_=>[]
 | _::_,[]=>[]
 | t::l,u::us=>trT V u t::Hg V l us
end
def FU(V:VR)(t:zM)(u:Int): Int:=trE V u (Aq t)
def trL(V:VR)(t:zM)(u:Int): zM:=if FU V t u=0 then (trT V u (Aq t)).flat else []
def Nc(V:VR)(t:zM)(u:Int)(j:Nat): Int:=FO V ((Aq t).args.take j) ((binds (nth t (t.length-1))).map (u+·))
def PZ(V:VR)(t:zM)(u:Int)(j:Nat): zL:=(Hg V ((Aq t).args.take j) ((binds (nth t (t.length-1))).map (u+·))).map T.flat
def O8(V:VR):∀(l:List T) (t:T) (us:zK) (u:Int),l.length=us.length->∀vs,FO V (l++[t]) (us++u::vs)=if FO V l (us++u::vs)=0 then trE V u t else FO V l (us++u::vs)
 | [],t,[],u,_,vs=>by
  simp only [List.nil_append,FO,if_true];split
  ·rename_i h;exact h.symm
  ·rfl
 | y::l,t,v::us,u,h,vs=>by
  simp only [List.cons_append,FO];rw [O8 V l t us u (by simpa using h) vs];by_cases a:trE V v y=0
  ·simp [a]
  ·simp [a]
 | [],_,_::_,_,h,_=>by simp at h
 | _::_,_,[],_,h,_=>by simp at h
def O6(V:VR):∀(l:List T) (t:T) (us:zK) (u:Int),l.length=us.length->∀vs,Hg V (l++[t]) (us++u::vs)=Hg V l (us++u::vs)++[trT V u t]
 | [],t,[],u,_,vs=>by simp [Hg]
 | y::l,t,v::us,u,h,vs=>by
  simp only [List.cons_append,Hg];rw [O6 V l t us u (by simpa using h) vs]
 | [],_,_::_,_,h,_=>by simp at h
 | _::_,_,[],_,h,_=>by simp at h
def KX(V:VR)(t:zM)(u:Int): Nc V t u 0=0/\PZ V t u 0=[]:=by simp [Nc,PZ,FO,Hg]
def Ul{V:VR}(h:Bn t=true)(hj:j<(ptL t).length):
  Nc V t u (j+1)=(if Nc V t u j=0 then FU V (Bv (ptL t) j) (u+C7 (binds (nth t (t.length-1))) j) else Nc V t u j)/\
  PZ V t u (j+1)=PZ V t u j++[(trT V (u+C7 (binds (nth t (t.length-1))) j) (Aq (Bv (ptL t) j))).flat]:=by
 obtain ⟨b,d,c⟩:=AaF h hj;have hb:=Y4 h hj u;have hl:j<(binds (nth t (t.length-1))).length:=by rw [Cl h] at hj;exact hj
 have ht:(Aq t).args.take (j+1)=(Aq t).args.take j++[(Aq t).args[j]]:=by
  rw [List.take_add_one,Bk b];rfl
 have a:((Aq t).args.take j).length=(((binds (nth t (t.length-1))).map (u+·)).take j).length:=by
  rw [Ak,Ak,BK];have:=FB h;have:(binds (nth t (t.length-1))).length=(Aq t).args.length:=this;omega
 unfold Nc PZ FU;rw [ht,c];constructor
 ·rw [hb,O8 V _ _ _ _ a]
 ·rw [hb,O6 V _ _ _ _ a,Cq];rfl
def Uk{V:VR}(h:Bn t=true)(hj:j<(ptL t).length)(h0:Nc V t u j=0)(a:FU V (Bv (ptL t) j) (u+C7 (binds (nth t (t.length-1))) j)=0):
  Nc V t u (j+1)=0/\PZ V t u (j+1)=PZ V t u j++[trL V (Bv (ptL t) j) (u+C7 (binds (nth t (t.length-1))) j)]:=by
 obtain ⟨b,c⟩:=Ul (V:=V) (u:=u) h hj;rw [Ae h0] at b;refine ⟨b.trans a,?_⟩;rw [c];unfold trL;rw [Ae a]
def O7(V:VR):∀(l:List T) (us:zK) (j:Nat),FO V (l.take j) us≠0->FO V l us=FO V (l.take j) us
 | [],us,j,h=>by simp
 | y::l,us,0,h=>by simp [FO] at h
 | y::l,[],j+1,h=>by simp [FO] at h
 | y::l,u::us,j+1,h=>by
  simp only [List.take_succ_cons,FO] at h ⊢;by_cases a:trE V u y=0
  ·rw [Ae a] at h ⊢;rw [Ae a];exact O7 V l us j h
  ·rw [Ac a,Ac a]
def Um{V:VR}(h:Bn t=true)(hk:¬(nth t (t.length-1)).K=0): FU V t u=Nc V t u (ptL t).length/\(trT V u (Aq t)).flat=(PZ V t u (ptL t).length).flatten++[nth t (t.length-1)]:=by
 obtain ⟨n,l,b,_,_,_,_,a,_,_⟩:=DD h;rw [a] at hk;unfold FU Nc PZ ptL;rw [b,a];simp only [T.args,BK,CD,trE,trT,hk,if_false,Bf,true_and];rw [<-F4]
def tr_err{V:VR}(h:Bn t=true)(hk:¬(nth t (t.length-1)).K=0)(hj:j<(ptL t).length)(h0:Nc V t u j=0)(c:¬FU V (Bv (ptL t) j) (u+C7 (binds (nth t (t.length-1))) j)=0):
  FU V t u=FU V (Bv (ptL t) j) (u+C7 (binds (nth t (t.length-1))) j)/\trL V t u=[]:=by
 obtain ⟨b,_⟩:=Ul (V:=V) (u:=u) h hj;rw [Ae h0] at b;have a:FU V t u=Nc V t u (j+1):=by
  rw [(Um h hk).1];unfold Nc ptL;rw [BK,CD];exact O7 V _ _ _ (by have:=b▸c;exact this)
 rw [b] at a;refine ⟨a,?_⟩;unfold trL;rw [Ac (by rw [a];exact c)]
def Aae{V:VR}(h:Bn t=true)(hk:¬(nth t (t.length-1)).K=0)(h0:Nc V t u (ptL t).length=0):
  FU V t u=0/\trL V t u=(PZ V t u (ptL t).length).flatten++[nth t (t.length-1)]:=by
 obtain ⟨c,b⟩:=Um (V:=V) (u:=u) h hk;have a:FU V t u=0:=c.trans h0;refine ⟨a,?_⟩;unfold trL;rw [Ae a,b]
def KY{V:VR}(h:Bn t=true)(hk:(nth t (t.length-1)).K=0): FU V t u=(V (nth t (t.length-1)) u).1/\trL V t u=(if (V (nth t (t.length-1)) u).1=0 then (V (nth t (t.length-1)) u).2.flat else [])/\t=[nth t (t.length-1)]:=by
 obtain ⟨n,l,a,f,e,_,d,c,_,_⟩:=DD h;rw [c] at hk ⊢;have b:FU V t u=(V n u).1:=by unfold FU;rw [a];simp [trE,hk]
 refine ⟨b,?_,?_⟩
 ·unfold trL;rw [b,a];simp [trT,hk]
 ·have hl:l=[]:=Bw (by rw [<-e];simp [many,binds,hk,shp]);rw [d,hl];simp [AZ]
mutual
def YG{V:VR}{b:Nat}(hb:1<=b)(a:∀n u,(V n u).1=0->(V n u).2.flat.length<=b):∀(x:T) (u:Int),trE V u x=0->(trT V u x).flat.length<=x.flat.length*b
 | .mk n l,u,h=>by
  by_cases hk:n.K=0
  ·simp only [trE,trT,hk,if_true] at h ⊢;have:=a n u h;have c:=Nat.mul_le_mul_right b (EK (.mk n l));omega
  ·simp only [trE,trT,hk,if_false,Bf,Ab,AD,Nat.add_mul] at h ⊢;have:=Uo hb a l _ h;omega
def Uo{V:VR}{b:Nat}(hb:1<=b)(c:∀n u,(V n u).1=0->(V n u).2.flat.length<=b):∀(l:List T) (us:zK),FO V l us=0->(Az (Hg V l us)).length<=(Az l).length*b
 | [],us,_=>by simp [Hg,AZ]
 | y::l,[],_=>by simp [Hg,AZ]
 | y::l,u::us,h=>by
  simp only [FO] at h;by_cases a:trE V u y=0
  ·rw [Ae a] at h;simp only [Hg,Bg,Ab,Nat.add_mul];have:=YG hb c y u a;have:=Uo hb c l us h;omega
  ·rw [Ac a] at h;exact absurd h a
end
def VW(V:VR): Prop:=∀n u,right n=true->n.K=0->0<=u->(V n u).1=0->(V n u).2.wf=true
def Ui{n:Nd}(a:0<=u):∀v∈(binds n).map (u+·),0<=v:=by
 intro v hv;obtain ⟨b,hb,rfl⟩:=Do.1 hv;have:=Or n b hb;omega
mutual
def Aad{V:VR}(a:VW V):∀(x:T) (u:Int),x.wf=true->0<=u->trE V u x=0->(trT V u x).wf=true
 | .mk n l,u,hw,hu,h=>by
  obtain ⟨b,e,d⟩:=EQ hw;by_cases hk:n.K=0
  ·simp only [trE,trT,hk,if_true] at h ⊢;exact a n u b hk hu h
  ·simp only [trE,trT,hk,if_false,Gx,A5,beq_iff_eq] at h ⊢;obtain ⟨c,f⟩:=YF a l ((binds n).map (u+·)) d (Ui hu) (by simp [<-e,many]) h;exact ⟨⟨b,by omega⟩,c⟩
def YF{V:VR}(b:VW V):∀(l:List T) (us:zK),T.wfs l=true->(∀v∈us,0<=v)->l.length=us.length->FO V l us=0->T.wfs (Hg V l us)=true/\(Hg V l us).length=l.length
 | [],us,_,_,_,_=>by simp [Hg,T.wfs]
 | y::l,[],_,_,h,_=>by simp at h
 | y::l,u::us,hw,hu,hl,h=>by
  obtain ⟨f,e⟩:=Fw hw;simp only [FO] at h;by_cases a:trE V u y=0
  ·rw [Ae a] at h;obtain ⟨d,c⟩:=YF b l us e (fun v hv=>hu v (by simp [hv])) (by simpa using hl) h;have h6:=Aad b y u f (hu u yB) a;simp [Hg,T.wfs,d,c,h6]
  ·rw [Ac a] at h;exact absurd h a
end
mutual
def Un{V:VR}{e:Int}(a:∀n u,(V n u).1=0\/(V n u).1=e):∀(x:T) (u:Int),trE V u x=0\/trE V u x=e
 | .mk n l,u=>by
  simp only [trE];split
  ·exact a n u
  ·exact Rr a l _
def Rr{V:VR}{e:Int}(a:∀n u,(V n u).1=0\/(V n u).1=e):∀(l:List T) (us:zK),FO V l us=0\/FO V l us=e
 | [],us=>by simp [FO]
 | y::l,[]=>by simp [FO]
 | y::l,u::us=>by
  simp only [FO];split
  ·exact Rr a l us
  ·exact Un a y u
end
abbrev vN(m:Int): Nd:=⟨0,m,0,⟨#[]⟩⟩
def IR{n:Nd}(h:right n=true)(hk:n.K=0): n=vN n.N/\0<=n.N/\n.N<=99:=by
 rw [Jf hk,A9] at h;obtain ⟨K,N,M,S⟩:=n;obtain ⟨d,c,b,a⟩:=h;simp only at hk d c b a;subst hk b a;exact ⟨rfl,d,c⟩
def Rp(b:0<=m)(a:m<=99): right (vN m)=true:=by
 rw [Jf rfl];simp [b,a]
def Xp(b:0<=m)(a:m<=99): (T.mk (vN m) []).wf=true:=by
 rw [Gx];simp [Rp b a,many,binds,shp,T.wfs]
def shV(by_ fr:Int): VR:=fun n u=>if fr<=n.N-u then (if n.N+by_-u<fr then (30,.mk n []) else if 99<n.N+by_ then (2,.mk n []) else (0,.mk (vN (n.N+by_)) [])) else (0,.mk n [])
def Uz(by_ fr:Int)(n:Nd)(u:Int): (shV by_ fr n u).2.flat.length<=1:=by
 unfold shV
 (repeat' split)<;>simp [Bf,AZ]
def shV_wf{fr:Int}(hf:0<=fr): VW (shV by_ fr):=by
 intro n u b hk i h;obtain ⟨e,g,f⟩:=IR b hk;unfold shV at h ⊢;split
 ·
  rename_i d;rw [Ae d] at h;split
  ·rename_i a;rw [Ae a] at h;cases h
  ·
   rename_i a;rw [Ac a] at h;split
   ·rename_i c;rw [Ae c] at h;cases h
   ·exact Xp zQ zQ
 ·rw [e];exact Xp g f
def Aau{fr:Int}(hb:0<=by_)(n:Nd)(u:Int): (shV by_ fr n u).1=0\/(shV by_ fr n u).1=2:=by
 unfold shV;split
 ·
  split
  ·omega
  ·split<;>simp
 ·simp
def Au(n:Int): Int:=max (-1000) (min n 1000)
def sfE(t:zM)(by_ fr:Int): Int:=if chk t=0 then FU (shV (Au by_) (max 0 (Au fr))) t 0 else chk t
def sfA(t:zM)(by_ fr:Int): zM:=if chk t=0 then trL (shV (Au by_) (max 0 (Au fr))) t 0 else []
def Ih(h:chk t=0): sfE t b f=FU (shV (Au b) (max 0 (Au f))) t 0/\sfA t b f=trL (shV (Au b) (max 0 (Au f))) t 0:=⟨Ae h,Ae h⟩
def Ii(h:¬chk t=0): sfE t b f=chk t/\sfA t b f=[]:=⟨Ac h,Ac h⟩
def OE(h:¬sfE t b f=0): sfA t b f=[]:=by
 by_cases hc:chk t=0
 ·rw [(Ih hc).1] at h;rw [(Ih hc).2];unfold trL;rw [Ac h]
 ·exact (Ii hc).2
def Qi{V:VR}{b:Nat}(hb:1<=b)(c:∀n u,(V n u).1=0->(V n u).2.flat.length<=b)(h:Bn t=true)(u:Int): (trL V t u).length<=t.length*b:=by
 unfold trL;split
 ·rename_i a;have:=YG hb c (Aq t) u a;rw [(BR h).2] at this;exact this
 ·simp
def Nn(t:zM)(b f:Int): (sfA t b f).length<=t.length:=by
 by_cases hc:chk t=0
 ·rw [(Ih hc).2];have:=Qi (b:=1) (Ag _) (fun n u _=>Uz (Au b) (max 0 (Au f)) n u) (Br hc) 0;omega
 ·rw [(Ii hc).2];simp
def U0(h:sfE t b f=0): chk t=0/\(trT (shV (Au b) (max 0 (Au f))) 0 (Aq t)).wf=true/\sfA t b f=(trT (shV (Au b) (max 0 (Au f))) 0 (Aq t)).flat/\Aq (sfA t b f)=trT (shV (Au b) (max 0 (Au f))) 0 (Aq t)/\trE (shV (Au b) (max 0 (Au f))) 0 (Aq t)=0:=by
 have hc:chk t=0:=by
  by_cases hc:chk t=0
  ·exact hc
  ·rw [(Ii hc).1] at h;exact h
 obtain ⟨e,d⟩:=Ih (b:=b) (f:=f) hc;rw [e] at h;have a:=Aad (shV_wf (by_:=Au b) (fr:=max 0 (Au f)) zQ) (Aq t) 0 (BR (Br hc)).1 (Int.le_refl _) h;have c:sfA t b f=(trT (shV (Au b) (max 0 (Au f))) 0 (Aq t)).flat:=by
  rw [d];unfold trL;rw [Ae h]
 refine ⟨hc,a,c,?_,h⟩;rw [c,Da a]
def Mk(l:zL)(i:Int): zM:=Bv l i.toNat
def puV(k:Int)(l:zL): VR:=fun n u=>
 if n.N-u<k then (0,.mk n []) else if n.N-u<k+l.length then (sfE (Mk l (n.N-u-k)) (u+k) 0,Aq (sfA (Mk l (n.N-u-k)) (u+k) 0)) else (0,.mk (vN (n.N-l.length)) [])
def Rs(V:VR):∀(l:List T) (us:zK),l.length<=us.length->(Hg V l us).length=l.length
 | [],us,_=>by simp [Hg]
 | y::l,[],h=>by simp at h
 | y::l,u::us,h=>by simp [Hg,Rs V l us (by simpa using h)]
def Rt{V:VR}(h:Bn t=true)(hj:j<=(ptL t).length): (PZ V t u j).length=j:=by
 have a:=FB h;have c:=Cl h;have b:(binds (nth t (t.length-1))).length=(Aq t).args.length:=a;unfold PZ;rw [BK,Rs V _ _ (by rw [Ak,BK];omega),Ak];omega
def UO(h:Bn t=true)(hj:j<(ptL t).length):¬(nth t (t.length-1)).K=0:=fun hk=>by
 have b:=Cl h;have a:many (nth t (t.length-1))=0:=by simp [many,binds,hk,shp]
 omega
def YI{V:VR}(h:Bn t=true)(hj:j<(ptL t).length)(h0:Nc V t u j=0)(a:¬FU V (Bv (ptL t) j) (u+C7 (binds (nth t (t.length-1))) j)=0):
  FU V t u=FU V (Bv (ptL t) j) (u+C7 (binds (nth t (t.length-1))) j)/\trL V t u=[]:=tr_err h (UO h hj) hj h0 a
def Up{V:VR}(h:Bn t=true)(hv:(nth t (t.length-1)).K=0->V (nth t (t.length-1)) u=(0,.mk (nth t (t.length-1)) []))(h0:Nc V t u (ptL t).length=0):
  FU V t u=0/\trL V t u=(PZ V t u (ptL t).length).flatten++[nth t (t.length-1)]:=by
 by_cases hk:(nth t (t.length-1)).K=0
 ·
  obtain ⟨b,a,d⟩:=KY (V:=V) (u:=u) h hk;rw [hv hk] at b a;have c:(ptL t).length=0:=by rw [Cl h];simp [many,binds,hk,shp]
  rw [c];refine ⟨b,?_⟩;rw [a,(KX V t u).2];simp [Bf,AZ]
 ·exact Aae h hk h0
def tr_nm{V:VR}{b:Nat}(hb:1<=b)(a:∀n u,(V n u).1=0->(V n u).2.flat.length<=b)(h:Bn t=true)(hv:(nth t (t.length-1)).K=0->V (nth t (t.length-1)) u=(0,.mk (nth t (t.length-1)) []))(h0:Nc V t u (ptL t).length=0):
  (PZ V t u (ptL t).length).flatten.length<=t.length*b:=by
 have c:=Qi hb a h u;rw [(Up h hv h0).2,Ab] at c;omega
mutual
def tr_in{V:VR}{Q:Nd->Prop}(a:∀n u,Q n->∀m∈(V n u).2.flat,Q m):∀(x:T) (u:Int),(∀n∈x.flat,Q n)->∀m∈(trT V u x).flat,Q m
 | .mk n l,u,h=>by
  by_cases hk:n.K=0
  ·simp only [trT,hk,if_true];exact a n u (h n (by simp [Bf]))
  ·
   simp only [trT,hk,if_false,Bf,Bi,A7];rintro m (hm|rfl)
   ·exact YH a l _ (fun n hn=>h n (by simp [Bf,hn])) m hm
   ·exact h m (by simp [Bf])
def YH{V:VR}{Q:Nd->Prop}(a:∀n u,Q n->∀m∈(V n u).2.flat,Q m):∀(l:List T) (us:zK),(∀n∈Az l,Q n)->∀m∈Az (Hg V l us),Q m
 | [],us,_=>by simp [Hg,AZ]
 | y::l,[],_=>by simp [Hg,AZ]
 | y::l,u::us,h=>by
  simp only [Hg,Bg,Bi];rintro m (hm|hm)
  ·exact tr_in a y u (fun n hn=>h n (by simp [Bg,hn])) m hm
  ·exact YH a l us (fun n hn=>h n (by simp [Bg,hn])) m hm
end
def Nb{V:VR}(a:∀n u,n.S.size<1000000->∀m∈(V n u).2.flat,m.S.size<1000000)(h:Bn t=true)(hs:sml t)(u:Int): sml (trL V t u):=by
 rw [J7] at hs ⊢;unfold trL;split
 ·refine tr_in (Q:=fun n=>n.S.size<1000000) a (Aq t) u ?_;rw [(BR h).2];exact hs
 ·simp
def Aat{b f:Int}:∀n u,n.S.size<1000000->∀m∈(shV b f n u).2.flat,m.S.size<1000000:=by
 intro n u h;unfold shV
 (repeat' split)<;>simp [Bf,AZ,h]<;>decide
def U2(hs:sml t): sml (sfA t b f):=by
 by_cases hc:chk t=0
 ·rw [(Ih hc).2];exact Nb Aat (Br hc) hs 0
 ·rw [(Ii hc).2];intro k hk;simp at hk
def RN{l:zL}{i:Int}{Q:zM->Prop}(h:∀p∈l,Q p)(h0:Q []): Q (Mk l i):=by
 unfold Mk Bv;rw [AC];cases hx:l[i.toNat]? with
 | none=>exact h0
 | some p=>exact h p (A0 hx)
def Nm(h:sfE t b f=0): (Aq (sfA t b f)).flat=sfA t b f:=by
 obtain ⟨_,_,c,a,_⟩:=U0 h;rw [a,c]
def UN{l:zL}{b:Nat}(hb:1<=b)(hl:∀p∈l,p.length<=b):∀n u,(puV k l n u).1=0->(puV k l n u).2.flat.length<=b:=by
 intro n u h;unfold puV at h ⊢;by_cases c:n.N-u<k
 ·rw [Ae c];simpa [Bf,AZ] using hb
 ·
  rw [Ac c] at h ⊢;by_cases a:n.N-u<k+l.length
  ·rw [Ae a] at h ⊢;simp only at h ⊢;rw [Nm h];exact Ax (Nn _ _ _) (RN (Q:=fun p=>p.length<=b) hl yB)
  ·rw [Ac a];simpa [Bf,AZ] using hb
def Q2{k:Int}{l:zL}(hl:∀p∈l,sml p):∀n u,n.S.size<1000000->∀m∈(puV k l n u).2.flat,m.S.size<1000000:=by
 intro n u h;unfold puV;by_cases c:n.N-u<k
 ·rw [Ae c];simpa [Bf,AZ] using h
 ·
  rw [Ac c];by_cases b:n.N-u<k+l.length
  ·
   rw [Ae b];simp only;by_cases a:sfE (Mk l (n.N-u-k)) (u+k) 0=0
   ·rw [Nm a];exact J7.1 (U2 (RN (Q:=sml) hl (fun k hk=>by simp at hk)))
   ·rw [OE a];intro m hm;have:Aq []=.mk ndz []:=rfl;rw [this] at hm;simp [Bf,AZ] at hm;subst hm;decide
  ·rw [Ac b];simp [Bf,AZ];decide
def puV_wf{l:zL}(b:0<=k): VW (puV k l):=by
 intro n u a hk j h;obtain ⟨e,i,g⟩:=IR a hk;unfold puV at h ⊢;split
 ·rw [e];exact Xp i g
 ·
  rename_i f;rw [Ac f] at h;split
  ·rename_i d;rw [Ae d] at h;obtain ⟨_,c,_,h6,_⟩:=U0 h;simp only;rw [h6];exact c
  ·exact Xp zQ zQ
section
variable (h:Bn t=true) (hk:(nth t (t.length-1)).K=0)
include h hk
def Uy{fr:Int}(c:fr<=(nth t (t.length-1)).N-u)(a:(nth t (t.length-1)).N+b-u<fr): FU (shV b fr) t u=30/\trL (shV b fr) t u=[]:=by
 obtain ⟨e,d,_⟩:=KY (V:=shV b fr) (u:=u) h hk;rw [e,d];simp [shV,c,a]
def Nk{fr:Int}(d:fr<=(nth t (t.length-1)).N-u)(c:¬(nth t (t.length-1)).N+b-u<fr)(a:99<(nth t (t.length-1)).N+b): FU (shV b fr) t u=2/\trL (shV b fr) t u=[]:=by
 obtain ⟨f,e,_⟩:=KY (V:=shV b fr) (u:=u) h hk;rw [f,e];simp [shV,d,c,a]
def Nl{fr:Int}(d:fr<=(nth t (t.length-1)).N-u)(c:¬(nth t (t.length-1)).N+b-u<fr)(a:¬99<(nth t (t.length-1)).N+b): FU (shV b fr) t u=0/\trL (shV b fr) t u=[vN ((nth t (t.length-1)).N+b)]:=by
 obtain ⟨f,e,_⟩:=KY (V:=shV b fr) (u:=u) h hk;rw [f,e];simp [shV,d,c,a,Bf,AZ]
def AaC{l:zL}(a:(nth t (t.length-1)).N-u<k): FU (puV k l) t u=0/\trL (puV k l) t u=t:=by
 obtain ⟨d,c,b⟩:=KY (V:=puV k l) (u:=u) h hk;rw [d,c];simp only [puV,a,if_true,Bf,AZ,List.nil_append,true_and];exact b.symm
def XD{l:zL}(c:¬(nth t (t.length-1)).N-u<k)(b:(nth t (t.length-1)).N-u<k+l.length):
  FU (puV k l) t u=sfE (Mk l ((nth t (t.length-1)).N-u-k)) (u+k) 0/\trL (puV k l) t u=sfA (Mk l ((nth t (t.length-1)).N-u-k)) (u+k) 0:=by
 obtain ⟨e,d,f⟩:=KY (V:=puV k l) (u:=u) h hk;rw [e,d];simp only [puV,c,b,if_true,if_false,true_and];by_cases a:sfE (Mk l ((nth t (t.length-1)).N-u-k)) (u+k) 0=0
 ·rw [Ae a,Nm a]
 ·rw [Ac a,OE a]
def XE{l:zL}(b:¬(nth t (t.length-1)).N-u<k)(a:¬(nth t (t.length-1)).N-u<k+l.length):
  FU (puV k l) t u=0/\trL (puV k l) t u=[vN ((nth t (t.length-1)).N-l.length)]:=by
 obtain ⟨d,c,e⟩:=KY (V:=puV k l) (u:=u) h hk;rw [d,c];simp only [puV,b,a,if_true,if_false,true_and,Bf,AZ,List.nil_append]
end
def poE(t:zM)(k:Int)(l:zL): Int:=if FU (puV k l) t 0=0 then chk (trL (puV k l) t 0) else FU (puV k l) t 0
def poA(t:zM)(k:Int)(l:zL): zM:=if poE t k l=0 then trL (puV k l) t 0 else []
def RG{l:zL}(h:¬FU (puV k l) t 0=0): poE t k l=FU (puV k l) t 0/\poA t k l=[]:=by
 have:poE t k l=FU (puV k l) t 0:=by unfold poE;rw [Ac h]
 refine ⟨this,?_⟩;unfold poA;rw [this,Ac h]
def Jj{l:zL}(h:FU (puV k l) t 0=0): poE t k l=chk (trL (puV k l) t 0)/\poA t k l=if chk (trL (puV k l) t 0)=0 then trL (puV k l) t 0 else []:=by
 have:poE t k l=chk (trL (puV k l) t 0):=by unfold poE;rw [Ae h]
 refine ⟨this,?_⟩;unfold poA;rw [this]
end
section
variable {b:Int}{o:zM×Int}{x:Int×Int}
def stepS(b f:Int)(o:zM×Int)(x:Int×Int): zM×Int:=
 if (nth o.1 x.1.toNat).K=0/\¬(nth o.1 x.1.toNat).N-x.2<f then
  (o.1.set x.1.toNat ⟨(nth o.1 x.1.toNat).K,(nth o.1 x.1.toNat).N+b,(nth o.1 x.1.toNat).M,(nth o.1 x.1.toNat).S⟩,
   if (nth o.1 x.1.toNat).N+b-x.2<f then 30 else if 99<(nth o.1 x.1.toNat).N+b then 2 else o.2)
 else o
def Bb(b f:Int)(o:zM×Int)(pre:List (Int×Int)): zM×Int:=pre.foldl (stepS b f) o
def HU(b f:Int)(o:zM×Int)(pre:List (Int×Int))(x:Int×Int): Bb b f o (pre++[x])=stepS b f (Bb b f o pre) x:=by simp [Bb]
def Us(b f:Int)(o:zM×Int)(x:Int×Int): (stepS b f o x).1.length=o.1.length:=by
 unfold stepS;split<;>simp
def VK(b f:Int)(o:zM×Int)(pre:List (Int×Int)): (Bb b f o pre).1.length=o.1.length:=by
 induction pre generalizing o with
 | nil=>rfl
 | cons x pre ih=>
  show (Bb b f (stepS b f o x) pre).1.length=_;rw [ih,Us]
def Pu(b f:Int)(o:zM×Int)(p q:List (Int×Int)): Bb b f o (p++q)=Bb b f (Bb b f o p) q:=by simp [Bb]
def Md(b f:Int): VR:=fun n u=>((shV b f n u).1,if f<=n.N-u then .mk ⟨n.K,n.N+b,n.M,n.S⟩ [] else .mk n [])
def Ve{u v:zM}{n:Nd}: nth (u++[n]++v) u.length=n:=by simp [nth]
def Aav{u v:zM}{n m:Nd}: (u++[n]++v).set u.length m=u++[m]++v:=by simp
mutual
def ZA(b f:Int):∀(x:T) (k:Int) (u v:zM) (e:Int),x.wf=true->
  Bb b f (u++x.flat++v,e) (TI u.length k x)=(u++(trT (Md b f) k x).flat++v,if trE (Md b f) k x=0 then e else trE (Md b f) k x)
 | .mk n l,k,u,v,e,hw=>by
  obtain ⟨m,i,j⟩:=EQ hw;have hp:((u.length:Int)+((Az l).length:Int)).toNat=(u++Az l).length:=by rw [Ab];omega
  have g:u++(T.mk n l).flat++v=(u++Az l)++[n]++v:=by rw [Bf];simp
  have hn:nth (u++(T.mk n l).flat++v) ((u.length:Int)+((Az l).length:Int)).toNat=n:=by rw [hp,g,Ve]
  have a:stepS b f (u++(T.mk n l).flat++v,e) ((u.length:Int)+(Az l).length,k) =
    if n.K=0/\¬n.N-k<f then (u++Az l++[⟨n.K,n.N+b,n.M,n.S⟩]++v,if n.N+b-k<f then 30 else if 99<n.N+b then 2 else e) else (u++(T.mk n l).flat++v,e):=by
   unfold stepS;simp only [hn];split
   ·rw [hp,g,Aav]
   ·rfl
  have hv:Bb b f (u++(T.mk n l).flat++v,e) (TI u.length k (.mk n l))=Bb b f (stepS b f (u++(T.mk n l).flat++v,e) ((u.length:Int)+(Az l).length,k)) (ER u.length l ((binds n).map (k+·))):=rfl;rw [hv,a];by_cases hk:n.K=0
  ·
   have hl:l=[]:=Bw (by rw [<-i];simp [many,binds,hk,shp]);subst hl;simp only [ER,trE,trT,hk,if_true,AZ,BT,true_and,Bf,List.nil_append];show (if ¬n.N-k<f then _ else _)=_;unfold Md shV;by_cases c:f<=n.N-k
   ·
    rw [Ae zQ,Ae c];simp only [c,if_true,Bf,AZ,List.nil_append,hk];congr 1
    (repeat' split)<;>simp_all
   ·rw [Ac zQ,Ac c];simp [c,Bf,AZ]
  ·have d:¬(n.K=0/\¬n.N-k<f):=fun h=>hk h.1;rw [Ac d,show u++(T.mk n l).flat++v=u++Az l++([n]++v) by rw [Bf];simp];rw [VJ b f l ((binds n).map (k+·)) u ([n]++v) e j (by simp [<-i,many])];simp only [trE,trT,hk,if_false,Bf];simp
def VJ(b f:Int):∀(l:List T) (ks:zK) (u v:zM) (e:Int),T.wfs l=true->l.length=ks.length->
  Bb b f (u++Az l++v,e) (ER u.length l ks)=(u++Az (Hg (Md b f) l ks)++v,if FO (Md b f) l ks=0 then e else FO (Md b f) l ks)
 | [],ks,u,v,e,_,_=>by simp [ER,Hg,FO,AZ,Bb]
 | y::l,[],_,_,_,_,h=>by simp at h
 | y::l,k::ks,u,v,e,hw,hl=>by
  obtain ⟨d,c⟩:=Fw hw;have a:=VJ b f l ks (u++y.flat) v e c (by simpa using hl);have g:=ZA b f y k u (Az (Hg (Md b f) l ks)++v) (if FO (Md b f) l ks=0 then e else FO (Md b f) l ks) d;simp only [ER,Bg,Hg,FO,Pu];rw [Ab] at a;rw [show u++(y.flat++Az l)++v=u++y.flat++Az l++v by simp,show (u.length:Int)+(y.flat.length:Int)=((u.length+y.flat.length:Nat):Int) by simp,a,
   show u++y.flat++Az (Hg (Md b f) l ks)++v=u++y.flat++(Az (Hg (Md b f) l ks)++v) by simp,g]
  congr 1
  ·simp
  ·
   by_cases h:trE (Md b f) k y=0
   ·simp [h]
   ·simp [h]
end
mutual
def sh0_E(b f:Int):∀(x:T) (k:Int),trE (Md b f) k x=trE (shV b f) k x
 | .mk n l,k=>by
  simp only [trE];split
  ·rfl
  ·exact YR b f l _
def YR(b f:Int):∀(l:List T) (ks:zK),FO (Md b f) l ks=FO (shV b f) l ks
 | [],_=>by simp [FO]
 | _::_,[]=>by simp [FO]
 | y::l,k::ks=>by simp only [FO,sh0_E b f y k,YR b f l ks]
end
mutual
def sh0_T(b f:Int):∀(x:T) (k:Int),x.wf=true->trE (shV b f) k x=0->trT (Md b f) k x=trT (shV b f) k x
 | .mk n l,k,hw,h=>by
  obtain ⟨i,j,g⟩:=EQ hw;by_cases hk:n.K=0
  ·
   obtain ⟨e,_,_⟩:=IR i hk;simp only [trE,trT,hk,if_true] at h ⊢;unfold Md;unfold shV at h ⊢;by_cases c:f<=n.N-k
   ·
    simp only [c,if_true] at h ⊢;split
    ·rename_i a;simp [a] at h
    ·
     split
     ·rename_i a d;simp [a,d] at h
     ·rw [e]
   ·simp only [c,if_false]
  ·simp only [trE,trT,hk,if_false] at h ⊢;rw [YQ b f l _ g h]
def YQ(b f:Int):∀(l:List T) (ks:zK),T.wfs l=true->FO (shV b f) l ks=0->Hg (Md b f) l ks=Hg (shV b f) l ks
 | [],_,_,_=>by simp [Hg]
 | _::_,[],_,_=>by simp [Hg]
 | y::l,k::ks,hw,h=>by
  obtain ⟨d,c⟩:=Fw hw;simp only [FO] at h;by_cases a:trE (shV b f) k y=0
  ·rw [Ae a] at h;simp only [Hg,sh0_T b f y k d a,YQ b f l ks c h]
  ·rw [Ac a] at h;exact absurd h a
end
def Yg(hc:chk t=0): (Bb b f (t,0) (CS t)).2=FU (shV b f) t 0/\(FU (shV b f) t 0=0->(Bb b f (t,0) (CS t)).1=trL (shV b f) t 0):=by
 obtain ⟨c,d,_,_⟩:=Dg hc;have h:=ZA b f (Aq t) 0 [] [] 0 c;simp only [List.nil_append,BT,Ar,d] at h;have i:Bb b f (t,0) (CS t)=((trT (Md b f) 0 (Aq t)).flat,if trE (Md b f) 0 (Aq t)=0 then 0 else trE (Md b f) 0 (Aq t)):=h;have g:FU (shV b f) t 0=trE (shV b f) 0 (Aq t):=rfl;have e:trL (shV b f) t 0=if trE (shV b f) 0 (Aq t)=0 then (trT (shV b f) 0 (Aq t)).flat else []:=rfl;rw [i,g,e,sh0_E];constructor
 ·
  split
  ·rename_i a;exact a.symm
  ·rfl
 ·intro a;rw [Ae a,sh0_T b f _ _ c a,Ae a]
mutual
def Ud:∀(x:T) (o k:Int),∀y∈TI o k x,o<=y.1/\y.1<o+x.flat.length/\k<=y.2/\y.2<=k+2*x.flat.length
 | .mk n l,o,k=>by
  intro y a;simp only [TI,Aj] at a;rw [Bf,Ab,AD];rcases a with rfl|a
  ·simp only;omega
  ·
   have b:=Uc l o ((binds n).map (k+·)) k (fun v hv=>by
    obtain ⟨c,hc,rfl⟩:=Do.1 hv;have:=Or n c hc
    omega) y a
   omega
def Uc:∀(l:List T) (o:Int) (ks:zK) (k:Int),(∀v∈ks,k<=v/\v<=k+2)->∀y∈ER o l ks,o<=y.1/\y.1<o+(Az l).length/\k<=y.2/\y.2<=k+2+2*(Az l).length
 | [],_,_,_,_=>by simp [ER]
 | _::_,_,[],_,_=>by simp [ER]
 | x::l,o,v::ks,k,h=>by
  intro y a;simp only [ER,Bi] at a;rw [Bg,Ab];have hv:=h v yB;rcases a with a|a
  ·have:=Uc l (o+x.flat.length) ks k (fun w b=>h w (by simp [b])) y a;omega
  ·have:=Ud x o v y a;omega
end
def Ti(hc:chk t=0)(h:pre++[x] <+: CS t):∃(i:Nat) (j:Nat),x=((i:Int),(j:Int))/\i<t.length/\j<=2*t.length:=by
 obtain ⟨rest,a⟩:=h;have hm:x∈CS t:=by rw [<-a];simp
 have b:=Ud (Aq t) 0 0 x hm;rw [(Dg hc).2.1] at b;exact ⟨x.1.toNat,x.2.toNat,by ext<;>simp only []<;>omega,by omega,by omega⟩
def Nh(c:(nth o.1 i).K=0)(a:¬(nth o.1 i).N-(j:Int)<f):
  stepS b f o ((i:Int),(j:Int))=(o.1.set i ⟨(nth o.1 i).K,(nth o.1 i).N+b,(nth o.1 i).M,(nth o.1 i).S⟩,if (nth o.1 i).N+b-(j:Int)<f then 30 else if 99<(nth o.1 i).N+b then 2 else o.2):=by
 unfold stepS;simp only [Int.toNat_natCast];rw [Ae ⟨c,a⟩]
def Aal(h:¬(nth o.1 i).K=0\/(nth o.1 i).N-(j:Int)<f): stepS b f o ((i:Int),(j:Int))=o:=by
 unfold stepS;simp only [Int.toNat_natCast];rw [Ac (by rintro ⟨c,a⟩;rcases h with h|h;exact h c;exact a h)]
def QD(L:zM)(i k:Nat)(z:Nd): nth (L.set i z) k=if i=k/\i<L.length then z else nth L k:=by
 unfold nth;rw [AC,List.getElem?_set,AC];by_cases h:i=k
 ·
  subst h;by_cases a:i<L.length
  ·simp [a]
  ·simp [a]
 ·simp [h]
def VL{b f:Int}(hb:-1000<=b/\b<=1000)(B:Int):∀(pre:List (Int×Int)) (o:zM×Int),(∀k,-B<=(nth o.1 k).N/\(nth o.1 k).N<=B)->∀k,-(B+1000*pre.length)<=(nth (Bb b f o pre).1 k).N/\(nth (Bb b f o pre).1 k).N<=B+1000*pre.length
 | [],o,h=>fun k=>by have:=h k;simpa [Bb] using this
 | x::pre,o,h=>by
  intro k;have a:∀k,-(B+1000)<=(nth (stepS b f o x).1 k).N/\(nth (stepS b f o x).1 k).N<=B+1000:=by
   intro k;have d:=h k;have c:=h x.1.toNat
   unfold stepS;split
   ·
    simp only;rw [QD];split
    ·simp only;omega
    ·omega
   ·omega
  have:=VL (f:=f) hb (B+1000) pre (stepS b f o x) a k;have e:Bb b f o (x::pre)=Bb b f (stepS b f o x) pre:=rfl;rw [e,Af];omega
def Qv{n:Nd}(h:right n=true): 0<=n.N/\n.N<=99:=by
 obtain ⟨e,b,c,d⟩:=(DT n).1 h;unfold E3 at b;by_cases hn:(shp n.K.toNat).n=true
 ·
  have:=c hn;unfold most at this;refine ⟨this.1,?_⟩;have:=this.2
  (repeat' split at this)<;>omega
 ·
  have a:(shp n.K.toNat).n=false:=by simpa using hn
  simp only [a,Bool.not_false,Bool.true_and,Bool.or_eq_false_iff,Bool.not_eq_false',A9] at b;omega
def term_N(hc:chk t=0)(k:Nat): -99<=(nth t k).N/\(nth t k).N<=99:=by
 by_cases hk:k<t.length
 ·have:=Qv (Cy (Br hc) hk);omega
 ·
  have:nth t k=ndz:=by simp [nth,AC,List.getElem?_eq_none (by omega:t.length<=k)]
  rw [this];decide
mutual
def Ub:∀(x:T) (o k:Int),x.wf=true->(TI o k x).length=x.flat.length
 | .mk n l,o,k,hw=>by
  obtain ⟨_,b,a⟩:=EQ hw;simp only [TI,Af,Bf,Ab,Ar];rw [Ro l o _ a (by simp [<-b,many])]
def Ro:∀(l:List T) (o:Int) (ks:zK),T.wfs l=true->l.length=ks.length->(ER o l ks).length=(Az l).length
 | [],_,_,_,_=>by simp [ER,AZ]
 | _::_,_,[],_,h=>by simp at h
 | x::l,o,v::ks,hw,h=>by
  obtain ⟨b,a⟩:=Fw hw;simp only [ER,Ab,Bg];rw [Ro l _ ks a (by simpa using h),Ub x o v b];omega
end
def MA(hc:chk t=0): (CS t).length=t.length:=by
 obtain ⟨a,b,_⟩:=Dg hc;have:=Ub (Aq t) 0 0 a;rw [b] at this;exact this
def fold_N{e:Int}(hc:chk t=0)(hb:-1000<=b/\b<=1000)(a:pre <+: CS t)(k:Nat): -10000000<=(nth (Bb b f (t,e) pre).1 k).N/\(nth (Bb b f (t,e) pre).1 k).N<=10000000:=by
 have g:=VL (f:=f) hb 99 pre (t,e) (term_N hc) k;have c:=a.length_le;rw [MA hc] at c;have d:=(Dg hc).2.2.2;omega
def GO(hc:chk t=0): sfE t b f=(Bb (Au b) (max 0 (Au f)) (t,chk t) (CS t)).2/\(sfE t b f=0->sfA t b f=(Bb (Au b) (max 0 (Au f)) (t,chk t) (CS t)).1):=by
 obtain ⟨e,d⟩:=Yg (b:=Au b) (f:=max 0 (Au f)) hc;obtain ⟨c,a⟩:=Ih (b:=b) (f:=f) hc;rw [c,a,hc,e];exact ⟨rfl,fun h=>(d h).symm⟩
end
section
def D8(t:zM): List (Nd×Int):=(CS t).map fun x=>(nth t x.1.toNat,x.2)
def QF{i:Int}{n:Nat}(h:(CS t).take k++[(i,u)]=(CS t).take (k+1))(hi:i=(n:Int)): (D8 t).take k++[(nth t n,u)]=(D8 t).take (k+1):=by
 unfold D8;rw [<-List.map_take,<-List.map_take,<-h,Cq,hi];simp
def M9{x:Nd×Int}(h:(D8 t).take k++[x]=(D8 t).take (k+1)): (D8 t).take k++[x] <+: D8 t:=by
 rw [h];exact List.take_prefix _ _
def Th(h:(CS t).take k=CS t): (D8 t).take k=D8 t:=by
 unfold D8;rw [<-List.map_take,h]
def Yx(hk:k<=t.length)(h:bwL t=(bwL t).take k): k=t.length:=by
 have:=congrArg List.length h;rw [Ak,JR] at this;omega
end
section
open Go Go.RowKit
section
variable {l:zD}
def X2{t u g h:Nat}{i f:zI}{d1 k:TypeDesc}(j:Reg a N l)(hr:fn.results=#[.cell t i,.cell u f])(hv:ev l (.tmp t)=some (.pointer (some ⟨g,0,none⟩)))(b:ev l (.tmp u)=some (.pointer (some ⟨h,0,none⟩)))
  (hc:w.cell? ⟨g,0,none⟩=some v) (d:w.cell? ⟨h,0,none⟩=some v') (m:P.underlying i=some d1) (n:F0 d1=false) (c:P.underlying f=some k) (e:F0 k=false):
  (results fn a.tmps).run P w=.ok (.tuple #[v,v']) w:=by
 have p:a.tmps[t]?.getD undef=.pointer (some ⟨g,0,none⟩):=by rw [<-Array.getD_eq_getD_getElem?];exact j.ev hv
 have o:a.tmps[u]?.getD undef=.pointer (some ⟨h,0,none⟩):=by rw [<-Array.getD_eq_getD_getElem?];exact j.ev b
 simp only [results,hr];simp [AB,p,o,asAddr,Hu m n hc,Hu c e d]
def LS(h:St w0 Z M w m ds)(e:m=m'): St w0 Z M w m' ds:=e▸h
end
end
section
def AaK(t:zM)(k:Int)(l:zL): (if poE t k l=0 then poA t k l else [])=poA t k l:=by
 unfold poA;split<;>rfl
end
end Go.Proofs.YtgddkjdhnolahaaGreatDoor
