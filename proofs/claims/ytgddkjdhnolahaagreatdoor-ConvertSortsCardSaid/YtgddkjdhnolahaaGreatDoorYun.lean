import Derived.Test.YtgddkjdhnolahaaGreatDoorYum
/- The law ConvertSorts: it returns true, whatever its arguments are, and they read as they did; the table of shapes holds what the program's text lays. -/
set_option linter.defProp false
namespace Go.Proofs.YtgddkjdhnolahaaGreatDoor.lawConvertSorts
open Go Go.RowKit Go.WideShapes Go.ChangeShapes Go.Proofs.YtgddkjdhnolahaaGreatDoor
set_option maxRecDepth 100000
set_option linter.unusedSimpArgs false
set_option linter.unusedVariables false
theorem contract(H:Type)(enc:TypeId×Value->H)(W:World)(base:Nat)(args:Array Value)(ds gs:List (DataW H))(before:List MemPlace)
  (hval:∀(j:Nat) t v,Tryz.f3.params[j]?=some t->args[j]?=some v->Value.okWide Tryz.prog W .any base t v)
  (hW:DataW.Whole enc Tryz.prog Tryz.f3.params.toList Rows.convertSortsSpec.vars false W args.toList ds gs before) (hL:laidMetH Tryz.prog Rows.convertSortsRow.laid W):
  Calls Tryz.prog 3 args W fun e W'=>∃v,e=.returned v/\Rows.convertSortsSpec.post enc Tryz.prog Tryz.f3 false true false false W args v W':=by
 have hW':=hW
 obtain ⟨p,q,hA0,hV,rfl,hfz,hnd⟩:=hW
 have hA:=hA0
 rw [Tryz.params3] at hA hval
 obtain ⟨v0,vs0,d0,ds0,p0,q0,hargs,rfl,rfl,h0,r0⟩:=trodAll_cons hA
 obtain ⟨v1,vs1,d1,ds1,p1,q1,rfl,rfl,rfl,h1,r1⟩:=trodAll_cons r0
 obtain ⟨v2,vs2,d2,ds2,p2,q2,rfl,rfl,rfl,h2,r2⟩:=trodAll_cons r1
 obtain ⟨v3,vs3,d3,ds3,p3,q3,rfl,rfl,rfl,h3,r3⟩:=trodAll_cons r2
 obtain ⟨v4,vs4,d4,ds4,p4,q4,rfl,rfl,rfl,h4,r4⟩:=trodAll_cons r3
 obtain ⟨rfl,rfl,rfl⟩:=trodAll_nil r4
 obtain rfl:args=#[v0,v1,v2,v3,v4]:=by cases args;simp_all
 obtain ⟨rfl,rfl⟩:=trodVars_none hV
 obtain ⟨b0,rfl,hb0⟩:=Lw (hval 0 _ _ rfl rfl)
 obtain ⟨b1,rfl,hb1⟩:=Lw (hval 1 _ _ rfl rfl)
 obtain ⟨A2,c2,t2,rfl,g2⟩:=M7 (hval 2 _ _ rfl rfl) h2
 obtain ⟨A3,c3,t3,rfl,g3⟩:=M7 (hval 3 _ _ rfl rfl) h3
 obtain ⟨b4,rfl,hb4⟩:=Lw (hval 4 _ _ rfl rfl)
 refine (J1 (w0:=W) (Z:=fun k=>k<W.heap.size) (fun _ h=>h) (m:=b0) b1 (tA:=A2) (tc:=c2) (t:=t2) (uA:=A3) (uc:=c3) (u:=t3) (fu:=b4) (Mb hL) g2 g3 hb0 hb1 hb4).mono fun e W' ⟨he,hf⟩=>?_
 subst he
 exact ⟨_,rfl,UW kids SN (by rw [Tryz.params3];decide) rfl hW' rfl CV ⟨rfl,rfl,rfl⟩ hf.below⟩
theorem laid_met(os:Os): laidMet Tryz.prog Rows.convertSortsRow.laid ((LA os).forCall (fun _ _=>0) ⟨#[],#[Value.int .u8 0,Value.int .u8 0,Value.slice none 0 0,Value.slice none 0 0,Value.int .u8 0],[]⟩).memory:=
 laidMet_of_run' 8 (by kernel_rfl) (by kernel_rfl)
theorem reads(os:Os){H:Type}(enc:TypeId×Value->H):∃places,DataW.whole enc Tryz.prog ((LA os).forCall (fun _ _=>0) ⟨#[],#[Value.int .u8 0,Value.int .u8 0,Value.slice none 0 0,Value.slice none 0 0,Value.int .u8 0],[]⟩).memory Tryz.f3.params.toList Rows.convertSortsSpec.vars false #[Value.int .u8 0,Value.int .u8 0,Value.slice none 0 0,Value.slice none 0 0,Value.int .u8 0].toList 8=some ([.lit (.int .u8 0),.lit (.int .u8 0),.nil,.nil,.lit (.int .u8 0)],[],places):=
 ⟨[],by kernel_rfl⟩
theorem lifted(os:Os)(started:os.Started)(H:Type)(enc:TypeId×Value->H)(F:Stop.Interp):
  ReturnsInHanded {} Tryz.checked os 3 .any ((OpenSpec.ofChange Rows.convertSortsSpec).preRow enc Tryz.prog Tryz.f3 Rows.convertSortsRow.domain false Rows.convertSortsRow.laid) (((OpenSpec.ofChange Rows.convertSortsSpec).at F).post enc Tryz.prog Tryz.f3 false true false false):=by
 obtain ⟨places,hx⟩:=reads os enc
 refine returnsInHanded_of_row (C:=Tryz.checked) (s:=OpenSpec.ofChange Rows.convertSortsSpec) Q7 started (by kernel_rfl) Tryz.func3
  (witness_row_atRef (enc:=enc) (C:=Tryz.checked) false (LA os) #[Value.int .u8 0,Value.int .u8 0,Value.slice none 0 0,Value.slice none 0 0,Value.int .u8 0] rfl (by kernel_rfl) (by kernel_rfl) (by kernel_rfl)
   (OpenSpec.preRow_of_cond 8 hx (by kernel_rfl) (fun k hk=>by cases hk) (by kernel_rfl) (laid_met os))) ?_
 intro W base args ds gs before hval hW _ _ _ hL _ _
 exact contract H enc W base args ds gs before hval hW hL
theorem said:Rows.ConvertSortsSaid:=
 OpenClaim.holds_of_cond 3 Tryz.f3 rfl rfl rfl rfl rfl rfl rfl ⟨rfl,rfl,rfl,rfl,rfl⟩ rfl rfl rfl rfl rfl (by kernel_rfl) Tryz.func3 (by kernel_rfl)
  (Ad (by kernel_rfl)) (by unfold Func.isWrapper;first|(rw [Ae (by decide +kernel)];kernel_rfl)|(rw [Ac (by decide +kernel)];exact ⟨rfl,rfl⟩))
  (fun os started H enc _ F=>by rw [OpenClaim.pre_eq_preRow];exact lifted os started H enc F)
theorem plain (f : FuncId) (fn : Func) (hf : Tryz.pinned.checked.prog.funcNamed "cornice/cornicelaw16.ConvertSorts" = some f) (hfn : Tryz.pinned.checked.prog.funcs[f]? = some fn) :
  false=Tryz.pinned.checked.prog.looks []/\∀(j:Nat) t,fn.params[j]?=some t->Tryz.pinned.checked.prog.wantsStandIn t=false:=by
 obtain rfl : f = 3 := Bc ((show Tryz.prog.funcNamed "cornice/cornicelaw16.ConvertSorts" = some 3 by kernel_rfl).symm.trans hf) |>.symm
 obtain rfl:fn=Tryz.f3:=(Bc (Tryz.func3.symm.trans hfn)).symm
 refine ⟨by kernel_rfl,fun j t ht=>?_⟩
 rw [Tryz.params3] at ht
 have hm:=Array.mem_of_getElem? ht
 simp only [List.mem_toArray,Aj,Ah,or_false] at hm
 rcases hm with rfl|rfl|rfl|rfl|rfl
 ·exact (show Tryz.prog.wantsStandIn 5=false by kernel_rfl)
 ·exact (show Tryz.prog.wantsStandIn 5=false by kernel_rfl)
 ·exact (show Tryz.prog.wantsStandIn 22=false by kernel_rfl)
 ·exact (show Tryz.prog.wantsStandIn 22=false by kernel_rfl)
 ·exact (show Tryz.prog.wantsStandIn 5=false by kernel_rfl)
theorem proved:Rows.ConvertSortsCardSaid:=
 Claim7.holds_tied_plain_at .later [] _ _ _ _ said (fun _ h=>by cases h) (by kernel_rfl) (fun _ h=>by cases h) convertSorts_row_tie rfl ⟨rfl,rfl⟩ (by kernel_rfl) rfl plain (by kernel_rfl)
end Go.Proofs.YtgddkjdhnolahaaGreatDoor.lawConvertSorts
