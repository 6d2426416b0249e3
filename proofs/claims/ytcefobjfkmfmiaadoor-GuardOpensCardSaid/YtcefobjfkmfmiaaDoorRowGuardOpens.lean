/-
'GuardOpens': whatever the input, the Go function 'skiff/skifflaw13.GuardOpens' returns true, and the input reads as it did. Conditions: those of the given row alone.
-/
import Derived.Test.YtcefobjfkmfmiaaDoorCards
import Derived.Test.YtcefobjfkmfmiaaDoorTie
import Derived.WalkKit
import Derived.ProofKit
import Derived.OpenShut
import Derived.Deep.DeepHandedRow
import Derived.Lib.LaidTab
import Derived.Test.YtcefobjfkmfmiaaDoorAmShape
import Derived.Test.YtcefobjfkmfmiaaDoorGoD
set_option linter.unusedSimpArgs false
set_option linter.unusedVariables false
set_option linter.unusedSectionVars false
set_option maxRecDepth 100000
namespace Go.Proofs.YtcefobjfkmfmiaaDoor.rGuardOpens
open Go Go.ChangeShapes Go.WideShapes Go.ChangeAt Go.RowKit
theorem own:ownKnob Tryd.prog.godebug=none:=by kernel_rfl
theorem gTab0 : Tryd.prog.globalNamed "skiff/sha2.roots" = some 0 := by kernel_rfl
theorem gType0:(Tryd.prog.globals[0]?).map (·.type)=some 109:=by kernel_rfl
theorem gw {W:World} (h:laidMetH Tryd.prog Rows.guardOpensRow.laid W):Am.GW W Am.gl:=by
  have v0:=Am.vars_of_met (P:=Tryd.prog) (W:=W) (l:=Rows.guardOpensRow.laid) h
  have t0:=Am.gw_tab (Am.tabIs_of_vars (rest:=[]) (zs:=Am.roots) gTab0 gType0 Tryd.underlying109 Tryd.underlying56 (by kernel_rfl) (by kernel_rfl) v0) gTab0
  refine⟨rfl,fun g B hB=>?_⟩
  rcases g with _ | _ | _ | _ | g
  · obtain⟨e,fr,hh⟩:=t0
    have hB:=Option.some.inj (show some _=some B from hB)
    subst hB
    exact .inr ⟨_,_,e,fr,rfl,hh⟩
  all_goals
    simp[Am.gl]at hB
  all_goals exact .inl hB.symm

theorem shapeD58 {H:Type} {enc:TypeId×Value→H} {W:World} {base:Nat}:Am.OpD enc Tryd.prog W base 58 (Am.Dm [(32,(Am.DArr 32 .u8)),(1,(Am.DInt .i64)),(1,(Am.DSl .u8)),(1,(Am.DSl .u8)),(1,(Am.DInt .u64)),(1,(Am.DInt .u64)),(1,Am.DBool),(1,(Am.DSl .u8))]):=by
  refine Am.opd_stm (Gl:=[(32,(Am.DArr 32 .u8)),(1,(Am.DInt .i64)),(1,(Am.DSl .u8)),(1,(Am.DSl .u8)),(1,(Am.DInt .u64)),(1,(Am.DInt .u64)),(1,Am.DBool),(1,(Am.DSl .u8))]) Tryd.underlying58 (by kernel_rfl) rfl (fun i f p h hg=>?_)
  rcases i with _ | _ | _ | _ | _ | _ | _ | _ | i
  · obtain rfl:=Option.some.inj (show some _=some f from h)
    obtain rfl:=Option.some.inj (show some _=some p from hg)
    exact⟨rfl,by kernel_rfl,(show Am.OpD enc Tryd.prog W _ 23 (Am.DArr 32 .u8)from Am.opd_arr Tryd.underlying23 Tryd.underlying5 (by kernel_rfl) (by kernel_rfl))⟩
  · obtain rfl:=Option.some.inj (show some _=some f from h)
    obtain rfl:=Option.some.inj (show some _=some p from hg)
    exact⟨rfl,by kernel_rfl,(show Am.OpD enc Tryd.prog W _ 3 (Am.DInt .i64)from Am.opd_int Tryd.underlying3)⟩
  · obtain rfl:=Option.some.inj (show some _=some f from h)
    obtain rfl:=Option.some.inj (show some _=some p from hg)
    exact⟨rfl,by kernel_rfl,(show Am.OpD enc Tryd.prog W _ 24 (Am.DSl .u8)from Am.opd_sl Tryd.underlying24 Tryd.underlying5 (by kernel_rfl))⟩
  · obtain rfl:=Option.some.inj (show some _=some f from h)
    obtain rfl:=Option.some.inj (show some _=some p from hg)
    exact⟨rfl,by kernel_rfl,(show Am.OpD enc Tryd.prog W _ 24 (Am.DSl .u8)from Am.opd_sl Tryd.underlying24 Tryd.underlying5 (by kernel_rfl))⟩
  · obtain rfl:=Option.some.inj (show some _=some f from h)
    obtain rfl:=Option.some.inj (show some _=some p from hg)
    exact⟨rfl,by kernel_rfl,(show Am.OpD enc Tryd.prog W _ 56 (Am.DInt .u64)from Am.opd_int Tryd.underlying56)⟩
  · obtain rfl:=Option.some.inj (show some _=some f from h)
    obtain rfl:=Option.some.inj (show some _=some p from hg)
    exact⟨rfl,by kernel_rfl,(show Am.OpD enc Tryd.prog W _ 56 (Am.DInt .u64)from Am.opd_int Tryd.underlying56)⟩
  · obtain rfl:=Option.some.inj (show some _=some f from h)
    obtain rfl:=Option.some.inj (show some _=some p from hg)
    exact⟨rfl,by kernel_rfl,(show Am.OpD enc Tryd.prog W _ 4 Am.DBool from Am.opd_bool Tryd.underlying4)⟩
  · obtain rfl:=Option.some.inj (show some _=some f from h)
    obtain rfl:=Option.some.inj (show some _=some p from hg)
    exact⟨rfl,by kernel_rfl,(show Am.OpD enc Tryd.prog W _ 24 (Am.DSl .u8)from Am.opd_sl Tryd.underlying24 Tryd.underlying5 (by kernel_rfl))⟩
  · simp at h
theorem contract (H:Type) (enc:TypeId×Value→H) (W:World) (base:Nat) (args:Array Value) (ds gs:List (DataW H)) (before:List MemPlace)
    (hval:∀(j:Nat) t v,Tryd.f10.params[j]?=some t→args[j]?=some v→Value.okWide Tryd.prog W .any base t v)
    (hW:DataW.Whole enc Tryd.prog Tryd.f10.params.toList Rows.guardOpensSpec.vars false W args.toList ds gs before) (hL:laidMetH Tryd.prog Rows.guardOpensRow.laid W) :
    Calls Tryd.prog 10 args W fun e W'=>∃v,e=.returned v∧Rows.guardOpensSpec.post enc Tryd.prog Tryd.f10 false true false false W args v W':=by
  have hW':=hW
  obtain⟨p,q,hA0,hV,rfl,hfz,hnd⟩:=hW
  have hA:DataW.TrodAll enc Tryd.prog W 0 (fun _=>true) true Tryd.f10.params.toList args.toList ds p:=hA0
  rw[Tryd.params10]at hA hval
  have ha0:args.toList=args.toList:=rfl
  obtain⟨v0,vs0,d0,ds0,p0,q0,e0,rfl,rfl,h0,r0⟩:=trodAll_cons hA
  obtain⟨v1,vs1,d1,ds1,p1,q1,e1,rfl,rfl,h1,r1⟩:=trodAll_cons r0
  obtain⟨v2,vs2,d2,ds2,p2,q2,e2,rfl,rfl,h2,r2⟩:=trodAll_cons r1
  obtain⟨v3,vs3,d3,ds3,p3,q3,e3,rfl,rfl,h3,r3⟩:=trodAll_cons r2
  obtain⟨v4,vs4,d4,ds4,p4,q4,e4,rfl,rfl,h4,r4⟩:=trodAll_cons r3
  obtain⟨v5,vs5,d5,ds5,p5,q5,e5,rfl,rfl,h5,r5⟩:=trodAll_cons r4
  obtain⟨v6,vs6,d6,ds6,p6,q6,e6,rfl,rfl,h6,r6⟩:=trodAll_cons r5
  obtain⟨v7,vs7,d7,ds7,p7,q7,e7,rfl,rfl,h7,r7⟩:=trodAll_cons r6
  obtain⟨rfl,rfl,rfl⟩:=trodAll_nil r7
  subst e7
  subst e6
  subst e5
  subst e4
  subst e3
  subst e2
  subst e1
  obtain rfl:args=#[v0,v1,v2,v3,v4,v5,v6,v7]:=by cases args;simp_all
  obtain⟨rfl,rfl⟩:=trodVars_none hV
  obtain⟨x0,c0,rfl,a0,o0,w0⟩:=Am.open_stD Tryd.underlying58 shapeD58 (hval 0 58 v0 rfl rfl) h0
  obtain⟨x1,a1,w1,l1⟩:=Am.open_arr Tryd.underlying23 Tryd.underlying5 (by kernel_rfl) (by kernel_rfl) (hval 1 23 v1 rfl rfl) h1
  obtain⟨x2,a2,w2,l2⟩:=Am.open_sl Tryd.underlying24 Tryd.underlying5 (by kernel_rfl) (hval 2 24 v2 rfl rfl) h2
  obtain⟨x3,a3,w3⟩:=Am.open_i Tryd.underlying3 (hval 3 3 v3 rfl rfl) h3
  obtain⟨x4,a4,w4⟩:=Am.open_i Tryd.underlying3 (hval 4 3 v4 rfl rfl) h4
  obtain⟨x5,a5,w5⟩:=Am.open_i Tryd.underlying3 (hval 5 3 v5 rfl rfl) h5
  obtain⟨x6,a6,w6⟩:=Am.open_i Tryd.underlying56 (hval 6 56 v6 rfl rfl) h6
  obtain⟨x7,a7,w7⟩:=Am.open_i Tryd.underlying5 (hval 7 5 v7 rfl rfl) h7
  clear hA0
  have hD:=Am.lawGuardOpens _ (⟨_,_,_,x3,x4,x5,_,_,rfl,w0,⟨l1,Am.dig_u8 w1⟩,Am.dig_u8 w2,Am.wf_u64 w6,Am.wf_u8 w7⟩)
  refine (Am.law_atF hD (gw hL) (.st a0 w0.len o0 (.one a1 (.one a2 (.one a3 (.one a4 (.one a5 (.one a6 (.one a7 .nil))))))))).mono fun e W' ⟨he,hk⟩=>⟨_,he,?_⟩
  refine Am.post_true (t:=4) (by kernel_rfl) (by kernel_rfl) (by kernel_rfl) (fun t ht=>?_) Tryd.underlying4 (by kernel_rfl) rfl rfl (by simpa using hW') hk
  rw[Tryd.params10]at ht
  have:t∈[58,23,24,3,3,3,56,5]:=ht
  have hsz:Tryd.prog.types.size=158:=by kernel_rfl
  rw[hsz]
  simp only[List.mem_cons,List.not_mem_nil,or_false]at this
  rcases this with rfl | rfl | rfl | rfl | rfl | rfl | rfl | rfl<;>decide
noncomputable def laidWorld (os:Os):World :=
  { World.holding Tryd.prog os ⟨#[],#[],[]⟩with heap:=((World.holding Tryd.prog os ⟨#[],#[],[]⟩).heap.modify 0 fun
      | .cells _ t frozen=>.cells (Am.roots.map (Value.int .u64)).toArray t frozen
      | o=>o) }
theorem laid_met (os:Os):laidMet Tryd.prog Rows.guardOpensRow.laid ((laidWorld os).forCall (fun _ _=>0) ⟨#[],#[.agg (Array.replicate 32 (Value.int .u8 0)++#[Value.int .i64 0,Value.slice none 0 0,Value.slice none 0 0,Value.int .u64 0,Value.int .u64 0,Value.bool false,Value.slice none 0 0]),.agg (Array.replicate 32 (.int .u8 0)),.slice none 0 0,.int .i64 0,.int .i64 0,.int .i64 0,.int .u64 0,.int .u8 0],[]⟩).memory :=
  laidMet_of_run' 8 (by kernel_rfl) (by kernel_rfl)
theorem reads (os:Os) {H:Type} (enc:TypeId×Value→H):∃places,DataW.whole enc Tryd.prog ((laidWorld os).forCall (fun _ _=>0) ⟨#[],#[.agg (Array.replicate 32 (Value.int .u8 0)++#[Value.int .i64 0,Value.slice none 0 0,Value.slice none 0 0,Value.int .u64 0,Value.int .u64 0,Value.bool false,Value.slice none 0 0]),.agg (Array.replicate 32 (.int .u8 0)),.slice none 0 0,.int .i64 0,.int .i64 0,.int .i64 0,.int .u64 0,.int .u8 0],[]⟩).memory Tryd.f10.params.toList Rows.guardOpensSpec.vars false (#[.agg (Array.replicate 32 (Value.int .u8 0)++#[Value.int .i64 0,Value.slice none 0 0,Value.slice none 0 0,Value.int .u64 0,Value.int .u64 0,Value.bool false,Value.slice none 0 0]),.agg (Array.replicate 32 (.int .u8 0)),.slice none 0 0,.int .i64 0,.int .i64 0,.int .i64 0,.int .u64 0,.int .u8 0]:Array Value).toList 8=some ([.agg [.agg (List.replicate 32 (.lit (.int .u8 0))),.lit (.int .i64 0),.nil,.nil,.lit (.int .u64 0),.lit (.int .u64 0),.lit (.bool false),.nil],.agg (List.replicate 32 (.lit (.int .u8 0))),.nil,.lit (.int .i64 0),.lit (.int .i64 0),.lit (.int .i64 0),.lit (.int .u64 0),.lit (.int .u8 0)],[],places) :=
  ⟨[],by kernel_rfl⟩
theorem lifted (os:Os) (started:os.Started) (H:Type) (enc:TypeId×Value→H) (F:Stop.Interp) :
    ReturnsInHanded {} Tryd.checked os 10 .any ((OpenSpec.ofChange Rows.guardOpensSpec).preRow enc Tryd.prog Tryd.f10 Rows.guardOpensRow.domain false Rows.guardOpensRow.laid) (((OpenSpec.ofChange Rows.guardOpensSpec).at F).post enc Tryd.prog Tryd.f10 false true false false):=by
  obtain⟨places,hx⟩:=reads os enc
  refine returnsInHanded_of_row (C:=Tryd.checked) (s:=(OpenSpec.ofChange Rows.guardOpensSpec)) own started (by kernel_rfl) Tryd.func10
    (witness_row_at (enc:=enc) (C:=Tryd.checked) false (laidWorld os) #[.agg (Array.replicate 32 (Value.int .u8 0)++#[Value.int .i64 0,Value.slice none 0 0,Value.slice none 0 0,Value.int .u64 0,Value.int .u64 0,Value.bool false,Value.slice none 0 0]),.agg (Array.replicate 32 (.int .u8 0)),.slice none 0 0,.int .i64 0,.int .i64 0,.int .i64 0,.int .u64 0,.int .u8 0] rfl (by kernel_rfl) (by kernel_rfl) (by kernel_rfl)
      (OpenSpec.preRow_of_cond 8 hx (by kernel_rfl) (fun k hk=>by cases hk) (by kernel_rfl) (laid_met os))) ?_
  intro W base args ds gs before hval hW _ _ _ hL _ _
  exact contract H enc W base args ds gs before hval hW hL
theorem said:Rows.GuardOpensSaid :=
  OpenClaim.holds_of_cond 10 Tryd.f10 rfl rfl rfl rfl rfl rfl rfl ⟨rfl,rfl,rfl,rfl,rfl⟩ rfl rfl rfl rfl rfl (by kernel_rfl) Tryd.func10 (by kernel_rfl)
    (of_decide_eq_true (by kernel_rfl)) (by unfold Func.isWrapper;first | (rw[if_pos (by decide +kernel)];kernel_rfl) | (rw[if_neg (by decide +kernel)];exact⟨rfl,rfl⟩))
    (fun os started H enc _ F=>by rw[OpenClaim.pre_eq_preRow];exact lifted os started H enc F)
theorem plain (f : FuncId) (fn : Func) (hf : Tryd.pinned.checked.prog.funcNamed "skiff/skifflaw13.GuardOpens" = some f) (hfn : Tryd.pinned.checked.prog.funcs[f]? = some fn) :
    false=Tryd.pinned.checked.prog.looks []∧∀(j:Nat) t,fn.params[j]?=some t→Tryd.pinned.checked.prog.wantsStandIn t=false:=by
  obtain rfl : f = 10 := Option.some.inj ((show Tryd.prog.funcNamed "skiff/skifflaw13.GuardOpens" = some 10 by kernel_rfl).symm.trans hf) |>.symm
  obtain rfl:fn=Tryd.f10:=(Option.some.inj (Tryd.func10.symm.trans hfn)).symm
  refine⟨by kernel_rfl,fun j t ht=>?_⟩
  rw[Tryd.params10]at ht
  have hall:∀t∈[58,23,24,3,56,5],Tryd.prog.wantsStandIn t=false:=by
    intro t ht
    simp only[List.mem_cons,List.not_mem_nil,or_false]at ht
    rcases ht with rfl | rfl | rfl | rfl | rfl | rfl
    all_goals kernel_rfl
  exact hall t (by have:=Array.mem_of_getElem? ht;simpa using this)
/-- The statement. -/
theorem holds:Rows.GuardOpensCardSaid :=
  Claim7.holds_tied_plain_at .later [] _ _ _ _ said (fun _ h=>by cases h) (by kernel_rfl) (fun _ h=>by cases h) guardOpens_row_tie rfl ⟨rfl,rfl⟩ (by kernel_rfl) rfl plain (by kernel_rfl)
end Go.Proofs.YtcefobjfkmfmiaaDoor.rGuardOpens
