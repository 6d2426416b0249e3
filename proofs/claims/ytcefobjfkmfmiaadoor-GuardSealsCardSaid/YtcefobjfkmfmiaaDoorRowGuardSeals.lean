/-
'GuardSeals': whatever the input, the Go function 'skiff/skifflaw13.GuardSeals' returns true, and the input reads as it did. Conditions: those of the given row alone.
-/
import Derived.Test.YtcefobjfkmfmiaaDoorCards
import Derived.Test.YtcefobjfkmfmiaaDoorTie
import Derived.WalkKit
import Derived.ProofKit
import Derived.OpenShut
import Derived.Deep.DeepHandedRow
import Derived.Lib.LaidTab
import Derived.Test.YtcefobjfkmfmiaaDoorAmShape
import Derived.Test.YtcefobjfkmfmiaaDoorGsB
set_option linter.unusedSimpArgs false
set_option linter.unusedVariables false
set_option linter.unusedSectionVars false
set_option maxRecDepth 100000
namespace Go.Proofs.YtcefobjfkmfmiaaDoor.rGuardSeals
open Go Go.ChangeShapes Go.WideShapes Go.ChangeAt Go.RowKit
theorem own:ownKnob Tryd.prog.godebug=none:=by kernel_rfl
theorem gTab0 : Tryd.prog.globalNamed "skiff/sha2.roots" = some 0 := by kernel_rfl
theorem gType0:(Tryd.prog.globals[0]?).map (·.type)=some 109:=by kernel_rfl
theorem gw {W:World} (h:laidMetH Tryd.prog Rows.guardSealsRow.laid W):Am.GW W Am.gl:=by
  have v0:=Am.vars_of_met (P:=Tryd.prog) (W:=W) (l:=Rows.guardSealsRow.laid) h
  have t0:=Am.gw_tab (Am.tabIs_of_vars (rest:=[]) (zs:=Am.roots) gTab0 gType0 Tryd.underlying109 Tryd.underlying56 (by kernel_rfl) (by kernel_rfl) v0) gTab0
  refine⟨rfl,fun g B hB=>?_⟩
  rcases g with _ | _ | _ | _ | g
  · obtain⟨e,fr,hh⟩:=t0
    have hB:=Option.some.inj (show some _=some B from hB)
    subst hB
    exact .inr ⟨_,_,e,fr,rfl,hh⟩
  all_goals
    simp[Am.gl]at hB
  all_goals exact .inl hB.symm

theorem shapeD58 {H:Type} {enc:TypeId×Value→H} {W:World} {base:Nat}:Am.OpD enc Tryd.prog W base 58 (Am.Dm [(32,(Am.DArr 32 .u8)),(1,(Am.DInt .i64)),(1,(Am.DRs .u8)),(1,(Am.DRs .u8)),(1,(Am.DInt .u64)),(1,(Am.DInt .u64)),(1,Am.DBool),(1,(Am.DSl .u8))]):=by
  refine Am.opd_stm (Gl:=[(32,(Am.DArr 32 .u8)),(1,(Am.DInt .i64)),(1,(Am.DRs .u8)),(1,(Am.DRs .u8)),(1,(Am.DInt .u64)),(1,(Am.DInt .u64)),(1,Am.DBool),(1,(Am.DSl .u8))]) Tryd.underlying58 (by kernel_rfl) rfl (fun i f p h hg=>?_)
  rcases i with _ | _ | _ | _ | _ | _ | _ | _ | i
  · obtain rfl:=Option.some.inj (show some _=some f from h)
    obtain rfl:=Option.some.inj (show some _=some p from hg)
    exact⟨rfl,by kernel_rfl,(show Am.OpD enc Tryd.prog W _ 23 (Am.DArr 32 .u8)from Am.opd_arr Tryd.underlying23 Tryd.underlying5 (by kernel_rfl) (by kernel_rfl))⟩
  · obtain rfl:=Option.some.inj (show some _=some f from h)
    obtain rfl:=Option.some.inj (show some _=some p from hg)
    exact⟨rfl,by kernel_rfl,(show Am.OpD enc Tryd.prog W _ 3 (Am.DInt .i64)from Am.opd_int Tryd.underlying3)⟩
  · obtain rfl:=Option.some.inj (show some _=some f from h)
    obtain rfl:=Option.some.inj (show some _=some p from hg)
    exact⟨rfl,by kernel_rfl,(show Am.OpD enc Tryd.prog W _ 24 (Am.DRs .u8)from Am.opd_rsl Tryd.underlying24 Tryd.underlying5 (by kernel_rfl))⟩
  · obtain rfl:=Option.some.inj (show some _=some f from h)
    obtain rfl:=Option.some.inj (show some _=some p from hg)
    exact⟨rfl,by kernel_rfl,(show Am.OpD enc Tryd.prog W _ 24 (Am.DRs .u8)from Am.opd_rsl Tryd.underlying24 Tryd.underlying5 (by kernel_rfl))⟩
  · obtain rfl:=Option.some.inj (show some _=some f from h)
    obtain rfl:=Option.some.inj (show some _=some p from hg)
    exact⟨rfl,by kernel_rfl,(show Am.OpD enc Tryd.prog W _ 56 (Am.DInt .u64)from Am.opd_int Tryd.underlying56)⟩
  · obtain rfl:=Option.some.inj (show some _=some f from h)
    obtain rfl:=Option.some.inj (show some _=some p from hg)
    exact⟨rfl,by kernel_rfl,(show Am.OpD enc Tryd.prog W _ 56 (Am.DInt .u64)from Am.opd_int Tryd.underlying56)⟩
  · obtain rfl:=Option.some.inj (show some _=some f from h)
    obtain rfl:=Option.some.inj (show some _=some p from hg)
    exact⟨rfl,by kernel_rfl,(show Am.OpD enc Tryd.prog W _ 4 Am.DBool from Am.opd_bool Tryd.underlying4)⟩
  · obtain rfl:=Option.some.inj (show some _=some f from h)
    obtain rfl:=Option.some.inj (show some _=some p from hg)
    exact⟨rfl,by kernel_rfl,(show Am.OpD enc Tryd.prog W _ 24 (Am.DSl .u8)from Am.opd_sl Tryd.underlying24 Tryd.underlying5 (by kernel_rfl))⟩
  · simp at h
theorem contract (H:Type) (enc:TypeId×Value→H) (W:World) (base:Nat) (args:Array Value) (ds gs:List (DataW H)) (before:List MemPlace)
    (hval:∀(j:Nat) t v,Tryd.f8.params[j]?=some t→args[j]?=some v→Value.okWide Tryd.prog W .any base t v)
    (hW:DataW.Whole enc Tryd.prog Tryd.f8.params.toList Rows.guardSealsSpec.vars false W args.toList ds gs before) (hL:laidMetH Tryd.prog Rows.guardSealsRow.laid W) :
    Calls Tryd.prog 8 args W fun e W'=>∃v,e=.returned v∧Rows.guardSealsSpec.post enc Tryd.prog Tryd.f8 false true false false W args v W':=by
  have hW':=hW
  obtain⟨p,q,hA0,hV,rfl,hfz,hnd⟩:=hW
  have hA:DataW.TrodAll enc Tryd.prog W 0 (fun _=>true) true Tryd.f8.params.toList args.toList ds p:=hA0
  rw[Tryd.params8]at hA hval
  have ha0:args.toList=args.toList:=rfl
  obtain⟨v0,vs0,d0,ds0,p0,q0,e0,rfl,rfl,h0,r0⟩:=trodAll_cons hA
  obtain⟨rfl,rfl,rfl⟩:=trodAll_nil r0
  obtain rfl:args=#[v0]:=by cases args;simp_all
  obtain⟨rfl,rfl⟩:=trodVars_none hV
  obtain⟨x0,c0,rfl,a0,o0,w0⟩:=Am.open_stD Tryd.underlying58 shapeD58 (hval 0 58 v0 rfl rfl) h0
  clear hA0
  have hD:=Am.lawGuardSeals _ (⟨_,rfl,w0⟩)
  refine (Am.law_atF hD (gw hL) (.st a0 w0.len o0 .nil)).mono fun e W' ⟨he,hk⟩=>⟨_,he,?_⟩
  refine Am.post_true (t:=4) (by kernel_rfl) (by kernel_rfl) (by kernel_rfl) (fun t ht=>?_) Tryd.underlying4 (by kernel_rfl) rfl rfl (by simpa using hW') hk
  rw[Tryd.params8]at ht
  have:t∈[58]:=ht
  have hsz:Tryd.prog.types.size=158:=by kernel_rfl
  rw[hsz]
  simp only[List.mem_cons,List.not_mem_nil,or_false]at this
  rcases this with rfl<;>decide
noncomputable def laidWorld (os:Os):World :=
  { World.holding Tryd.prog os ⟨#[],#[],[]⟩with heap:=((World.holding Tryd.prog os ⟨#[],#[],[]⟩).heap.modify 0 fun
      | .cells _ t frozen=>.cells (Am.roots.map (Value.int .u64)).toArray t frozen
      | o=>o) }
theorem laid_met (os:Os):laidMet Tryd.prog Rows.guardSealsRow.laid ((laidWorld os).forCall (fun _ _=>0) ⟨#[],#[.agg (Array.replicate 32 (Value.int .u8 0)++#[Value.int .i64 0,Value.slice none 0 0,Value.slice none 0 0,Value.int .u64 0,Value.int .u64 0,Value.bool false,Value.slice none 0 0])],[]⟩).memory :=
  laidMet_of_run' 8 (by kernel_rfl) (by kernel_rfl)
theorem reads (os:Os) {H:Type} (enc:TypeId×Value→H):∃places,DataW.whole enc Tryd.prog ((laidWorld os).forCall (fun _ _=>0) ⟨#[],#[.agg (Array.replicate 32 (Value.int .u8 0)++#[Value.int .i64 0,Value.slice none 0 0,Value.slice none 0 0,Value.int .u64 0,Value.int .u64 0,Value.bool false,Value.slice none 0 0])],[]⟩).memory Tryd.f8.params.toList Rows.guardSealsSpec.vars false (#[.agg (Array.replicate 32 (Value.int .u8 0)++#[Value.int .i64 0,Value.slice none 0 0,Value.slice none 0 0,Value.int .u64 0,Value.int .u64 0,Value.bool false,Value.slice none 0 0])]:Array Value).toList 8=some ([.agg [.agg (List.replicate 32 (.lit (.int .u8 0))),.lit (.int .i64 0),.nil,.nil,.lit (.int .u64 0),.lit (.int .u64 0),.lit (.bool false),.nil]],[],places) :=
  ⟨[],by kernel_rfl⟩
theorem lifted (os:Os) (started:os.Started) (H:Type) (enc:TypeId×Value→H) (F:Stop.Interp) :
    ReturnsInHanded {} Tryd.checked os 8 .any ((OpenSpec.ofChange Rows.guardSealsSpec).preRow enc Tryd.prog Tryd.f8 Rows.guardSealsRow.domain false Rows.guardSealsRow.laid) (((OpenSpec.ofChange Rows.guardSealsSpec).at F).post enc Tryd.prog Tryd.f8 false true false false):=by
  obtain⟨places,hx⟩:=reads os enc
  refine returnsInHanded_of_row (C:=Tryd.checked) (s:=(OpenSpec.ofChange Rows.guardSealsSpec)) own started (by kernel_rfl) Tryd.func8
    (witness_row_at (enc:=enc) (C:=Tryd.checked) false (laidWorld os) #[.agg (Array.replicate 32 (Value.int .u8 0)++#[Value.int .i64 0,Value.slice none 0 0,Value.slice none 0 0,Value.int .u64 0,Value.int .u64 0,Value.bool false,Value.slice none 0 0])] rfl (by kernel_rfl) (by kernel_rfl) (by kernel_rfl)
      (OpenSpec.preRow_of_cond 8 hx (by kernel_rfl) (fun k hk=>by cases hk) (by kernel_rfl) (laid_met os))) ?_
  intro W base args ds gs before hval hW _ _ _ hL _ _
  exact contract H enc W base args ds gs before hval hW hL
theorem said:Rows.GuardSealsSaid :=
  OpenClaim.holds_of_cond 8 Tryd.f8 rfl rfl rfl rfl rfl rfl rfl ⟨rfl,rfl,rfl,rfl,rfl⟩ rfl rfl rfl rfl rfl (by kernel_rfl) Tryd.func8 (by kernel_rfl)
    (of_decide_eq_true (by kernel_rfl)) (by unfold Func.isWrapper;first | (rw[if_pos (by decide +kernel)];kernel_rfl) | (rw[if_neg (by decide +kernel)];exact⟨rfl,rfl⟩))
    (fun os started H enc _ F=>by rw[OpenClaim.pre_eq_preRow];exact lifted os started H enc F)
theorem plain (f : FuncId) (fn : Func) (hf : Tryd.pinned.checked.prog.funcNamed "skiff/skifflaw13.GuardSeals" = some f) (hfn : Tryd.pinned.checked.prog.funcs[f]? = some fn) :
    false=Tryd.pinned.checked.prog.looks []∧∀(j:Nat) t,fn.params[j]?=some t→Tryd.pinned.checked.prog.wantsStandIn t=false:=by
  obtain rfl : f = 8 := Option.some.inj ((show Tryd.prog.funcNamed "skiff/skifflaw13.GuardSeals" = some 8 by kernel_rfl).symm.trans hf) |>.symm
  obtain rfl:fn=Tryd.f8:=(Option.some.inj (Tryd.func8.symm.trans hfn)).symm
  refine⟨by kernel_rfl,fun j t ht=>?_⟩
  rw[Tryd.params8]at ht
  have hall:∀t∈[58],Tryd.prog.wantsStandIn t=false:=by
    intro t ht
    simp only[List.mem_cons,List.not_mem_nil,or_false]at ht
    rcases ht with rfl
    all_goals kernel_rfl
  exact hall t (by have:=Array.mem_of_getElem? ht;simpa using this)
/-- The statement. -/
theorem holds:Rows.GuardSealsCardSaid :=
  Claim7.holds_tied_plain_at .later [] _ _ _ _ said (fun _ h=>by cases h) (by kernel_rfl) (fun _ h=>by cases h) guardSeals_row_tie rfl ⟨rfl,rfl⟩ (by kernel_rfl) rfl plain (by kernel_rfl)
end Go.Proofs.YtcefobjfkmfmiaaDoor.rGuardSeals
