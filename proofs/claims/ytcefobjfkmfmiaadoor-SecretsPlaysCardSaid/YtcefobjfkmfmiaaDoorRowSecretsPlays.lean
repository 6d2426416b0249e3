/-
'SecretsPlays': whatever the input, the Go function 'skiff/skifflaw15.SecretsPlays' returns true, and the input reads as it did. Conditions: those of the given row alone.
-/
import Derived.Test.YtcefobjfkmfmiaaDoorCards
import Derived.Test.YtcefobjfkmfmiaaDoorTie
import Derived.WalkKit
import Derived.ProofKit
import Derived.OpenShut
import Derived.Deep.DeepHandedRow
import Derived.Lib.LaidTab
import Derived.Test.YtcefobjfkmfmiaaDoorAmShape
import Derived.Test.YtcefobjfkmfmiaaDoorSpB
set_option linter.unusedSimpArgs false
set_option linter.unusedVariables false
set_option linter.unusedSectionVars false
set_option maxRecDepth 100000
namespace Go.Proofs.YtcefobjfkmfmiaaDoor.rSecretsPlays
open Go Go.ChangeShapes Go.WideShapes Go.ChangeAt Go.RowKit
theorem own:ownKnob Tryd.prog.godebug=none:=by kernel_rfl
theorem gTab0 : Tryd.prog.globalNamed "skiff/sha2.roots" = some 0 := by kernel_rfl
theorem gType0:(Tryd.prog.globals[0]?).map (·.type)=some 109:=by kernel_rfl
theorem gTab1 : Tryd.prog.globalNamed "skiff/skiffref03.thirds" = some 1 := by kernel_rfl
theorem gType1:(Tryd.prog.globals[1]?).map (·.type)=some 109:=by kernel_rfl
theorem gTab2 : Tryd.prog.globalNamed "skiff/skiffref03.seconds" = some 2 := by kernel_rfl
theorem gType2:(Tryd.prog.globals[2]?).map (·.type)=some 111:=by kernel_rfl
theorem gw {W:World} (h:laidMetH Tryd.prog Rows.secretsPlaysRow.laid W):Am.GW W Am.gl1:=by
  have v0:=Am.vars_of_met (P:=Tryd.prog) (W:=W) (l:=Rows.secretsPlaysRow.laid) h
  have t0 := Am.gw_tab (Am.tabIs_of_vars (rest := [("skiff/skiffref03.thirds", Lib.tabData .u64 Am.roots), ("skiff/skiffref03.seconds", Lib.tabData .u64 Am.seconds)]) (zs := Am.roots) gTab0 gType0 Tryd.underlying109 Tryd.underlying56 (by kernel_rfl) (by kernel_rfl) v0) gTab0
  have v1:=Am.vars_tail v0
  have t1 := Am.gw_tab (Am.tabIs_of_vars (rest := [("skiff/skiffref03.seconds", Lib.tabData .u64 Am.seconds)]) (zs := Am.roots) gTab1 gType1 Tryd.underlying109 Tryd.underlying56 (by kernel_rfl) (by kernel_rfl) v1) gTab1
  have v2:=Am.vars_tail v1
  have t2:=Am.gw_tab (Am.tabIs_of_vars (rest:=[]) (zs:=Am.seconds) gTab2 gType2 Tryd.underlying111 Tryd.underlying56 (by kernel_rfl) (by kernel_rfl) v2) gTab2
  refine⟨rfl,fun g B hB=>?_⟩
  rcases g with _ | _ | _ | _ | g
  · obtain⟨e,fr,hh⟩:=t0
    have hB:=Option.some.inj (show some _=some B from hB)
    subst hB
    exact .inr ⟨_,_,e,fr,rfl,hh⟩
  · obtain⟨e,fr,hh⟩:=t1
    have hB:=Option.some.inj (show some _=some B from hB)
    subst hB
    exact .inr ⟨_,_,e,fr,rfl,hh⟩
  · obtain⟨e,fr,hh⟩:=t2
    have hB:=Option.some.inj (show some _=some B from hB)
    subst hB
    exact .inr ⟨_,_,e,fr,rfl,hh⟩
  all_goals
    simp[Am.gl1]at hB
  all_goals exact .inl hB.symm

theorem shape47 {H:Type} {enc:TypeId×Value→H} {W:World} {base:Nat}:Am.Op enc Tryd.prog W base 47 (Am.Gs [(Am.GInt .u8),(Am.GSr .u8),(Am.GSr .u8)]):=by
  refine Am.op_st (Gl:=[(Am.GInt .u8),(Am.GSr .u8),(Am.GSr .u8)]) Tryd.underlying47 (by kernel_rfl) (fun i f h=>?_) rfl (fun i f G h hg=>?_)
  · rcases i with _ | _ | _ | i
    · obtain rfl:=Option.some.inj (show some _=some f from h);exact⟨rfl,by kernel_rfl⟩
    · obtain rfl:=Option.some.inj (show some _=some f from h);exact⟨rfl,by kernel_rfl⟩
    · obtain rfl:=Option.some.inj (show some _=some f from h);exact⟨rfl,by kernel_rfl⟩
    · simp at h
  · rcases i with _ | _ | _ | i
    · obtain rfl:=Option.some.inj (show some _=some f from h)
      obtain rfl:=Option.some.inj (show some _=some G from hg)
      exact(show Am.Op enc Tryd.prog W _ 5 (Am.GInt .u8)from Am.op_int Tryd.underlying5)
    · obtain rfl:=Option.some.inj (show some _=some f from h)
      obtain rfl:=Option.some.inj (show some _=some G from hg)
      exact(show Am.Op enc Tryd.prog W _ 24 (Am.GSr .u8)from Am.op_slr Tryd.underlying24 Tryd.underlying5 (by kernel_rfl))
    · obtain rfl:=Option.some.inj (show some _=some f from h)
      obtain rfl:=Option.some.inj (show some _=some G from hg)
      exact(show Am.Op enc Tryd.prog W _ 24 (Am.GSr .u8)from Am.op_slr Tryd.underlying24 Tryd.underlying5 (by kernel_rfl))
    · simp at h
theorem contract (H:Type) (enc:TypeId×Value→H) (W:World) (base:Nat) (args:Array Value) (ds gs:List (DataW H)) (before:List MemPlace)
    (hval:∀(j:Nat) t v,Tryd.f5.params[j]?=some t→args[j]?=some v→Value.okWide Tryd.prog W .any base t v)
    (hW:DataW.Whole enc Tryd.prog Tryd.f5.params.toList Rows.secretsPlaysSpec.vars false W args.toList ds gs before) (hL:laidMetH Tryd.prog Rows.secretsPlaysRow.laid W) :
    Calls Tryd.prog 5 args W fun e W'=>∃v,e=.returned v∧Rows.secretsPlaysSpec.post enc Tryd.prog Tryd.f5 false true false false W args v W':=by
  have hW':=hW
  obtain⟨p,q,hA0,hV,rfl,hfz,hnd⟩:=hW
  have hA:DataW.TrodAll enc Tryd.prog W 0 (fun _=>true) true Tryd.f5.params.toList args.toList ds p:=hA0
  rw[Tryd.params5]at hA hval
  have ha0:args.toList=args.toList:=rfl
  obtain⟨v0,vs0,d0,ds0,p0,q0,e0,rfl,rfl,h0,r0⟩:=trodAll_cons hA
  obtain⟨v1,vs1,d1,ds1,p1,q1,e1,rfl,rfl,h1,r1⟩:=trodAll_cons r0
  obtain⟨v2,vs2,d2,ds2,p2,q2,e2,rfl,rfl,h2,r2⟩:=trodAll_cons r1
  obtain⟨v3,vs3,d3,ds3,p3,q3,e3,rfl,rfl,h3,r3⟩:=trodAll_cons r2
  obtain⟨rfl,rfl,rfl⟩:=trodAll_nil r3
  subst e3
  subst e2
  subst e1
  obtain rfl:args=#[v0,v1,v2,v3]:=by cases args;simp_all
  obtain⟨rfl,rfl⟩:=trodVars_none hV
  obtain⟨x0,a0,w0,l0⟩:=Am.open_sl Tryd.underlying24 Tryd.underlying5 (by kernel_rfl) (hval 0 24 v0 rfl rfl) h0
  obtain⟨x1,a1,w1⟩:=Am.open_sls Tryd.underlying40 (show Am.Op enc Tryd.prog W _ 40 (Am.GSlr 3 (Am.Gs [(Am.GInt .u8),(Am.GSr .u8),(Am.GSr .u8)]))from Am.op_slsr Tryd.underlying40 shape47 (by kernel_rfl) (by decide)) (hval 1 40 v1 rfl rfl) h1
  obtain⟨x2,a2,w2,l2⟩:=Am.open_s Tryd.underlying9 (hval 2 9 v2 rfl rfl) h2
  obtain⟨x3,a3,w3,l3⟩:=Am.open_sl Tryd.underlying24 Tryd.underlying5 (by kernel_rfl) (hval 3 24 v3 rfl rfl) h3
  clear hA0
  have hD:=Am.lawSecretsPlays _ (⟨_,_,_,_,rfl,Am.dig_u8 w0,w1,w2,Am.dig_u8 w3⟩)
  refine (Am.law_at hD (gw hL) (.cons a0 (.cons a1 (.cons a2 (.cons a3 .nil))))).mono fun e W' ⟨he,hk⟩=>⟨_,he,?_⟩
  refine Am.post_true (t:=4) (by kernel_rfl) (by kernel_rfl) (by kernel_rfl) (fun t ht=>?_) Tryd.underlying4 (by kernel_rfl) rfl rfl (by simpa using hW') hk
  rw[Tryd.params5]at ht
  have:t∈[24,40,9,24]:=ht
  have hsz:Tryd.prog.types.size=158:=by kernel_rfl
  rw[hsz]
  simp only[List.mem_cons,List.not_mem_nil,or_false]at this
  rcases this with rfl | rfl | rfl | rfl<;>decide
noncomputable def laidWorld (os:Os):World :=
  { World.holding Tryd.prog os ⟨#[],#[],[]⟩with heap:=((((World.holding Tryd.prog os ⟨#[],#[],[]⟩).heap.modify 0 fun
      | .cells _ t frozen=>.cells (Am.roots.map (Value.int .u64)).toArray t frozen
      | o=>o).modify 1 fun
      | .cells _ t frozen=>.cells (Am.roots.map (Value.int .u64)).toArray t frozen
      | o=>o).modify 2 fun
      | .cells _ t frozen=>.cells (Am.seconds.map (Value.int .u64)).toArray t frozen
      | o=>o) }
theorem laid_met (os:Os):laidMet Tryd.prog Rows.secretsPlaysRow.laid ((laidWorld os).forCall (fun _ _=>0) ⟨#[],#[.slice none 0 0,.slice none 0 0,.string ByteArray.empty,.slice none 0 0],[]⟩).memory :=
  laidMet_of_run' 8 (by kernel_rfl) (by kernel_rfl)
theorem reads (os:Os) {H:Type} (enc:TypeId×Value→H):∃places,DataW.whole enc Tryd.prog ((laidWorld os).forCall (fun _ _=>0) ⟨#[],#[.slice none 0 0,.slice none 0 0,.string ByteArray.empty,.slice none 0 0],[]⟩).memory Tryd.f5.params.toList Rows.secretsPlaysSpec.vars false (#[.slice none 0 0,.slice none 0 0,.string ByteArray.empty,.slice none 0 0]:Array Value).toList 8=some ([.nil,.nil,.lit (.string []),.nil],[],places) :=
  ⟨[],by kernel_rfl⟩
theorem lifted (os:Os) (started:os.Started) (H:Type) (enc:TypeId×Value→H) (F:Stop.Interp) :
    ReturnsInHanded {} Tryd.checked os 5 .any ((OpenSpec.ofChange Rows.secretsPlaysSpec).preRow enc Tryd.prog Tryd.f5 Rows.secretsPlaysRow.domain false Rows.secretsPlaysRow.laid) (((OpenSpec.ofChange Rows.secretsPlaysSpec).at F).post enc Tryd.prog Tryd.f5 false true false false):=by
  obtain⟨places,hx⟩:=reads os enc
  refine returnsInHanded_of_row (C:=Tryd.checked) (s:=(OpenSpec.ofChange Rows.secretsPlaysSpec)) own started (by kernel_rfl) Tryd.func5
    (witness_row_at (enc:=enc) (C:=Tryd.checked) false (laidWorld os) #[.slice none 0 0,.slice none 0 0,.string ByteArray.empty,.slice none 0 0] rfl (by kernel_rfl) (by kernel_rfl) (by kernel_rfl)
      (OpenSpec.preRow_of_cond 8 hx (by kernel_rfl) (fun k hk=>by cases hk) (by kernel_rfl) (laid_met os))) ?_
  intro W base args ds gs before hval hW _ _ _ hL _ _
  exact contract H enc W base args ds gs before hval hW hL
theorem said:Rows.SecretsPlaysSaid :=
  OpenClaim.holds_of_cond 5 Tryd.f5 rfl rfl rfl rfl rfl rfl rfl ⟨rfl,rfl,rfl,rfl,rfl⟩ rfl rfl rfl rfl rfl (by kernel_rfl) Tryd.func5 (by kernel_rfl)
    (of_decide_eq_true (by kernel_rfl)) (by unfold Func.isWrapper;first | (rw[if_pos (by decide +kernel)];kernel_rfl) | (rw[if_neg (by decide +kernel)];exact⟨rfl,rfl⟩))
    (fun os started H enc _ F=>by rw[OpenClaim.pre_eq_preRow];exact lifted os started H enc F)
theorem plain (f : FuncId) (fn : Func) (hf : Tryd.pinned.checked.prog.funcNamed "skiff/skifflaw15.SecretsPlays" = some f) (hfn : Tryd.pinned.checked.prog.funcs[f]? = some fn) :
    false=Tryd.pinned.checked.prog.looks []∧∀(j:Nat) t,fn.params[j]?=some t→Tryd.pinned.checked.prog.wantsStandIn t=false:=by
  obtain rfl : f = 5 := Option.some.inj ((show Tryd.prog.funcNamed "skiff/skifflaw15.SecretsPlays" = some 5 by kernel_rfl).symm.trans hf) |>.symm
  obtain rfl:fn=Tryd.f5:=(Option.some.inj (Tryd.func5.symm.trans hfn)).symm
  refine⟨by kernel_rfl,fun j t ht=>?_⟩
  rw[Tryd.params5]at ht
  have hall:∀t∈[24,40,9],Tryd.prog.wantsStandIn t=false:=by
    intro t ht
    simp only[List.mem_cons,List.not_mem_nil,or_false]at ht
    rcases ht with rfl | rfl | rfl
    all_goals kernel_rfl
  exact hall t (by have:=Array.mem_of_getElem? ht;first | (simpa using this) | (simp at this ⊢;rcases this with rfl | rfl | rfl | rfl<;>simp))
/-- The statement. -/
theorem holds:Rows.SecretsPlaysCardSaid :=
  Claim7.holds_tied_plain_at .later [] _ _ _ _ said (fun _ h=>by cases h) (by kernel_rfl) (fun _ h=>by cases h) secretsPlays_row_tie rfl ⟨rfl,rfl⟩ (by kernel_rfl) rfl plain (by kernel_rfl)
end Go.Proofs.YtcefobjfkmfmiaaDoor.rSecretsPlays
