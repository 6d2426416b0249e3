/-
All operations together; calls by what is known of the function called.
-/
import Derived.Test.YtcefobjfkmfmiaaDoorAmOps5
import Derived.LoopN
import Derived.Orders
set_option linter.unusedSimpArgs false
set_option linter.unusedVariables false
set_option linter.unusedSectionVars false
namespace Am
open Go (IntKind BinOp UnOp Value FuncId TypeId World Program Oper Op Operand Code Func ResultVar Addr Obj Act Exit Sem Result Next execOp Ending Calls)

/-- The first four blocks stand for package-level variables. -/
structure GOk (gl:List Blk) (σ:Sg) (hp:List Blk):Prop where
  at_:∀g,g<4→∃l,σ g=some l∧l.blk=g∧l.off=0
  is:hp.take 4=gl

/-- What a summary promises of a function. -/
def SumOK (P:Program) (gl:List Blk) (f:FuncId) (s:Summ):Prop :=
  ∀(Own:Nat→Nat→Prop) (σ:Sg) (hp:List Blk) (w:World) (vs:List V) (cvs:Array Value) (K:Ef→Prop),Sim Own σ (nthB hp) w→GOk gl σ hp→VRs σ vs cvs.toList→s vs hp K →
    (∀e,K e→∀j,j<e.nw.length→σ (hp.length+j)=none) →
    ∃e,K e∧Calls P f cvs w fun en w'=>∃v' σ',en=.returned v'∧Post Own σ (nthB hp) hp.length e w v' w' σ'

theorem nils_const {y:Operand} (h:compX y=some (.c .nils)) (a:Act):a.eval y=.slice none 0 0:=by
  cases y with
  | tmp t=>simp[compX]at h
  | const v =>
    simp only[compX,Option.map_eq_some_iff]at h
    obtain⟨x,hx,he⟩:=h
    cases he
    have:v=.slice none 0 0:=by
      unfold ofValue at hx
      split at hx
      · rename_i cs
        unfold ofAgg at hx
        split at hx
        · split at hx
          · simp at hx
          · obtain⟨_,_,h⟩:=Option.map_eq_some_iff.1 hx;simp at h
        · obtain⟨_,_,h⟩:=Option.map_eq_some_iff.1 hx;simp at h
      · simp at hx
      · unfold ofCell at hx
        split at hx<;>simp at hx
        rfl
    subst this
    rfl
  | global g=>simp only[compX]at h;split at h<;>simp at h
  | func f=>simp[compX]at h
section
variable {P : Program} {Own : Nat → Nat → Prop} {σ : Sg} {hp : List Blk} {w : World} {a : Act} {o : Oper} {Q : Exit → Act → World → Prop} {S : FuncId → Summ} {ρ : X → V} {K : Ef → Prop} {gl : List Blk} {mf : List FuncId}

theorem compXs_ok (hρ:∀x y,compX x=some y→VR σ (ρ y) (a.eval x)):∀{xs:List Operand} {ys:List X},compXs xs=some ys→VRs σ (evs ρ ys) (xs.map a.eval)
  | [],ys,h=>by simp[compXs]at h;subst h;exact .nil
  | x::xs,ys,h=>by
    simp only[compXs]at h
    obtain⟨y,hy,h⟩:=Option.bind_eq_some_iff.1 h
    obtain⟨r,hr,rfl⟩:=Option.map_eq_some_iff.1 h
    exact .cons (hρ x y hy) (compXs_ok hρ hr)
theorem compO_ok (hρ:∀x y,compX x=some y→VR σ (ρ y) (a.eval x)) {x:Option Operand} {y:Option X} (h:compO x=some y):OR σ ρ a y x:=by
  cases x with
  | none=>simp[compO]at h;subst h;trivial
  | some x =>
    simp only[compO]at h
    obtain⟨r,hr,rfl⟩:=Option.map_eq_some_iff.1 h
    exact hρ x r hr

theorem good_call {f:FuncId} {args:Array Operand} {ts:Array TypeId} {xs:List X} (ho:o.op=.call { callee:=.value (.func f),args:=args,argTypes:=ts }) (he:enters P f=true) (hxs:compXs args.toList=some xs)
    (hS:SumOK P gl f (S f)) (hs:Sim Own σ (nthB hp) w) (hG:GOk gl σ hp) (hρ:∀x y,compX x=some y→VR σ (ρ y) (a.eval x)) (hfr:∀e,K e→∀j,j<e.nw.length→σ (hp.length+j)=none)
    (h:S f (evs ρ xs) hp K):∃e,K e∧Done P Own σ hp w a o Q e:=by
  have hvs:VRs σ (evs ρ xs) (args.map a.eval).toList:=by simpa using compXs_ok hρ hxs
  obtain⟨e,hk,hc⟩:=hS Own σ hp w _ _ K hs hG hvs h hfr
  refine⟨e,hk,?_⟩
  unfold enters at he
  have hrun:(execOp a.eval o).run P w=.ok (.enter f (args.map a.eval)) w:=by
    cases hf:P.funcs[f]? with
    | none=>simp[hf]at he
    | some fn =>
      simp[hf]at he
      obtain⟨c,hb⟩:=Option.isSome_iff_exists.1 he.2
      simp[execOp,ho,Go.resolve,Go.Deferred.ofValue,Act.eval,Go.invoke,Go.callFunc,hf,he.1,hb]
  unfold Done Oper.wp
  rw[hrun,Oper.upon_enter]
  refine hc.mono fun en w' ⟨v',σ',hen,hp'⟩=>?_
  subst hen
  exact⟨v',σ',rfl,hp'⟩

theorem mrow_ok {P:Program} {t:TypeId} {m:String} {f:FuncId} (h:mrow P t m=some f):∃i r e,P.info? t=some i∧i.methods.find? (·.name==m)=some r∧r.path=#[]∧r.func=some (f,true)∧P.underlying t=some (.pointer e)∧enters P f=true:=by
  unfold mrow at h
  obtain⟨i,hi,h⟩:=Option.bind_eq_some_iff.1 h
  obtain⟨r,hr,h⟩:=Option.bind_eq_some_iff.1 h
  split at h
  · rename_i hp
    split at h
    · rename_i g e hf ht
      split at h
      · rename_i he
        cases h
        exact⟨i,r,e,hi,hr,by simpa using hp,hf,ht,he⟩
      · simp at h
    · simp at h
  · simp at h
theorem method_ok {P:Program} {t:TypeId} {m:String} {f:FuncId} (h:mrow P t m=some f) (n:Nat) (v:Value) (w:World):(Go.method (n+1) t v m).run P w=.ok (f,v) w:=by
  obtain⟨i,r,e,hi,hr,hp,hf,ht,he⟩:=mrow_ok h
  rw[Go.method]
  simp[Go.typeInfo,go_sem,hi,hr,hp,hf,Go.follow,Go.receiverAt,Go.underlying,ht,Go.Place.get]
theorem ahead_ok {P:Program} {t:TypeId} {m:String} {f:FuncId} (h:mrow P t m=some f) (n:Nat) (v:Value) (w:World):(Go.nilAhead (n+1) t v m).run P w=.ok (some false) w:=by
  obtain⟨i,r,e,hi,hr,hp,hf,ht,he⟩:=mrow_ok h
  rw[Go.nilAhead]
  simp[Go.typeInfo,go_sem,hi,hr,hp,hf,Go.followBlind]
theorem row1_mem {l:List (TypeId×FuncId)} {t:TypeId} {f:FuncId} (h:row1 l t=some f):(t,f)∈l:=by
  induction l with
  | nil=>simp[row1]at h
  | cons p l ih =>
    obtain⟨u,g⟩:=p
    simp only[row1]at h
    split at h
    · rename_i hu
      cases h
      subst hu
      simp
    · exact List.mem_cons_of_mem _ (ih h)
theorem mtab_ok {P:Program} {t:TypeId} {m:String} {f:FuncId} (h:row1 (mtab P m) t=some f):mrow P t m=some f:=by
  have:=row1_mem h
  unfold mtab at this
  obtain⟨u,-,hu⟩:=List.mem_filterMap.1 this
  obtain⟨g,hg,he⟩:=Option.map_eq_some_iff.1 hu
  cases he
  exact hg
theorem ntab_ok {P:Program} {s t:TypeId} {m:String} (h:(m,t)∈ntab P s):∃f,mrow P t m=some f:=by
  unfold ntab at h
  obtain⟨u,-,hu⟩:=List.mem_flatMap.1 h
  split at hu
  · obtain⟨r,-,hr⟩:=List.mem_filterMap.1 hu
    split at hr
    · obtain⟨f,hf,he⟩:=Option.map_eq_some_iff.1 hr
      cases he
      exact⟨f,hf⟩
    · simp at hr
  · simp at hu
theorem good_mkif {t:TypeId} {d:Go.TypeDesc} {x:Operand} {x':X} (ho:o.op=.makeInterface t x) (hd:P.underlying t=some d) (hni:∀a,d≠.interface a) (hx:VR σ (ρ x') (a.eval x)) (h:exec S ρ hp (.mkif t x') K):∃e,K e∧Done P Own σ hp w a o Q e:=by
  simp only[exec]at h
  refine⟨_,h,done_pure (v':=.iface t (a.eval x)) ?_ (.iface hx)⟩
  cases d<;>first | (exfalso;exact hni _ rfl) | simp[execOp,ho,Go.Instr.makeInterface,Go.underlying,go_sem,hd]
theorem good_s2a {t e:TypeId} {n:Nat} {x:Operand} {x':X} (ho:o.op=.sliceToArrayPointer t x) (hd:P.underlying t=some (.array n e)) (hx:VR σ (ρ x') (a.eval x)) (h:exec S ρ hp (.s2a n x') K):∃e,K e∧Done P Own σ hp w a o Q e:=by
  simp only[exec]at h
  generalize hX:ρ x'=X at h hx
  generalize hxv:a.eval x=xv at hx
  cases X<;>simp only at h<;>try exact h.elim
  case slice b o1 sz len cap =>
    cases hx with
    | @slice _ _ _ _ _ cap' ad l hb hl hc hbd ha =>
    obtain⟨⟨h0,hn⟩,hk⟩:=h
    have had:=ha (by omega)
    subst had
    refine⟨_,hk,done_pure (v':=.pointer (some ⟨l.blk,l.off+o1,none⟩)) ?_ (.ptr hb)⟩
    simp only[execOp,ho,hxv]
    simp[Go.Instr.arrayAt,Go.underlying,go_sem,hd,Nat.not_lt.2 hn]
  case rsl sz len k xs =>
    cases hx with
    | @rsl _ _ cap _ _ ad blk off hn' hl ha hx' =>
    obtain⟨⟨h0,hn⟩,hk⟩:=h
    have had:=ha (by omega)
    subst had
    refine⟨_,hk,done_pure (v':=.pointer (some ⟨blk,off+0,none⟩)) ?_ (.rpi hx')⟩
    simp only[execOp,ho,hxv]
    simp[Go.Instr.arrayAt,Go.underlying,go_sem,hd,Nat.not_lt.2 hn]
theorem good_mkm {m:String} {x:Operand} {x':X} (ho:o.op=.makeFunc (.method m) #[x] #[]) (hx:VR σ (ρ x') (a.eval x)) (h:exec S ρ hp (.mkm m x') K):∃e,K e∧Done P Own σ hp w a o Q e:=by
  simp only[exec]at h
  generalize hX:ρ x'=X at h hx
  generalize hxv:a.eval x=xv at hx
  cases X<;>simp only at h<;>try exact h.elim
  cases hx
  rename_i v _
  exact⟨_,h,done_pure (v':=.func (.method m) #[.iface _ v] #[]) (by simp only[execOp,ho,List.map_toArray,List.map_cons,List.map_nil,hxv,Go.Instr.makeFunc];simp[go_sem]) .mth⟩
theorem good_nckM {x:Operand} {x':X} (ho:o.op=.nilCheck x) {s:TypeId} (hx:VR σ (ρ x') (a.eval x)) (h:exec S ρ hp (.nckM (ntab P s) x') K):∃e,K e∧Done P Own σ hp w a o Q e:=by
  simp only[exec]at h
  generalize hX:ρ x'=X at h hx
  generalize hxv:a.eval x=xv at hx
  cases X<;>simp only at h<;>try exact h.elim
  cases hx
  rename_i v
  obtain⟨f,hf⟩:=ntab_ok h.1
  obtain⟨n,hn⟩:∃n,P.types.size+Go.Made.depth=n+1:=⟨P.types.size+Go.Made.depth-1,by simp[Go.Made.depth]⟩
  refine⟨_,h.2,done_pure (v':=.func (.method _) #[.iface _ v] #[]) ?_ .mth⟩
  have ha:=ahead_ok hf n v w
  rw[←hn]at ha
  simp only[execOp,ho,hxv]
  simp[go_sem,ha]
theorem good_inv {r:Operand} {m:String} {args:Array Operand} {ts:Array TypeId} {r':X} {xs:List X} (ho:o.op=.call { callee:=.invoke r m,args:=args,argTypes:=ts }) (hr:VR σ (ρ r') (a.eval r)) (hxs:compXs args.toList=some xs)
    (hS:∀f,SumOK P gl f (S f)) (hs:Sim Own σ (nthB hp) w) (hG:GOk gl σ hp) (hρ:∀x y,compX x=some y→VR σ (ρ y) (a.eval x)) (hfr:∀e,K e→∀j,j<e.nw.length→σ (hp.length+j)=none)
    (h:exec S ρ hp (.inv (mtab P m) r' xs) K):∃e,K e∧Done P Own σ hp w a o Q e:=by
  simp only[exec]at h
  generalize hX:ρ r'=X at h hr
  generalize hrv:a.eval r=rv at hr
  cases X<;>simp only at h<;>try exact h.elim
  cases hr
  rename_i t v' v hv
  split at h<;>try exact h.elim
  rename_i f hf
  have hm:=mtab_ok hf
  obtain⟨i,rr,e,-,-,-,-,-,he⟩:=mrow_ok hm
  have hvs:VRs σ (v'::evs ρ xs) (#[v]++args.map a.eval).toList:=by
    simpa using VRs.cons hv (compXs_ok hρ hxs)
  obtain⟨e,hk,hc⟩:=hS f Own σ hp w _ _ _ hs hG hvs h fun e he=>hfr e he.2
  refine⟨e,hk.2,?_⟩
  unfold enters at he
  obtain⟨n,hn⟩:∃n,P.types.size+Go.Made.depth=n+1:=⟨P.types.size+Go.Made.depth-1,by simp[Go.Made.depth]⟩
  have hmo:=method_ok hm n v w
  rw[←hn]at hmo
  have hrun:(execOp a.eval o).run P w=.ok (.enter f (#[v]++args.map a.eval)) w:=by
    cases hf:P.funcs[f]? with
    | none=>simp[hf]at he
    | some fn =>
      simp[hf]at he
      obtain⟨c,hb⟩:=Option.isSome_iff_exists.1 he.2
      have h0:(#[Value.iface t v]++args.map a.eval)[0]?=some (.iface t v):=by simp[Array.getElem?_append]
      have h1:(#[Value.iface t v]++args.map a.eval).extract 1 (#[Value.iface t v]++args.map a.eval).size=args.map a.eval:=by
        apply Array.toList_inj.1
        simp
        exact List.take_of_length_le (by simp)
      have h2:(execOp a.eval o).run P w=(Go.invoke (.fn (.method m) #[]) (#[Value.iface t v]++args.map a.eval)).run P w:=by
        simp only[execOp,ho,Go.resolve,hrv]
        rfl
      rw[h2]
      simp only[Go.invoke,h0,h1]
      simp[Go.callMethod,Go.callFunc,go_sem,hmo,hf,he.1,hb]
  unfold Done Oper.wp
  rw[hrun,Oper.upon_enter]
  refine hc.mono fun en w' ⟨v',σ',hen,hp'⟩=>?_
  subst hen
  exact⟨v',σ',rfl,hp'⟩

theorem matches_u8 {e:TypeId} (h:isU8 P e=true):P.underlying e=some (.int .u8):=by
  unfold isU8 at h
  split at h<;>simp_all

theorem exec_good {i:I} (hc:compI P mf o=some i) (hS:∀f,SumOK P gl f (S f)) (hs:Sim Own σ (nthB hp) w) (hG:GOk gl σ hp) (hρ:∀x y,compX x=some y→VR σ (ρ y) (a.eval x))
    (hfr:∀e,K e→∀j,j<e.nw.length→σ (hp.length+j)=none) (h:exec S ρ hp i K):∃e,K e∧Done P Own σ hp w a o Q e:=by
  cases hop:o.op<;>simp only[compI,hop,reduceCtorEq]at hc
  case move x =>
    obtain⟨y,hy,rfl⟩:=Option.map_eq_some_iff.1 hc
    exact good_mov (.inl hop) (hρ x y hy) h
  case assign x =>
    obtain⟨y,hy,rfl⟩:=Option.map_eq_some_iff.1 hc
    exact good_mov (.inr hop) (hρ x y hy) h
  case pick c x y =>
    obtain⟨c',h1,hc⟩:=Option.bind_eq_some_iff.1 hc
    obtain⟨x',h2,hc⟩:=Option.bind_eq_some_iff.1 hc
    obtain⟨y',h3,rfl⟩:=Option.map_eq_some_iff.1 hc
    exact good_pick hop (hρ _ _ h1) (hρ _ _ h2) (hρ _ _ h3) h
  case alloc t =>
    obtain⟨z,hz,rfl⟩:=Option.map_eq_some_iff.1 hc
    exact good_alloc hop hz hs hfr h
  case box t x =>
    obtain⟨y,hy,rfl⟩:=Option.map_eq_some_iff.1 hc
    exact good_box hop (hρ _ _ hy) hs hfr h
  case build t ps =>
    obtain⟨d,hd,hc⟩:=Option.bind_eq_some_iff.1 hc
    obtain⟨z,hz,hc⟩:=Option.bind_eq_some_iff.1 hc
    split at hc
    · rename_i hagg
      have hagg':(∃k xs,z=.ints k xs)∨∃cs,z=.agg cs:=by
        cases z<;>simp[isAggV]at hagg
        · exact .inl ⟨_,_,rfl⟩
        · exact .inr ⟨_,rfl⟩
      cases d with
      | array n e =>
        obtain⟨sz,hsz,hc⟩:=Option.bind_eq_some_iff.1 hc
        obtain⟨ps',hps,rfl⟩:=Option.map_eq_some_iff.1 hc
        exact good_build hop hd hz (.inr ⟨n,e,sz,rfl,hsz,rfl⟩) hps hρ hagg' h
      | struct fs =>
        obtain⟨pl,hpl,hc⟩:=Option.bind_eq_some_iff.1 hc
        obtain⟨ps',hps,rfl⟩:=Option.map_eq_some_iff.1 hc
        exact good_build hop hd hz (.inl ⟨fs,pl,rfl,hpl,rfl⟩) hps hρ hagg' h
      | _=>simp at hc
    · simp at hc
  case buildSlice t n ps =>
    obtain⟨d,hd,hc⟩:=Option.bind_eq_some_iff.1 hc
    cases d<;>simp only[reduceCtorEq]at hc
    obtain⟨sz,hsz,hc⟩:=Option.bind_eq_some_iff.1 hc
    obtain⟨z,hz,hc⟩:=Option.bind_eq_some_iff.1 hc
    split at hc
    · rename_i hn
      obtain⟨B,hB,hc⟩:=Option.bind_eq_some_iff.1 hc
      obtain⟨ps',hps,rfl⟩:=Option.map_eq_some_iff.1 hc
      exact good_bsl hop hd hsz hz hn.1 hn.2 hB hps hρ hs hfr h
    · simp at hc
  case load t x =>
    obtain⟨m,hm,hc⟩:=Option.bind_eq_some_iff.1 hc
    obtain⟨y,hy,rfl⟩:=Option.map_eq_some_iff.1 hc
    cases m with
    | none=>exact good_load hop hm (hρ _ _ hy) hs h
    | some n=>exact good_loadN hop hm (hρ _ _ hy) hs h
  case store t x v =>
    obtain⟨m,hm,hc⟩:=Option.bind_eq_some_iff.1 hc
    obtain⟨y,hy,hc⟩:=Option.bind_eq_some_iff.1 hc
    obtain⟨z,hz,rfl⟩:=Option.map_eq_some_iff.1 hc
    cases m with
    | none=>exact good_store hop hm (hρ _ _ hy) (hρ _ _ hz) hs h
    | some n=>exact good_storeN hop hm (hρ _ _ hy) (hρ _ _ hz) hs h
  case nilCheck x =>
    obtain⟨y,hy,hc⟩:=Option.map_eq_some_iff.1 hc
    split at hc
    · subst hc
      exact good_nckM hop (hρ _ _ hy) h
    · subst hc
      exact good_nck hop (hρ _ _ hy) h
  case makeInterface t x =>
    obtain⟨d,hd,hc⟩:=Option.bind_eq_some_iff.1 hc
    split at hc
    · simp at hc
    · rename_i hni
      obtain⟨y,hy,rfl⟩:=Option.map_eq_some_iff.1 hc
      exact good_mkif hop hd (fun a h=>hni a h) (hρ _ _ hy) h
  case sliceToArrayPointer t x =>
    obtain⟨d,hd,hc⟩:=Option.bind_eq_some_iff.1 hc
    cases d<;>simp only[reduceCtorEq]at hc
    obtain⟨y,hy,rfl⟩:=Option.map_eq_some_iff.1 hc
    exact good_s2a hop hd (hρ _ _ hy) h
  case makeFunc fn first captured =>
    cases fn<;>simp only[reduceCtorEq]at hc
    split at hc
    · rename_i x hf hcap
      obtain⟨y,hy,rfl⟩:=Option.map_eq_some_iff.1 hc
      have h1:first=#[x]:=by apply Array.toList_inj.1;simpa using hf
      have h2:captured=#[]:=by apply Array.toList_inj.1;simpa using hcap
      subst h1 h2
      exact good_mkm hop (hρ _ _ hy) h
    · simp at hc
  case binOp op t x y ty =>
    obtain⟨d,hd,hc⟩:=Option.bind_eq_some_iff.1 hc
    obtain⟨x',hx,hc⟩:=Option.bind_eq_some_iff.1 hc
    obtain⟨y',hy,hc⟩:=Option.bind_eq_some_iff.1 hc
    have flat:(if P.eqGuardType P.depth t=false then (flatInts P 8 t).bind fun n=>match op with | .eql=>some (.eqf false n x' y') | .neq=>some (.eqf true n x' y') | _=>none else none)=some i→(∃fs,d=.struct fs)∨(∃n e,d=.array n e)→∃e,K e∧Done P Own σ hp w a o Q e:=by
      intro hc hdd
      split at hc
      · rename_i hg
        obtain⟨n,hn,hc⟩:=Option.bind_eq_some_iff.1 hc
        have hagg:∃m,cells? P t=some (some m):=by
          obtain⟨⟨m,hm,-⟩,-⟩:=flat_eq 8 t n hn
          have hcc:=cells_ok hm
          have hia:isAgg? P t=some true:=by
            rcases hdd with ⟨fs,rfl⟩ | ⟨n,e,rfl⟩<;>simp[isAgg?,hd]
          cases m with
          | none=>rw[hia]at hcc;simp at hcc
          | some m=>exact⟨m,hm⟩
        cases op<;>simp only[reduceCtorEq,Option.some.injEq]at hc
        · subst hc;exact good_eqf hop rfl hn hg hagg (hρ _ _ hx) (hρ _ _ hy) h
        · subst hc;exact good_eqf hop rfl hn hg hagg (hρ _ _ hx) (hρ _ _ hy) h
      · simp at hc
    cases d with
    | bool=>simp only[Option.some.injEq]at hc;subst hc;exact good_binB hop hd (hρ _ _ hx) (hρ _ _ hy) h
    | int k=>simp only[Option.some.injEq]at hc;subst hc;exact good_bin hop (hρ _ _ hx) (hρ _ _ hy) h
    | string=>simp only[Option.some.injEq]at hc;subst hc;exact good_binS hop (hρ _ _ hx) (hρ _ _ hy) h
    | pointer e=>simp only[Option.some.injEq]at hc;subst hc;exact good_binP hop hd (hρ _ _ hx) (hρ _ _ hy) h
    | slice e =>
      simp only at hc
      split at hc
      · have hyv:=nils_const hy a
        split at hc<;>simp only[Option.some.injEq,reduceCtorEq]at hc
        · subst hc;exact good_eqnS (neg:=false) hop hd (hρ _ _ hx) hyv h
        · subst hc;exact good_eqnS (neg:=true) hop hd (hρ _ _ hx) hyv h
      · simp at hc
    | array n e=>exact flat hc (.inr ⟨n,e,rfl⟩)
    | struct fs=>exact flat hc (.inl ⟨fs,rfl⟩)
    | _=>simp at hc
  case unOp op t x =>
    obtain⟨y,hy,rfl⟩:=Option.map_eq_some_iff.1 hc
    exact good_un hop (hρ _ _ hy) h
  case convert s d x =>
    obtain⟨ds,hds,hc⟩:=Option.bind_eq_some_iff.1 hc
    obtain⟨dd,hdd,hc⟩:=Option.bind_eq_some_iff.1 hc
    obtain⟨x',hx,hc⟩:=Option.bind_eq_some_iff.1 hc
    cases ds<;>cases dd<;>simp only[reduceCtorEq,Option.some.injEq]at hc
    case int.int ks k=>subst hc;exact good_conv hop hds hdd (hρ _ _ hx) h
    case string.string=>subst hc;exact good_convStr hop hds hdd (hρ _ _ hx) h
    case string.slice e =>
      split at hc
      · rename_i hu
        simp at hc;subst hc
        exact good_s2b hop hds hdd (matches_u8 hu) hs hfr (hρ _ _ hx) h
      · simp at hc
    case slice.string e =>
      split at hc
      · rename_i hu
        simp at hc;subst hc
        exact good_b2s hop hds (matches_u8 hu) hdd hs (hρ _ _ hx) h
      · simp at hc
    case slice.slice =>
      split at hc
      · rename_i hu
        simp at hc;subst hc
        obtain⟨rfl,hu⟩:=hu
        exact good_mark hop hdd (matches_u8 hu) hs (hρ _ _ hx) h
      · simp at hc
  case makeSlice t l c =>
    obtain⟨d,hd,hc⟩:=Option.bind_eq_some_iff.1 hc
    cases d<;>simp only[reduceCtorEq]at hc
    obtain⟨sz,hsz,hc⟩:=Option.bind_eq_some_iff.1 hc
    obtain⟨by_,hby,hc⟩:=Option.bind_eq_some_iff.1 hc
    obtain⟨z,hz,hc⟩:=Option.bind_eq_some_iff.1 hc
    split at hc
    · rename_i hvl
      obtain⟨l',hl,hc⟩:=Option.bind_eq_some_iff.1 hc
      obtain⟨c',hcc,rfl⟩:=Option.map_eq_some_iff.1 hc
      exact good_mks hop hd hsz hby hz hvl hs hfr (hρ _ _ hl) (hρ _ _ hcc) h
    · simp at hc
  case slice t x lo hi mx =>
    obtain⟨d,hd,hc⟩:=Option.bind_eq_some_iff.1 hc
    obtain⟨x',hx,hc⟩:=Option.bind_eq_some_iff.1 hc
    obtain⟨lo',hlo,hc⟩:=Option.bind_eq_some_iff.1 hc
    obtain⟨hi',hhi,hc⟩:=Option.bind_eq_some_iff.1 hc
    obtain⟨mx',hmx,hc⟩:=Option.bind_eq_some_iff.1 hc
    split at hc
    · simp at hc
    · rename_i hm
      have hm':(mx'.isSome&&hi'.isNone)=false:=by simpa only[Bool.not_eq_true]using hm
      cases d<;>simp only[reduceCtorEq]at hc
      case string =>
        split at hc
        · simp at hc
        · rename_i hn
          simp at hc;subst hc
          have hmn:mx=none:=by
            cases mx with
            | none=>rfl
            | some m =>
              simp only[compO]at hmx
              obtain⟨r,hr,rfl⟩:=Option.map_eq_some_iff.1 hmx
              simp at hn
          exact good_slcStr hop hd (hρ _ _ hx) (compO_ok hρ hlo) (compO_ok hρ hhi) hmn h
      case slice e =>
        obtain⟨sz,hsz,rfl⟩:=Option.map_eq_some_iff.1 hc
        exact good_slcS hop hd hsz hm' (hρ _ _ hx) (compO_ok hρ hlo) (compO_ok hρ hhi) (compO_ok hρ hmx) h
      case array n e =>
        obtain⟨sz,hsz,rfl⟩:=Option.map_eq_some_iff.1 hc
        exact good_slcA hop hd hsz hs hm' (hρ _ _ hx) (compO_ok hρ hlo) (compO_ok hρ hhi) (compO_ok hρ hmx) h
  case fieldAddr t x f =>
    obtain⟨d,hd,hc⟩:=Option.bind_eq_some_iff.1 hc
    cases d<;>simp only[reduceCtorEq]at hc
    obtain⟨fd,hfd,hc⟩:=Option.bind_eq_some_iff.1 hc
    obtain⟨n,hn,hc⟩:=Option.bind_eq_some_iff.1 hc
    split at hc
    · simp at hc
    · rename_i h0
      obtain⟨y,hy,rfl⟩:=Option.map_eq_some_iff.1 hc
      exact good_fldA hop hd hfd hn h0 (hρ _ _ hy) h
  case field t x f =>
    obtain⟨d,hd,hc⟩:=Option.bind_eq_some_iff.1 hc
    cases d<;>simp only[reduceCtorEq]at hc
    obtain⟨fd,hfd,hc⟩:=Option.bind_eq_some_iff.1 hc
    obtain⟨m,hm,hc⟩:=Option.bind_eq_some_iff.1 hc
    obtain⟨y,hy,rfl⟩:=Option.map_eq_some_iff.1 hc
    exact good_fld hop hd hfd hm (hρ _ _ hy) h
  case indexAddr t x i' =>
    obtain⟨d,hd,hc⟩:=Option.bind_eq_some_iff.1 hc
    obtain⟨x',hx,hc⟩:=Option.bind_eq_some_iff.1 hc
    obtain⟨i'',hi,hc⟩:=Option.bind_eq_some_iff.1 hc
    cases d<;>simp only[reduceCtorEq]at hc
    · obtain⟨sz,hsz,rfl⟩:=Option.map_eq_some_iff.1 hc
      exact good_idxS hop hd hsz (hρ _ _ hx) (hρ _ _ hi) h
    · obtain⟨sz,hsz,rfl⟩:=Option.map_eq_some_iff.1 hc
      exact good_idxA hop hd hsz (hρ _ _ hx) (hρ _ _ hi) h
  case index t x i' =>
    obtain⟨d,hd,hc⟩:=Option.bind_eq_some_iff.1 hc
    obtain⟨x',hx,hc⟩:=Option.bind_eq_some_iff.1 hc
    obtain⟨i'',hi,hc⟩:=Option.bind_eq_some_iff.1 hc
    cases d<;>simp only[reduceCtorEq,Option.some.injEq]at hc
    · subst hc
      exact good_idxStr hop hd (hρ _ _ hx) (hρ _ _ hi) h
    · obtain⟨sz,hsz,hc⟩:=Option.bind_eq_some_iff.1 hc
      obtain⟨m,hm,rfl⟩:=Option.map_eq_some_iff.1 hc
      exact good_idxV hop hd hsz hm (hρ _ _ hx) (hρ _ _ hi) h
  case extract x i' =>
    obtain⟨x',hx,rfl⟩:=Option.map_eq_some_iff.1 hc
    exact good_ext hop (hρ _ _ hx) h
  case call c =>
    obtain⟨callee,args,ts⟩:=c
    unfold compCall at hc
    simp only at hc
    split at hc
    · rename_i f
      split at hc
      · rename_i he
        obtain⟨xs,hxs,hc⟩:=Option.map_eq_some_iff.1 hc
        split at hc
        · subst hc
          exact good_call hop he hxs (hS f) hs hG hρ hfr h
        · subst hc
          simp only[exec]at h
          obtain⟨e,hk,hd⟩:=good_call (Q:=Q) hop he hxs (hS f) hs hG hρ (fun e he=>hfr e he.2) h
          exact⟨e,hk.2,hd⟩
      · split at hc
        · rename_i hadd
          split at hc
          · rename_i x y z hx
            have hx':args=#[x,y,z]:=by apply Array.toList_inj.1;simpa using hx
            subst hx'
            obtain⟨x',hx1,hc⟩:=Option.bind_eq_some_iff.1 hc
            obtain⟨y',hy1,hc⟩:=Option.bind_eq_some_iff.1 hc
            obtain⟨z',hz1,rfl⟩:=Option.map_eq_some_iff.1 hc
            exact good_add64 hop hadd (hρ _ _ hx1) (hρ _ _ hy1) (hρ _ _ hz1) h
          · simp at hc
        · simp at hc
    · rename_i r m
      obtain⟨r',hr,hc⟩:=Option.bind_eq_some_iff.1 hc
      obtain⟨xs,hxs,rfl⟩:=Option.map_eq_some_iff.1 hc
      exact good_inv hop (hρ _ _ hr) hxs hS hs hG hρ hfr h
    · split at hc
      · rename_i x t hx ht
        have hx':args=#[x]:=by apply Array.toList_inj.1;simpa using hx
        have ht':ts=#[t]:=by apply Array.toList_inj.1;simpa using ht
        subst hx' ht'
        obtain⟨d,hd,hc⟩:=Option.bind_eq_some_iff.1 hc
        cases d<;>simp only[reduceCtorEq,Option.some.injEq]at hc
        · obtain⟨y,hy,rfl⟩:=Option.map_eq_some_iff.1 hc
          exact good_lenS hop hd (hρ _ _ hy) h
        · obtain⟨y,hy,rfl⟩:=Option.map_eq_some_iff.1 hc
          exact good_len hop hd (hρ _ _ hy) h
        · subst hc
          exact good_lenA hop hd h
      · simp at hc
    · split at hc
      · rename_i x y t u hx ht
        have hx':args=#[x,y]:=by apply Array.toList_inj.1;simpa using hx
        have ht':ts=#[t,u]:=by apply Array.toList_inj.1;simpa using ht
        subst hx' ht'
        obtain⟨d,hd,hc⟩:=Option.bind_eq_some_iff.1 hc
        obtain⟨du,hdu,hc⟩:=Option.bind_eq_some_iff.1 hc
        obtain⟨e,rfl⟩:∃e,d=.slice e:=by cases d<;>first | exact⟨_,rfl⟩ | simp at hc
        simp only at hc
        have fin:notInt du→((size? P e).bind fun sz=>(bytes? P e).bind fun by_=>(zero? P e).bind fun z=>if vlen z=sz∧0<by_∧(mkB z).isSome then (compX x).bind fun a=>(compX y).map fun b=>I.app sz by_ a b else none)=some i→∃e,K e∧Done P Own σ hp w a o Q e:=by
          intro hni hc
          obtain⟨sz,hsz,hc⟩:=Option.bind_eq_some_iff.1 hc
          obtain⟨by_,hby,hc⟩:=Option.bind_eq_some_iff.1 hc
          obtain⟨z,hz,hc⟩:=Option.bind_eq_some_iff.1 hc
          split at hc
          · rename_i hvl
            obtain⟨x',hx1,hc⟩:=Option.bind_eq_some_iff.1 hc
            obtain⟨y',hy1,rfl⟩:=Option.map_eq_some_iff.1 hc
            exact good_app hop hd hdu hni hsz hby hz hvl.1 hvl.2.1 (Option.isSome_iff_ne_none.1 hvl.2.2) hs hfr (hρ _ _ hx1) (hρ _ _ hy1) h
          · simp at hc
        cases du<;>simp only[reduceCtorEq]at hc
        · obtain⟨sz,hsz,hc⟩:=Option.bind_eq_some_iff.1 hc
          obtain⟨by_,hby,hc⟩:=Option.bind_eq_some_iff.1 hc
          obtain⟨z,hz,hc⟩:=Option.bind_eq_some_iff.1 hc
          split at hc
          · rename_i hvl
            obtain⟨x',hx1,hc⟩:=Option.bind_eq_some_iff.1 hc
            obtain⟨y',hy1,rfl⟩:=Option.map_eq_some_iff.1 hc
            exact good_appZ hop hd hdu hsz hby hz hvl.1 hvl.2.1 (Option.isSome_iff_ne_none.1 hvl.2.2) hs hfr (hρ _ _ hx1) (hρ _ _ hy1) h
          · simp at hc
        · exact fin (.inr rfl) hc
        · exact fin (.inl ⟨_,rfl⟩) hc
      · simp at hc
    · split at hc
      · rename_i x y t u hx ht
        have hx':args=#[x,y]:=by apply Array.toList_inj.1;simpa using hx
        have ht':ts=#[t,u]:=by apply Array.toList_inj.1;simpa using ht
        subst hx' ht'
        obtain⟨d,hd,hc⟩:=Option.bind_eq_some_iff.1 hc
        cases d<;>simp only[reduceCtorEq]at hc
        obtain⟨sz,hsz,hc⟩:=Option.bind_eq_some_iff.1 hc
        obtain⟨x',hx1,hc⟩:=Option.bind_eq_some_iff.1 hc
        obtain⟨y',hy1,rfl⟩:=Option.map_eq_some_iff.1 hc
        exact good_copy hop rfl hd hsz hs (hρ _ _ hx1) (hρ _ _ hy1) h
      · simp at hc
    · split at hc
      · rename_i x y hx
        have hx':args=#[x,y]:=by apply Array.toList_inj.1;simpa using hx
        subst hx'
        obtain⟨x',hx1,hc⟩:=Option.bind_eq_some_iff.1 hc
        obtain⟨y',hy1,rfl⟩:=Option.map_eq_some_iff.1 hc
        exact good_max hop (hρ _ _ hx1) (hρ _ _ hy1) h
      · simp at hc
    · split at hc
      · rename_i x y hx
        have hx':args=#[x,y]:=by apply Array.toList_inj.1;simpa using hx
        subst hx'
        obtain⟨x',hx1,hc⟩:=Option.bind_eq_some_iff.1 hc
        obtain⟨y',hy1,rfl⟩:=Option.map_eq_some_iff.1 hc
        exact good_min hop (hρ _ _ hx1) (hρ _ _ hy1) h
      · rename_i x y z hx
        have hx':args=#[x,y,z]:=by apply Array.toList_inj.1;simpa using hx
        subst hx'
        obtain⟨x',hx1,hc⟩:=Option.bind_eq_some_iff.1 hc
        obtain⟨y',hy1,hc⟩:=Option.bind_eq_some_iff.1 hc
        obtain⟨z',hz1,rfl⟩:=Option.map_eq_some_iff.1 hc
        exact good_min3 hop (hρ _ _ hx1) (hρ _ _ hy1) (hρ _ _ hz1) h
      · simp at hc
    · simp at hc
end
end Am
/-
Frames and slots; regions in the text's order.
-/
namespace Am
open Go (IntKind BinOp UnOp Value FuncId TypeId World Program Oper Op Operand Code Func ResultVar Addr Obj Act Exit Sem Result Next execOp Ending Calls wpList yielded)

/-- Slots. -/
structure SR (σ:Sg) (sl:List V) (tmps:Array Value):Prop where
  len:sl.length=tmps.size
  get:∀t,VR σ (nth sl t) (tmps.getD t Go.undef)

structure StOK (Own:Nat→Nat→Prop) (gl:List Blk) (σ:Sg) (s:St) (a:Act) (w:World):Prop where
  sim:Sim Own σ (nthB s.hp) w
  glob:GOk gl σ s.hp
  sr:SR σ s.sl a.tmps
  defers:a.defers=[]
  dom:∀b,s.hp.length≤b→σ b=none
  ro:∀B∈gl,B.wr=false

theorem SR.mono {σ τ:Sg} {sl:List V} {tmps:Array Value} (h:SR σ sl tmps) (hs:Sg.le σ τ):SR τ sl tmps:=⟨h.len,fun t=>(h.get t).mono hs⟩

theorem nth_upd (sl:List V) (d t:Nat) (v:V):nth (upd sl d v) t=if t=d∧d<sl.length then v else nth sl t:=by
  rw[nth_get,nth_get,upd_set,List.getElem?_set]
  by_cases h:d=t
  · subst h
    by_cases h2:d<sl.length
    · simp[h2]
    · simp[h2]
  · rw[if_neg h,if_neg (by omega)]

theorem SR.put {σ:Sg} {sl:List V} {a:Act} {d:Option Nat} {v:V} {v':Value} (h:SR σ sl a.tmps) (hv:VR σ v v'):SR σ (put sl d v) (a.put d v').tmps:=by
  cases d with
  | none=>exact h
  | some d =>
    refine⟨by simp[Am.put,upd_set,Act.put,h.len],fun t=>?_⟩
    simp only[Am.put,Act.put,nth_upd]
    by_cases hc:t=d∧d<sl.length
    · obtain⟨rfl,hlt⟩:=hc
      rw[if_pos ⟨rfl,hlt⟩]
      rw[h.len]at hlt
      simpa[hlt]using hv
    · rw[if_neg hc]
      by_cases ht:t=d
      · subst ht
        have hge:¬t<sl.length:=fun h=>hc ⟨rfl,h⟩
        rw[h.len]at hge
        have:=h.get t
        simpa[hge,Array.getD]using this
      · have:=h.get t
        simp only[Array.getD_eq_getD_getElem?]at this ⊢
        rw[Array.getElem?_setIfInBounds_ne (by omega)]
        exact this

theorem rho_ok {gl:List Blk} {σ:Sg} {hp:List Blk} {sl:List V} {a:Act} (h:SR σ sl a.tmps) (hG:GOk gl σ hp):∀x y,compX x=some y→VR σ (ev sl y) (a.eval x):=by
  intro x y hxy
  cases x with
  | tmp t=>simp[compX]at hxy;subst hxy;exact h.get t
  | const v =>
    simp only[compX]at hxy
    obtain⟨c,hc,rfl⟩:=Option.map_eq_some_iff.1 hxy
    exact ofValue_ok hc
  | global g =>
    simp only[compX]at hxy
    split at hxy
    · rename_i hg
      simp at hxy;subst hxy
      obtain⟨l,hl,h1,h2⟩:=hG.at_ g hg
      have:=VR.ptr (σ:=σ) (o:=0) hl
      simpa[ev,Act.eval,h1,h2]using this
    · simp at hxy
  | func f=>simp[compX]at hxy;subst hxy;exact .fn .nil

/-- The heap as a list behind an operation. -/
theorem apS_length:∀(st:List (Nat×Blk)) (hp:List Blk),(apS hp st).length=hp.length
  | [],hp=>rfl
  | (b,B)::r,hp=>by simp[apS,apS_length r,updB_set]
theorem nthB_apS:∀(st:List (Nat×Blk)) (hp:List Blk) (b:Nat),(st.map (·.1)).Nodup→(∀p∈st,p.1<hp.length)→nthB (apS hp st) b=(lookS st b).getD (nthB hp b)
  | [],hp,b,_,_=>rfl
  | (c,C)::r,hp,b,hn,hl=>by
    simp only[List.map_cons,List.nodup_cons]at hn
    rw[apS,nthB_apS r _ b hn.2 (fun p hp'=>by rw[updB_set,List.length_set];exact hl p (List.mem_cons_of_mem _ hp'))]
    simp only[lookS]
    by_cases h:b=c
    · subst h
      have hnone:lookS r b=none:=by
        cases hk:lookS r b with
        | none=>rfl
        | some B=>exact absurd (List.mem_map.2 ⟨_,lookS_mem hk,rfl⟩) hn.1
      have hlt:b<hp.length:=hl (b,C) (by simp)
      rw[hnone]
      simp[nthB_get,updB_set,hlt]
    · simp only[if_neg h]
      congr 1
      rw[nthB_get,nthB_get,updB_set,List.getElem?_set_ne (Ne.symm h)]
theorem apN_append (hp nw:List Blk):apN hp nw=hp++nw:=by cases nw<;>simp[apN]
theorem nthB_ap {σ:Sg} {Own:Nat→Nat→Prop} {hp:List Blk} {e:Ef} {w w':World} {v':Value} {σ':Sg} (hp':Post Own σ (nthB hp) hp.length e w v' w' σ'):nthB (apN (apS hp e.st) e.nw)=upH (nthB hp) hp.length e:=by
  have hlt:∀p∈e.st,p.1<hp.length:=by
    intro p hm
    have:=hp'.stwr p hm
    rcases Nat.lt_or_ge p.1 hp.length with h | h
    · exact h
    · rw[nthB_get,List.getElem?_eq_none h]at this
      simp[Blk.wr]at this
  funext b
  rw[apN_append,nthB_get]
  unfold upH
  by_cases hb:b<hp.length
  · rw[List.getElem?_append_left (by rw[apS_length];exact hb),←nthB_get,nthB_apS _ _ _ hp'.nodup hlt,if_neg (by omega)]
    cases lookS e.st b<;>rfl
  · have hnone:lookS e.st b=none:=by
      cases hk:lookS e.st b with
      | none=>rfl
      | some B=>exact absurd (hlt _ (lookS_mem hk)) hb
    rw[List.getElem?_append_right (by rw[apS_length];omega),apS_length,hnone]
    by_cases h2:b<hp.length+e.nw.length
    · simp only[]
      rw[if_pos ⟨by omega,h2⟩]
    · simp only[]
      rw[if_neg (by omega),List.getElem?_eq_none (by omega),nthB_get,List.getElem?_eq_none (by omega)]
theorem take_apS {hp:List Blk}:∀(st:List (Nat×Blk)),(∀p∈st,4≤p.1)→(apS hp st).take 4=hp.take 4:=by
  intro st
  induction st generalizing hp with
  | nil=>intro _;rfl
  | cons p r ih =>
    intro h
    obtain⟨b,B⟩:=p
    rw[apS,ih (fun p hp=>h p (List.mem_cons_of_mem _ hp)),updB_set]
    have:=h (b,B) (by simp)
    rw[List.take_set_of_le (by simpa using this)]

section
variable {P : Program} {Own : Nat → Nat → Prop} {gl : List Blk} {σ : Sg} {s : St} {w : World} {a : Act} {S : FuncId → Summ} {mf : List FuncId}

theorem Kept.own {hp:List Blk} {e:Ef} {v':Value} {w':World} {σ':Sg} (hs:Sim Own σ (nthB hp) w) (h:Post Own σ (nthB hp) hp.length e w v' w' σ'):Kept Own w w':=by
  refine h.kept.mono fun k j ⟨p,hp',l,hl,h1,h2,h3⟩=>?_
  obtain⟨c,ee,fr,r1,r2,r3,r4⟩:=(hs.blk p.1 l hl).row (Blk.live_of_wr (h.stwr p hp')) (by omega)
  have:=(r4 (h.stwr p hp')).1 (j-l.off) (by omega)
  rw[show l.off+(j-l.off)=j by omega,h1]at this
  exact this

/-- The frame behind an operation. -/
theorem StOK.step {e:Ef} {v':Value} {w':World} {σ':Sg} {d:Option Nat} (h:StOK Own gl σ s a w) (hp':Post Own σ (nthB s.hp) s.hp.length e w v' w' σ') :
    StOK Own gl σ' ⟨put s.sl d e.v,apN (apS s.hp e.st) e.nw⟩ (a.put d v') w':=by
  have hge:∀p∈e.st,4≤p.1:=by
    intro p hm
    rcases Nat.lt_or_ge p.1 4 with h4 | h4
    · have hw:=hp'.stwr p hm
      have:nthB s.hp p.1∈gl:=by
        rw[←h.glob.is,nthB_get]
        have hlt:p.1<s.hp.length:=by
          rcases Nat.lt_or_ge p.1 s.hp.length with h | h
          · exact h
          · rw[nthB_get,List.getElem?_eq_none h]at hw
            simp[Blk.wr]at hw
        rw[List.getElem?_eq_getElem hlt]
        exact List.mem_take_iff_getElem.2 ⟨p.1,by omega,rfl⟩
      rw[h.ro _ this]at hw
      simp at hw
    · exact h4
  refine⟨?_,⟨fun g hg=>?_,?_⟩,(h.sr.mono hp'.ext).put hp'.val,?_,?_,h.ro⟩
  · simp only[]
    rw[nthB_ap hp']
    exact sim_step h.sim hp' fun j hj=>h.dom _ (by omega)
  · obtain⟨l,hl,h1⟩:=h.glob.at_ g hg
    exact⟨l,hp'.ext.loc _ _ hl,h1⟩
  · have hlen:4≤s.hp.length:=by
      obtain⟨l,hl,-⟩:=h.glob.at_ 3 (by omega)
      rcases Nat.lt_or_ge 3 s.hp.length with h' | h'
      · omega
      · rw[h.dom 3 h']at hl;simp at hl
    simp only[]
    rw[apN_append,List.take_append_of_le_length (by rw[apS_length];exact hlen),take_apS _ hge]
    exact h.glob.is
  · cases d<;>simpa[Act.put]using h.defers
  · intro b hb
    simp only[apN_append,List.length_append,apS_length]at hb
    rw[hp'.dom b (by omega)]
    exact h.dom b (by omega)

theorem StOK.skip {d:Option Nat} (h:StOK Own gl σ s a w):StOK Own gl σ ⟨put s.sl d (.tup []),s.hp⟩ (a.put d Go.undef) w :=
  ⟨h.sim,h.glob,h.sr.put (.tup .nil),by cases d<;>simpa[Act.put]using h.defers,h.dom,h.ro⟩

/-- A guard, read off its slot. -/
theorem wanted_of {ops:Array Oper} {o:Oper} {j t:Nat} {want:Bool} (hg:o.guard=some (j,want)) (ht:(ops[j]?).bind (·.dst)=some t) (h:SR σ s.sl a.tmps) :
    (∀b,nth s.sl t=.bool b→Go.Region.wanted o (yielded ops a.tmps)=(b==want))∧(nth s.sl t=.tup []→Go.Region.wanted o (yielded ops a.tmps)=false):=by
  have hv:=h.get t
  refine⟨fun b hb=>?_,fun hb=>?_⟩
  · rw[hb]at hv
    generalize hq:a.tmps.getD t Go.undef=q at hv
    cases hv
    have:a.tmps[t]?=some (.bool b):=by
      rcases Nat.lt_or_ge t a.tmps.size with hlt | hge
      · simp[hlt]at hq;simp[hlt,hq]
      · simp[hge,Go.undef]at hq
    simp[Go.Region.wanted,hg,yielded,ht,this]
  · rw[hb]at hv
    generalize hq:a.tmps.getD t Go.undef=q at hv
    cases hv
    rename_i vs hvs
    have:∀b,a.tmps[t]?≠some (.bool b):=by
      intro b hb
      rw[Array.getD_eq_getD_getElem?,hb]at hq
      simp at hq
    have hy:yielded ops a.tmps j=none:=by
      unfold yielded
      rw[ht]
      simp only[Option.bind_some]
    simp[Go.Region.wanted,hg,hy]

/-- What has been kept since a world. -/
structure Since (Own:Nat→Nat→Prop) (σ0:Sg) (w0:World) (σ:Sg) (w:World):Prop where
  kept:Kept Own w0 w
  ext:Sg.le σ0 σ
theorem Sg.le_trans {a b c:Sg} (h:Sg.le a b) (h':Sg.le b c):Sg.le a c:=⟨fun x l hx=>h'.loc x l (h.loc x l hx),h'.stat.trans h.stat⟩
theorem Since.step {σ0:Sg} {w0:World} {hp:List Blk} {e:Ef} {v':Value} {w':World} {σ':Sg} (h:Since Own σ0 w0 σ w) (hs:Sim Own σ (nthB hp) w) (hp':Post Own σ (nthB hp) hp.length e w v' w' σ'):Since Own σ0 w0 σ' w' :=
  ⟨h.kept.trans (Kept.own hs hp'),Sg.le_trans h.ext hp'.ext⟩

theorem run_sound {ops:Array Oper} {Qw:Exit→Act→World→Prop} {F:St→Prop} (hS:∀f,SumOK P gl f (S f)) (σ0:Sg) (w0:World) (hQ:∀σ s a w,StOK Own gl σ s a w→Since Own σ0 w0 σ w→F s→Qw .normal a w) :
    ∀(l:List Oper) (gs:List G) (σ:Sg) (s:St) (a:Act) (w:World),compGs P mf ops l=some gs→StOK Own gl σ s a w→Since Own σ0 w0 σ w→run S gs s F→wpList P ops Qw l a w
  | [],gs,σ,s,a,w,hc,hst,hk,h=>by
    simp[compGs]at hc;subst hc
    exact hQ σ s a w hst hk h
  | o::l,gs,σ,s,a,w,hc,hst,hk,h=>by
    simp only[compGs]at hc
    obtain⟨g,hg,hc⟩:=Option.bind_eq_some_iff.1 hc
    obtain⟨gs',hgs,rfl⟩:=Option.map_eq_some_iff.1 hc
    unfold compG at hg
    obtain⟨i,hi,hg⟩:=Option.bind_eq_some_iff.1 hg
    have doit:exec S (ev s.sl) s.hp i (fun e=>run S gs' ⟨put s.sl o.dst e.v,apN (apS s.hp e.st) e.nw⟩ F)→o.wp P a w (wpList P ops Qw l) Qw:=by
      intro hx
      obtain⟨e,hr,hd⟩:=exec_good (Q:=Qw) hi hS hst.sim hst.glob (rho_ok hst.sr hst.glob) (fun e _ j hj=>hst.dom _ (by omega)) hx
      refine Go.Oper.wp_mono (fun a' w' ⟨v',σ',ha',hp'⟩=>?_) hd
      subst ha'
      exact run_sound hS σ0 w0 hQ l gs' σ' _ _ _ hgs (hst.step hp') (hk.step hst.sim hp') hr
    unfold wpList
    cases hgd:o.guard with
    | none =>
      simp only[hgd,Option.some.injEq]at hg
      subst hg
      simp only[run]at h
      rw[if_pos (by simp[Go.Region.wanted,hgd])]
      exact .inl (doit h)
    | some jw =>
      obtain⟨j,want⟩:=jw
      simp only[hgd]at hg
      obtain⟨t,ht,rfl⟩:=Option.map_eq_some_iff.1 hg
      obtain⟨w1,w2⟩:=wanted_of hgd ht hst.sr
      simp only[run]at h
      cases hn:nth s.sl t<;>simp only[hn]at h<;>try exact h.elim
      case bool b =>
        have hw:=w1 b hn
        by_cases hbw:b=want
        · subst hbw
          rw[if_pos (by rw[hw];simp)]
          exact .inl (doit (h.1 rfl))
        · rw[if_neg (by rw[hw];simpa using hbw)]
          have hb2:b=!want:=by cases b<;>cases want<;>simp_all
          exact run_sound hS σ0 w0 hQ l gs' σ _ _ _ hgs hst.skip hk (h.2 hb2)
      case tup vs =>
        cases vs with
        | nil =>
          rw[if_neg (by rw[w2 hn];simp)]
          exact run_sound hS σ0 w0 hQ l gs' σ _ _ _ hgs hst.skip hk h
        | cons=>simp at h
end
end Am
/-
What an operation hangs on: its own slots; the memory that it reads; what it may write.
-/
namespace Am
open Go (IntKind BinOp UnOp Value FuncId TypeId World Program Oper Op Operand Code Func)

section
variable {S : FuncId → Summ} {ρ ρ' : X → V} {hp : List Blk} {K : Ef → Prop}

theorem xcongr (hc:∀v,ρ (.c v)=ρ' (.c v)) {x:X} (h:∀n∈x.slots,ρ (.t n)=ρ' (.t n)):ρ x=ρ' x:=by
  cases x with
  | t n=>exact h n (by simp[X.slots])
  | c v=>exact hc v
theorem bound_congr (hc:∀v,ρ (.c v)=ρ' (.c v)) {x:Option X} (h:∀n∈oslots x,ρ (.t n)=ρ' (.t n)) {d hi:Nat} {F:Nat→Prop}:bound x ρ d hi F=bound x ρ' d hi F:=by
  cases x with
  | none=>rfl
  | some x=>simp only[bound,xcongr hc (x:=x) h]
theorem evs_congr (hc:∀v,ρ (.c v)=ρ' (.c v)):∀{xs:List X},(∀n∈xs.flatMap (·.slots),ρ (.t n)=ρ' (.t n))→evs ρ xs=evs ρ' xs
  | [],_=>rfl
  | x::xs,h=>by
    simp only[evs]
    rw[xcongr hc (x:=x) fun n hn=>h n (by simp[hn]),evs_congr hc fun n hn=>h n (by
      simp only[List.flatMap_cons,List.mem_append];exact .inr hn)]
theorem evp_congr (hc:∀v,ρ (.c v)=ρ' (.c v)):∀{xs:List (Nat×Nat×X)},(∀n∈xs.flatMap (·.2.2.slots),ρ (.t n)=ρ' (.t n))→evp ρ xs=evp ρ' xs
  | [],_=>rfl
  | (o,m,x)::xs,h=>by
    simp only[evp]
    rw[xcongr hc (x:=x) fun n hn=>h n (by simp[hn]),evp_congr hc fun n hn=>h n (by
      simp only[List.flatMap_cons,List.mem_append];exact .inr hn)]

theorem exec_congr (hc:∀v,ρ (.c v)=ρ' (.c v)) {i:I} (h:∀n∈i.slots,ρ (.t n)=ρ' (.t n)):exec S ρ hp i K=exec S ρ' hp i K:=by
  cases i with
  | mov x =>
    have e0:ρ x=ρ' x:=xcongr hc fun n hn=>h n (by simp only[I.slots,List.mem_append];simp only[hn,true_or,or_true])
    simp only[exec,e0]
  | movS x =>
    have e0:ρ x=ρ' x:=xcongr hc fun n hn=>h n (by simp only[I.slots,List.mem_append];simp only[hn,true_or,or_true])
    simp only[exec,e0]
  | pick c a b =>
    have e0:ρ c=ρ' c:=xcongr hc fun n hn=>h n (by simp only[I.slots,List.mem_append];simp only[hn,true_or,or_true])
    have e1:ρ a=ρ' a:=xcongr hc fun n hn=>h n (by simp only[I.slots,List.mem_append];simp only[hn,true_or,or_true])
    have e2:ρ b=ρ' b:=xcongr hc fun n hn=>h n (by simp only[I.slots,List.mem_append];simp only[hn,true_or,or_true])
    simp only[exec,e0,e1,e2]
  | alloc z =>
    rfl
  | box x =>
    have e0:ρ x=ρ' x:=xcongr hc fun n hn=>h n (by simp only[I.slots,List.mem_append];simp only[hn,true_or,or_true])
    simp only[exec,e0]
  | load x =>
    have e0:ρ x=ρ' x:=xcongr hc fun n hn=>h n (by simp only[I.slots,List.mem_append];simp only[hn,true_or,or_true])
    simp only[exec,e0]
  | loadN n x =>
    have e0:ρ x=ρ' x:=xcongr hc fun n hn=>h n (by simp only[I.slots,List.mem_append];simp only[hn,true_or,or_true])
    simp only[exec,e0]
  | store x y =>
    have e0:ρ x=ρ' x:=xcongr hc fun n hn=>h n (by simp only[I.slots,List.mem_append];simp only[hn,true_or,or_true])
    have e1:ρ y=ρ' y:=xcongr hc fun n hn=>h n (by simp only[I.slots,List.mem_append];simp only[hn,true_or,or_true])
    simp only[exec,e0,e1]
  | storeN n x y =>
    have e0:ρ x=ρ' x:=xcongr hc fun n hn=>h n (by simp only[I.slots,List.mem_append];simp only[hn,true_or,or_true])
    have e1:ρ y=ρ' y:=xcongr hc fun n hn=>h n (by simp only[I.slots,List.mem_append];simp only[hn,true_or,or_true])
    simp only[exec,e0,e1]
  | bin o x y =>
    have e0:ρ x=ρ' x:=xcongr hc fun n hn=>h n (by simp only[I.slots,List.mem_append];simp only[hn,true_or,or_true])
    have e1:ρ y=ρ' y:=xcongr hc fun n hn=>h n (by simp only[I.slots,List.mem_append];simp only[hn,true_or,or_true])
    simp only[exec,e0,e1]
  | binB o x y =>
    have e0:ρ x=ρ' x:=xcongr hc fun n hn=>h n (by simp only[I.slots,List.mem_append];simp only[hn,true_or,or_true])
    have e1:ρ y=ρ' y:=xcongr hc fun n hn=>h n (by simp only[I.slots,List.mem_append];simp only[hn,true_or,or_true])
    simp only[exec,e0,e1]
  | binS o x y =>
    have e0:ρ x=ρ' x:=xcongr hc fun n hn=>h n (by simp only[I.slots,List.mem_append];simp only[hn,true_or,or_true])
    have e1:ρ y=ρ' y:=xcongr hc fun n hn=>h n (by simp only[I.slots,List.mem_append];simp only[hn,true_or,or_true])
    simp only[exec,e0,e1]
  | binP o x y =>
    have e0:ρ x=ρ' x:=xcongr hc fun n hn=>h n (by simp only[I.slots,List.mem_append];simp only[hn,true_or,or_true])
    have e1:ρ y=ρ' y:=xcongr hc fun n hn=>h n (by simp only[I.slots,List.mem_append];simp only[hn,true_or,or_true])
    simp only[exec,e0,e1]
  | eqf neg n x y =>
    have e0:ρ x=ρ' x:=xcongr hc fun n hn=>h n (by simp only[I.slots,List.mem_append];simp only[hn,true_or,or_true])
    have e1:ρ y=ρ' y:=xcongr hc fun n hn=>h n (by simp only[I.slots,List.mem_append];simp only[hn,true_or,or_true])
    simp only[exec,e0,e1]
  | un o x =>
    have e0:ρ x=ρ' x:=xcongr hc fun n hn=>h n (by simp only[I.slots,List.mem_append];simp only[hn,true_or,or_true])
    simp only[exec,e0]
  | conv k x =>
    have e0:ρ x=ρ' x:=xcongr hc fun n hn=>h n (by simp only[I.slots,List.mem_append];simp only[hn,true_or,or_true])
    simp only[exec,e0]
  | s2b x =>
    have e0:ρ x=ρ' x:=xcongr hc fun n hn=>h n (by simp only[I.slots,List.mem_append];simp only[hn,true_or,or_true])
    simp only[exec,e0]
  | b2s x =>
    have e0:ρ x=ρ' x:=xcongr hc fun n hn=>h n (by simp only[I.slots,List.mem_append];simp only[hn,true_or,or_true])
    simp only[exec,e0]
  | mks sz bytes z l c =>
    have e0:ρ l=ρ' l:=xcongr hc fun n hn=>h n (by simp only[I.slots,List.mem_append];simp only[hn,true_or,or_true])
    have e1:ρ c=ρ' c:=xcongr hc fun n hn=>h n (by simp only[I.slots,List.mem_append];simp only[hn,true_or,or_true])
    simp only[exec,e0,e1]
  | fldA off x =>
    have e0:ρ x=ρ' x:=xcongr hc fun n hn=>h n (by simp only[I.slots,List.mem_append];simp only[hn,true_or,or_true])
    simp only[exec,e0]
  | fld off n x =>
    have e0:ρ x=ρ' x:=xcongr hc fun n hn=>h n (by simp only[I.slots,List.mem_append];simp only[hn,true_or,or_true])
    simp only[exec,e0]
  | idxA n sz x i =>
    have e0:ρ x=ρ' x:=xcongr hc fun n hn=>h n (by simp only[I.slots,List.mem_append];simp only[hn,true_or,or_true])
    have e1:ρ i=ρ' i:=xcongr hc fun n hn=>h n (by simp only[I.slots,List.mem_append];simp only[hn,true_or,or_true])
    simp only[exec,e0,e1]
  | idxS sz x i =>
    have e0:ρ x=ρ' x:=xcongr hc fun n hn=>h n (by simp only[I.slots,List.mem_append];simp only[hn,true_or,or_true])
    have e1:ρ i=ρ' i:=xcongr hc fun n hn=>h n (by simp only[I.slots,List.mem_append];simp only[hn,true_or,or_true])
    simp only[exec,e0,e1]
  | idxV n sz m x i =>
    have e0:ρ x=ρ' x:=xcongr hc fun n hn=>h n (by simp only[I.slots,List.mem_append];simp only[hn,true_or,or_true])
    have e1:ρ i=ρ' i:=xcongr hc fun n hn=>h n (by simp only[I.slots,List.mem_append];simp only[hn,true_or,or_true])
    simp only[exec,e0,e1]
  | ext x i =>
    have e0:ρ x=ρ' x:=xcongr hc fun n hn=>h n (by simp only[I.slots,List.mem_append];simp only[hn,true_or,or_true])
    simp only[exec,e0]
  | len x =>
    have e0:ρ x=ρ' x:=xcongr hc fun n hn=>h n (by simp only[I.slots,List.mem_append];simp only[hn,true_or,or_true])
    simp only[exec,e0]
  | lenS x =>
    have e0:ρ x=ρ' x:=xcongr hc fun n hn=>h n (by simp only[I.slots,List.mem_append];simp only[hn,true_or,or_true])
    simp only[exec,e0]
  | lenA n =>
    rfl
  | app sz bytes x y =>
    have e0:ρ x=ρ' x:=xcongr hc fun n hn=>h n (by simp only[I.slots,List.mem_append];simp only[hn,true_or,or_true])
    have e1:ρ y=ρ' y:=xcongr hc fun n hn=>h n (by simp only[I.slots,List.mem_append];simp only[hn,true_or,or_true])
    simp only[exec,e0,e1]
  | appZ sz bytes z x y =>
    have e0:ρ x=ρ' x:=xcongr hc fun n hn=>h n (by simp only[I.slots,List.mem_append];simp only[hn,true_or,or_true])
    have e1:ρ y=ρ' y:=xcongr hc fun n hn=>h n (by simp only[I.slots,List.mem_append];simp only[hn,true_or,or_true])
    simp only[exec,e0,e1]
  | eqnS neg x =>
    have e0:ρ x=ρ' x:=xcongr hc fun n hn=>h n (by simp only[I.slots];simp only[hn])
    simp only[exec,e0]
  | copy sz x y =>
    have e0:ρ x=ρ' x:=xcongr hc fun n hn=>h n (by simp only[I.slots,List.mem_append];simp only[hn,true_or,or_true])
    have e1:ρ y=ρ' y:=xcongr hc fun n hn=>h n (by simp only[I.slots,List.mem_append];simp only[hn,true_or,or_true])
    simp only[exec,e0,e1]
  | mm mx x y =>
    have e0:ρ x=ρ' x:=xcongr hc fun n hn=>h n (by simp only[I.slots,List.mem_append];simp only[hn,true_or,or_true])
    have e1:ρ y=ρ' y:=xcongr hc fun n hn=>h n (by simp only[I.slots,List.mem_append];simp only[hn,true_or,or_true])
    simp only[exec,e0,e1]
  | min3 x y z =>
    have e0:ρ x=ρ' x:=xcongr hc fun n hn=>h n (by simp only[I.slots,List.mem_append];simp only[hn,true_or,or_true])
    have e1:ρ y=ρ' y:=xcongr hc fun n hn=>h n (by simp only[I.slots,List.mem_append];simp only[hn,true_or,or_true])
    have e2:ρ z=ρ' z:=xcongr hc fun n hn=>h n (by simp only[I.slots,List.mem_append];simp only[hn,true_or,or_true])
    simp only[exec,e0,e1,e2]
  | add64 x y z =>
    have e0:ρ x=ρ' x:=xcongr hc fun n hn=>h n (by simp only[I.slots,List.mem_append];simp only[hn,true_or,or_true])
    have e1:ρ y=ρ' y:=xcongr hc fun n hn=>h n (by simp only[I.slots,List.mem_append];simp only[hn,true_or,or_true])
    have e2:ρ z=ρ' z:=xcongr hc fun n hn=>h n (by simp only[I.slots,List.mem_append];simp only[hn,true_or,or_true])
    simp only[exec,e0,e1,e2]
  | nck x =>
    have e0:ρ x=ρ' x:=xcongr hc fun n hn=>h n (by simp only[I.slots,List.mem_append];simp only[hn,true_or,or_true])
    simp only[exec,e0]
  | mark x =>
    have e0:ρ x=ρ' x:=xcongr hc fun n hn=>h n (by simp only[I.slots,List.mem_append];simp only[hn,true_or,or_true])
    simp only[exec,e0]
  | idxStr x i =>
    have e0:ρ x=ρ' x:=xcongr hc fun n hn=>h n (by simp only[I.slots,List.mem_append];simp only[hn,true_or,or_true])
    have e1:ρ i=ρ' i:=xcongr hc fun n hn=>h n (by simp only[I.slots,List.mem_append];simp only[hn,true_or,or_true])
    simp only[exec,e0,e1]
  | build z ps=>simp only[exec,evp_congr hc (xs:=ps) fun n hn=>h n hn]
  | bsl sz len z ps=>simp only[exec,evp_congr hc (xs:=ps) fun n hn=>h n hn]
  | s2a n x =>
    have e0:ρ x=ρ' x:=xcongr hc fun n hn=>h n (by simp only[I.slots,List.mem_append];simp only[hn,true_or,or_true])
    simp only[exec,e0]
  | mkif t x =>
    have e0:ρ x=ρ' x:=xcongr hc fun n hn=>h n (by simp only[I.slots,List.mem_append];simp only[hn,true_or,or_true])
    simp only[exec,e0]
  | mkm m x =>
    have e0:ρ x=ρ' x:=xcongr hc fun n hn=>h n (by simp only[I.slots,List.mem_append];simp only[hn,true_or,or_true])
    simp only[exec,e0]
  | nckM tab x =>
    have e0:ρ x=ρ' x:=xcongr hc fun n hn=>h n (by simp only[I.slots,List.mem_append];simp only[hn,true_or,or_true])
    simp only[exec,e0]
  | inv tab r xs =>
    have e0:ρ r=ρ' r:=xcongr hc fun n hn=>h n (by simp only[I.slots,List.mem_append];simp only[hn,true_or,or_true])
    simp only[exec,e0,evs_congr hc (xs:=xs) fun n hn=>h n (by simp only[I.slots,List.mem_append];exact .inr hn)]
  | call f xs=>simp only[exec,evs_congr hc (xs:=xs) fun n hn=>h n hn]
  | callM f xs=>simp only[exec,evs_congr hc (xs:=xs) fun n hn=>h n hn]
  | slcA n sz x lo hi mx =>
    have e0:ρ x=ρ' x:=xcongr hc fun n hn=>h n (by simp only[I.slots,List.mem_append];simp only[hn,true_or,or_true])
    have e1:∀d k F,bound lo ρ d k F=bound lo ρ' d k F:=fun _ _ _=>bound_congr hc fun n hn=>h n (by simp only[I.slots,List.mem_append];simp only[hn,true_or,or_true])
    have e2:∀d k F,bound hi ρ d k F=bound hi ρ' d k F:=fun _ _ _=>bound_congr hc fun n hn=>h n (by simp only[I.slots,List.mem_append];simp only[hn,true_or,or_true])
    have e3:∀d k F,bound mx ρ d k F=bound mx ρ' d k F:=fun _ _ _=>bound_congr hc fun n hn=>h n (by simp only[I.slots,List.mem_append];simp only[hn,true_or,or_true])
    simp only[exec,e0,e1,e2,e3]
  | slcS sz x lo hi mx =>
    have e0:ρ x=ρ' x:=xcongr hc fun n hn=>h n (by simp only[I.slots,List.mem_append];simp only[hn,true_or,or_true])
    have e1:∀d k F,bound lo ρ d k F=bound lo ρ' d k F:=fun _ _ _=>bound_congr hc fun n hn=>h n (by simp only[I.slots,List.mem_append];simp only[hn,true_or,or_true])
    have e2:∀d k F,bound hi ρ d k F=bound hi ρ' d k F:=fun _ _ _=>bound_congr hc fun n hn=>h n (by simp only[I.slots,List.mem_append];simp only[hn,true_or,or_true])
    have e3:∀d k F,bound mx ρ d k F=bound mx ρ' d k F:=fun _ _ _=>bound_congr hc fun n hn=>h n (by simp only[I.slots,List.mem_append];simp only[hn,true_or,or_true])
    simp only[exec,e0,e1,e2,e3]
  | slcStr x lo hi =>
    have e0:ρ x=ρ' x:=xcongr hc fun n hn=>h n (by simp only[I.slots,List.mem_append];simp only[hn,true_or,or_true])
    have e1:∀d k F,bound lo ρ d k F=bound lo ρ' d k F:=fun _ _ _=>bound_congr hc fun n hn=>h n (by simp only[I.slots,List.mem_append];simp only[hn,true_or,or_true])
    have e2:∀d k F,bound hi ρ d k F=bound hi ρ' d k F:=fun _ _ _=>bound_congr hc fun n hn=>h n (by simp only[I.slots,List.mem_append];simp only[hn,true_or,or_true])
    simp only[exec,e0,e1,e2]

/-- An operation without memory. -/
theorem exec_pure {hp':List Blk} {i:I} (hi:i.cls=0) (hl:hp'.length=hp.length):exec S ρ hp i K=exec S ρ hp' i K:=by
  cases i<;>simp only[I.cls,reduceCtorEq,Nat.reduceEqDiff]at hi<;>(simp only[exec,hl];done)

/-- A load hangs on its block. -/
theorem exec_load {hp':List Blk} {i:I} {t:Nat} (hi:i.cls=1) (ha:i.addr=some t) (h:∀b,blkOf (ρ (.t t))=some b→nthB hp' b=nthB hp b):exec S ρ hp i K=exec S ρ hp' i K:=by
  cases i<;>simp only[I.cls,reduceCtorEq,Nat.reduceEqDiff]at hi
  · rename_i x
    cases x<;>simp only[I.addr,Option.some.injEq,reduceCtorEq]at ha
    subst ha
    simp only[exec]
    cases hq:ρ (.t _)<;>simp only[]
    rw[h _ (by rw[hq];rfl)]
  · rename_i n x
    cases x<;>simp only[I.addr,Option.some.injEq,reduceCtorEq]at ha
    subst ha
    simp only[exec]
    cases hq:ρ (.t _)<;>simp only[]
    rw[h _ (by rw[hq];rfl)]
  · rename_i n sz x lo hi mx
    cases x<;>simp only[I.addr,Option.some.injEq,reduceCtorEq]at ha
    subst ha
    simp only[exec]
    cases hq:ρ (.t _)<;>simp only[]
    rw[h _ (by rw[hq];rfl)]
end
end Am
/-
What an operation does, it does: one effect; and what the effect may touch.
-/
namespace Am
open Go (IntKind BinOp UnOp Value FuncId TypeId World Program Oper Op Operand Code Func)

theorem bin_det {o:BinOp} {x y:V} {K:V→Prop} (h:bin o x y K):∃v,K v∧∀K':V→Prop,K' v→bin o x y K':=by
  unfold bin at *
  split at h<;>try exact h.elim
  split at h<;>try exact h.elim
  cases o<;>simp only[intBin]at*<;>
    first
      | exact⟨_,h,fun K' h'=>h'⟩
      | exact⟨_,h.2,fun K' h'=>⟨h.1,h'⟩⟩
      | exact⟨_,h.2.2,fun K' h'=>⟨h.1,h.2.1,h'⟩⟩
theorem binB_det {o:BinOp} {x y:V} {K:V→Prop} (h:binB o x y K):∃v,K v∧∀K':V→Prop,K' v→binB o x y K':=by
  unfold binB at *
  split at h<;>try exact h.elim
  split at h<;>try exact h.elim
  cases o<;>simp only at*<;> first | exact⟨_,h,fun K' h'=>h'⟩ | exact h.elim
theorem binS_det {o:BinOp} {x y:V} {K:V→Prop} (h:binS o x y K):∃v,K v∧∀K':V→Prop,K' v→binS o x y K':=by
  unfold binS at *
  split at h<;>try exact h.elim
  split at h<;>try exact h.elim
  cases o<;>simp only at*<;> first | exact⟨_,h,fun K' h'=>h'⟩ | exact⟨_,h.2,fun K' h'=>⟨h.1,h'⟩⟩ | exact h.elim
theorem binP_det {o:BinOp} {x y:V} {K:V→Prop} (h:binP o x y K):∃v,K v∧∀K':V→Prop,K' v→binP o x y K':=by
  unfold binP at *
  split at h<;>try exact h.elim
  all_goals split at h<;>try exact h.elim
  all_goals cases o<;>simp only at*<;> first | exact⟨_,h,fun K' h'=>h'⟩ | exact h.elim
theorem un_det {o:UnOp} {x:V} {K:V→Prop} (h:un o x K):∃v,K v∧∀K':V→Prop,K' v→un o x K':=by
  unfold un at *
  split at h<;>first | exact⟨_,h,fun K' h'=>h'⟩ | exact h.elim
theorem part_det {x:V} {off:Nat} {n:Option Nat} {K:V→Prop} (h:part x off n K):∃v,K v∧∀K':V→Prop,K' v→part x off n K':=by
  unfold part at *
  split at h<;>try exact h.elim
  all_goals split at h<;>exact⟨_,h.2,fun K' h'=>⟨h.1,h'⟩⟩
theorem bound_det {x:Option X} {ev:X→V} {d hi:Nat} {K:Nat→Prop} (h:bound x ev d hi K):∃n,K n∧∀K':Nat→Prop,K' n→bound x ev d hi K':=by
  unfold bound at *
  split at h
  · exact⟨_,h,fun _ h=>h⟩
  · split at h
    · exact⟨_,h.2,fun _ h'=>⟨h.1,h'⟩⟩
    · exact h.elim
theorem fill_det {K:V→Prop}:∀{ps:List (Nat×Nat×V)} {z:V},fill z ps K→∃v,K v∧∀K':V→Prop,K' v→fill z ps K'
  | [],z,h=>⟨z,by simpa[fill]using h,fun _ h=>by simpa[fill]using h⟩
  | (o,m,p)::r,z,h=>by
    cases z<;>simp only[fill]at h<;>try exact h.elim
    · cases p<;>simp only at h<;>try exact h.elim
      all_goals
        obtain⟨h1,h⟩:=h
        obtain⟨v,hv,hK⟩:=fill_det h
        exact⟨v,hv,fun K' h'=>by simp only[fill];exact⟨h1,hK K' h'⟩⟩
    · cases p<;>simp only at h<;>try exact h.elim
      all_goals
        obtain⟨h1,h⟩:=h
        obtain⟨v,hv,hK⟩:=fill_det h
        exact⟨v,hv,fun K' h'=>by simp only[fill];exact⟨h1,hK K' h'⟩⟩
theorem content_det {z:Nat} {hp:List Blk} {v:V} {K:Blk→Nat→Prop} (h:content z hp v K):∃B n,K B n∧∀K':Blk→Nat→Prop,K' B n→content z hp v K':=by
  unfold content at *
  split at h<;>try exact h.elim
  · split at h<;>first | exact h.elim | exact⟨_,_,h.2,fun K' h'=>⟨h.1,h'⟩⟩
  · exact⟨_,_,h,fun K' h'=>h'⟩
  all_goals exact⟨_,_,h.2,fun K' h'=>⟨h.1,h'⟩⟩

/-- What is asked of a summary. -/
def SumAbs (s:Summ):Prop:=∀vs hp K,s vs hp K→∃e:Ef,K e∧(∀K':Ef→Prop,K' e→s vs hp K')∧(e.st.map (·.1)).Nodup∧∀p∈e.st,(nthB hp p.1).wr=true

structure Abs (S:FuncId→Summ) (ρ:X→V) (hp:List Blk) (i:I) (e:Ef):Prop where
  ex:∀K':Ef→Prop,K' e→exec S ρ hp i K'
  nd:(e.st.map (·.1)).Nodup
  wr:∀p∈e.st,(nthB hp p.1).wr=true
  cls:i.cls≠3→e.st=[]
  ad:∀u,i.cls=3→i.addr=some u→∀p∈e.st,blkOf (ρ (.t u))=some p.1

section
variable {S : FuncId → Summ} {ρ : X → V} {hp : List Blk} {i : I} {K : Ef → Prop}
theorem Abs.of_pure {v:V} {nw:List Blk} (h:∀K':Ef→Prop,K' ⟨v,[],nw⟩→exec S ρ hp i K'):Abs S ρ hp i ⟨v,[],nw⟩:=⟨h,by simp,by simp,fun _=>rfl,by simp⟩
theorem Abs.of_one {v:V} {nw:List Blk} {b:Nat} {B:Blk} (h:∀K':Ef→Prop,K' ⟨v,[(b,B)],nw⟩→exec S ρ hp i K') (hw:(nthB hp b).wr=true) (hc:i.cls=3) (ha:∀u,i.addr=some u→blkOf (ρ (.t u))=some b):Abs S ρ hp i ⟨v,[(b,B)],nw⟩ :=
  ⟨h,by simp,by simpa using hw,fun h=>absurd hc h,fun u _ hu=>by simpa using ha u hu⟩
/-- The address's slot of a writing one. -/
theorem addr_of {i:I} {x:X} {b:Nat} (hx:blkOf (ρ x)=some b) (h:∀u,i.addr=some u→x=.t u):∀u,i.addr=some u→blkOf (ρ (.t u))=some b:=fun u hu=>by rw[←h u hu];exact hx

theorem appK_det {sz bytes n:Nat} {x:X} {B:Blk} (h:appK sz bytes hp (ρ x) B n K):∃e,K e∧(∀K':Ef→Prop,K' e→appK sz bytes hp (ρ x) B n K')∧(e.st.map (·.1)).Nodup∧(∀p∈e.st,(nthB hp p.1).wr=true)∧∀p∈e.st,blkOf (ρ x)=some p.1:=by
  unfold appK at h
  split at h<;>try exact h.elim
  · rename_i hx
    obtain⟨h0,h⟩:=h
    cases B with
    | ints ro k ys=>exact⟨_,h,fun K' h'=>by simp only[appK,hx];exact⟨h0,h'⟩,by simp,by simp,by simp⟩
    | cells ro cs =>
      cases cs with
      | nil=>exact⟨_,h.2,fun K' h'=>by simp only[appK,hx];exact⟨h0,h.1,h'⟩,by simp,by simp,by simp⟩
      | cons c cs=>exact⟨_,h,fun K' h'=>by simp only[appK,hx];exact⟨h0,h'⟩,by simp,by simp,by simp⟩
    | dead=>exact h.elim
  · rename_i hx
    obtain⟨h0,h⟩:=h
    split at h<;>try exact h.elim
    · rename_i hb
      obtain⟨h1,h⟩:=h
      split at h<;>try exact h.elim
      · exact⟨_,h.2,fun K' h'=>by simp only[appK,hx,hb];exact⟨h0,h1,h.1,h'⟩,by simp,by simp[hb,Blk.wr],by simp[hx,blkOf]⟩
      · exact⟨_,h,fun K' h'=>by simp only[appK,hx,hb];exact⟨h0,h1,h'⟩,by simp,by simp[hb,Blk.wr],by simp[hx,blkOf]⟩
    · rename_i hb
      obtain⟨h1,h⟩:=h
      split at h<;>try exact h.elim
      all_goals exact⟨_,h,fun K' h'=>by simp only[appK,hx,hb];exact⟨h0,h1,h'⟩,by simp,by simp[hb,Blk.wr],by simp[hx,blkOf]⟩
theorem exec_abs (hS:∀f,SumAbs (S f)) (h:exec S ρ hp i K):∃e,K e∧Abs S ρ hp i e:=by
  cases i
  case call f xs =>
    simp only[exec]at h
    obtain⟨⟨v,st,nw⟩,⟨he,hk⟩,h1,h2,h3⟩:=hS f _ _ _ h
    simp only at he
    subst he
    exact⟨_,hk,.of_pure fun K' h'=>by simp only[exec];exact h1 _ ⟨rfl,h'⟩⟩
  case s2a n x =>
    simp only[exec]at h
    split at h<;>try exact h.elim
    · rename_i hx
      exact⟨_,h.2,.of_pure fun K' h'=>by simpa only[exec,hx]using⟨h.1,h'⟩⟩
    · rename_i hx
      exact⟨_,h.2,.of_pure fun K' h'=>by simpa only[exec,hx]using⟨h.1,h'⟩⟩
  case mkif t x =>
    simp only[exec]at h
    exact⟨_,h,.of_pure fun K' h'=>by simpa only[exec]using h'⟩
  case mkm m x =>
    simp only[exec]at h
    split at h<;>try exact h.elim
    rename_i hx
    exact⟨_,h,.of_pure fun K' h'=>by simpa only[exec,hx]using h'⟩
  case nckM tab x =>
    simp only[exec]at h
    split at h<;>try exact h.elim
    rename_i hx
    exact⟨_,h.2,.of_pure fun K' h'=>by simpa only[exec,hx]using⟨h.1,h'⟩⟩
  case inv tab r xs =>
    simp only[exec]at h
    split at h<;>try exact h.elim
    rename_i hx
    split at h<;>try exact h.elim
    rename_i hr
    obtain⟨⟨v,st,nw⟩,⟨he,hk⟩,h1,h2,h3⟩:=hS _ _ _ _ h
    simp only at he
    subst he
    exact⟨_,hk,.of_pure fun K' h'=>by simp only[exec,hx,hr];exact h1 _ ⟨rfl,h'⟩⟩
  case callM f xs =>
    simp only[exec]at h
    obtain⟨e,hk,h1,h2,h3⟩:=hS f _ _ _ h
    exact⟨_,hk,fun K' h'=>by simp only[exec];exact h1 _ h',h2,h3,fun h=>absurd rfl h,fun u _ h=>by simp[I.addr]at h⟩
  case mov x =>
    simp only[exec]at h
    exact⟨_,h,.of_pure fun K' h'=>by simpa only[exec]using h'⟩
  case movS x =>
    simp only[exec]at h
    split at h<;>try exact h.elim
    rename_i hx
    exact⟨_,h,.of_pure fun K' h'=>by simpa only[exec,hx]using h'⟩
  case pick c a b =>
    simp only[exec]at h
    split at h<;>try exact h.elim
    rename_i c hx
    cases c
    · exact⟨_,h.2 rfl,.of_pure fun K' h'=>by simp only[exec,hx];exact⟨by simp,fun _=>h'⟩⟩
    · exact⟨_,h.1 rfl,.of_pure fun K' h'=>by simp only[exec,hx];exact⟨fun _=>h',by simp⟩⟩
  case alloc z =>
    simp only[exec]at h
    split at h<;>try exact h.elim
    rename_i hx
    exact⟨_,h,.of_pure fun K' h'=>by simpa only[exec,hx]using h'⟩
  case box x =>
    simp only[exec]at h
    split at h<;>try exact h.elim
    rename_i hx
    exact⟨_,h,.of_pure fun K' h'=>by simpa only[exec,hx]using h'⟩
  case build z ps =>
    simp only[exec]at h
    obtain⟨v,hv,hK⟩:=fill_det h
    exact⟨_,hv,.of_pure fun K' h'=>by simp only[exec];exact hK _ h'⟩
  case bsl sz len z ps =>
    simp only[exec]at h
    obtain⟨v,hv,hK⟩:=fill_det h
    split at hv<;>try exact hv.elim
    rename_i hx
    exact⟨_,hv,.of_pure fun K' h'=>by simp only[exec];exact hK _ (by simpa only[hx]using h')⟩
  case load x =>
    simp only[exec]at h
    split at h<;>try exact h.elim
    · rename_i hx
      split at h<;>try exact h.elim
      all_goals
        rename_i hb
        exact⟨_,h.2,.of_pure fun K' h'=>by simp only[exec,hx,hb];exact⟨h.1,h'⟩⟩
    all_goals
      rename_i hx
      exact⟨_,h.2,.of_pure fun K' h'=>by simp only[exec,hx];exact⟨h.1,h'⟩⟩
  case loadN n x =>
    simp only[exec]at h
    split at h<;>try exact h.elim
    · rename_i hx
      split at h<;>try exact h.elim
      all_goals
        rename_i hb
        exact⟨_,h.2,.of_pure fun K' h'=>by simp only[exec,hx,hb];exact⟨h.1,h'⟩⟩
    all_goals
      rename_i hx
      exact⟨_,h.2,.of_pure fun K' h'=>by simp only[exec,hx];exact⟨h.1,h'⟩⟩
  case store x y =>
    simp only[exec]at h
    split at h<;>try exact h.elim
    rename_i hx
    have had:∀u,(I.store x y).addr=some u→blkOf (ρ (.t u))=some _:=addr_of (by rw[hx];rfl) fun u hu=>by cases x<;>simp_all [I.addr]
    split at h<;>try exact h.elim
    · rename_i hb
      split at h<;>try exact h.elim
      rename_i hy
      exact⟨_,h.2,.of_one (fun K' h'=>by simp only[exec,hx,hb,hy];exact⟨h.1,h'⟩) (by rw[hb];rfl) rfl had⟩
    · rename_i hb
      split at h<;>try exact h.elim
      rename_i h1 h2 h3 h4
      refine⟨_,h.2,.of_one (fun K' h'=>?_) (by rw[hb];rfl) rfl had⟩
      simp only[exec,hx,hb]
      exact⟨h.1,h'⟩
  case storeN n x y =>
    simp only[exec]at h
    split at h<;>try exact h.elim
    rename_i hx
    have had:∀u,(I.storeN n x y).addr=some u→blkOf (ρ (.t u))=some _:=addr_of (by rw[hx];rfl) fun u hu=>by cases x<;>simp_all [I.addr]
    split at h<;>try exact h.elim
    all_goals
      rename_i hb
      split at h<;>try exact h.elim
      all_goals
        rename_i hy
        exact⟨_,h.2,.of_one (fun K' h'=>by simp only[exec,hx,hb,hy];exact⟨h.1,h'⟩) (by rw[hb];rfl) rfl had⟩
  case bin o x y =>
    simp only[exec]at h
    obtain⟨v,hv,hK⟩:=bin_det h
    exact⟨_,hv,.of_pure fun K' h'=>by simp only[exec];exact hK _ h'⟩
  case binB o x y =>
    simp only[exec]at h
    obtain⟨v,hv,hK⟩:=binB_det h
    exact⟨_,hv,.of_pure fun K' h'=>by simp only[exec];exact hK _ h'⟩
  case binS o x y =>
    simp only[exec]at h
    obtain⟨v,hv,hK⟩:=binS_det h
    exact⟨_,hv,.of_pure fun K' h'=>by simp only[exec];exact hK _ h'⟩
  case binP o x y =>
    simp only[exec]at h
    obtain⟨v,hv,hK⟩:=binP_det h
    exact⟨_,hv,.of_pure fun K' h'=>by simp only[exec];exact hK _ h'⟩
  case eqf neg n x y =>
    simp only[exec]at h
    split at h<;>try exact h.elim
    rename_i hx
    split at h<;>try exact h.elim
    rename_i hy
    cases neg
    all_goals exact⟨_,h.2,.of_pure fun K' h'=>by simp only[exec,hx,hy];exact⟨h.1,h'⟩⟩
  case un o x =>
    simp only[exec]at h
    obtain⟨v,hv,hK⟩:=un_det h
    exact⟨_,hv,.of_pure fun K' h'=>by simp only[exec];exact hK _ h'⟩
  case conv k x =>
    simp only[exec]at h
    split at h<;>try exact h.elim
    rename_i hx
    exact⟨_,h,.of_pure fun K' h'=>by simpa only[exec,hx]using h'⟩
  case s2b x =>
    simp only[exec]at h
    split at h<;>try exact h.elim
    rename_i hx
    exact⟨_,h,.of_pure fun K' h'=>by simpa only[exec,hx]using h'⟩
  case b2s x =>
    simp only[exec]at h
    split at h<;>try exact h.elim
    · rename_i hx
      split at h<;>try exact h.elim
      rename_i hb
      exact⟨_,h.2,.of_pure fun K' h'=>by simp only[exec,hx,hb];exact⟨h.1,h'⟩⟩
    · rename_i hx
      exact⟨_,h.2,.of_pure fun K' h'=>by simp only[exec,hx];exact⟨h.1,h'⟩⟩
    · rename_i hx
      exact⟨_,h,.of_pure fun K' h'=>by simpa only[exec,hx]using h'⟩
  case mks sz bytes z l c =>
    simp only[exec]at h
    split at h<;>try exact h.elim
    rename_i hx
    split at h<;>try exact h.elim
    rename_i hy
    obtain⟨h1,h⟩:=h
    split at h<;>try exact h.elim
    rename_i hz
    exact⟨_,h,.of_pure fun K' h'=>by simp only[exec,hx,hy,hz];exact⟨h1,h'⟩⟩
  case slcA n sz x lo hi mx =>
    simp only[exec]at h
    split at h<;>try exact h.elim
    all_goals
      rename_i hx
      obtain⟨h0,h⟩:=h
      obtain⟨m,h,h1⟩:=bound_det h
      obtain⟨k,h,h2⟩:=bound_det h
      obtain⟨l,h,h3⟩:=bound_det h
      exact⟨_,h,.of_pure fun K' h'=>by simp only[exec,hx];exact⟨h0,h1 _ (h2 _ (h3 _ h'))⟩⟩
  case slcS sz x lo hi mx =>
    simp only[exec]at h
    split at h<;>try exact h.elim
    case h_4 =>
      rename_i hx
      obtain⟨m,h,h1⟩:=bound_det h
      obtain⟨k,h,h2⟩:=bound_det h
      obtain⟨l,h,h3⟩:=bound_det h
      exact⟨_,h,.of_pure fun K' h'=>by simp only[exec,hx];exact h1 _ (h2 _ (h3 _ h'))⟩
    all_goals
      rename_i hx
      obtain⟨h0,h⟩:=h
      obtain⟨m,h,h1⟩:=bound_det h
      obtain⟨k,h,h2⟩:=bound_det h
      obtain⟨l,h,h3⟩:=bound_det h
      exact⟨_,h,.of_pure fun K' h'=>by simp only[exec,hx];exact⟨h0,h1 _ (h2 _ (h3 _ h'))⟩⟩
  case slcStr x lo hi =>
    simp only[exec]at h
    split at h<;>try exact h.elim
    rename_i hx
    obtain⟨k,h,h2⟩:=bound_det h
    obtain⟨l,h,h3⟩:=bound_det h
    exact⟨_,h,.of_pure fun K' h'=>by simp only[exec,hx];exact h2 _ (h3 _ h')⟩
  case fldA off x =>
    simp only[exec]at h
    split at h<;>try exact h.elim
    all_goals
      rename_i hx
      exact⟨_,h,.of_pure fun K' h'=>by simpa only[exec,hx]using h'⟩
  case fld off n x =>
    simp only[exec]at h
    obtain⟨v,hv,hK⟩:=part_det h
    exact⟨_,hv,.of_pure fun K' h'=>by simp only[exec];exact hK _ h'⟩
  case idxA n sz x i =>
    simp only[exec]at h
    split at h<;>try exact h.elim
    all_goals
      rename_i hx
      split at h<;>try exact h.elim
      rename_i hy
      exact⟨_,h.2,.of_pure fun K' h'=>by simp only[exec,hx,hy];exact⟨h.1,h'⟩⟩
  case idxS sz x i =>
    simp only[exec]at h
    split at h<;>try exact h.elim
    all_goals
      rename_i hx
      split at h<;>try exact h.elim
      rename_i hy
      exact⟨_,h.2,.of_pure fun K' h'=>by simp only[exec,hx,hy];exact⟨h.1,h'⟩⟩
  case idxV n sz m x i =>
    simp only[exec]at h
    split at h<;>try exact h.elim
    rename_i hy
    obtain⟨h1,h⟩:=h
    obtain⟨v,hv,hK⟩:=part_det h
    exact⟨_,hv,.of_pure fun K' h'=>by simp only[exec,hy];exact⟨h1,hK _ h'⟩⟩
  case ext x i =>
    simp only[exec]at h
    split at h<;>try exact h.elim
    rename_i hx
    exact⟨_,h.2,.of_pure fun K' h'=>by simp only[exec,hx];exact⟨h.1,h'⟩⟩
  case len x =>
    simp only[exec]at h
    split at h<;>try exact h.elim
    all_goals
      rename_i hx
      exact⟨_,h,.of_pure fun K' h'=>by simpa only[exec,hx]using h'⟩
  case lenS x =>
    simp only[exec]at h
    split at h<;>try exact h.elim
    rename_i hx
    exact⟨_,h,.of_pure fun K' h'=>by simpa only[exec,hx]using h'⟩
  case lenA n =>
    simp only[exec]at h
    exact⟨_,h,.of_pure fun K' h'=>by simpa only[exec]using h'⟩
  case app sz bytes x y =>
    simp only[exec]at h
    obtain⟨B,n,h,hK⟩:=content_det h
    obtain⟨e,hk,h1,h2,h3,h4⟩:=appK_det (ρ:=ρ) h
    refine⟨e,hk,fun K' h'=>by simp only[exec];exact hK _ (h1 _ h'),h2,h3,fun h=>absurd rfl h,fun u _ hu p hp=>?_⟩
    cases x<;>simp only[I.addr,Option.some.injEq,reduceCtorEq]at hu
    subst hu
    exact h4 p hp
  case appZ sz bytes z x l =>
    simp only[exec]at h
    split at h<;>try exact h.elim
    rename_i k n hl
    obtain⟨h0,h⟩:=h
    split at h<;>try exact h.elim
    rename_i B hB
    obtain⟨e,hk,h1,h2,h3,h4⟩:=appK_det (ρ:=ρ) h
    refine⟨e,hk,fun K' h'=>by simp only[exec,hl,hB];exact⟨h0,h1 _ h'⟩,h2,h3,fun h=>absurd rfl h,fun u _ hu p hp=>?_⟩
    cases x<;>simp only[I.addr,Option.some.injEq,reduceCtorEq]at hu
    subst hu
    exact h4 p hp
  case eqnS neg x =>
    simp only[exec]at h
    split at h<;>try exact h.elim
    · rename_i hx
      exact⟨_,h,.of_pure fun K' h'=>by simpa only[exec,hx]using h'⟩
    all_goals
      rename_i hx
      exact⟨_,h.2,.of_pure fun K' h'=>by simp only[exec,hx];exact⟨h.1,h'⟩⟩
  case copy sz x y =>
    simp only[exec]at h
    obtain⟨B,n,h,hK⟩:=content_det h
    split at h<;>try exact h.elim
    · rename_i hx
      exact⟨_,h,.of_pure fun K' h'=>by simp only[exec,hx];exact hK _ h'⟩
    · rename_i hx
      obtain⟨h0,h⟩:=h
      split at h<;>try exact h.elim
      · rename_i hb
        obtain⟨h1,h⟩:=h
        split at h<;>try exact h.elim
        · exact⟨_,h.2,.of_one (fun K' h'=>by simp only[exec,hx,hb];exact hK _ ⟨h0,h1,h.1,h'⟩) (by rw[hb];rfl) rfl (by simp[I.addr])⟩
        · exact⟨_,h,.of_pure (fun K' h'=>by simp only[exec,hx,hb];exact hK _ ⟨h0,h1,h'⟩)⟩
      · rename_i hb
        obtain⟨h1,h⟩:=h
        split at h<;>try exact h.elim
        all_goals exact⟨_,h,.of_one (fun K' h'=>by simp only[exec,hx,hb];exact hK _ ⟨h0,h1,h'⟩) (by rw[hb];rfl) rfl (by simp[I.addr])⟩
  case mm mx x y =>
    simp only[exec]at h
    split at h<;>try exact h.elim
    rename_i hx
    split at h<;>try exact h.elim
    rename_i hy
    cases mx
    all_goals exact⟨_,h.2,.of_pure fun K' h'=>by simp only[exec,hx,hy];exact⟨h.1,h'⟩⟩
  case min3 x y z =>
    simp only[exec]at h
    split at h<;>try exact h.elim
    rename_i hx
    split at h<;>try exact h.elim
    rename_i hy
    split at h<;>try exact h.elim
    rename_i hz
    exact⟨_,h.2,.of_pure fun K' h'=>by simp only[exec,hx,hy,hz];exact⟨h.1,h'⟩⟩
  case add64 x y z =>
    simp only[exec]at h
    split at h<;>try exact h.elim
    rename_i hx
    split at h<;>try exact h.elim
    rename_i hy
    split at h<;>try exact h.elim
    rename_i hz
    exact⟨_,h.2,.of_pure fun K' h'=>by simp only[exec,hx,hy,hz];exact⟨h.1,h'⟩⟩
  case nck x =>
    simp only[exec]at h
    split at h<;>try exact h.elim
    all_goals
      rename_i hx
      exact⟨_,h,.of_pure fun K' h'=>by simpa only[exec,hx]using h'⟩
  case mark x =>
    simp only[exec]at h
    split at h<;>try exact h.elim
    rename_i hx
    split at h<;>try exact h.elim
    rename_i hb
    exact⟨_,h.2,.of_one (fun K' h'=>by simp only[exec,hx,hb];exact⟨h.1,h'⟩) (by rw[hb];rfl) rfl (by simp[I.addr])⟩
  case idxStr x i =>
    simp only[exec]at h
    split at h<;>try exact h.elim
    rename_i hx
    split at h<;>try exact h.elim
    rename_i hy
    exact⟨_,h.2,.of_pure fun K' h'=>by simp only[exec,hx,hy];exact⟨h.1,h'⟩⟩
end
end Am
/-
The trace of a region in the text's order; what a set of its operations leaves behind.
-/
namespace Am
open Go (IntKind BinOp UnOp Value FuncId TypeId World Program Oper Op Operand Code Func)

def after (g:G) (s:St):Option Ef→St
  | some e=>⟨put s.sl g.d e.v,apN (apS s.hp e.st) e.nw⟩
  | none=>⟨put s.sl g.d (.tup []),s.hp⟩
structure Fine (S:FuncId→Summ) (g:G) (s:St) (e:Option Ef):Prop where
  yes:∀e',e=some e'→(∀t want,g.g=some (t,want)→nth s.sl t=.bool want)∧Abs S (ev s.sl) s.hp g.i e'
  no:e=none→∃t want,g.g=some (t,want)∧(nth s.sl t=.bool (!want)∨nth s.sl t=.tup [])
def Tr (S:FuncId→Summ) (gs:List G) (A:Nat→St) (E:Nat→Option Ef):Prop :=
  ∀k g,gs[k]?=some g→Fine S g (A k) (E k)∧A (k+1)=after g (A k) (E k)

theorem Tr.cons {S:FuncId→Summ} {gs:List G} {g:G} {s s':St} {e:Option Ef} {F:St→Prop} (hf:Fine S g s e) (hs:s'=after g s e)
    (h:∃A E,A 0=s'∧Tr S gs A E∧F (A gs.length)):∃A E,A 0=s∧Tr S (g::gs) A E∧F (A (g::gs).length):=by
  obtain⟨A,E,h0,ht,hF⟩:=h
  refine⟨fun k=>match k with | 0=>s | k+1=>A k,fun k=>match k with | 0=>e | k+1=>E k,rfl,fun k g' hg=>?_,hF⟩
  cases k with
  | zero =>
    simp at hg
    subst hg
    exact⟨hf,h0.trans hs⟩
  | succ k=>exact ht k g' (by simpa using hg)

theorem run_trace {S:FuncId→Summ} (hS:∀f,SumAbs (S f)) {F:St→Prop}:∀{gs:List G} {s:St},run S gs s F→∃A E,A 0=s∧Tr S gs A E∧F (A gs.length)
  | [],s,h=>⟨fun _=>s,fun _=>none,rfl,fun k g hg=>by simp at hg,h⟩
  | g::gs,s,h=>by
    simp only[run]at h
    have yes:∀{K:Ef→Prop},(∀t want,g.g=some (t,want)→nth s.sl t=.bool want)→exec S (ev s.sl) s.hp g.i (fun e=>run S gs ⟨put s.sl g.d e.v,apN (apS s.hp e.st) e.nw⟩ F) →
        ∃A E,A 0=s∧Tr S (g::gs) A E∧F (A (g::gs).length):=by
      intro K hg hx
      obtain⟨e,hk,ha⟩:=exec_abs hS hx
      exact Tr.cons (e:=some e) ⟨fun e' he=>by simp at he;subst he;exact⟨hg,ha⟩,by simp⟩ rfl (run_trace hS hk)
    cases hg:g.g with
    | none =>
      simp only[hg]at h
      exact yes (K:=fun _=>True) (by simp[hg]) h
    | some tw =>
      obtain⟨t,want⟩:=tw
      simp only[hg]at h
      cases hn:nth s.sl t<;>simp only[hn]at h<;>try exact h.elim
      case bool b =>
        by_cases hb:b=want
        · subst hb
          exact yes (K:=fun _=>True) (by simp[hg,hn]) (h.1 rfl)
        · have hb2:b=!want:=by cases b<;>cases want<;>simp_all
          exact Tr.cons (e:=none) ⟨by simp,fun _=>⟨t,want,hg,.inl (by rw[hn,hb2])⟩⟩ rfl (run_trace hS (h.2 hb2))
      case tup vs =>
        cases vs with
        | nil=>exact Tr.cons (e:=none) ⟨by simp,fun _=>⟨t,want,hg,.inr hn⟩⟩ rfl (run_trace (s:=⟨put s.sl g.d (.tup []),s.hp⟩) hS h)
        | cons=>simp at h

/-! ### Sets of operations -/
section
variable {S : FuncId → Summ} {gs : List G} (A : Nat → St) (E : Nat → Option Ef)

def upE (k:Nat) (H:Nat→Blk):Nat→Blk:=match E k with
  | some e=>upH H (A k).hp.length e
  | none=>H
def HX (X:Nat→Bool):Nat→Nat→Blk
  | 0=>nthB (A 0).hp
  | k+1=>if X k then upE A E k (HX X k)else HX X k
def vE (k:Nat):V:=match E k with
  | some e=>e.v
  | none=>.tup []
def SX (gs:List G) (X:Nat→Bool):Nat→List V
  | 0=>(A 0).sl
  | k+1=>if X k then (match gs[k]? with | some g=>put (SX gs X k) g.d (vE E k) | none=>SX gs X k)else SX gs X k
def New (k b:Nat):Prop:=∃e,E k=some e∧(A k).hp.length≤b∧b<(A k).hp.length+e.nw.length
def StT (k b:Nat):Prop:=∃e,E k=some e∧lookS e.st b≠none
def Touch (k b:Nat):Prop:=New A E k b∨StT E k b
def TouchS (gs:List G) (k t:Nat):Prop:=∃g,gs[k]?=some g∧g.d=some t
variable {A E}

theorem upE_not {k b:Nat} {H:Nat→Blk} (h:¬Touch A E k b):upE A E k H b=H b:=by
  unfold upE
  cases he:E k with
  | none=>rfl
  | some e =>
    have h1:lookS e.st b=none:=by
      cases hl:lookS e.st b with
      | none=>rfl
      | some B=>exact absurd (.inr ⟨e,he,by simp[hl]⟩) h
    have h2:¬((A k).hp.length≤b∧b<(A k).hp.length+e.nw.length):=fun hc=>h (.inl ⟨e,he,hc⟩)
    simp[upH,h1,h2]
theorem upE_touch {k b:Nat} {H H':Nat→Blk} (h:Touch A E k b):upE A E k H b=upE A E k H' b:=by
  unfold upE
  rcases h with ⟨e,he,h⟩ | ⟨e,he,h⟩
  · simp only[he,upH]
    cases lookS e.st b<;>simp[h]
  · simp only[he,upH]
    cases hl:lookS e.st b
    · exact absurd hl h
    · rfl
theorem HX_congr {X Y:Nat→Bool} {b:Nat}:∀{n:Nat},(∀k,k<n→Touch A E k b→X k=Y k)→HX A E X n b=HX A E Y n b
  | 0,_=>rfl
  | n+1,h=>by
    have ih:=HX_congr (n:=n) fun k hk=>h k (by omega)
    simp only[HX]
    by_cases ht:Touch A E n b
    · rw[h n (by omega) ht]
      split
      · exact upE_touch ht
      · exact ih
    · split<;>split<;>simp only[upE_not ht,ih]
theorem HX_cut {X:Nat→Bool} {b m:Nat}:∀{n:Nat},m≤n→(∀k,m≤k→k<n→X k=true→¬Touch A E k b)→HX A E X n b=HX A E X m b
  | n,hmn,h=>by
    rcases Nat.lt_or_ge m n with hlt | hge
    · cases n with
      | zero=>omega
      | succ n =>
        have ih:=HX_cut (n:=n) (by omega) fun k h1 h2=>h k h1 (by omega)
        simp only[HX]
        split
        · rename_i hx
          rw[upE_not (h n (by omega) (by omega) hx),ih]
        · exact ih
    · rw[show n=m by omega]

theorem SX_len {X:Nat→Bool}:∀(n:Nat),(SX A E gs X n).length=(A 0).sl.length
  | 0=>rfl
  | n+1=>by
    simp only[SX]
    have:=SX_len (X:=X) n
    split
    · split
      · rename_i g _
        cases g.d<;>simp[put,upd_set,this]
      · exact this
    · exact this
theorem nth_put (sl:List V) (d:Option Nat) (v:V) (t:Nat):nth (put sl d v) t=if d=some t∧t<sl.length then v else nth sl t:=by
  cases d with
  | none=>simp[put]
  | some d =>
    simp only[put,nth_upd,Option.some.injEq]
    by_cases h:t=d
    · subst h;simp
    · rw[if_neg (by omega),if_neg (by omega)]
theorem SX_congr {X Y:Nat→Bool} {t:Nat}:∀{n:Nat},(∀k,k<n→TouchS gs k t→X k=Y k)→nth (SX A E gs X n) t=nth (SX A E gs Y n) t
  | 0,_=>rfl
  | n+1,h=>by
    have ih:=SX_congr (n:=n) fun k hk=>h k (by omega)
    simp only[SX]
    cases hg:gs[n]? with
    | none=>simp only[];split<;>split<;>exact ih
    | some g =>
      simp only[]
      by_cases ht:g.d=some t
      · rw[h n (by omega) ⟨g,hg,ht⟩]
        split
        · simp only[nth_put,SX_len,ih]
        · exact ih
      · split<;>split<;>simp only[nth_put,ht,false_and,if_false,ih]
theorem SX_cut {X:Nat→Bool} {t m:Nat}:∀{n:Nat},m≤n→(∀k,m≤k→k<n→X k=true→¬TouchS gs k t)→nth (SX A E gs X n) t=nth (SX A E gs X m) t
  | n,hmn,h=>by
    rcases Nat.lt_or_ge m n with hlt | hge
    · cases n with
      | zero=>omega
      | succ n =>
        have ih:=SX_cut (n:=n) (by omega) fun k h1 h2=>h k h1 (by omega)
        simp only[SX]
        split
        · rename_i hx
          cases hg:gs[n]? with
          | none=>exact ih
          | some g =>
            have:g.d≠some t:=fun hd=>h n (by omega) (by omega) hx ⟨g,hg,hd⟩
            simp only[nth_put,this,false_and,if_false,ih]
        · exact ih
    · rw[show n=m by omega]

/-! ### The text's order -/
theorem lt_of_wr {hp:List Blk} {b:Nat} (h:(nthB hp b).wr=true):b<hp.length:=by
  rcases Nat.lt_or_ge b hp.length with h' | h'
  · exact h'
  · rw[nthB_get,List.getElem?_eq_none h']at h
    simp[Blk.wr]at h
theorem nthB_ap' {hp:List Blk} {e:Ef} (hn:(e.st.map (·.1)).Nodup) (hlt:∀p∈e.st,p.1<hp.length):nthB (apN (apS hp e.st) e.nw)=upH (nthB hp) hp.length e:=by
  funext b
  rw[apN_append,nthB_get]
  unfold upH
  by_cases hb:b<hp.length
  · rw[List.getElem?_append_left (by rw[apS_length];exact hb),←nthB_get,nthB_apS _ _ _ hn hlt,if_neg (by omega)]
    cases lookS e.st b<;>rfl
  · have hnone:lookS e.st b=none:=by
      cases hk:lookS e.st b with
      | none=>rfl
      | some B=>exact absurd (hlt _ (lookS_mem hk)) hb
    rw[List.getElem?_append_right (by rw[apS_length];omega),apS_length,hnone]
    by_cases h2:b<hp.length+e.nw.length
    · simp only[]
      rw[if_pos ⟨by omega,h2⟩]
    · simp only[]
      rw[if_neg (by omega),List.getElem?_eq_none (by omega),nthB_get,List.getElem?_eq_none (by omega)]

theorem Tr.len (hT:Tr S gs A E) {k:Nat} (hk:k<gs.length):(A (k+1)).hp.length=(A k).hp.length+(match E k with | some e=>e.nw.length | none=>0):=by
  obtain⟨-,h⟩:=hT k _ (List.getElem?_eq_getElem hk)
  rw[h]
  cases E k with
  | none=>rfl
  | some e=>simp[after,apN_append,apS_length]
theorem Tr.mono (hT:Tr S gs A E) {k:Nat}:∀{m:Nat},k≤m→m≤gs.length→(A k).hp.length≤(A m).hp.length
  | m,hkm,hm=>by
    rcases Nat.lt_or_ge k m with hlt | hge
    · cases m with
      | zero=>omega
      | succ m =>
        have:=Tr.mono hT (k:=k) (m:=m) (by omega) (by omega)
        rw[hT.len (by omega)]
        omega
    · rw[show k=m by omega];exact Nat.le_refl _
theorem Tr.new_lt (hT:Tr S gs A E) {k m b:Nat} (hkm:k<m) (hm:m≤gs.length) (h:New A E k b):b<(A m).hp.length:=by
  obtain⟨e,he,h1,h2⟩:=h
  have:=hT.mono (k:=k+1) (m:=m) (by omega) hm
  rw[hT.len (by omega),he]at this
  simp only at this
  omega
theorem Tr.new_one (hT:Tr S gs A E) {k m b:Nat} (hk:k<gs.length) (hm:m<gs.length) (h:New A E k b) (h':New A E m b):k=m:=by
  rcases Nat.lt_trichotomy k m with hlt | he | hlt
  · have:=hT.new_lt hlt (by omega) h
    obtain⟨e,he,h1,h2⟩:=h'
    omega
  · exact he
  · have:=hT.new_lt hlt (by omega) h'
    obtain⟨e,he,h1,h2⟩:=h
    omega
theorem Tr.heap (hT:Tr S gs A E):∀{n:Nat},n≤gs.length→HX A E (fun _=>true) n=nthB (A n).hp
  | 0,_=>rfl
  | n+1,hn=>by
    have ih:=Tr.heap hT (n:=n) (by omega)
    obtain⟨hf,h⟩:=hT n _ (List.getElem?_eq_getElem (by omega:n<gs.length))
    simp only[HX,if_true,ih]
    rw[h]
    unfold upE
    cases he:E n with
    | none=>rfl
    | some e =>
      have ha:=(hf.yes e he).2
      simp only[after]
      rw[nthB_ap' ha.nd fun p hp=>lt_of_wr (ha.wr p hp)]
theorem Tr.slots (hT:Tr S gs A E):∀{n:Nat},n≤gs.length→SX A E gs (fun _=>true) n=(A n).sl
  | 0,_=>rfl
  | n+1,hn=>by
    have ih:=Tr.slots hT (n:=n) (by omega)
    have hg:=List.getElem?_eq_getElem (by omega:n<gs.length)
    obtain⟨hf,h⟩:=hT n _ hg
    simp only[SX,if_true,ih,hg]
    rw[h]
    cases he:E n<;>simp[after,vE,he]
theorem Tr.heap_before (hT:Tr S gs A E) {i n b:Nat} (hi:i≤n) (hn:n≤gs.length):HX A E (fun k=>decide (k<i)) n b=nthB (A i).hp b:=by
  rw[HX_cut hi (fun k h1 h2 h3=>by simp at h3;omega),←hT.heap (by omega)]
  exact HX_congr fun k hk _=>by simpa using hk
theorem Tr.slots_before (hT:Tr S gs A E) {i n t:Nat} (hi:i≤n) (hn:n≤gs.length):nth (SX A E gs (fun k=>decide (k<i)) n) t=nth (A i).sl t:=by
  rw[SX_cut hi (fun k h1 h2 h3=>by simp at h3;omega),←hT.slots (by omega)]
  exact SX_congr fun k hk _=>by simpa using hk
/-- A slot that nothing from a place on writes. -/
theorem Tr.slot_stays (hT:Tr S gs A E) {i n t:Nat} (hi:i≤n) (hn:n≤gs.length) (h:∀k,i≤k→¬TouchS gs k t):nth (A n).sl t=nth (A i).sl t:=by
  rw[←hT.slots hn,←hT.slots (by omega:i≤gs.length)]
  exact SX_cut hi fun k h1 _ _=>h k h1
theorem Tr.stT_wr (hT:Tr S gs A E) {k b:Nat} (hk:k<gs.length) (h:StT E k b):(nthB (A k).hp b).wr=true:=by
  obtain⟨e,he,hl⟩:=h
  obtain⟨hf,-⟩:=hT k _ (List.getElem?_eq_getElem hk)
  cases hq:lookS e.st b with
  | none=>exact absurd hq hl
  | some B=>exact(hf.yes e he).2.wr _ (lookS_mem hq)
theorem Tr.stT_cls (hT:Tr S gs A E) {k b:Nat} {g:G} (hk:gs[k]?=some g) (h:StT E k b):g.i.cls=3∧∀u,g.i.addr=some u→blkOf (nth (A k).sl u)=some b:=by
  obtain⟨e,he,hl⟩:=h
  obtain⟨hf,-⟩:=hT k _ hk
  have ha:=(hf.yes e he).2
  have h3:g.i.cls=3:=by
    rcases Nat.decEq g.i.cls 3 with h | h
    · rw[ha.cls h]at hl;simp[lookS]at hl
    · exact h
  refine⟨h3,fun u hu=>?_⟩
  cases hq:lookS e.st b with
  | none=>exact absurd hq hl
  | some B=>exact ha.ad u h3 hu _ (lookS_mem hq)
/-- Package-level variables stay. -/
theorem Tr.low (hT:Tr S gs A E) {gl:List Blk} (h0:(A 0).hp.take 4=gl) (hlen:4≤(A 0).hp.length) (hro:∀B∈gl,B.wr=false):∀{n:Nat},n≤gs.length→(A n).hp.take 4=gl
  | 0,_=>h0
  | n+1,hn=>by
    have ih:=Tr.low hT h0 hlen hro (n:=n) (by omega)
    have hl:=hT.mono (k:=0) (m:=n) (by omega) (by omega)
    obtain⟨hf,h⟩:=hT n _ (List.getElem?_eq_getElem (by omega:n<gs.length))
    rw[h]
    cases he:E n with
    | none=>exact ih
    | some e =>
      have ha:=(hf.yes e he).2
      simp only[after]
      rw[apN_append,List.take_append_of_le_length (by rw[apS_length];omega),take_apS _ ?_]
      · exact ih
      · intro p hp
        rcases Nat.lt_or_ge p.1 4 with h4 | h4
        · have hw:=ha.wr p hp
          have:nthB (A n).hp p.1∈gl:=by
            rw[←ih,nthB_get,List.getElem?_eq_getElem (by omega)]
            exact List.mem_take_iff_getElem.2 ⟨p.1,by omega,rfl⟩
          rw[hro _ this]at hw
          simp at hw
        · exact h4
theorem Tr.stT_low (hT:Tr S gs A E) {gl:List Blk} (h0:(A 0).hp.take 4=gl) (hlen:4≤(A 0).hp.length) (hro:∀B∈gl,B.wr=false) {k b:Nat} (hk:k<gs.length) (h:StT E k b):4≤b:=by
  have hw:=hT.stT_wr hk h
  rcases Nat.lt_or_ge b 4 with h4 | h4
  · have hl:=hT.mono (k:=0) (m:=k) (by omega) (by omega)
    have:nthB (A k).hp b∈gl:=by
      rw[←hT.low h0 hlen hro (by omega:k≤gs.length),nthB_get,List.getElem?_eq_getElem (by omega)]
      exact List.mem_take_iff_getElem.2 ⟨b,by omega,rfl⟩
    rw[hro _ this]at hw
    simp at hw
  · exact h4
end
end Am
/-
Regions whose order is open: whatever order is drawn, what the text's order leaves behind is left behind.
-/
namespace Am
open Go (IntKind BinOp UnOp Value FuncId TypeId World Program Oper Op Operand Code Func ResultVar Addr Obj Act Exit Sem Result Next execOp Ending Calls wpList yielded wpAny wpOp)

/-! ### What the check says -/
theorem tab_spec {tab:List Nat}:∀{l:List Oper} {j0:Nat},tabOk tab l j0=true→∀{j:Nat} {o:Oper},l[j]?=some o →
    (∀e∈direct o,e<j0+j)∧∀i,i<j0+j→(tab.getD (j0+j) 0).testBit i=true→∃e∈direct o,e=i∨(i<e∧(tab.getD e 0).testBit i=true)
  | [],_,_,_,_,hj=>by simp at hj
  | o::r,j0,h,j,o',hj=>by
    simp only[tabOk,Bool.and_eq_true,List.all_eq_true,decide_eq_true_eq,List.mem_range,Bool.or_eq_true,Bool.not_eq_true',List.any_eq_true,beq_iff_eq]at h
    obtain⟨⟨h1,h2⟩,h3⟩:=h
    cases j with
    | zero =>
      simp at hj
      subst hj
      refine⟨fun e he=>by simpa using h1 e he,fun i hi hb=>?_⟩
      rcases h2 i (by simpa using hi)with h | ⟨e,he,h⟩
      · simp only[Nat.add_zero]at hb
        rw[h]at hb;simp at hb
      · exact⟨e,he,h⟩
    | succ j =>
      have:=tab_spec h3 (j:=j) (o:=o') (by simpa using hj)
      rwa [show j0+1+j=j0+(j+1) by omega]at this

/-- Two operations that don't wait for one another. -/
structure NC (chk:List (Nat×Nat)) (gs:List G) (k i:Nat) (gk g:G):Prop where
  d1:∀d,gk.d=some d→d∉g.slots∧g.d≠some d
  d2:∀d,g.d=some d→d∉gk.slots∧gk.d≠some d
  c3:gk.i.cls=3→g.i.cls=0∨(g.i.cls=1∧∃t u,g.i.addr=some t∧gk.i.addr=some u∧(t,u)∈chk∧(∀m,i≤m→¬TouchS gs m t)∧∀m,k≤m→¬TouchS gs m u)

theorem pairs_spec {tab:List Nat} {gs:List G} {j:Nat} {h:G}:∀{l:List G} {i0:Nat} {c:List (Nat×Nat)},pairs tab gs j h l i0=some c→∀{i:Nat} {g:G},l[i]?=some g→i0+i<j →
    (tab.getD j 0).testBit (i0+i)=true∨clash g h=0∨(clash g h=2∧∃t u,g.i.addr=some t∧h.i.addr=some u∧(∀x∈gs.drop (i0+i),x.d≠some t)∧(∀x∈gs.drop j,x.d≠some u) ∧
      ((g.i.cls=1∧(t,u)∈c)∨(g.i.cls≠1∧(u,t)∈c)))
  | [],_,_,_,_,_,hi,_=>by simp at hi
  | g::r,i0,c,hp,i,g',hi,hlt=>by
    simp only[pairs]at hp
    rw[if_neg (by omega)]at hp
    obtain⟨l,hl,hp⟩:=Option.bind_eq_some_iff.1 hp
    have ihl:∀{i:Nat} {g':G},r[i]?=some g'→i0+1+i<j→_:=fun {i} {g'} a b=>pairs_spec hl (i:=i) (g:=g') a b
    have sub:∀x,x∈l→x∈c:=by
      intro x hx
      split at hp
      · simp at hp;subst hp;exact hx
      · split at hp
        · simp at hp;subst hp;exact hx
        · split at hp
          · split at hp
            · split at hp<;>(simp at hp;subst hp;exact List.mem_cons_of_mem _ hx)
            · simp at hp
          · simp at hp
        · simp at hp
    cases i with
    | succ i =>
      have:=ihl (i:=i) (g':=g') (by simpa using hi) (by omega)
      rw[show i0+1+i=i0+(i+1) by omega]at this
      rcases this with h | h | ⟨h,t,u,h1,h2,h3,h4,h5⟩
      · exact .inl h
      · exact .inr (.inl h)
      · exact .inr (.inr ⟨h,t,u,h1,h2,h3,h4,h5.imp (fun h=>⟨h.1,sub _ h.2⟩) fun h=>⟨h.1,sub _ h.2⟩⟩)
    | zero =>
      simp at hi
      subst hi
      simp only[Nat.add_zero]
      split at hp
      · rename_i hb;exact .inl hb
      · split at hp
        · rename_i h0;exact .inr (.inl h0)
        · rename_i h2
          refine .inr (.inr ⟨h2,?_⟩)
          split at hp
          · rename_i t u ht hu
            split at hp
            · rename_i hc
              simp only[Bool.and_eq_true,List.all_eq_true,bne_iff_ne,ne_eq]at hc
              refine⟨t,u,ht,hu,hc.1,hc.2,?_⟩
              split at hp
              · rename_i hcl
                simp at hp;subst hp
                exact .inl ⟨hcl,by simp⟩
              · rename_i hcl
                simp at hp;subst hp
                exact .inr ⟨hcl,by simp⟩
            · simp at hp
          · simp at hp
        · simp at hp
theorem allPairs_spec {tab:List Nat} {gs:List G}:∀{l:List G} {j0:Nat} {c:List (Nat×Nat)},allPairs tab gs l j0=some c→∀{j:Nat} {h:G},l[j]?=some h →
    ∃c',pairs tab gs (j0+j) h gs 0=some c'∧∀x∈c',x∈c
  | [],_,_,_,_,_,hj=>by simp at hj
  | h::r,j0,c,hp,j,h',hj=>by
    simp only[allPairs]at hp
    obtain⟨a,ha,hp⟩:=Option.bind_eq_some_iff.1 hp
    obtain⟨b,hb,rfl⟩:=Option.map_eq_some_iff.1 hp
    cases j with
    | zero=>simp at hj;subst hj;exact⟨a,ha,fun x hx=>by simp[hx]⟩
    | succ j =>
      obtain⟨c',h1,h2⟩:=allPairs_spec hb (j:=j) (h:=h') (by simpa using hj)
      rw[show j0+1+j=j0+(j+1) by omega]at h1
      exact⟨c',h1,fun x hx=>by simp[h2 x hx]⟩

theorem clash_ne1 {g h:G} (hc:clash g h≠1):(∀d,g.d=some d→d∉h.slots∧h.d≠some d)∧(∀d,h.d=some d→d∉g.slots):=by
  have hn:slotClash g h=false:=by
    cases hs:slotClash g h
    · rfl
    · simp[clash,hs]at hc
  unfold slotClash at hn
  simp only[Bool.or_eq_false_iff]at hn
  obtain⟨h1,h2⟩:=hn
  constructor
  · intro d hd
    rw[hd]at h1
    simpa using h1
  · intro d hd
    rw[hd]at h2
    simpa using h2
theorem clash_cls {g h:G} (hc:clash g h≠1):(g.i.cls=3→h.i.cls=0∨(h.i.cls=1∧clash g h=2))∧(h.i.cls=3→g.i.cls=0∨(g.i.cls=1∧clash g h=2)):=by
  have hle:∀i:I,i.cls≤3:=fun i=>by cases i<;>simp[I.cls]
  have hn:slotClash g h=false:=by
    cases hs:slotClash g h
    · rfl
    · simp[clash,hs]at hc
  have he:clash g h=clsClash g.i.cls h.i.cls (g.i.addr.isSome&&h.i.addr.isSome):=by simp[clash,hn]
  rw[he]at hc ⊢
  have hg:=hle g.i
  have hh:=hle h.i
  generalize g.i.cls=a at *
  generalize h.i.cls=b at *
  generalize (g.i.addr.isSome&&h.i.addr.isSome)=c at *
  constructor<;>intro h3<;>subst h3
  · rcases (by omega:b=0∨b=1∨b=2∨b=3)with rfl | rfl | rfl | rfl<;>cases c<;>simp[clsClash]at hc ⊢
  · rcases (by omega:a=0∨a=1∨a=2∨a=3)with rfl | rfl | rfl | rfl<;>cases c<;>simp[clsClash]at hc ⊢

structure Static (ops:Array Oper) (gs:List G) (chk:List (Nat×Nat)) (tb:List Nat):Prop where
  tab:∀j o,ops[j]?=some o→(∀e∈direct o,e<j)∧∀i,i<j→(tb.getD j 0).testBit i=true→∃e∈direct o,e=i∨(i<e∧(tb.getD e 0).testBit i=true)
  nc:∀i j g h,i<j→gs[i]?=some g→gs[j]?=some h→(tb.getD j 0).testBit i=true∨(NC chk gs i j g h∧NC chk gs j i h g)

theorem static_of {ops:Array Oper} {gs:List G} {chk:List (Nat×Nat)} (h:drawChk ops gs=some chk):Static ops gs chk (waits ops):=by
  unfold drawChk at h
  split at h
  · rename_i hc
    simp only[Bool.and_eq_true]at hc
    refine⟨fun j o hj=>?_,fun i j g h' hij hi hj=>?_⟩
    · have:=tab_spec hc.1 (j:=j) (o:=o) (by simpa using hj)
      simpa using this
    · obtain⟨c',h1,h2⟩:=allPairs_spec h hj
      rw[Nat.zero_add]at h1
      have drop:∀(n t:Nat),(∀x∈gs.drop n,x.d≠some t)→∀m,n≤m→¬TouchS gs m t:=by
        rintro n t hd m hm ⟨x,hx,hxd⟩
        refine hd x ?_ hxd
        rw[List.mem_iff_getElem?]
        exact⟨m-n,by rw[List.getElem?_drop,show n+(m-n)=m by omega];exact hx⟩
      rcases pairs_spec h1 (i:=i) (g:=g) hi (by omega)with h3 | h3 | ⟨h3,t,u,h4,h5,h6,h7,h8⟩
      · left;simpa using h3
      · right
        obtain⟨a1,a2⟩:=clash_ne1 (g:=g) (h:=h') (by omega)
        obtain⟨b1,b2⟩:=clash_cls (g:=g) (h:=h') (by omega)
        refine⟨⟨a1,fun d hd=>⟨a2 d hd,fun e=>(a1 d e).2 hd⟩,fun h=>.inl ?_⟩,⟨fun d hd=>⟨a2 d hd,fun e=>(a1 d e).2 hd⟩,a1,fun h=>.inl ?_⟩⟩
        · rcases b1 h with h | h
          · exact h
          · omega
        · rcases b2 h with h | h
          · exact h
          · omega
      · right
        rw[Nat.zero_add]at h6
        obtain⟨a1,a2⟩:=clash_ne1 (g:=g) (h:=h') (by omega)
        obtain⟨b1,b2⟩:=clash_cls (g:=g) (h:=h') (by omega)
        refine⟨⟨a1,fun d hd=>⟨a2 d hd,fun e=>(a1 d e).2 hd⟩,fun h=>?_⟩,⟨fun d hd=>⟨a2 d hd,fun e=>(a1 d e).2 hd⟩,a1,fun h=>?_⟩⟩
        · rcases b1 h with hh | ⟨hh,-⟩
          · exact .inl hh
          · refine .inr ⟨hh,u,t,h5,h4,?_,drop _ _ h7,drop _ _ h6⟩
            rcases h8 with ⟨h9,-⟩ | ⟨-,h9⟩
            · omega
            · exact h2 _ h9
        · rcases b2 h with hh | ⟨hh,-⟩
          · exact .inl hh
          · refine .inr ⟨hh,t,u,h4,h5,?_,drop _ _ h6,drop _ _ h7⟩
            rcases h8 with ⟨-,h9⟩ | ⟨h9,-⟩
            · exact h2 _ h9
            · omega
  · simp at h

/-- What is listed is so with all that it waits for. -/
def Closed (ops:Array Oper) (X:Nat→Bool):Prop:=∀k o,X k=true→ops[k]?=some o→∀e∈direct o,X e=true
theorem Static.waits {ops:Array Oper} {gs:List G} {chk:List (Nat×Nat)} {tab:List Nat} (hS:Static ops gs chk tab) {X:Nat→Bool} (hX:Closed ops X):∀(j:Nat) (o:Oper),ops[j]?=some o→(∀e∈direct o,X e=true) →
    ∀i,i<j→(tab.getD j 0).testBit i=true→X i=true:=by
  intro j
  induction j using Nat.strongRecOn with
  | _ j ih =>
    intro o ho hd i hij hb
    obtain⟨h1,h2⟩:=hS.tab j o ho
    obtain⟨e,he,h⟩:=h2 i hij hb
    rcases h with rfl | ⟨hie,hb'⟩
    · exact hd _ he
    · have hej:=h1 e he
      have hlt:e<ops.size:=by
        have:=(Array.getElem?_eq_some_iff.1 ho).1
        omega
      exact ih e hej ops[e] (Array.getElem?_eq_getElem hlt) (hX e _ (hd e he) (Array.getElem?_eq_getElem hlt)) i hie hb'
end Am
/-
Regions whose order is open: the steps.
-/
namespace Am
open Go (IntKind BinOp UnOp Value FuncId TypeId World Program Oper Op Operand Code Func ResultVar Addr Obj Act Exit Sem Result Next execOp Ending Calls wpList yielded wpAny wpOp)
open Classical in
/-- Blocks of which nothing is told. -/
noncomputable def mask (keep:Nat→Prop) (l:List Blk):List Blk:=l.mapIdx fun b B=>if keep b then B else .dead
open Classical in
theorem nthB_mask (keep:Nat→Prop) (l:List Blk) (b:Nat):nthB (mask keep l) b=if keep b then nthB l b else .dead:=by
  simp only[nthB_get,mask,List.getElem?_mapIdx]
  cases l[b]?<;>simp
theorem mask_length (keep:Nat→Prop) (l:List Blk):(mask keep l).length=l.length:=by simp[mask]
theorem mask_take {keep:Nat→Prop} {l:List Blk} (h:∀b,b<4→keep b):(mask keep l).take 4=l.take 4:=by
  apply List.ext_getElem?
  intro b
  simp only[List.getElem?_take,mask,List.getElem?_mapIdx]
  split
  · rename_i hb
    cases l[b]?<;>simp[h b hb]
  · rfl

section
variable {Own : Nat → Nat → Prop} {σ : Sg} {w : World}
theorem Sim.dead {H H':Nat→Blk} (h:Sim Own σ H w) (hH:∀b,σ b≠none→H' b=H b∨H' b=.dead):Sim Own σ H' w:=by
  have wr:∀b,σ b≠none→(H' b).wr=true→(H b).wr=true:=by
    intro b hb hw
    rcases hH b hb with h | h
    · rwa [h]at hw
    · rw[h]at hw;simp[Blk.wr]at hw
  have lv:∀b,σ b≠none→(H' b).live=true→(H b).live=true:=by
    intro b hb hw
    rcases hH b hb with h | h
    · rwa [h]at hw
    · rw[h]at hw;simp[Blk.live]at hw
  refine⟨fun b l hl=>?_,fun b b' l l' hne hl hl' h1 h2=>h.excl b b' l l' hne hl hl' (wr b (by simp[hl]) h1) (lv b' (by simp[hl']) h2),h.new,fun k j v hst=>⟨(h.stat k j v hst).1,(h.stat k j v hst).2.1,fun b l hl hw=>(h.stat k j v hst).2.2 b l hl (wr b (by simp[hl]) hw)⟩⟩
  rcases hH b (by simp[hl])with he | he
  · rw[he];exact h.blk b l hl
  · rw[he];exact⟨by simp[Blk.vs],by simp[Blk.live]⟩
theorem Sim.eqOn {H H':Nat→Blk} (h:Sim Own σ H w) (hH:∀b,σ b≠none→H' b=H b):Sim Own σ H' w:=h.dead fun b hb=>.inl (hH b hb)

structure Inv (Own:Nat→Nat→Prop) (σ0:Sg) (w0:World) (ops:Array Oper) (gs:List G) (A:Nat→St) (E:Nat→Option Ef) (X:Nat→Bool) (σ:Sg) (a:Act) (w:World):Prop where
  sim:Sim Own σ (HX A E X gs.length) w
  sr:SR σ (SX A E gs X gs.length) a.tmps
  glob:∀g,g<4→∃l,σ g=some l∧l.blk=g∧l.off=0
  defers:a.defers=[]
  dom:∀b,σ b≠none→b<(A 0).hp.length∨∃k,k<gs.length∧X k=true∧New A E k b
  stin:∀k b,k<gs.length→X k=true→StT E k b→σ b≠none
  kept:Since Own σ0 w0 σ w
  closed:Closed ops X

/-- One more. -/
def plus (X:Nat→Bool) (i:Nat):Nat→Bool:=fun k=>X k||k==i

theorem compGs_get {P:Program} {mf:List FuncId} {ops:Array Oper}:∀{l:List Oper} {gs:List G},compGs P mf ops l=some gs→gs.length=l.length∧∀{i:Nat} {o:Oper},l[i]?=some o→∃g,gs[i]?=some g∧compG P mf ops o=some g
  | [],gs,h=>by simp[compGs]at h;subst h;simp
  | o::r,gs,h=>by
    simp only[compGs]at h
    obtain⟨g,hg,h⟩:=Option.bind_eq_some_iff.1 h
    obtain⟨gs',hgs,rfl⟩:=Option.map_eq_some_iff.1 h
    obtain⟨h1,h2⟩:=compGs_get hgs
    refine⟨by simp[h1],fun {i o'} hi=>?_⟩
    cases i with
    | zero=>simp at hi;subst hi;exact⟨g,by simp,hg⟩
    | succ i=>simpa using h2 (by simpa using hi)

theorem wanted_sr {ops:Array Oper} {o:Oper} {j t:Nat} {want:Bool} {sl:List V} {tmps:Array Value} (hg:o.guard=some (j,want)) (ht:(ops[j]?).bind (·.dst)=some t) (h:SR σ sl tmps) :
    (∀b,nth sl t=.bool b→Go.Region.wanted o (yielded ops tmps)=(b==want))∧(nth sl t=.tup []→Go.Region.wanted o (yielded ops tmps)=false):=by
  have hv:=h.get t
  refine⟨fun b hb=>?_,fun hb=>?_⟩
  · rw[hb]at hv
    generalize hq:tmps.getD t Go.undef=q at hv
    cases hv
    have:tmps[t]?=some (.bool b):=by
      rcases Nat.lt_or_ge t tmps.size with hlt | hge
      · simp[hlt]at hq;simp[hlt,hq]
      · simp[hge,Go.undef]at hq
    simp[Go.Region.wanted,hg,yielded,ht,this]
  · rw[hb]at hv
    generalize hq:tmps.getD t Go.undef=q at hv
    cases hv
    rename_i vs hvs
    have:∀b,tmps[t]?≠some (.bool b):=by
      intro b hb
      rw[Array.getD_eq_getD_getElem?,hb]at hq
      simp at hq
    have hy:yielded ops tmps j=none:=by
      unfold yielded
      rw[ht]
      simp only[Option.bind_some]
    simp[Go.Region.wanted,hg,hy]

theorem SR.of_nth {sl sl':List V} {tmps:Array Value} (h:SR σ sl tmps) (hl:sl'.length=sl.length) (hn:∀t,nth sl' t=nth sl t):SR σ sl' tmps:=⟨hl.trans h.len,fun t=>by rw[hn t];exact h.get t⟩
end

theorem apart_spec {sl:List V} {t u:Nat}:∀{chk:List (Nat×Nat)},apartOk sl chk→(t,u)∈chk→∀b c,blkOf (nth sl t)=some b→blkOf (nth sl u)=some c→4≤c→b≠c
  | [],_,h=>by simp at h
  | (t',u')::r,h,hm=>by
    simp only[apartOk]at h
    simp only[List.mem_cons,Prod.mk.injEq]at hm
    rcases hm with ⟨rfl,rfl⟩ | hm
    · intro b c hb hc h4
      have h1:=h.1
      cases ht:nth sl t<;>rw[ht]at h1 hb<;>simp only at h1<;>try exact h1.elim
      cases hu:nth sl u<;>rw[hu]at h1 hc<;>simp only at h1<;>try exact h1.elim
      all_goals
        simp only[blkOf,Option.some.injEq]at hb hc
        subst hb hc
      · exact h1
      · exact h1
      · omega
    · exact apart_spec h.2 hm

section
variable {P : Program} {Own : Nat → Nat → Prop} {gl : List Blk} {S : FuncId → Summ} {mf : List FuncId} {ops : Array Oper} {gs : List G} {chk : List (Nat × Nat)} {tb : List Nat} {A : Nat → St} {E : Nat → Option Ef} {σ0 : Sg} {w0 : World}

/-- What all steps of a region's walk know. -/
structure Know (P:Program) (gl:List Blk) (S:FuncId→Summ) (mf:List FuncId) (ops:Array Oper) (gs:List G) (chk:List (Nat×Nat)) (tb:List Nat) (A:Nat→St) (E:Nat→Option Ef):Prop where
  hS:∀f,SumOK P gl f (S f)
  st:Static ops gs chk tb
  tr:Tr S gs A E
  cg:compGs P mf ops ops.toList=some gs
  ap:apartOk (A gs.length).sl chk
  low:(A 0).hp.take 4=gl
  lowlen:4≤(A 0).hp.length
  ro:∀B∈gl,B.wr=false

variable {X : Nat → Bool} {σ : Sg} {a : Act} {w : World}

/-- Who is not where the text has it does not wait. -/
theorem Know.nc (K:Know P gl S mf ops gs chk tb A E) (hX:Closed ops X) {i:Nat} {g:G} {o:Oper} (hg:gs[i]?=some g) (ho:ops[i]?=some o) (hi:X i=false) (hr:∀e∈direct o,X e=true)
    {k:Nat} {gk:G} (hk:gs[k]?=some gk) (hne:k≠i) (hd:X k≠decide (k<i)):NC chk gs k i gk g:=by
  rcases Nat.lt_or_ge k i with hlt | hge
  · have hXk:X k=false:=by simpa[hlt]using hd
    rcases K.st.nc k i gk g hlt hk hg with h | h
    · rw[K.st.waits hX i o ho hr k hlt h]at hXk
      simp at hXk
    · exact h.1
  · have hlt:i<k:=by omega
    have hXk:X k=true:=by simpa[show ¬k<i by omega]using hd
    rcases K.st.nc i k g gk hlt hg hk with h | h
    · have hlen:=(compGs_get K.cg).1
      have hks:k<ops.size:=by
        have:=(List.getElem?_eq_some_iff.1 hk).1
        simp at hlen;omega
      have ho':=Array.getElem?_eq_getElem hks
      have:=K.st.waits hX k _ ho' (hX k _ hXk ho') i hlt h
      rw[hi]at this
      simp at this
    · exact h.2

theorem Know.slots (K:Know P gl S mf ops gs chk tb A E) (hX:Closed ops X) {i:Nat} {g:G} {o:Oper} (hg:gs[i]?=some g) (ho:ops[i]?=some o) (hi:X i=false) (hr:∀e∈direct o,X e=true) :
    ∀t∈g.slots,nth (SX A E gs X gs.length) t=nth (A i).sl t:=by
  intro t ht
  have hlt:=(List.getElem?_eq_some_iff.1 hg).1
  rw[←K.tr.slots_before (i:=i) (n:=gs.length) (by omega) (Nat.le_refl _)]
  refine SX_congr fun k hk ⟨gk,hgk,hd⟩=>?_
  by_cases hne:k=i
  · subst hne;simpa using hi
  · by_cases hd':X k=decide (k<i)
    · exact hd'
    · exact absurd ht ((K.nc hX hg ho hi hr hgk hne hd').d1 t hd).1

/-- What an operation may look at. -/
def keeps (g:G) (sl:List V) (b:Nat):Prop:=b<4∨2≤g.i.cls∨(g.i.cls=1∧∀t,g.i.addr=some t→blkOf (nth sl t)=some b)

theorem Know.agree (K:Know P gl S mf ops gs chk tb A E) (hI:Inv Own σ0 w0 ops gs A E X σ a w) {i:Nat} {g:G} {o:Oper} (hg:gs[i]?=some g) (ho:ops[i]?=some o) (hi:X i=false) (hr:∀e∈direct o,X e=true)
    {b:Nat} (hk:keeps g (A i).sl b) (hσ:σ b≠none) (hb:b<(A i).hp.length):nthB (A i).hp b=HX A E X gs.length b:=by
  have hlt:=(List.getElem?_eq_some_iff.1 hg).1
  rw[←K.tr.heap_before (i:=i) (n:=gs.length) (by omega) (Nat.le_refl _)]
  refine (HX_congr fun k hkn ht=>?_).symm
  by_cases hne:k=i
  · subst hne;simpa using hi
  · by_cases hd':X k=decide (k<i)
    · exact hd'
    · exfalso
      have hgk:=List.getElem?_eq_getElem hkn
      have hnc:=K.nc hI.closed hg ho hi hr hgk hne hd'
      rcases ht with hn | hs
      · rcases Nat.lt_or_ge k i with h | h
        · have hXk:X k=false:=by simpa[h]using hd'
          rcases hI.dom b hσ with h0 | ⟨k',hk',hXk',hn'⟩
          · obtain⟨e,he,h1,h2⟩:=hn
            have:=K.tr.mono (k:=0) (m:=k) (by omega) (by omega)
            omega
          · have:=K.tr.new_one hkn hk' hn hn'
            subst this
            rw[hXk]at hXk';simp at hXk'
        · obtain⟨e,he,h1,h2⟩:=hn
          have:=K.tr.mono (k:=i) (m:=k) (by omega) (by omega)
          omega
      · have hlow:=K.tr.stT_low K.low K.lowlen K.ro hkn hs
        obtain⟨h3,had⟩:=K.tr.stT_cls hgk hs
        rcases hnc.c3 h3 with h0 | ⟨h1,t,u,ht,hu,hm,hst,hsu⟩
        · rcases hk with hk | hk | hk
          · omega
          · omega
          · omega
        · rcases hk with hk | hk | ⟨-,hk⟩
          · omega
          · omega
          · have e1:=hk t ht
            have e2:=had u hu
            rw[←K.tr.slot_stays (i:=i) (n:=gs.length) (by omega) (Nat.le_refl _) hst]at e1
            rw[←K.tr.slot_stays (i:=k) (n:=gs.length) (by omega) (Nat.le_refl _) hsu]at e2
            exact apart_spec K.ap hm b b e1 e2 hlow rfl

theorem Know.exec_at (K:Know P gl S mf ops gs chk tb A E) (hX:Closed ops X) {i:Nat} {g:G} {o:Oper} (hg:gs[i]?=some g) (ho:ops[i]?=some o) (hi:X i=false) (hr:∀e∈direct o,X e=true) {e:Ef} (he:Abs S (ev (A i).sl) (A i).hp g.i e) :
    exec S (ev (SX A E gs X gs.length)) (mask (keeps g (A i).sl) (A i).hp) g.i (·=e):=by
  have h0:=he.ex (·=e) rfl
  have hs:=K.slots hX hg ho hi hr
  rw[exec_congr (ρ:=ev (SX A E gs X gs.length)) (ρ':=ev (A i).sl) (fun v=>rfl) (fun n hn=>hs n (by
    simp only[G.slots,List.mem_append];exact .inr hn))]
  have hle:g.i.cls≤3:=by generalize g.i=j;cases j<;>simp[I.cls]
  rcases (by omega:g.i.cls=0∨g.i.cls=1∨2≤g.i.cls)with h | h | h
  · rwa [←exec_pure h (mask_length _ _)]
  · cases ha:g.i.addr with
    | none =>
      have:mask (keeps g (A i).sl) (A i).hp=(A i).hp:=by
        apply List.ext_getElem?
        intro b
        have hk:keeps g (A i).sl b:=.inr (.inr ⟨h,by simp[ha]⟩)
        simp only[mask,List.getElem?_mapIdx]
        cases (A i).hp[b]?<;>simp[hk]
      rwa [this]
    | some t =>
      rwa [←exec_load h ha]
      intro b hb
      have hk:keeps g (A i).sl b:=.inr (.inr ⟨h,fun t' ht'=>by rw[ha]at ht';cases ht';exact hb⟩)
      rw[nthB_mask,if_pos hk]
  · have:mask (keeps g (A i).sl) (A i).hp=(A i).hp:=by
      apply List.ext_getElem?
      intro b
      have hk:keeps g (A i).sl b:=.inr (.inl h)
      simp only[mask,List.getElem?_mapIdx]
      cases (A i).hp[b]?<;>simp[hk]
    rwa [this]
end
end Am
/-
Regions whose order is open: all steps, and the region.
-/
namespace Am
open Go (IntKind BinOp UnOp Value FuncId TypeId World Program Oper Op Operand Code Func ResultVar Addr Obj Act Exit Sem Result Next execOp Ending Calls wpList yielded wpAny wpOp)

section
variable {P : Program} {Own : Nat → Nat → Prop} {gl : List Blk} {S : FuncId → Summ} {mf : List FuncId} {ops : Array Oper} {gs : List G} {chk : List (Nat × Nat)} {tb : List Nat} {A : Nat → St} {E : Nat → Option Ef} {σ0 : Sg} {w0 : World}
variable {X : Nat → Bool} {σ : Sg} {a : Act} {w : World}

/-- Slots behind one more. -/
theorem Know.slots_plus (K:Know P gl S mf ops gs chk tb A E) (hX:Closed ops X) {i:Nat} {g:G} {o:Oper} (hg:gs[i]?=some g) (ho:ops[i]?=some o) (hi:X i=false) (hr:∀e∈direct o,X e=true) (t:Nat) :
    nth (SX A E gs (plus X i) gs.length) t=nth (put (SX A E gs X gs.length) g.d (vE E i)) t:=by
  have hlt:=(List.getElem?_eq_some_iff.1 hg).1
  by_cases hd:g.d=some t
  · have hcut:nth (SX A E gs (plus X i) gs.length) t=nth (SX A E gs (plus X i) (i+1)) t:=by
      refine SX_cut (by omega) fun k h1 h2 h3 h4=>?_
      obtain⟨gk,hgk,hdk⟩:=h4
      have hXk:X k=true:=by
        simp only[plus,Bool.or_eq_true,beq_iff_eq]at h3
        rcases h3 with h | h
        · exact h
        · omega
      exact((K.nc hX hg ho hi hr hgk (by omega) (by rw[hXk];simp;omega)).d2 t hd).2 hdk
    rw[hcut]
    · simp only[SX,plus,beq_self_eq_true,Bool.or_true,if_true,hg,nth_put,hd,true_and,SX_len]
      split
      · rfl
      · rename_i hge
        rw[nth_get,nth_get,List.getElem?_eq_none (by rw[SX_len];omega),List.getElem?_eq_none (by rw[SX_len];omega)]
  · simp only[nth_put,hd,false_and,if_false]
    refine SX_congr fun k hk ⟨gk,hgk,hdk⟩=>?_
    have:k≠i:=by
      rintro rfl
      rw[hg]at hgk;cases hgk
      exact hd hdk
    simp[plus,this]

theorem Know.heap_plus (K:Know P gl S mf ops gs chk tb A E) (hI:Inv Own σ0 w0 ops gs A E X σ a w) {i:Nat} {g:G} {o:Oper} (hg:gs[i]?=some g) (ho:ops[i]?=some o) (hi:X i=false) (hr:∀e∈direct o,X e=true)
    (b:Nat):HX A E (plus X i) gs.length b=upE A E i (HX A E X gs.length) b:=by
  have hlt:=(List.getElem?_eq_some_iff.1 hg).1
  by_cases ht:Touch A E i b
  · rw[HX_cut (m:=i+1) (by omega) fun k h1 h2 h3 htk=>?_]
    · simp only[HX,plus,beq_self_eq_true,Bool.or_true,if_true]
      exact upE_touch ht
    · have hXk:X k=true:=by
        simp only[plus,Bool.or_eq_true,beq_iff_eq]at h3
        rcases h3 with h | h
        · exact h
        · omega
      have hgk:=List.getElem?_eq_getElem h2
      have hnc:=K.nc hI.closed hg ho hi hr hgk (by omega) (by rw[hXk];simp;omega)
      rcases htk with hn | hs
      · rcases ht with hn' | hs'
        · have:=K.tr.new_one hlt h2 hn' hn
          omega
        · have h4:=lt_of_wr (K.tr.stT_wr hlt hs')
          have:=K.tr.mono (k:=i) (m:=k) (by omega) (by omega)
          obtain⟨e,he,h5,h6⟩:=hn
          omega
      · have hσ:=hI.stin k b h2 hXk hs
        rcases ht with hn' | hs'
        · rcases hI.dom b hσ with h0 | ⟨k',hk',hXk',hn''⟩
          · obtain⟨e,he,h5,h6⟩:=hn'
            have:=K.tr.mono (k:=0) (m:=i) (by omega) (by omega)
            omega
          · have:=K.tr.new_one hlt hk' hn' hn''
            subst this
            rw[hi]at hXk';simp at hXk'
        · have h3:=(K.tr.stT_cls hgk hs).1
          have h3':=(K.tr.stT_cls hg hs').1
          rcases hnc.c3 h3 with h | h<;>omega
  · rw[upE_not ht]
    refine HX_congr fun k hk htk=>?_
    have:k≠i:=by rintro rfl;exact ht htk
    simp[plus,this]

theorem Closed.plus (hX:Closed ops X) {i:Nat} {o:Oper} (ho:ops[i]?=some o) (hr:∀e∈direct o,X e=true):Closed ops (Am.plus X i):=by
  intro k o' hk ho' e he
  simp only[Am.plus,Bool.or_eq_true,beq_iff_eq]at hk ⊢
  rcases hk with hk | rfl
  · exact .inl (hX k o' hk ho' e he)
  · rw[ho]at ho';cases ho'
    exact .inl (hr e he)

theorem Know.step {Qw:Exit→Act→World→Prop} (K:Know P gl S mf ops gs chk tb A E) (hI:Inv Own σ0 w0 ops gs A E X σ a w) {i:Nat} {o:Oper} (ho:ops[i]?=some o) (hi:X i=false) (hr:∀e∈direct o,X e=true)
    {N:Act→World→Prop} (hN:∀σ' a' w',Inv Own σ0 w0 ops gs A E (plus X i) σ' a' w'→N a' w'):wpOp P ops Qw i N a w:=by
  obtain⟨hlen,hget⟩:=compGs_get K.cg
  obtain⟨g,hg,hcg⟩:=hget (i:=i) (o:=o) (by simpa using ho)
  have hlt:=(List.getElem?_eq_some_iff.1 hg).1
  have hslots:=K.slots hI.closed hg ho hi hr
  obtain⟨hf,-⟩:=K.tr i g hg
  unfold compG at hcg
  obtain⟨ii,hii,hcg⟩:=Option.bind_eq_some_iff.1 hcg
  have hgd:g.d=o.dst∧g.i=ii:=by
    cases hgd:o.guard with
    | none=>simp only[hgd,Option.some.injEq]at hcg;subst hcg;exact⟨rfl,rfl⟩
    | some jw =>
      obtain⟨j,want⟩:=jw
      simp only[hgd]at hcg
      obtain⟨t,-,rfl⟩:=Option.map_eq_some_iff.1 hcg
      exact⟨rfl,rfl⟩
  have hguard:∀t want,g.g=some (t,want)→∃j,o.guard=some (j,want)∧(ops[j]?).bind (·.dst)=some t:=by
    intro t want htw
    cases hgd:o.guard with
    | none=>simp only[hgd,Option.some.injEq]at hcg;subst hcg;simp at htw
    | some jw =>
      obtain⟨j,want'⟩:=jw
      simp only[hgd]at hcg
      obtain⟨t',ht',rfl⟩:=Option.map_eq_some_iff.1 hcg
      simp at htw
      obtain⟨rfl,rfl⟩:=htw
      exact⟨j,rfl,ht'⟩
  have hgs:∀t want,g.g=some (t,want)→nth (SX A E gs X gs.length) t=nth (A i).sl t:=fun t want h=>hslots t (by simp[G.slots,h])
  unfold wpOp
  rw[ho]
  simp only[]
  cases he:E i with
  | none =>
    obtain⟨t,want,htw,hv⟩:=hf.no he
    obtain⟨j,h1,h2⟩:=hguard t want htw
    obtain⟨w1,w2⟩:=wanted_sr h1 h2 hI.sr
    have hw:Go.Region.wanted o (yielded ops a.tmps)=false:=by
      rcases hv with hv | hv
      · rw[w1 (!want) (by rw[hgs t want htw,hv])];simp
      · exact w2 (by rw[hgs t want htw,hv])
    rw[if_neg (by rw[hw];simp)]
    refine hN σ _ _ ⟨hI.sim.eqOn fun b hb=>?_,?_,hI.glob,?_,fun b hb=>?_,fun k b hk hXk hs=>?_,hI.kept,hI.closed.plus ho hr⟩
    · rw[K.heap_plus hI hg ho hi hr,upE,he]
    · have:=(hI.sr.put (d:=o.dst) (v:=.tup []) (v':=Go.undef) (.tup .nil))
      refine this.of_nth ?_ fun t=>?_
      · rw[SX_len];cases o.dst<;>simp[put,upd_set,SX_len]
      · rw[K.slots_plus hI.closed hg ho hi hr,vE,he,hgd.1]
    · cases o.dst<;>simpa[Act.put]using hI.defers
    · rcases hI.dom b hb with h | ⟨k,h1,h2,h3⟩
      · exact .inl h
      · exact .inr ⟨k,h1,by simp[plus,h2],h3⟩
    · have hne:k≠i:=by
        rintro rfl
        obtain⟨e,he',-⟩:=hs
        rw[he]at he';simp at he'
      exact hI.stin k b hk (by simpa[plus,hne]using hXk) hs
  | some e =>
    obtain⟨hgv,habs⟩:=hf.yes e he
    have hw:Go.Region.wanted o (yielded ops a.tmps)=true:=by
      cases hgg:o.guard with
      | none=>simp[Go.Region.wanted,hgg]
      | some jw =>
        obtain⟨j,want⟩:=jw
        simp only[hgg]at hcg
        obtain⟨t,ht,rfl⟩:=Option.map_eq_some_iff.1 hcg
        rw[(wanted_sr hgg ht hI.sr).1 want (by rw[hgs t want rfl,hgv t want rfl])]
        simp
    rw[if_pos hw]
    left
    have hx:=K.exec_at hI.closed hg ho hi hr habs
    have hagree:∀b,σ b≠none→nthB (mask (keeps g (A i).sl) (A i).hp) b=HX A E X gs.length b∨nthB (mask (keeps g (A i).sl) (A i).hp) b=.dead:=by
      intro b hb
      rw[nthB_mask]
      split
      · rename_i hk
        rcases Nat.lt_or_ge b (A i).hp.length with h | h
        · exact .inl (K.agree hI hg ho hi hr hk hb h)
        · right;rw[nthB_get,List.getElem?_eq_none h];rfl
      · exact .inr rfl
    have hsim1:=hI.sim.dead hagree
    have hG:GOk gl σ (mask (keeps g (A i).sl) (A i).hp):=⟨hI.glob,by
      rw[mask_take fun b hb=>.inl hb]
      exact K.tr.low K.low K.lowlen K.ro (by omega)⟩
    have hfree:∀j,j<e.nw.length→σ ((A i).hp.length+j)=none:=by
      intro j hj
      have hn:New A E i ((A i).hp.length+j):=⟨e,he,by omega,by omega⟩
      cases hs:σ ((A i).hp.length+j)with
      | none=>rfl
      | some l =>
        exfalso
        rcases hI.dom _ (by rw[hs];simp)with h | ⟨k,h1,h2,h3⟩
        · have:=K.tr.mono (k:=0) (m:=i) (by omega) (by omega)
          omega
        · have:=K.tr.new_one hlt h1 hn h3
          subst this
          rw[hi]at h2;simp at h2
    rw[hgd.2]at hx
    obtain⟨e',rfl,hd⟩:=exec_good (Q:=Qw) hii K.hS hsim1 hG (rho_ok hI.sr hG) (fun e' he' j hj=>by
      subst he'
      rw[mask_length]
      exact hfree j hj) hx
    refine Go.Oper.wp_mono (fun a' w' ⟨v',σ',ha',hp'⟩=>?_) hd
    subst ha'
    have hkept:=hI.kept.step hsim1 hp'
    rw[mask_length]at hp'
    have hp2:Post Own σ (HX A E X gs.length) (A i).hp.length e' w v' w' σ' :=
      { ext:=hp'.ext,dom:=hp'.dom,val:=hp'.val,nodup:=hp'.nodup,stdom:=hp'.stdom,kept:=hp'.kept,stok:=hp'.stok,nwok:=hp'.nwok,nwx:=hp'.nwx
        stwr:=fun p hp=>by
          have h1:=hp'.stwr p hp
          obtain⟨l,hl⟩:=hp'.stdom p hp
          rcases hagree p.1 (by rw[hl];simp)with h | h
          · rwa [h]at h1
          · rw[h]at h1;simp[Blk.wr]at h1 }
    have hsim2:=sim_step hI.sim hp2 hfree
    refine hN σ' _ _ ⟨hsim2.eqOn fun b hb=>?_,?_,?_,?_,fun b hb=>?_,fun k b hk hXk hs=>?_,hkept,hI.closed.plus ho hr⟩
    · rw[K.heap_plus hI hg ho hi hr,upE,he]
    · have:=((hI.sr.mono hp'.ext).put (d:=o.dst) hp'.val)
      refine this.of_nth ?_ fun t=>?_
      · rw[SX_len];cases o.dst<;>simp[put,upd_set,SX_len]
      · rw[K.slots_plus hI.closed hg ho hi hr,vE,he,hgd.1]
    · intro g' hg'
      obtain⟨l,hl,h1⟩:=hI.glob g' hg'
      exact⟨l,hp'.ext.loc _ _ hl,h1⟩
    · cases o.dst<;>simpa[Act.put]using hI.defers
    · by_cases hn:(A i).hp.length≤b∧b<(A i).hp.length+e'.nw.length
      · exact .inr ⟨i,hlt,by simp[plus],e',he,hn⟩
      · rw[hp'.dom b (by omega)]at hb
        rcases hI.dom b hb with h | ⟨k,h1,h2,h3⟩
        · exact .inl h
        · exact .inr ⟨k,h1,by simp[plus,h2],h3⟩
    · by_cases hne:k=i
      · subst hne
        obtain⟨e2,he2,hl⟩:=hs
        rw[he]at he2;cases he2
        cases hq:lookS e'.st b with
        | none=>exact absurd hq hl
        | some B =>
          obtain⟨l,hl⟩:=hp'.stdom _ (lookS_mem hq)
          rw[hp'.ext.loc _ _ hl];simp
      · have:=hI.stin k b hk (by simpa[plus,hne]using hXk) hs
        cases hq:σ b with
        | none=>exact absurd hq this
        | some l=>rw[hp'.ext.loc _ _ hq];simp

/-- How many are not listed yet. -/
def left (n:Nat) (X:Nat→Bool):Nat:=(List.range n).countP fun k=>!X k
theorem left_plus {n i:Nat} (hi:i<n) (hX:X i=false):left n (plus X i)<left n X:=by
  unfold left
  induction n with
  | zero=>omega
  | succ n ih =>
    simp only[List.range_succ,List.countP_append,List.countP_cons,List.countP_nil]
    by_cases h:i=n
    · subst h
      have:(List.range i).countP (fun k=>!plus X i k)=(List.range i).countP fun k=>!X k:=by
        apply List.countP_congr
        intro k hk
        have:k<i:=List.mem_range.1 hk
        simp[plus,show k≠i by omega]
      rw[this]
      simp[plus,hX]
    · have:=ih (by omega)
      have e:plus X i n=X n:=by simp[plus,show n≠i by omega]
      rw[e]
      omega

theorem Know.all {Qw:Exit→Act→World→Prop} (K:Know P gl S mf ops gs chk tb A E)
    (hQ:∀σ a w,Inv Own σ0 w0 ops gs A E (fun _=>true) σ a w→Qw .normal a w) :
    ∀(fuel:Nat) (listed:Array Bool) (X:Nat→Bool) (σ:Sg) (a:Act) (w:World),(∀k,k<ops.size→X k=listed.getD k false)→listed.size=ops.size→left ops.size X≤fuel →
      Inv Own σ0 w0 ops gs A E X σ a w→wpAny P .any ops Qw fuel listed a w:=by
  obtain⟨hlen,-⟩:=compGs_get K.cg
  have hlen':gs.length=ops.size:=by simpa using hlen
  have done:∀(listed:Array Bool) (X:Nat→Bool) (σ:Sg) (a:Act) (w:World),(∀k,k<ops.size→X k=listed.getD k false)→(∀k,k<ops.size→X k=true) →
      Inv Own σ0 w0 ops gs A E X σ a w→Qw .normal a w:=by
    intro listed X σ a w hX hall hI
    refine hQ σ a w ⟨hI.sim.eqOn fun b _=>HX_congr fun k hk _=>(hall k (by omega)).symm,hI.sr.of_nth (by rw[SX_len,SX_len]) fun t=>SX_congr fun k hk _=>(hall k (by omega)).symm,hI.glob,hI.defers,fun b hb=>?_,fun k b hk _ hs=>hI.stin k b hk (hall k (by omega)) hs,hI.kept,fun _ _ _ _ _ _=>rfl⟩
    rcases hI.dom b hb with h | ⟨k,h1,h2,h3⟩
    · exact .inl h
    · exact .inr ⟨k,h1,rfl,h3⟩
  have complete:∀(listed:Array Bool) (X:Nat→Bool),(∀k,k<ops.size→X k=listed.getD k false)→listed.size=ops.size→Go.Region.ready .any ops listed=[]→∀k,k<ops.size→X k=true:=by
    intro listed X hX hsz hr k
    induction k using Nat.strongRecOn with
    | _ k ih =>
      intro hk
      cases hXk:X k with
      | true=>rfl
      | false =>
        exfalso
        have:k∈Go.Region.ready .any ops listed:=by
          rw[Go.mem_ready]
          have h0:listed.getD k false=false:=by rw[←hX k hk,hXk]
          refine⟨?_,ops[k],Array.getElem?_eq_getElem hk,fun e he hb=>?_⟩
          · simpa[show k<listed.size by omega]using h0
          · have hd:e.on∈direct ops[k]:=List.mem_map.2 ⟨e,List.mem_filter.2 ⟨by simpa using he,hb⟩,rfl⟩
            have hlt:=(K.st.tab k _ (Array.getElem?_eq_getElem hk)).1 _ hd
            rw[←hX _ (by omega)]
            exact ih _ hlt (by omega)
        rw[hr]at this
        simp at this
  intro fuel
  induction fuel with
  | zero =>
    intro listed X σ a w hX hsz hl hI
    have hall:∀k,k<ops.size→X k=true:=by
      intro k hk
      have:left ops.size X=0:=by omega
      simp only[left,List.countP_eq_zero,List.mem_range]at this
      simpa using this k hk
    refine⟨?_,done listed X σ a w hX hall hI⟩
    rw[List.eq_nil_iff_forall_not_mem]
    intro j hj
    rw[Go.mem_ready]at hj
    obtain⟨h0,o,ho,-⟩:=hj
    have hlt:=(Array.getElem?_eq_some_iff.1 ho).1
    have:=hX j hlt
    rw[hall j hlt]at this
    simp[show j<listed.size by omega]at this h0
    rw[h0]at this;simp at this
  | succ fuel ih =>
    intro listed X σ a w hX hsz hl hI
    refine⟨fun hr=>done listed X σ a w hX (complete listed X hX hsz hr) hI,fun i hi=>?_⟩
    rw[Go.mem_ready]at hi
    obtain⟨h0,o,ho,hall⟩:=hi
    have hlt:=(Array.getElem?_eq_some_iff.1 ho).1
    have hXi:X i=false:=by
      rw[hX i hlt]
      simpa[show i<listed.size by omega]using h0
    have hdir:∀e∈direct o,X e=true:=by
      intro e he
      obtain⟨ed,hed,rfl⟩:=List.mem_map.1 he
      obtain⟨hed1,hed2⟩:=List.mem_filter.1 hed
      have hlt':=(K.st.tab i o ho).1 _ he
      rw[hX _ (by omega)]
      exact hall ed (by simpa using hed1) hed2
    refine K.step hI ho hXi hdir fun σ' a' w' hI'=>ih _ (plus X i) σ' a' w' (fun k hk=>?_) (by simpa using hsz) ?_ hI'
    · by_cases hki:k=i
      · subst hki
        simp[plus,show k<listed.size by omega]
      · rw[Go.getD_set_ne false (Ne.symm hki),←hX k hk]
        simp[plus,hki]
    · have:=left_plus (n:=ops.size) hlt hXi
      omega

theorem StOK.drew {s:St} (h:StOK Own gl σ s a w):StOK Own gl σ s a { w with drawn:=w.drawn+1 } :=
  ⟨⟨fun b l hl=>⟨(h.sim.blk b l hl).len,(h.sim.blk b l hl).row⟩,h.sim.excl,h.sim.new,h.sim.stat⟩,h.glob,h.sr,h.defers,h.dom,h.ro⟩

theorem run_any {Qw:Exit→Act→World→Prop} {F:St→Prop} (hS:∀f,SumOK P gl f (S f)) (hA:∀f,SumAbs (S f)) (hm:P.follows .mixedOrders=true) {id:Nat}
    (hQ:∀σ s a w,StOK Own gl σ s a w→Since Own σ0 w0 σ w→F s→Qw .normal a w) {s:St} (hc:compGs P mf ops ops.toList=some gs) (hd:drawChk ops gs=some chk)
    (hst:StOK Own gl σ s a w) (hk:Since Own σ0 w0 σ w) (h:run S gs s fun s'=>apartOk s'.sl chk∧F s'):(Code.region id ops true).wp P Qw a w:=by
  obtain⟨A,E,h0,hT,hap,hF⟩:=run_trace hA h
  have hlen:4≤s.hp.length:=by
    obtain⟨l,hl,-⟩:=hst.glob.at_ 3 (by omega)
    rcases Nat.lt_or_ge 3 s.hp.length with h' | h'
    · omega
    · rw[hst.dom 3 h']at hl;simp at hl
  have K:Know P gl S mf ops gs chk (waits ops) A E:=⟨hS,static_of hd,hT,hc,hap,by rw[h0];exact hst.glob.is,by rw[h0];exact hlen,hst.ro⟩
  have hn:=(compGs_get hc).1
  refine Go.wp_region_any hm (K.all (Own:=Own) (σ0:=σ0) (w0:=w0) (fun σ' a' w' hI=>?_) ops.size _ (fun _=>false) σ a _ (fun k hk=>by simp[hk]) (by simp) ?_ ?_)
  · refine hQ σ' (A gs.length) a' w' ⟨?_,⟨hI.glob,K.tr.low K.low K.lowlen K.ro (Nat.le_refl _)⟩,?_,hI.defers,fun b hb=>?_,hst.ro⟩ hI.kept hF
    · rw[←K.tr.heap (Nat.le_refl _)];exact hI.sim
    · rw[←K.tr.slots (Nat.le_refl _)];exact hI.sr
    · cases hs:σ' b with
      | none=>rfl
      | some l =>
        exfalso
        rcases hI.dom b (by rw[hs];simp)with h | ⟨k,h1,-,h3⟩
        · have:=K.tr.mono (k:=0) (m:=gs.length) (by omega) (Nat.le_refl _)
          omega
        · have:=K.tr.new_lt h1 (Nat.le_refl _) h3
          omega
  · unfold left
    exact Nat.le_trans List.countP_le_length (by simp)
  · have hst':=hst.drew
    have hH:∀n,HX A E (fun _=>false) n=nthB (A 0).hp:=by
      intro n;induction n with
      | zero=>rfl
      | succ n ih=>simp[HX,ih]
    have hSX:∀n,SX A E gs (fun _=>false) n=(A 0).sl:=by
      intro n;induction n with
      | zero=>rfl
      | succ n ih=>simp[SX,ih]
    refine⟨by rw[hH,h0];exact hst'.sim,by rw[hSX,h0];exact hst'.sr,hst.glob.at_,hst.defers,fun b hb=>.inl ?_,fun k b _ h=>by simp at h,⟨hk.kept.trans (Kept.drew _ _),hk.ext⟩,fun k o h=>by simp at h⟩
    rw[h0]
    rcases Nat.lt_or_ge b s.hp.length with h | h
    · exact h
    · exact absurd (hst.dom b h) hb
end
end Am
