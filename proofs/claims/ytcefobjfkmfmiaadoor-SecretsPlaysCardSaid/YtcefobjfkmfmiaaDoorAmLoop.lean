/-
Loops: by an invariant and a countdown. Tables of summaries.
-/
import Derived.Test.YtcefobjfkmfmiaaDoorAmSound
import Derived.Test.YtcefobjfkmfmiaaDoorAmEff
set_option linter.unusedSimpArgs false
set_option linter.unusedVariables false
set_option linter.unusedSectionVars false
namespace Am
open Go (IntKind BinOp UnOp Value FuncId TypeId World Program Oper Op Operand Code Func)

section
variable {S : FuncId → Summ}
theorem exec_mono (hA:∀f,SumAbs (S f)) {ρ:X→V} {hp:List Blk} {i:I} {K K':Ef→Prop} (h:exec S ρ hp i K) (hk:∀e,K e→K' e):exec S ρ hp i K':=by
  obtain⟨e,h1,h2⟩:=exec_abs hA h
  exact h2.ex K' (hk e h1)
theorem run_mono (hA:∀f,SumAbs (S f)) {F F':St→Prop} (hF:∀s,F s→F' s):∀{gs:List G} {s:St},run S gs s F→run S gs s F'
  | [],s,h=>hF s h
  | g::gs,s,h=>by
    simp only[run]at h ⊢
    split
    · rename_i hg
      simp only[hg]at h
      exact exec_mono hA h fun e he=>run_mono hA hF he
    · rename_i t want hg
      simp only[hg]at h
      split
      · rename_i b hb
        simp only[hb]at h
        exact⟨fun hw=>exec_mono hA (h.1 hw) fun e he=>run_mono hA hF he,fun hw=>run_mono hA hF (h.2 hw)⟩
      · rename_i hb
        simp only[hb]at h
        exact run_mono hA hF h
      · rename_i h1 h2
        cases hn:nth s.sl t with
        | bool b=>exact absurd hn (h1 b)
        | tup vs =>
          cases vs with
          | nil=>exact absurd hn h2
          | cons=>simp[hn]at h
        | _=>simp[hn]at h
theorem awp_mono {m:Nat} (hA:∀f,SumAbs (S f)):∀{c:C} {Q Q':Ex→St→Prop} {s:St},(∀e s,Q e s→Q' e s)→awp S m c Q s→awp S m c Q' s:=by
  intro c
  induction c with
  | skip=>intro Q Q' s hQ h;exact hQ _ _ h
  | seq a b iha ihb =>
    intro Q Q' s hQ h
    refine iha (fun e s' h'=>?_) h
    cases e with
    | normal=>exact ihb hQ h'
    | exit i=>exact hQ _ _ h'
    | ret=>exact hQ _ _ h'
  | ops l=>intro Q Q' s hQ h;exact run_mono hA (fun s h=>hQ _ _ h) h
  | opsC l chk=>intro Q Q' s hQ h;exact run_mono hA (fun s h=>⟨h.1,hQ _ _ h.2⟩) h
  | alt a b iha ihb=>intro Q Q' s hQ h;exact⟨iha hQ h.1,ihb hQ h.2⟩
  | cond x a b iha ihb =>
    intro Q Q' s hQ h
    simp only[awp]at h ⊢
    cases hx:ev s.sl x<;>simp only[hx]at h ⊢<;>try exact h
    exact⟨fun hc=>iha hQ (h.1 hc),fun hc=>ihb hQ (h.2 hc)⟩
  | block id a ih =>
    intro Q Q' s hQ h
    refine ih (fun e s' h'=>?_) h
    cases e with
    | normal=>exact hQ _ _ h'
    | exit i =>
      simp only[blockQ]at h' ⊢
      split
      · rename_i hi;rw[if_pos hi]at h';exact hQ _ _ h'
      · rename_i hi;rw[if_neg hi]at h';exact hQ _ _ h'
    | ret=>exact hQ _ _ h'
  | loop d a ih =>
    intro Q Q' s hQ h
    obtain⟨n,hn⟩:=h
    refine⟨n,?_⟩
    induction n generalizing s with
    | zero=>exact hn
    | succ n ihn =>
      obtain⟨s1,hwk,hn⟩:=hn
      refine⟨s1,hwk,ih (fun e s' h'=>?_) hn⟩
      cases e with
      | normal=>exact ihn h'
      | exit i=>exact hQ _ _ h'
      | ret=>exact hQ _ _ h'
  | exit id=>intro Q Q' s hQ h;exact hQ _ _ h
  | ret=>intro Q Q' s hQ h;exact hQ _ _ h

/-- A loop: so many rounds at most. -/
theorem awp_loop {mm:Nat} (hA:∀f,SumAbs (S f)) {d:List Nat} {a:C} {Q:Ex→St→Prop} {s:St} (J:Nat→St→Prop) (n:Nat) (h0:J n s)
    (hstep:∀m s,J m s→∃s1,Weak mm ⟨kill d s.sl,s.hp⟩ s1∧awp S mm a (thenQ (fun s'=>∃m',m'<m∧J m' s') Q) s1):awp S mm (.loop d a) Q s:=by
  have mono:∀n m s,n≤m→Nat.rec (motive:=fun _=>St→Prop) (fun _=>False) (fun _ ih s=>∃s',Weak mm ⟨kill d s.sl,s.hp⟩ s'∧awp S mm a (thenQ ih Q) s') n s →
      Nat.rec (motive:=fun _=>St→Prop) (fun _=>False) (fun _ ih s=>∃s',Weak mm ⟨kill d s.sl,s.hp⟩ s'∧awp S mm a (thenQ ih Q) s') m s:=by
    intro n
    induction n with
    | zero=>intro m s _ h;exact h.elim
    | succ n ih =>
      intro m s hm h
      cases m with
      | zero=>omega
      | succ m =>
        obtain⟨s1,hwk,h⟩:=h
        refine⟨s1,hwk,awp_mono hA (fun e s' h'=>?_) h⟩
        cases e with
        | normal=>exact ih m s' (by omega) h'
        | exit i=>exact h'
        | ret=>exact h'
  refine⟨n+1,?_⟩
  induction n using Nat.strongRecOn generalizing s with
  | _ n ih =>
    obtain⟨s1,hwk,hst⟩:=hstep n s h0
    refine⟨s1,hwk,awp_mono hA (fun e s' h'=>?_) hst⟩
    cases e with
    | normal =>
      obtain⟨m',hm,hj⟩:=h'
      exact mono (m'+1) n s' (by omega) (ih m' hm hj)
    | exit i=>exact h'
    | ret=>exact h'
end

/-- A table of summaries. -/
def env:List (FuncId×Summ)→FuncId→Summ
  | [],_=>fun _ _ _=>False
  | (g,s)::r,f=>if f=g then s else env r f
theorem env_ok {P:Program} {gl:List Blk}:∀{l:List (FuncId×Summ)},(∀p∈l,SumOK P gl p.1 p.2)→∀f,SumOK P gl f (env l f)
  | [],_,f=>fun _ _ _ _ _ _ _ _ _ _ h=>h.elim
  | (g,s)::r,h,f=>by
    simp only[env]
    split
    · rename_i e;subst e;exact h (f,s) (by simp)
    · exact env_ok (fun p hp=>h p (List.mem_cons_of_mem _ hp)) f
theorem env_abs:∀{l:List (FuncId×Summ)},(∀p∈l,SumAbs p.2)→∀f,SumAbs (env l f)
  | [],_,f=>fun _ _ _ h=>h.elim
  | (g,s)::r,h,f=>by
    simp only[env]
    split
    · exact h (g,s) (by simp)
    · exact env_abs (fun p hp=>h p (List.mem_cons_of_mem _ hp)) f
end Am
/-
Working code out: one equation for each construct but the loop.
-/
namespace Am
open Go (IntKind BinOp UnOp FuncId)
/-- What simp must not look into: it leaves arguments alone that instances give. -/
class Later:Type where
  p:Prop
def Stop [x:Later]:Prop:=x.p
class Cont (α:Type):Type where
  f:α→Prop
/-- First the state, then what comes behind it. -/
def Wi {α:Type} [x:Cont α] (a:α):Prop:=x.f a
theorem qaa {α:Type} {f:α→Prop} {a:α}:@Wi α ⟨f⟩ a=f a:=by
  have h:@Wi α ⟨f⟩ a=f a:=rfl
  exact h
section
variable {S : FuncId → Summ} {Q : Ex → St → Prop} {s : St} {m : Nat}
theorem qe0 {d:List Nat} {a:C}:awp S m (.loop d a) Q s=@Stop ⟨awp S m (.loop d a) Q s⟩:=by
  have h:awp S m (.loop d a) Q s=@Stop ⟨awp S m (.loop d a) Q s⟩:=rfl
  exact h
theorem w_skip:awp S m .skip Q s=Q .normal s:=rfl
theorem w_seq {a b:C}:awp S m (.seq a b) Q s=awp S m a (thenQ (awp S m b Q) Q) s:=rfl
theorem w_ops {l:List G}:awp S m (.ops l) Q s=run S l s (Q .normal):=rfl
theorem w_opsC {l:List G} {chk:List (Nat×Nat)}:awp S m (.opsC l chk) Q s=run S l s fun s'=>apartOk s'.sl chk∧Q .normal s':=rfl
theorem w_alt {a b:C}:awp S m (.alt a b) Q s=(awp S m a Q s∧awp S m b Q s):=rfl
theorem w_cond {x:X} {a b:C}:awp S m (.cond x a b) Q s=(match ev s.sl x with
    | .bool c=>(c=true→awp S m a Q s)∧(c=false→awp S m b Q s)
    | _=>False):=rfl
theorem w_block {id:Nat} {a:C}:awp S m (.block id a) Q s=awp S m a (blockQ id Q) s:=rfl
theorem w_exit {id:Nat}:awp S m (.exit id) Q s=Q (.exit id) s:=rfl
theorem w_ret:awp S m .ret Q s=Q .ret s:=rfl
/-- A loop: states told by a parameter, an invariant, a countdown. -/
theorem awp_loopG {α:Type} (hA:∀f,SumAbs (S f)) {d:List Nat} {a:C} (st:α→St) (J:α→Prop) (μ:α→Nat) (x0:α) (h0:Weak m ⟨kill d s.sl,s.hp⟩ (st x0)) (hJ:J x0)
    (hstep:∀x,J x→∀K:α→Prop,(∀y,J y→μ y<μ x→K y)→awp S m a (thenQ (fun s'=>∃y,K y∧Weak m ⟨kill d s'.sl,s'.hp⟩ (st y)) Q) (st x)):@Stop ⟨awp S m (.loop d a) Q s⟩:=by
  show awp S m (.loop d a) Q s
  refine awp_loop hA (fun n s'=>∃x,J x∧n=μ x∧Weak m ⟨kill d s'.sl,s'.hp⟩ (st x)) (μ x0) ⟨x0,hJ,rfl,h0⟩ fun n s' h=>?_
  obtain⟨x,hx,rfl,he⟩:=h
  refine⟨_,he,awp_mono hA (fun e s2 h2=>?_) (hstep x hx (fun y=>J y∧μ y<μ x) fun y h1 h2=>⟨h1,h2⟩)⟩
  cases e with
  | normal =>
    obtain⟨y,⟨h1,h2⟩,h3⟩:=h2
    exact⟨μ y,h2,y,h1,rfl,h3⟩
  | exit i=>exact h2
  | ret=>exact h2
theorem awp_loopK {α:Type} (hA:∀f,SumAbs (S f)) {d:List Nat} {a:C} (st:α→St) (J:α→Prop) (μ:α→Nat) (x0:α) (h0:(⟨kill d s.sl,s.hp⟩:St)=st x0) (hJ:J x0)
    (hstep:∀x,J x→∀K:α→Prop,(∀y,J y→μ y<μ x→K y)→awp S m a (thenQ (fun s'=>∃y,K y∧(⟨kill d s'.sl,s'.hp⟩:St)=st y) Q) (st x)):@Stop ⟨awp S m (.loop d a) Q s⟩ :=
  awp_loopG hA st J μ x0 (.inl h0.symm) hJ fun x hx K hK=>by
    refine awp_mono hA (fun e s2 h2=>?_) (hstep x hx K hK)
    cases e with
    | normal =>
      obtain⟨y,h1,h2⟩:=h2
      exact⟨y,h1,.inl h2.symm⟩
    | exit i=>exact h2
    | ret=>exact h2
end
/-- What a function does at its own memory, out of what its code shows. -/
theorem fdoes {P:Go.Program} {gl:List Blk} {f:FuncId} {fn:Go.Func} {ir:C} {rs:List R} {h:List (List Nat)} {N:Nat} {l:List (FuncId×Summ)} {mf:List FuncId} {pre:List D→Prop} {F:List D→Out}
    (hm:P.follows .mixedOrders=true) (hgl:Plain gl) (hlen:gl.length=4) (hf:P.funcs[f]?=some fn) (hc:(fn.body.bind fun c=>comp P mf c h)=some (ir,[])) (hr:compR P fn.results.toList=some rs) (hN:fn.ntmps=N)
    (hl:∀p∈l,SumOK P gl p.1 p.2∧SumAbs p.2)
    (hw:∀ds,pre ds→(∀f,SumAbs (env l f))→awp (env l) (4+(injB true ds).length) ir (retQ rs fun v s=>out (4+(injB true ds).length) (F ds) v s.hp) ⟨injV ds 4++List.replicate (N-(injV ds 4).length) .undef,gl++injB true ds⟩) :
    ∀ds,pre ds→Does P gl f (injV ds 4) (gl++injB true ds) (out (4+(injB true ds).length) (F ds)):=by
  intro ds hp
  obtain⟨c,hb,hc⟩:=Option.bind_eq_some_iff.1 hc
  subst hN
  have hA:=env_abs (l:=l) fun p hp=>(hl p hp).2
  have hw:=hw ds hp hA
  have hlg:(gl++injB true ds).length=4+(injB true ds).length:=by rw[List.length_append,hlen]
  rw[←hlg]at hw
  rw[←hlg]
  refine does_of (env_ok fun p hp=>(hl p hp).1) hA hm (fun B hB=>(hgl B hB).1) hf hb hc hr (fun B hB keep=>?_) (by rw[hlg];omega) hw
  rcases (hgl B hB).2 with rfl | ⟨ro,k,xs,rfl⟩<;>rfl
/-- Less is told of the program's own variables. -/
class Ge (a b:List Blk):Prop where
  la:a.length=4
  lb:b.length=4
  plain:Plain b
  le:∀i,nthB a i=nthB b i∨nthB a i=.dead
theorem Sim.dim {O:Nat→Nat→Prop} {σ:Sg} {H H':Nat→Blk} {w:Go.World} (h:Sim O σ H w) (hl:∀b,H' b=H b∨H' b=.dead):Sim O σ H' w:=by
  have hwr:∀b,(H' b).wr=true→(H b).wr=true:=fun b hb=>by
    rcases hl b with e | e
    · rwa [e]at hb
    · rw[e]at hb;simp[Blk.wr]at hb
  have hlv:∀b,(H' b).live=true→(H b).live=true:=fun b hb=>by
    rcases hl b with e | e
    · rwa [e]at hb
    · rw[e]at hb;simp[Blk.live]at hb
  refine⟨fun b l hb=>?_,fun b b' l l' hne h1 h2 h3 h4=>h.excl b b' l l' hne h1 h2 (hwr b h3) (hlv b' h4),h.new,fun k j v hv=>?_⟩
  · rcases hl b with e | e
    · rw[e];exact h.blk b l hb
    · rw[e];exact⟨by simp[Blk.vs],fun h0=>by simp[Blk.live]at h0⟩
  · obtain⟨h1,h2,h3⟩:=h.stat k j v hv
    exact⟨h1,h2,fun b l hb hw=>h3 b l hb (hwr b hw)⟩
theorem nthB_pre {a X:List Blk} (b:Nat):nthB (a++X) b=if b<a.length then nthB a b else nthB X (b-a.length):=by
  rw[nthB_get,nthB_get,nthB_get]
  split
  · rw[List.getElem?_append_left (by assumption)]
  · rw[List.getElem?_append_right (by omega)]
theorem does_up {P:Go.Program} {gl g:List Blk} {f:FuncId} {vs:List V} {X:List Blk} {R:V→List Blk→Prop} (hge:Ge gl g) (h:Does P gl f vs (gl++X) R):Does P g f vs (g++X) R:=by
  intro Own σ w cvs hs hG hdom hvs
  refine h Own σ w cvs (hs.dim fun b=>?_) ⟨fun x hx=>hG.at_ x hx,by rw[←hge.la];simp⟩ (fun b hb=>hdom b (by simpa[hge.la,hge.lb]using hb)) hvs
  rw[nthB_pre,nthB_pre,hge.la,hge.lb]
  split
  · exact hge.le b
  · exact .inl rfl
theorem fsumG {P:Go.Program} {gl:List Blk} {f:FuncId} {fn:Go.Func} {ir:C} {rs:List R} {h:List (List Nat)} {N:Nat} {l:List (FuncId×Summ)} {mf:List FuncId} {shs:List Sh} {pre:List D→Prop} {F:List D→Out} {g:List Blk} [hge:Ge gl g]
    (hm:P.follows .mixedOrders=true) (hgl:Plain gl) (hlen:gl.length=4) (hf:P.funcs[f]?=some fn) (hc:(fn.body.bind fun c=>comp P mf c h)=some (ir,[])) (hr:compR P fn.results.toList=some rs) (hN:fn.ntmps=N)
    (hl:∀p∈l,SumOK P gl p.1 p.2∧SumAbs p.2)
    (hw:∀ds,pre ds→(∀f,SumAbs (env l f))→awp (env l) (4+(injB true ds).length) ir (retQ rs fun v s=>out (4+(injB true ds).length) (F ds) v s.hp) ⟨injV ds 4++List.replicate (N-(injV ds 4).length) .undef,gl++injB true ds⟩) :
    SumOK P g f (sData shs pre F)∧SumAbs (sData shs pre F) :=
  ⟨sum_of hge.plain (fun ds hp=>does_up hge (fdoes hm hgl hlen hf hc hr hN hl hw ds hp)) hge.lb,sData_abs _ _ _⟩
end Am
/-
Working code out, step by step: equations that the kernel does not have to unfold.
-/
namespace Am
open Go (IntKind BinOp UnOp FuncId)
section
variable {S : FuncId → Summ} {ev : X → V} {hp : List Blk} {K : Ef → Prop}
theorem qek (x):exec S ev hp (.mov x) K=(K ⟨ev x,[],[]⟩):=by first | (rw[exec];done) | (rw[exec];rfl)
theorem qel (x):exec S ev hp (.movS x) K=(match ev x with
    | .str s=>K ⟨.str s,[],[]⟩
    | _=>False):=by first | (rw[exec];done) | (rw[exec];rfl)
theorem qeo (c a b):exec S ev hp (.pick c a b) K=(match ev c with
    | .bool c=>(c=true→K ⟨ev a,[],[]⟩)∧(c=false→K ⟨ev b,[],[]⟩)
    | _=>False):=by first | (rw[exec];done) | (rw[exec];rfl)
theorem qdn (z):exec S ev hp (.alloc z) K=(match mkB z with
    | some B=>K ⟨.ptr hp.length 0,[],[B]⟩
    | none=>False):=by first | (rw[exec];done) | (rw[exec];rfl)
theorem qdv (x):exec S ev hp (.box x) K=(match mkB (ev x)with
    | some B=>K ⟨.ptr hp.length 0,[],[B]⟩
    | none=>False):=by first | (rw[exec];done) | (rw[exec];rfl)
theorem qdx (z ps):exec S ev hp (.build z ps) K=(fill z (evp ev ps) fun v=>K ⟨v,[],[]⟩):=by first | (rw[exec];done) | (rw[exec];rfl)
theorem qdw (sz len z ps):exec S ev hp (.bsl sz len z ps) K=(fill z (evp ev ps) fun v=>match mkB v with
    | some B=>K ⟨.slice hp.length 0 sz len len,[],[B]⟩
    | none=>False):=by first | (rw[exec];done) | (rw[exec];rfl)
theorem qec (x):exec S ev hp (.load x) K=(match ev x with
    | .ptr b o=>match nthB hp b with
      | .ints _ k xs=>o<xs.length∧K ⟨.int k (getI xs o),[],[]⟩
      | .cells _ cs=>o<cs.length∧K ⟨nth cs o,[],[]⟩
      | .dead=>False
    | .rpi k xs o=>o<xs.length∧K ⟨.int k (getI xs o),[],[]⟩
    | .rpc cs o=>o<cs.length∧K ⟨nth cs o,[],[]⟩
    | _=>False):=by first | (rw[exec];done) | (rw[exec];rfl)
theorem qed (n x):exec S ev hp (.loadN n x) K=(match ev x with
    | .ptr b o=>match nthB hp b with
      | .ints _ k xs=>o+n≤xs.length∧K ⟨.ints k (sub xs o n),[],[]⟩
      | .cells _ cs=>o+n≤cs.length∧K ⟨agI (sub cs o n),[],[]⟩
      | .dead=>False
    | .rpi k xs o=>o+n≤xs.length∧K ⟨.ints k (sub xs o n),[],[]⟩
    | .rpc cs o=>o+n≤cs.length∧K ⟨agI (sub cs o n),[],[]⟩
    | _=>False):=by first | (rw[exec];done) | (rw[exec];rfl)
theorem qeu (x y):exec S ev hp (.store x y) K=(match ev x with
    | .ptr b o=>match nthB hp b with
      | .ints false k xs=>match ev y with
        | .int k' n=>(k=k'∧o<xs.length)∧K ⟨.undef,[(b,.ints false k (xs.set o n))],[]⟩
        | _=>False
      | .cells false cs=>match ev y with
        | .agg _=>False
        | .ints _ _=>False
        | .tup _=>False
        | .undef=>False
        | v=>o<cs.length∧K ⟨.undef,[(b,.cells false (upd cs o v))],[]⟩
      | _=>False
    | _=>False):=by first | (rw[exec];done) | (rw[exec];rfl)
theorem qev (n x y):exec S ev hp (.storeN n x y) K=(match ev x with
    | .ptr b o=>match nthB hp b with
      | .ints false k xs=>match ev y with
        | .ints k' ys=>(k=k'∧ys.length=n∧o+n≤xs.length∧0<xs.length)∧K ⟨.undef,[(b,.ints false k (spl xs o ys))],[]⟩
        | _=>False
      | .cells false cs=>match ev y with
        | .ints k' ys=>(ys.length=n∧o+n≤cs.length∧0<cs.length)∧K ⟨.undef,[(b,.cells false (spl cs o (ys.map (.int k'))))],[]⟩
        | .agg ds=>(ds.length=n∧o+n≤cs.length∧0<cs.length)∧K ⟨.undef,[(b,.cells false (spl cs o ds))],[]⟩
        | _=>False
      | _=>False
    | _=>False):=by first | (rw[exec];done) | (rw[exec];rfl)
theorem qdr (o x y):exec S ev hp (.bin o x y) K=(bin o (ev x) (ev y) fun v=>K ⟨v,[],[]⟩):=by first | (rw[exec];done) | (rw[exec];rfl)
theorem qds (o x y):exec S ev hp (.binB o x y) K=(binB o (ev x) (ev y) fun v=>K ⟨v,[],[]⟩):=by first | (rw[exec];done) | (rw[exec];rfl)
theorem qdu (o x y):exec S ev hp (.binS o x y) K=(binS o (ev x) (ev y) fun v=>K ⟨v,[],[]⟩):=by first | (rw[exec];done) | (rw[exec];rfl)
theorem qdt (o x y):exec S ev hp (.binP o x y) K=(binP o (ev x) (ev y) fun v=>K ⟨v,[],[]⟩):=by first | (rw[exec];done) | (rw[exec];rfl)
theorem qd0 (neg n x y):exec S ev hp (.eqf neg n x y) K=(match ev x with
    | .ints k xs=>match ev y with
      | .ints k' ys=>(k=k'∧xs.length=n∧ys.length=n)∧match neg with
        | true=>K ⟨.bool (!decide (xs=ys)),[],[]⟩
        | false=>K ⟨.bool (decide (xs=ys)),[],[]⟩
      | _=>False
    | _=>False):=by first | (rw[exec];done) | (rw[exec];rfl)
theorem qew (o x):exec S ev hp (.un o x) K=(un o (ev x) fun v=>K ⟨v,[],[]⟩):=by first | (rw[exec];done) | (rw[exec];rfl)
theorem qdy (k x):exec S ev hp (.conv k x) K=(match ev x with
    | .int _ n=>K ⟨.int k (k.wrap n),[],[]⟩
    | _=>False):=by first | (rw[exec];done) | (rw[exec];rfl)
theorem qeq (x):exec S ev hp (.s2b x) K=(match ev x with
    | .str s=>K ⟨.slice hp.length 0 1 s.length s.length,[],[.ints false .u8 s]⟩
    | _=>False):=by first | (rw[exec];done) | (rw[exec];rfl)
theorem qdq (x):exec S ev hp (.b2s x) K=(match ev x with
    | .slice b o sz len _=>match nthB hp b with
      | .ints _ k xs=>(sz=1∧k=.u8∧o+len≤xs.length)∧K ⟨.str ((sub xs o len).map byte),[],[]⟩
      | _=>False
    | .rsl sz len k xs=>(sz=1∧k=.u8)∧K ⟨.str (xs.map byte),[],[]⟩
    | .nils=>K ⟨.str [],[],[]⟩
    | _=>False):=by first | (rw[exec];done) | (rw[exec];rfl)
theorem qei (sz bytes z l c):exec S ev hp (.mks sz bytes z l c) K=(match ev l with
    | .int _ n=>match ev c with
      | .int _ m=>(0≤n∧n=m∧bytes*n≤140737488355328∧n≤9223372036854775807)∧match repB z n.toNat with
        | some B=>K ⟨.slice hp.length 0 sz n.toNat n.toNat,[],[B]⟩
        | none=>False
      | _=>False
    | _=>False):=by first | (rw[exec];done) | (rw[exec];rfl)
theorem qer (n sz x lo hi mx):exec S ev hp (.slcA n sz x lo hi mx) K=(match ev x with
    | .ptr b o=>o+n*sz≤blen (nthB hp b)∧bound mx ev n n fun m=>bound hi ev n m fun h=>bound lo ev 0 h fun l =>
      K ⟨.slice b (o+l*sz) sz (h-l) (m-l),[],[]⟩
    | .rpi k xs o=>o+n*sz≤xs.length∧bound mx ev n n fun m=>bound hi ev n m fun h=>bound lo ev 0 h fun l =>
      K ⟨.rsl sz (h-l) k (sub xs (o+l*sz) ((h-l)*sz)),[],[]⟩
    | _=>False):=by first | (rw[exec];done) | (rw[exec];rfl)
theorem qes (sz x lo hi mx):exec S ev hp (.slcS sz x lo hi mx) K=(match ev x with
    | .slice b o sz' len cap=>sz=sz'∧bound mx ev cap cap fun m=>bound hi ev len m fun h=>bound lo ev 0 h fun l =>
      K ⟨.slice b (o+l*sz) sz (h-l) (m-l),[],[]⟩
    | .rsl sz' len k xs=>sz=sz'∧bound mx ev len len fun m=>bound hi ev len m fun h=>bound lo ev 0 h fun l =>
      K ⟨.rsl sz (h-l) k (sub xs (l*sz) ((h-l)*sz)),[],[]⟩
    | .rcs sz' len cs=>sz=sz'∧bound mx ev len len fun m=>bound hi ev len m fun h=>bound lo ev 0 h fun l =>
      K ⟨.rcs sz (h-l) (sub cs (l*sz) ((h-l)*sz)),[],[]⟩
    | .nils=>bound mx ev 0 0 fun m=>bound hi ev 0 m fun h=>bound lo ev 0 h fun _=>K ⟨.nils,[],[]⟩
    | _=>False):=by first | (rw[exec];done) | (rw[exec];rfl)
theorem qet (x lo hi):exec S ev hp (.slcStr x lo hi) K=(match ev x with
    | .str s=>bound hi ev s.length s.length fun h=>bound lo ev 0 h fun l=>K ⟨.str (sub s l (h-l)),[],[]⟩
    | _=>False):=by first | (rw[exec];done) | (rw[exec];rfl)
theorem qd4 (off x):exec S ev hp (.fldA off x) K=(match ev x with
    | .ptr b o=>K ⟨.ptr b (o+off),[],[]⟩
    | .rpi k xs o=>K ⟨.rpi k xs (o+off),[],[]⟩
    | .rpc cs o=>K ⟨.rpc cs (o+off),[],[]⟩
    | _=>False):=by first | (rw[exec];done) | (rw[exec];rfl)
theorem qd3 (off n x):exec S ev hp (.fld off n x) K=(part (ev x) off n fun v=>K ⟨v,[],[]⟩):=by first | (rw[exec];done) | (rw[exec];rfl)
theorem qd5 (n sz x i):exec S ev hp (.idxA n sz x i) K=(match ev x with
    | .ptr b o=>match ev i with
      | .int _ j=>(0≤j∧j<n)∧K ⟨.ptr b (o+j.toNat*sz),[],[]⟩
      | _=>False
    | .rpi k xs o=>match ev i with
      | .int _ j=>(0≤j∧j<n)∧K ⟨.rpi k xs (o+j.toNat*sz),[],[]⟩
      | _=>False
    | .rpc cs o=>match ev i with
      | .int _ j=>(0≤j∧j<n)∧K ⟨.rpc cs (o+j.toNat*sz),[],[]⟩
      | _=>False
    | _=>False):=by first | (rw[exec];done) | (rw[exec];rfl)
theorem qd6 (sz x i):exec S ev hp (.idxS sz x i) K=(match ev x with
    | .slice b o sz' len _=>match ev i with
      | .int _ j=>(sz=sz'∧0≤j∧j<len)∧K ⟨.ptr b (o+j.toNat*sz),[],[]⟩
      | _=>False
    | .rsl sz' len k xs=>match ev i with
      | .int _ j=>(sz=sz'∧0≤j∧j<len)∧K ⟨.rpi k xs (j.toNat*sz),[],[]⟩
      | _=>False
    | .rcs sz' len cs=>match ev i with
      | .int _ j=>(sz=sz'∧0≤j∧j<len)∧K ⟨.rpc cs (j.toNat*sz),[],[]⟩
      | _=>False
    | _=>False):=by first | (rw[exec];done) | (rw[exec];rfl)
theorem qd8 (n sz m x i):exec S ev hp (.idxV n sz m x i) K=(match ev i with
    | .int _ j=>(0≤j∧j<n)∧part (ev x) (j.toNat*sz) m fun v=>K ⟨v,[],[]⟩
    | _=>False):=by first | (rw[exec];done) | (rw[exec];rfl)
theorem qd2 (x i):exec S ev hp (.ext x i) K=(match ev x with
    | .tup vs=>i<vs.length∧K ⟨nth vs i,[],[]⟩
    | _=>False):=by first | (rw[exec];done) | (rw[exec];rfl)
theorem qd9 (x):exec S ev hp (.len x) K=(match ev x with
    | .slice _ _ _ n _=>K ⟨.int .i64 n,[],[]⟩
    | .rsl _ n _ _=>K ⟨.int .i64 n,[],[]⟩
    | .rcs _ n _=>K ⟨.int .i64 n,[],[]⟩
    | .nils=>K ⟨.int .i64 0,[],[]⟩
    | _=>False):=by first | (rw[exec];done) | (rw[exec];rfl)
theorem qeb (x):exec S ev hp (.lenS x) K=(match ev x with
    | .str s=>K ⟨.int .i64 s.length,[],[]⟩
    | _=>False):=by first | (rw[exec];done) | (rw[exec];rfl)
theorem qea (n):exec S ev hp (.lenA n) K=(K ⟨.int .i64 n,[],[]⟩):=by first | (rw[exec];done) | (rw[exec];rfl)
theorem qdo (sz bytes x y):exec S ev hp (.app sz bytes x y) K=(content sz hp (ev y) fun B n=>appK sz bytes hp (ev x) B n K):=by first | (rw[exec];done) | (rw[exec];rfl)
theorem qdp (sz bytes z x l):exec S ev hp (.appZ sz bytes z x l) K=(match ev l with
    | .int _ n=>(0≤n∧n<9223372036854775808∧n*bytes≤140737488355328)∧match repB z n.toNat with
      | some B=>appK sz bytes hp (ev x) B n.toNat K
      | none=>False
    | _=>False):=by first | (rw[exec];done) | (rw[exec];rfl)
theorem qd1 (neg x):exec S ev hp (.eqnS neg x) K=(match ev x with
    | .nils=>K ⟨.bool (!neg),[],[]⟩
    | .slice _ _ _ len _=>0<len∧K ⟨.bool neg,[],[]⟩
    | .rsl _ len _ _=>0<len∧K ⟨.bool neg,[],[]⟩
    | .rcs _ len _=>0<len∧K ⟨.bool neg,[],[]⟩
    | _=>False):=by first | (rw[exec];done) | (rw[exec];rfl)
theorem qdz (sz x y):exec S ev hp (.copy sz x y) K=(content sz hp (ev y) fun B n=>match ev x with
    | .nils=>K ⟨.int .i64 0,[],[]⟩
    | .slice b o sz' len _=>sz=sz'∧match nthB hp b with
      | .ints false k xs=>o+len*sz≤xs.length∧match B with
        | .ints _ k' ys=>k=k'∧K ⟨.int .i64 (min n len:Nat),[(b,.ints false k (spl xs o (ys.take (min n len*sz))))],[]⟩
        | .cells _ []=>K ⟨.int .i64 (min n len:Nat),[],[]⟩
        | _=>False
      | .cells false cs=>o+len*sz≤cs.length∧match B with
        | .ints _ k ys=>K ⟨.int .i64 (min n len:Nat),[(b,.cells false (spl cs o ((ys.map (.int k)).take (min n len*sz))))],[]⟩
        | .cells _ ds=>K ⟨.int .i64 (min n len:Nat),[(b,.cells false (spl cs o (ds.take (min n len*sz))))],[]⟩
        | .dead=>False
      | _=>False
    | _=>False):=by first | (rw[exec];done) | (rw[exec];rfl)
theorem qej (mx x y):exec S ev hp (.mm mx x y) K=(match ev x with
    | .int k a=>match ev y with
      | .int k' b=>k=k'∧match mx with
        | true=>K ⟨.int k (max a b),[],[]⟩
        | false=>K ⟨.int k (min a b),[],[]⟩
      | _=>False
    | _=>False):=by first | (rw[exec];done) | (rw[exec];rfl)
theorem qef (x y z):exec S ev hp (.min3 x y z) K=(match ev x with
    | .int k a=>match ev y with
      | .int k' b=>match ev z with
        | .int k'' c=>(k=k'∧k=k'')∧K ⟨.int k (min (min a b) c),[],[]⟩
        | _=>False
      | _=>False
    | _=>False):=by first | (rw[exec];done) | (rw[exec];rfl)
theorem qdm (x y z):exec S ev hp (.add64 x y z) K=(match ev x with
    | .int k a=>match ev y with
      | .int k' b=>match ev z with
        | .int k'' c=>((k=.u64∧k'=.u64∧k''=.u64)∧0≤a∧0≤b∧0≤c∧c≤1)∧K ⟨.tup [.int .u64 ((a+b+c)%18446744073709551616),.int .u64 ((a+b+c)/18446744073709551616)],[],[]⟩
        | _=>False
      | _=>False
    | _=>False):=by first | (rw[exec];done) | (rw[exec];rfl)
theorem qem (x):exec S ev hp (.nck x) K=(match ev x with
    | .ptr b o=>K ⟨.ptr b o,[],[]⟩
    | .rpi k xs o=>K ⟨.rpi k xs o,[],[]⟩
    | .rpc cs o=>K ⟨.rpc cs o,[],[]⟩
    | .fn f cs=>K ⟨.fn f cs,[],[]⟩
    | _=>False):=by first | (rw[exec];done) | (rw[exec];rfl)
theorem qee (x):exec S ev hp (.mark x) K=(match ev x with
    | .slice b o sz len cap=>match nthB hp b with
      | .ints false k xs=>(0<xs.length∧0<len)∧K ⟨.slice b o sz len cap,[(b,.ints false k xs)],[]⟩
      | _=>False
    | _=>False):=by first | (rw[exec];done) | (rw[exec];rfl)
theorem qd7 (x i):exec S ev hp (.idxStr x i) K=(match ev x with
    | .str s=>match ev i with
      | .int _ j=>(0≤j∧j<s.length)∧K ⟨.int .u8 (getI s j.toNat),[],[]⟩
      | _=>False
    | _=>False):=by first | (rw[exec];done) | (rw[exec];rfl)
theorem qeg (t x):exec S ev hp (.mkif t x) K=(K ⟨.iface t (ev x),[],[]⟩):=by first | (rw[exec];done) | (rw[exec];rfl)
theorem qep (n x):exec S ev hp (.s2a n x) K=(match ev x with
    | .slice b o sz len cap=>(0<n∧n≤len)∧K ⟨.ptr b o,[],[]⟩
    | .rsl sz len k xs=>(0<n∧n≤len)∧K ⟨.rpi k xs 0,[],[]⟩
    | _=>False):=by first | (rw[exec];done) | (rw[exec];rfl)
theorem qeh (m x):exec S ev hp (.mkm m x) K=(match ev x with
    | .iface t v=>K ⟨.mth m t,[],[]⟩
    | _=>False):=by first | (rw[exec];done) | (rw[exec];rfl)
theorem qen (tab x):exec S ev hp (.nckM tab x) K=(match ev x with
    | .mth m t=>(m,t)∈tab∧K ⟨.mth m t,[],[]⟩
    | _=>False):=by first | (rw[exec];done) | (rw[exec];rfl)
theorem x_inv (tab r xs):exec S ev hp (.inv tab r xs) K=(match ev r with
    | .iface t v=>match row1 tab t with
      | some f=>S f (v::evs ev xs) hp fun e=>e.st=[]∧K e
      | none=>False
    | _=>False):=by first | (rw[exec];done) | (rw[exec];rfl)
theorem x_call (f xs):exec S ev hp (.call f xs) K=(S f (evs ev xs) hp fun e=>e.st=[]∧K e):=by first | (rw[exec];done) | (rw[exec];rfl)
theorem x_callM (f xs):exec S ev hp (.callM f xs) K=(S f (evs ev xs) hp K):=by first | (rw[exec];done) | (rw[exec];rfl)
end
section
variable {a : V} {l : List V} {n : Nat} {v : V} {B : Blk} {m : List Blk} {C : Blk}
theorem qc1:nth (a::l) 0=a:=by rw[nth]
theorem qc2:nth (a::l) (n+1)=nth l n:=by rw[nth]
theorem qdk:upd (a::l) 0 v=v::l:=by rw[upd]
theorem qdl:upd (a::l) (n+1) v=a::upd l n v:=by rw[upd]
theorem qcz:nthB (B::m) 0=B:=by rw[nthB]
theorem qc0:nthB (B::m) (n+1)=nthB m n:=by rw[nthB]
theorem qdi:updB (B::m) 0 C=C::m:=by rw[updB]
theorem qdj:updB (B::m) (n+1) C=B::updB m n C:=by rw[updB]
theorem qc4:put l (some n) v=upd l n v:=by rw[put]
theorem qc3:put l none v=l:=by rw[put]
theorem qat:ev l (.t n)=nth l n:=by rw[ev]
theorem qas:ev l (.c v)=v:=by rw[ev]
theorem qae:apS m []=m:=by rw[apS]
theorem qad {r:List (Nat×Blk)}:apS m ((n,B)::r)=apS (updB m n B) r:=by rw[apS]
theorem qac:apN m []=m:=by rw[apN]
theorem qab {r:List Blk}:apN m (B::r)=m++B::r:=by rw[apN]
end
section
variable {S : FuncId → Summ} {Q : St → Prop} {s : St} {g : G} {r : List G}
theorem run_nil:run S [] s Q=Q s:=by rw[run]
theorem run_g0 {d:Option Nat} {i:I}:run S (⟨none,d,i⟩::r) s Q=exec S (ev s.sl) s.hp i (fun e=>run S r ⟨put s.sl d e.v,apN (apS s.hp e.st) e.nw⟩ Q):=by rw[run]
theorem run_g1 {d:Option Nat} {i:I} {t:Nat} {want:Bool}:run S (⟨some (t,want),d,i⟩::r) s Q=(match nth s.sl t with
      | .bool b=>if b=want then exec S (ev s.sl) s.hp i fun e=>run S r ⟨put s.sl d e.v,apN (apS s.hp e.st) e.nw⟩ Q else run S r ⟨put s.sl d (.tup []),s.hp⟩ Q
      | .tup []=>run S r ⟨put s.sl d (.tup []),s.hp⟩ Q
      | _=>False):=by
  rw[run]
  simp only[]
  cases hn:nth s.sl t
  case bool b=>cases b<;>cases want<;>simp
  case tup vs=>cases vs<;>rfl
  all_goals rfl
end
section
variable {S : FuncId → Summ} {Q : Ex → St → Prop} {s : St} {mm : Nat}
theorem qe5:awp S mm .skip Q s=Q .normal s:=by rw[w_skip]
theorem qe4 {a b:C}:awp S mm (.seq a b) Q s=awp S mm a (thenQ (awp S mm b Q) Q) s:=by rw[w_seq]
theorem qe1 {l:List G}:awp S mm (.ops l) Q s=run S l s (Q .normal):=by rw[w_ops]
theorem qe2 {l:List G} {chk:List (Nat×Nat)}:awp S mm (.opsC l chk) Q s=run S l s fun s'=>apartOk s'.sl chk∧Q .normal s':=by rw[w_opsC]
theorem qex {a b:C}:awp S mm (.alt a b) Q s=(awp S mm a Q s∧awp S mm b Q s):=by rw[w_alt]
theorem qey {id:Nat} {a:C}:awp S mm (.block id a) Q s=awp S mm a (blockQ id Q) s:=by rw[w_block]
theorem qez {id:Nat}:awp S mm (.exit id) Q s=Q (.exit id) s:=by rw[w_exit]
theorem qe3:awp S mm .ret Q s=Q .ret s:=by rw[w_ret]
theorem qdg {f:St→Prop}:thenQ f Q .normal=f:=by rw[thenQ]
theorem qdf {f:St→Prop} {i:Nat}:thenQ f Q (.exit i)=Q (.exit i):=by funext s;rw[thenQ]
theorem qdh {f:St→Prop}:thenQ f Q .ret=Q .ret:=by funext s;rw[thenQ]
theorem qag {i:Nat}:blockQ i Q .normal=Q .normal:=by funext s;rw[blockQ]
theorem qaf {i j:Nat}:blockQ i Q (.exit j) s=if j=i then Q .normal s else Q (.exit j) s:=by simp only[blockQ];split<;>rfl
theorem qah {i:Nat}:blockQ i Q .ret=Q .ret:=by funext s;rw[blockQ]
end
end Am
/-
Contracts of functions that write, out of their code.
-/
namespace Am
open Go (FuncId)
/-- A writing function's summary, out of what its code shows at its own memory. -/
theorem esum {P:Go.Program} {gl:List Blk} {f:FuncId} {fn:Go.Func} {ir:C} {rs:List R} {h:List (List Nat)} {N:Nat} {l:List (FuncId×Summ)} {mf:List FuncId} {shs:List Sp} {pre:List E→Prop} {F:List E→List (List E)×EOut} {g:List Blk} [hge:Ge gl g]
    (hm:P.follows .mixedOrders=true) (hgl:Plain gl) (hlen:gl.length=4) (hf:P.funcs[f]?=some fn) (hc:(fn.body.bind fun c=>comp P mf c h)=some (ir,[])) (hr:compR P fn.results.toList=some rs) (hN:fn.ntmps=N)
    (hl:∀p∈l,SumOK P gl p.1 p.2∧SumAbs p.2)
    (hw:∀ds,pre ds→(∀f,SumAbs (env l f))→awp (env l) (4+cnts ds) ir (retQ rs fun v s=>outA s.hp ds 4 (F ds).1 (sids ds 4) fun u=>outR s.hp v (F ds).2 u) ⟨injs ds 4++List.replicate (N-(injs ds 4).length) .undef,gl++blks ds 4⟩) :
    SumOK P g f (sEff shs pre F)∧SumAbs (sEff shs pre F):=by
  refine⟨sumE_of hge.plain hge.lb fun ds hp=>does_up hge ?_,sEff_absA shs pre F⟩
  obtain⟨c,hb,hc⟩:=Option.bind_eq_some_iff.1 hc
  subst hN
  have hA:=env_abs (l:=l) fun p hp=>(hl p hp).2
  have hw:=hw ds hp hA
  have hlg:(gl++blks ds 4).length=4+cnts ds:=by rw[List.length_append,hlen,blks_length]
  rw[←hlg]at hw
  refine does_of (R:=fun v hp'=>outA hp' ds 4 (F ds).1 (sids ds 4) fun u=>outR hp' v (F ds).2 u) (env_ok fun p hp=>(hl p hp).1) hA hm (fun B hB=>(hgl B hB).1) hf hb hc hr (fun B hB keep=>?_) (by rw[hlg];omega) hw
  rcases (hgl B hB).2 with rfl | ⟨ro,k,xs,rfl⟩<;>rfl
section
variable {J : List E → Prop} {hp hk : List Blk} {sh : Sp} {shs : List Sp} {a : V} {as : List V} {pre : List E → Prop} {F : List E → List (List E) × EOut} {vs : List V} {K : Ef → Prop}
theorem qar:sEff shs pre F vs hp K=@Wi (List V) ⟨fun vs=>@Wi (List Nat) ⟨fun ids=>@Wi (List Blk) ⟨fun hk=>rdEs hp hk shs vs fun ds=>(ids.Nodup∧pre ds)∧@Wi (List (List E)×EOut) ⟨fun r=>@Wi Ef ⟨K⟩ (effE (idss hp shs vs) ds r.1 r.2 hp.length)⟩ (F ds)⟩ (killB hp ids)⟩ (idsEs hp shs vs)⟩ vs:=by
  simp only[qaa];rw[sEff]
theorem qan:rdEs hp hk [] [] J=J []:=by rw[rdEs];simp
theorem qao:rdEs hp hk (sh::shs) (a::as) J=@Wi V ⟨fun a=>rdE hp hk sh a fun d=>rdEs hp hk shs as fun ds=>J (d::ds)⟩ a:=by rw[qaa,rdEs]
theorem qap {J:E→Prop}:rdE hp hk .v a J=(purR a=true∧J (.v a)):=by rw[rdE]
theorem qam {J:E→Prop}:rdE hp hk .r a J=frz hk 4 a (fun v=>J (.v v)):=by rw[rdE]
theorem qaj {J:E→Prop} {sz:Nat} {k:Go.IntKind}:rdE hp hk (.g sz k) .nils J=J (.s sz 0 k []):=by rw[rdE]
theorem qak {J:E→Prop} {sz b o sz' len cap:Nat} {k:Go.IntKind}:rdE hp hk (.g sz k) (.slice b o sz' len cap) J=(match nthB hp b with
      | .ints false k' xs=>(sz=sz'∧k=k'∧xs.length=o+len*sz)∧J (.s sz len k (xs.drop o))
      | .cells false cs=>(sz=sz'∧cs.length=o+len*sz∧pursR (cs.drop o)=true)∧J (.c sz len (cs.drop o))
      | _=>False):=by rw[rdE];rfl
theorem qaq {J:E→Prop} {b o sz len cap:Nat} {k:Go.IntKind}:rdE hp hk (.w k) (.slice b o sz len cap) J=(match nthB hp b with
      | .ints false k' xs=>(o=0∧sz=1∧k=k'∧len=xs.length)∧J (.w k xs)
      | _=>False):=by rw[rdE];rfl
theorem qal {J:E→Prop} {fs:List Sp} {b o:Nat}:rdE hp hk (.p fs) (.ptr b o) J=(match nthB hp b with
      | .cells false cs=>o=0∧rdEs hp hk fs cs fun ds=>J (.p ds)
      | _=>False):=by rw[rdE];rfl
end
end Am
/-
Slots as a list of what was put last: looking up and putting cost little.
-/
namespace Am
open Go (IntKind BinOp UnOp Value FuncId TypeId World Program Oper Op Operand Code Func)

def look:List (Nat×V)→Nat→V
  | [],_=>.undef
  | (j,v)::l,i=>if j=i then v else look l i
/-- So many slots, of which those of a list are told. -/
def asl (n:Nat) (l:List (Nat×V)):List V:=(List.range n).map (look l)
section
variable {n i j : Nat} {l : List (Nat × V)} {v : V}
theorem look_nil:look [] i=.undef:=by rw[look]
theorem look_cons:look ((j,v)::l) i=if j=i then v else look l i:=by rw[look]
theorem asl_length:(asl n l).length=n:=by simp[asl]
theorem asl_get:(asl n l)[i]?=if i<n then some (look l i)else none:=by
  unfold asl
  rw[List.getElem?_map]
  by_cases h:i<n
  · rw[if_pos h,List.getElem?_range h];rfl
  · rw[if_neg h,List.getElem?_eq_none (by simpa using h)];rfl
theorem nth_asl (h:i<n):nth (asl n l) i=look l i:=by rw[nth_get,asl_get,if_pos h];rfl
theorem upd_asl:upd (asl n l) i v=asl n ((i,v)::l):=by
  rw[upd_set]
  apply List.ext_getElem?
  intro k
  rw[List.getElem?_set,asl_get,asl_get,asl_length,look_cons]
  by_cases h:i=k
  · subst h;simp
  · simp[h]
end
def enumV:Nat→List V→List (Nat×V)
  | _,[]=>[]
  | k,v::r=>(k,v)::enumV (k+1) r
theorem enumV_nil {k:Nat}:enumV k []=[]:=by rw[enumV]
theorem enumV_cons {k:Nat} {v:V} {r:List V}:enumV k (v::r)=(k,v)::enumV (k+1) r:=by rw[enumV]
theorem look_enumV:∀(vs:List V) (k i:Nat),look (enumV k vs) i=if k≤i then nth vs (i-k)else .undef
  | [],k,i=>by simp[enumV,look,nth]
  | v::r,k,i=>by
    rw[enumV_cons,look_cons,look_enumV r (k+1) i]
    by_cases h:k=i
    · subst h;simp[nth]
    · rw[if_neg h]
      by_cases h1:k+1≤i
      · rw[if_pos h1,if_pos (by omega)]
        obtain⟨m,rfl⟩:∃m,i=k+1+m:=⟨i-(k+1),by omega⟩
        have e1:k+1+m-(k+1)=m:=by omega
        have e2:k+1+m-k=m+1:=by omega
        rw[e1,e2,nth]
      · rw[if_neg h1,if_neg (by omega)]
theorem init_asl (N:Nat) (vs:List V):vs++List.replicate (N-vs.length) .undef=asl (N+(vs.length-N)) (enumV 0 vs):=by
  apply List.ext_getElem?
  intro k
  rw[asl_get,look_enumV]
  simp only[Nat.zero_le,if_true,Nat.sub_zero]
  by_cases h:k<vs.length
  · rw[List.getElem?_append_left h,if_pos (by omega),nth_some h]
  · rw[List.getElem?_append_right (by omega),List.getElem?_replicate,nth_get,List.getElem?_eq_none (by omega)]
    by_cases h1:k<N
    · rw[if_pos (by omega),if_pos (by omega)];rfl
    · rw[if_neg (by omega),if_neg (by omega)]

/-! ### Loops -/
def liveOf (n:Nat) (d:List Nat):List Nat:=(List.range n).filter fun i=>!d.contains i
theorem nth_kill_in:∀(d:List Nat) (sl:List V) (t:Nat),nth (kill d sl) t=if t∈d then .undef else nth sl t
  | [],sl,t=>by simp[kill]
  | u::d,sl,t=>by
    rw[kill,nth_kill_in d,nth_upd]
    by_cases h:t∈d
    · simp[h]
    · rw[if_neg h]
      by_cases h1:t=u
      · subst h1
        by_cases h2:t<sl.length
        · simp[h2]
        · simp only[h2,and_false,if_false,List.mem_cons,true_or,if_true]
          rw[nth_get,List.getElem?_eq_none (by omega)];rfl
      · simp[h1,h]
theorem look_zip (f:Nat→V):∀(l:List Nat) (i:Nat),look (l.zip (l.map f)) i=if i∈l then f i else .undef
  | [],i=>by simp[look]
  | a::l,i=>by
    rw[List.map_cons,List.zip_cons_cons,look_cons,look_zip f l i]
    by_cases h:a=i
    · subst h;simp
    · have h':¬i=a:=fun e=>h e.symm
      simp[h,h']
theorem kill_live {n:Nat} {d live:List Nat} {sl:List V} (hn:sl.length=n) (hl:liveOf n d=live):kill d sl=asl n (live.zip (live.map (nth sl))):=by
  apply List.ext_getElem?
  intro k
  rw[asl_get,look_zip]
  by_cases h:k<n
  · rw[if_pos h,nth_some (by rw[kill_len];omega),nth_kill_in,←hl]
    simp only[liveOf,List.mem_filter,List.mem_range,h,true_and,List.contains_iff_mem,Bool.not_eq_true']
    by_cases h1:k∈d
    · simp[h1]
    · simp[h1]
  · rw[if_neg h,List.getElem?_eq_none (by rw[kill_len];omega)]
/-- What a loop's head wants of a state. -/
def Hd (m n:Nat) (live:List Nat) (sl:List V) (hp:List Blk) (vs:List V) (H:List Blk):Prop :=
  sl.length=n∧(live.map (nth sl)=vs∧hp=H∨∃keep:List Nat,keep.take m=List.range m∧keep.Nodup∧(∀b∈keep,b<hp.length)∧gcVs keep (live.map (nth sl))=vs∧gcH keep hp keep=H)
theorem Hd.same {m n:Nat} {live:List Nat} {sl vs:List V} {hp H:List Blk} (h:live.map (nth sl)=vs∧hp=H∧sl.length=n):Hd m n live sl hp vs H:=⟨h.2.2,.inl ⟨h.1,h.2.1⟩⟩
theorem Hd.of (keep:List Nat) {m n:Nat} {live:List Nat} {sl vs:List V} {hp H:List Blk} (h1:keep.take m=List.range m) (h2:keep.Nodup) (h3:keep.all (fun b=>decide (b<hp.length))=true) (h:gcVs keep (live.map (nth sl))=vs∧gcH keep hp keep=H∧sl.length=n):Hd m n live sl hp vs H :=
  ⟨h.2.2,.inr ⟨keep,h1,h2,fun b hb=>by simpa using List.all_eq_true.1 h3 b hb,h.1,h.2.1⟩⟩
theorem gcVs_asl {keep:List Nat} {n:Nat}:∀{live:List Nat} {f:Nat→V},gcVs keep (asl n (live.zip (live.map f)))=asl n (live.zip (gcVs keep (live.map f))):=by
  intro live f
  rw[gcVs_map,gcVs_map,List.map_map]
  apply List.ext_getElem?
  intro k
  rw[List.getElem?_map,asl_get,asl_get,look_zip,look_zip]
  by_cases h:k<n
  · rw[if_pos h,if_pos h,Option.map_some]
    by_cases h1:k∈live
    · simp[h1]
    · simp[h1,gcV]
  · simp[h]
theorem Hd.weak {m n:Nat} {d live:List Nat} {sl vs:List V} {hp H:List Blk} (h:Hd m n live sl hp vs H) (hl:liveOf n d=live):Weak m ⟨kill d sl,hp⟩ ⟨asl n (live.zip vs),H⟩:=by
  obtain⟨hn,h⟩:=h
  have hk:=kill_live (d:=d) hn hl
  rcases h with ⟨h1,h2⟩ | ⟨keep,h1,h2,h3,h4,h5⟩
  · refine .inl ?_
    rw[hk,h1,h2]
  · refine .inr ⟨keep,h1,h2,h3,?_⟩
    rw[gc]
    simp only
    rw[hk,gcVs_asl,h4,h5]
/-- A loop: by what lives at its head, an invariant, a countdown. -/
theorem awp_loopA {S:FuncId→Summ} {Q:Ex→St→Prop} {sl:List V} {hp:List Blk} {m n:Nat} {α:Type} (hA:∀f,SumAbs (S f)) {d:List Nat} {a:C} (live:List Nat) (hl:liveOf n d=live) (vs:α→List V) (H:α→List Blk) (J:α→Prop) (μ:α→Nat) (x0:α) (h0:Hd m n live sl hp (vs x0) (H x0)) (hJ:J x0)
    (hstep:∀x,J x→∀K:α→Prop,(∀y,J y→μ y<μ x→K y)→awp S m a (thenQ (fun s'=>∃y,K y∧Hd m n live s'.sl s'.hp (vs y) (H y)) Q) ⟨asl n (live.zip (vs x)),H x⟩):@Stop ⟨awp S m (.loop d a) Q ⟨sl,hp⟩⟩:=by
  refine awp_loopG hA (fun x=>⟨asl n (live.zip (vs x)),H x⟩) J μ x0 (h0.weak hl) hJ fun x hx K hK=>?_
  refine awp_mono hA (fun e s2 h2=>?_) (hstep x hx K hK)
  cases e with
  | normal =>
    obtain⟨y,h1,h2⟩:=h2
    exact⟨y,h1,h2.weak hl⟩
  | exit i=>exact h2
  | ret=>exact h2

/-! ### Contracts -/
theorem fdoesA {P:Go.Program} {gl:List Blk} {f:FuncId} {fn:Go.Func} {ir:C} {rs:List R} {h:List (List Nat)} {N:Nat} {l:List (FuncId×Summ)} {mf:List FuncId} {pre:List D→Prop} {F:List D→Out}
    (hm:P.follows .mixedOrders=true) (hgl:Plain gl) (hlen:gl.length=4) (hf:P.funcs[f]?=some fn) (hc:(fn.body.bind fun c=>comp P mf c h)=some (ir,[])) (hr:compR P fn.results.toList=some rs) (hN:fn.ntmps=N)
    (hl:∀p∈l,SumOK P gl p.1 p.2∧SumAbs p.2)
    (hw:∀ds,pre ds→(∀f,SumAbs (env l f))→awp (env l) (4+(injB true ds).length) ir (retQ rs fun v s=>out (4+(injB true ds).length) (F ds) v s.hp) ⟨asl (N+((injV ds 4).length-N)) (enumV 0 (injV ds 4)),gl++injB true ds⟩) :
    ∀ds,pre ds→Does P gl f (injV ds 4) (gl++injB true ds) (out (4+(injB true ds).length) (F ds)) :=
  fdoes hm hgl hlen hf hc hr hN hl fun ds hp hA=>by rw[init_asl];exact hw ds hp hA
theorem fsumA {P:Go.Program} {gl:List Blk} {f:FuncId} {fn:Go.Func} {ir:C} {rs:List R} {h:List (List Nat)} {N:Nat} {l:List (FuncId×Summ)} {mf:List FuncId} {shs:List Sh} {pre:List D→Prop} {F:List D→Out} {g:List Blk} [hge:Ge gl g]
    (hm:P.follows .mixedOrders=true) (hgl:Plain gl) (hlen:gl.length=4) (hf:P.funcs[f]?=some fn) (hc:(fn.body.bind fun c=>comp P mf c h)=some (ir,[])) (hr:compR P fn.results.toList=some rs) (hN:fn.ntmps=N)
    (hl:∀p∈l,SumOK P gl p.1 p.2∧SumAbs p.2)
    (hw:∀ds,pre ds→(∀f,SumAbs (env l f))→awp (env l) (4+(injB true ds).length) ir (retQ rs fun v s=>out (4+(injB true ds).length) (F ds) v s.hp) ⟨asl (N+((injV ds 4).length-N)) (enumV 0 (injV ds 4)),gl++injB true ds⟩) :
    SumOK P g f (sData shs pre F)∧SumAbs (sData shs pre F) :=
  fsumG hm hgl hlen hf hc hr hN hl fun ds hp hA=>by rw[init_asl];exact hw ds hp hA
theorem esumA {P:Go.Program} {gl:List Blk} {f:FuncId} {fn:Go.Func} {ir:C} {rs:List R} {h:List (List Nat)} {N:Nat} {l:List (FuncId×Summ)} {mf:List FuncId} {shs:List Sp} {pre:List E→Prop} {F:List E→List (List E)×EOut} {g:List Blk} [hge:Ge gl g]
    (hm:P.follows .mixedOrders=true) (hgl:Plain gl) (hlen:gl.length=4) (hf:P.funcs[f]?=some fn) (hc:(fn.body.bind fun c=>comp P mf c h)=some (ir,[])) (hr:compR P fn.results.toList=some rs) (hN:fn.ntmps=N)
    (hl:∀p∈l,SumOK P gl p.1 p.2∧SumAbs p.2)
    (hw:∀ds,pre ds→(∀f,SumAbs (env l f))→awp (env l) (4+cnts ds) ir (retQ rs fun v s=>outA s.hp ds 4 (F ds).1 (sids ds 4) fun u=>outR s.hp v (F ds).2 u) ⟨asl (N+((injs ds 4).length-N)) (enumV 0 (injs ds 4)),gl++blks ds 4⟩) :
    SumOK P g f (sEff shs pre F)∧SumAbs (sEff shs pre F) :=
  esum hm hgl hlen hf hc hr hN hl fun ds hp hA=>by rw[init_asl];exact hw ds hp hA
end Am
/-
Working code out: heads ahead of what follows them.
-/
namespace Am
open Go (IntKind BinOp UnOp FuncId TypeId)
theorem qav (o:BinOp) (x y:V) (K:V→Prop):bin o x y K=(
  match x with
  | .int k a=>match y with
    | .int k' b=>match o with
      | .shl=>intBin .shl k a b K
      | .shr=>intBin .shr k a b K
      | o=>k=k'∧intBin o k a b K
    | _=>False
  | _=>False):=by first | (rw[bin];done) | (rw[bin];rfl) | (unfold bin;rfl)
theorem qaw (o:BinOp) (x y:V) (K:V→Prop):binB o x y K=(
  match x with
  | .bool a=>match y with
    | .bool b=>match o with
      | .eql=>K (.bool (decide (a=b)))
      | .neq=>K (.bool (!decide (a=b)))
      | _=>False
    | _=>False
  | _=>False):=by first | (rw[binB];done) | (rw[binB];rfl) | (unfold binB;rfl)
theorem qay (o:BinOp) (x y:V) (K:V→Prop):binS o x y K=(
  match x with
  | .str a=>match y with
    | .str b=>match o with
      | .eql=>K (.bool (decide (a=b)))
      | .neq=>K (.bool (!decide (a=b)))
      | .add=>a.length+b.length≤9223372036854775807∧K (.str (a++b))
      | _=>False
    | _=>False
  | _=>False):=by first | (rw[binS];done) | (rw[binS];rfl) | (unfold binS;rfl)
theorem qax (o:BinOp) (x y:V) (K:V→Prop):binP o x y K=(
  match x with
  | .nilp=>match y with
    | .nilp=>match o with
      | .eql=>K (.bool true)
      | .neq=>K (.bool false)
      | _=>False
    | .ptr _ _=>match o with
      | .eql=>K (.bool false)
      | .neq=>K (.bool true)
      | _=>False
    | .rpi _ _ _=>match o with
      | .eql=>K (.bool false)
      | .neq=>K (.bool true)
      | _=>False
    | .rpc _ _=>match o with
      | .eql=>K (.bool false)
      | .neq=>K (.bool true)
      | _=>False
    | _=>False
  | .rpi _ _ _=>match y with
    | .nilp=>match o with
      | .eql=>K (.bool false)
      | .neq=>K (.bool true)
      | _=>False
    | _=>False
  | .rpc _ _=>match y with
    | .nilp=>match o with
      | .eql=>K (.bool false)
      | .neq=>K (.bool true)
      | _=>False
    | _=>False
  | .ptr _ _=>match y with
    | .nilp=>match o with
      | .eql=>K (.bool false)
      | .neq=>K (.bool true)
      | _=>False
    | _=>False
  | _=>False
):=by first | (rw[binP];done) | (rw[binP];rfl) | (unfold binP;rfl)
theorem qcw (o:UnOp) (x:V) (K:V→Prop):un o x K=(
  match o,x with
  | .neg,.int k n=>K (.int k (k.wrap (0-n)))
  | .xor,.int k n=>K (.int k (bXor k (if k.signed then -1 else k.max) n))
  | .not,.bool b=>K (.bool (!b))
  | _,_=>False
):=by first | (rw[un];done) | (rw[un];rfl) | (unfold un;rfl)
theorem qbh (z:Nat) (hp:List Blk) (v:V) (K:Blk→Nat→Prop):content z hp v K=(
  match v with
  | .slice b o sz len _=>match nthB hp b with
    | .ints _ k xs=>(z=sz∧o+len*sz≤xs.length)∧K (.ints true k (sub xs o (len*sz))) len
    | .cells _ cs=>(z=sz∧o+len*sz≤cs.length)∧K (.cells true (sub cs o (len*sz))) len
    | .dead=>False
  | .nils=>K (.cells true []) 0
  | .rsl sz len k xs=>z=sz∧K (.ints true k xs) len
  | .rcs sz len cs=>z=sz∧K (.cells true cs) len
  | .str s=>z=1∧K (.ints true .u8 s) s.length
  | _=>False):=by first | (rw[content];done) | (rw[content];rfl) | (unfold content;rfl)
theorem qaz (x:Option X) (ev:X→V) (d:Nat) (hi:Nat) (K:Nat→Prop):bound x ev d hi K=(
  match x with
  | none=>K d
  | some x=>match ev x with
    | .int _ n=>(0≤n∧n≤hi)∧K n.toNat
    | _=>False):=by first | (rw[bound];done) | (rw[bound];rfl) | (unfold bound;rfl)
theorem qcp (x:V) (off:Nat) (n:Option Nat) (K:V→Prop):part x off n K=(
  match x with
  | .ints k xs=>match n with
    | none=>off<xs.length∧K (.int k (getI xs off))
    | some n=>off+n≤xs.length∧K (.ints k (sub xs off n))
  | .agg cs=>match n with
    | none=>off<cs.length∧K (nth cs off)
    | some n=>off+n≤cs.length∧K (.agg (sub cs off n))
  | _=>False
):=by first | (rw[part];done) | (rw[part];rfl) | (unfold part;rfl)
theorem qau (sz bytes:Nat) (hp:List Blk) (x:V) (B:Blk) (n:Nat) (K:Ef→Prop):appK sz bytes hp x B n K=(
  match x with
  | .nils=>(n*bytes≤140737488355328)∧match B with
    | .ints _ k ys=>K ⟨.slice hp.length 0 sz n n,[],[.ints false k ys]⟩
    | .cells _ []=>n=0∧K ⟨.nils,[],[]⟩
    | .cells _ cs=>K ⟨.slice hp.length 0 sz n n,[],[.cells false cs]⟩
    | .dead=>False
  | .slice b o sz' len _=>(sz=sz'∧(len+n)*bytes≤140737488355328)∧match nthB hp b with
    | .ints false k xs=>xs.length=o+len*sz∧match B with
      | .ints _ k' ys=>k=k'∧K ⟨.slice hp.length 0 sz (len+n) (len+n),[(b,.dead)],[.ints false k (xs.drop o++ys)]⟩
      | .cells _ []=>K ⟨.slice hp.length 0 sz (len+n) (len+n),[(b,.dead)],[.ints false k (xs.drop o)]⟩
      | _=>False
    | .cells false cs=>cs.length=o+len*sz∧match B with
      | .ints _ k ys=>K ⟨.slice hp.length 0 sz (len+n) (len+n),[(b,.dead)],[.cells false (cs.drop o++ys.map (.int k))]⟩
      | .cells _ ds=>K ⟨.slice hp.length 0 sz (len+n) (len+n),[(b,.dead)],[.cells false (cs.drop o++ds)]⟩
      | .dead=>False
    | _=>False
  | _=>False
):=by first | (rw[appK];done) | (rw[appK];rfl) | (unfold appK;rfl)
theorem qb1 (k:IntKind) (a b:Int) (K:V→Prop):intBin .add k a b K=(K (.int k (k.wrap (a+b)))):=by rw[intBin]
theorem qcm (k:IntKind) (a b:Int) (K:V→Prop):intBin .sub k a b K=(K (.int k (k.wrap (a-b)))):=by rw[intBin]
theorem qb9 (k:IntKind) (a b:Int) (K:V→Prop):intBin .mul k a b K=(K (.int k (k.wrap (a*b)))):=by rw[intBin]
theorem qci (k:IntKind) (a b:Int) (K:V→Prop):intBin .quo k a b K=(b≠0∧K (.int k (k.wrap (a.tdiv b)))):=by rw[intBin]
theorem qcj (k:IntKind) (a b:Int) (K:V→Prop):intBin .rem k a b K=(b≠0∧K (.int k (a.tmod b))):=by rw[intBin]
theorem qb2 (k:IntKind) (a b:Int) (K:V→Prop):intBin .and k a b K=(K (.int k (bAnd k a b))):=by rw[intBin]
theorem qch (k:IntKind) (a b:Int) (K:V→Prop):intBin .or k a b K=(K (.int k (bOr k a b))):=by rw[intBin]
theorem qcn (k:IntKind) (a b:Int) (K:V→Prop):intBin .xor k a b K=(K (.int k (bXor k a b))):=by rw[intBin]
theorem qb3 (k:IntKind) (a b:Int) (K:V→Prop):intBin .andNot k a b K=(K (.int k (bAndNot k a b))):=by rw[intBin]
theorem qck (k:IntKind) (a b:Int) (K:V→Prop):intBin .shl k a b K=(0≤b∧K (.int k (iShl k a b))):=by rw[intBin]
theorem qcl (k:IntKind) (a b:Int) (K:V→Prop):intBin .shr k a b K=(0≤b∧K (.int k (iShr k a b))):=by rw[intBin]
theorem qb4 (k:IntKind) (a b:Int) (K:V→Prop):intBin .eql k a b K=(K (.bool (decide (a=b)))):=by rw[intBin]
theorem qca (k:IntKind) (a b:Int) (K:V→Prop):intBin .neq k a b K=(K (.bool (!decide (a=b)))):=by rw[intBin]
theorem qb8 (k:IntKind) (a b:Int) (K:V→Prop):intBin .lss k a b K=(K (.bool (decide (a<b)))):=by rw[intBin]
theorem qb7 (k:IntKind) (a b:Int) (K:V→Prop):intBin .leq k a b K=(K (.bool (decide (a≤b)))):=by rw[intBin]
theorem qb6 (k:IntKind) (a b:Int) (K:V→Prop):intBin .gtr k a b K=(K (.bool (decide (b<a)))):=by rw[intBin]
theorem qb5 (k:IntKind) (a b:Int) (K:V→Prop):intBin .geq k a b K=(K (.bool (decide (b≤a)))):=by rw[intBin]
theorem qa3 {S:FuncId→Summ} {ev:X→V} {hp:List Blk} {K:Ef→Prop} (f:FuncId):exec S ev hp (.call f []) K=S f [] hp (fun e=>e.st=[]∧K e):=by rw[x_call];rfl
theorem qba {S:FuncId→Summ} {ev:X→V} {hp:List Blk} {K:Ef→Prop} (f:FuncId):exec S ev hp (.callM f []) K=S f [] hp (K):=by rw[x_callM];rfl
theorem qa4 {S:FuncId→Summ} {ev:X→V} {hp:List Blk} {K:Ef→Prop} (f:FuncId) (a0:X):exec S ev hp (.call f [a0]) K=S f [ev a0] hp (fun e=>e.st=[]∧K e):=by rw[x_call];rfl
theorem qbb {S:FuncId→Summ} {ev:X→V} {hp:List Blk} {K:Ef→Prop} (f:FuncId) (a0:X):exec S ev hp (.callM f [a0]) K=S f [ev a0] hp (K):=by rw[x_callM];rfl
theorem qa5 {S:FuncId→Summ} {ev:X→V} {hp:List Blk} {K:Ef→Prop} (f:FuncId) (a0 a1:X):exec S ev hp (.call f [a0,a1]) K=S f [ev a0,ev a1] hp (fun e=>e.st=[]∧K e):=by rw[x_call];rfl
theorem qbc {S:FuncId→Summ} {ev:X→V} {hp:List Blk} {K:Ef→Prop} (f:FuncId) (a0 a1:X):exec S ev hp (.callM f [a0,a1]) K=S f [ev a0,ev a1] hp (K):=by rw[x_callM];rfl
theorem qa6 {S:FuncId→Summ} {ev:X→V} {hp:List Blk} {K:Ef→Prop} (f:FuncId) (a0 a1 a2:X):exec S ev hp (.call f [a0,a1,a2]) K=S f [ev a0,ev a1,ev a2] hp (fun e=>e.st=[]∧K e):=by rw[x_call];rfl
theorem qbd {S:FuncId→Summ} {ev:X→V} {hp:List Blk} {K:Ef→Prop} (f:FuncId) (a0 a1 a2:X):exec S ev hp (.callM f [a0,a1,a2]) K=S f [ev a0,ev a1,ev a2] hp (K):=by rw[x_callM];rfl
theorem qa7 {S:FuncId→Summ} {ev:X→V} {hp:List Blk} {K:Ef→Prop} (f:FuncId) (a0 a1 a2 a3:X):exec S ev hp (.call f [a0,a1,a2,a3]) K=S f [ev a0,ev a1,ev a2,ev a3] hp (fun e=>e.st=[]∧K e):=by rw[x_call];rfl
theorem qbe {S:FuncId→Summ} {ev:X→V} {hp:List Blk} {K:Ef→Prop} (f:FuncId) (a0 a1 a2 a3:X):exec S ev hp (.callM f [a0,a1,a2,a3]) K=S f [ev a0,ev a1,ev a2,ev a3] hp (K):=by rw[x_callM];rfl
theorem qa8 {S:FuncId→Summ} {ev:X→V} {hp:List Blk} {K:Ef→Prop} (f:FuncId) (a0 a1 a2 a3 a4:X):exec S ev hp (.call f [a0,a1,a2,a3,a4]) K=S f [ev a0,ev a1,ev a2,ev a3,ev a4] hp (fun e=>e.st=[]∧K e):=by rw[x_call];rfl
theorem qbf {S:FuncId→Summ} {ev:X→V} {hp:List Blk} {K:Ef→Prop} (f:FuncId) (a0 a1 a2 a3 a4:X):exec S ev hp (.callM f [a0,a1,a2,a3,a4]) K=S f [ev a0,ev a1,ev a2,ev a3,ev a4] hp (K):=by rw[x_callM];rfl
theorem qa9 {S:FuncId→Summ} {ev:X→V} {hp:List Blk} {K:Ef→Prop} (f:FuncId) (a0 a1 a2 a3 a4 a5:X):exec S ev hp (.call f [a0,a1,a2,a3,a4,a5]) K=S f [ev a0,ev a1,ev a2,ev a3,ev a4,ev a5] hp (fun e=>e.st=[]∧K e):=by rw[x_call];rfl
theorem qbg {S:FuncId→Summ} {ev:X→V} {hp:List Blk} {K:Ef→Prop} (f:FuncId) (a0 a1 a2 a3 a4 a5:X):exec S ev hp (.callM f [a0,a1,a2,a3,a4,a5]) K=S f [ev a0,ev a1,ev a2,ev a3,ev a4,ev a5] hp (K):=by rw[x_callM];rfl
theorem qcb {S:FuncId→Summ} {ev:X→V} {hp:List Blk} {K:Ef→Prop} (tab:List (TypeId×FuncId)) (r:X):exec S ev hp (.inv tab r []) K=(match ev r with
    | .iface t v=>match row1 tab t with
      | some f=>S f [v] hp (fun e=>e.st=[]∧K e)
      | none=>False
    | _=>False):=by rw[x_inv];rfl
theorem qcc {S:FuncId→Summ} {ev:X→V} {hp:List Blk} {K:Ef→Prop} (tab:List (TypeId×FuncId)) (r:X) (a0:X):exec S ev hp (.inv tab r [a0]) K=(match ev r with
    | .iface t v=>match row1 tab t with
      | some f=>S f [v,ev a0] hp (fun e=>e.st=[]∧K e)
      | none=>False
    | _=>False):=by rw[x_inv];rfl
theorem qcd {S:FuncId→Summ} {ev:X→V} {hp:List Blk} {K:Ef→Prop} (tab:List (TypeId×FuncId)) (r:X) (a0 a1:X):exec S ev hp (.inv tab r [a0,a1]) K=(match ev r with
    | .iface t v=>match row1 tab t with
      | some f=>S f [v,ev a0,ev a1] hp (fun e=>e.st=[]∧K e)
      | none=>False
    | _=>False):=by rw[x_inv];rfl
theorem qce {S:FuncId→Summ} {ev:X→V} {hp:List Blk} {K:Ef→Prop} (tab:List (TypeId×FuncId)) (r:X) (a0 a1 a2:X):exec S ev hp (.inv tab r [a0,a1,a2]) K=(match ev r with
    | .iface t v=>match row1 tab t with
      | some f=>S f [v,ev a0,ev a1,ev a2] hp (fun e=>e.st=[]∧K e)
      | none=>False
    | _=>False):=by rw[x_inv];rfl
theorem qcf {S:FuncId→Summ} {ev:X→V} {hp:List Blk} {K:Ef→Prop} (tab:List (TypeId×FuncId)) (r:X) (a0 a1 a2 a3:X):exec S ev hp (.inv tab r [a0,a1,a2,a3]) K=(match ev r with
    | .iface t v=>match row1 tab t with
      | some f=>S f [v,ev a0,ev a1,ev a2,ev a3] hp (fun e=>e.st=[]∧K e)
      | none=>False
    | _=>False):=by rw[x_inv];rfl
theorem qcg {S:FuncId→Summ} {ev:X→V} {hp:List Blk} {K:Ef→Prop} (tab:List (TypeId×FuncId)) (r:X) (a0 a1 a2 a3 a4:X):exec S ev hp (.inv tab r [a0,a1,a2,a3,a4]) K=(match ev r with
    | .iface t v=>match row1 tab t with
      | some f=>S f [v,ev a0,ev a1,ev a2,ev a3,ev a4] hp (fun e=>e.st=[]∧K e)
      | none=>False
    | _=>False):=by rw[x_inv];rfl
section
variable {f g : FuncId} {s : Summ} {r : List (FuncId × Summ)} {vs : List V} {hp : List Blk} {K : Ef → Prop}
theorem qc8 {l:List (TypeId×FuncId)} {t:TypeId} {f:FuncId}:row1 ((t,f)::l) t=some f:=by rw[row1,if_pos rfl]
theorem qc9 {l:List (TypeId×FuncId)} {t u:TypeId} {f:FuncId} (h:u≠t):row1 ((u,f)::l) t=row1 l t:=by rw[row1,if_neg h]
theorem qcx {l:List (String×TypeId)} {x:String×TypeId}:(x∈x::l)=True:=by simp
theorem qcy {l:List (String×TypeId)} {x y:String×TypeId} (h:x∈l):(x∈y::l)=True:=by simp[h]
theorem qb0:env ((f,s)::r) f vs hp K=s vs hp K:=by rw[env,if_pos rfl]
theorem qco (h:f≠g):env ((g,s)::r) f vs hp K=env r f vs hp K:=by rw[env,if_neg h]
theorem qcv {shs:List Sh} {pre:List D→Prop} {F:List D→Out}:sData shs pre F vs hp K=rds hp shs vs fun ds=>pre ds∧K (exp hp.length (F ds)):=by rw[sData]
theorem qcs {J:List D→Prop}:rds hp [] [] J=J []:=by rw[rds]
theorem qct {J:List D→Prop} {sh:Sh} {shs:List Sh} {a:V} {as:List V}:rds hp (sh::shs) (a::as) J=@Wi V ⟨fun a=>rd1 hp sh a fun d=>rds hp shs as fun ds=>J (d::ds)⟩ a:=by rw[qaa,rds]
theorem qcu {J:D→Prop} {a:V}:rd1 hp .v a J=(purR a=true∧J (.v a)):=by rw[rd1]
theorem qcq {J:D→Prop} {a:V}:rd1 hp .r a J=frz hp 4 a (fun v=>J (.v v)):=by rw[rd1]
theorem qbk {f:V→(V→Prop)→Prop} {J:List V→Prop}:frzs f [] J=J []:=by rw[frzs]
theorem qbl {f:V→(V→Prop)→Prop} {J:List V→Prop} {a:V} {r:List V}:frzs f (a::r) J=f a (fun v=>frzs f r fun vs=>J (v::vs)):=by rw[frzs]
theorem qby {d b o sz len cap:Nat} {J:V→Prop}:frz hp (d+1) (.slice b o sz len cap) J=(match nthB hp b with
      | .ints _ k xs=>o+len*sz≤xs.length∧J (.rsl sz len k (sub xs o (len*sz)))
      | .cells _ cs=>o+len*sz≤cs.length∧@Wi (List V) ⟨fun l=>frzs (frz hp d) l fun ds=>J (.rcs sz len ds)⟩ (sub cs o (len*sz))
      | .dead=>False):=by rw[frz];rfl
theorem qbt {d b o:Nat} {J:V→Prop}:frz hp (d+1) (.ptr b o) J=(match nthB hp b with
      | .ints _ k xs=>J (.rpi k xs o)
      | .cells _ cs=>@Wi (List V) ⟨fun l=>frzs (frz hp d) l fun ds=>J (.rpc ds o)⟩ cs
      | .dead=>False):=by rw[frz];rfl
theorem qbo {d:Nat} {t:TypeId} {v:V} {J:V→Prop}:frz hp (d+1) (.iface t v) J=frz hp d v (fun v=>J (.iface t v)):=by rw[frz]
theorem qbs {d:Nat} {J:V→Prop}:frz hp (d+1) .nils J=J .nils:=by simp[frz,purR]
theorem qbx {d sz len:Nat} {k:IntKind} {xs:List Int} {J:V→Prop}:frz hp (d+1) (.rsl sz len k xs) J=J (.rsl sz len k xs):=by simp[frz,purR]
theorem qbu {d sz len:Nat} {cs:List V} {J:V→Prop}:frz hp (d+1) (.rcs sz len cs) J=(pursR cs=true∧J (.rcs sz len cs)):=by simp[frz,purR]
theorem qbw {d o:Nat} {k:IntKind} {xs:List Int} {J:V→Prop}:frz hp (d+1) (.rpi k xs o) J=J (.rpi k xs o):=by simp[frz,purR]
theorem qbv {d o:Nat} {cs:List V} {J:V→Prop}:frz hp (d+1) (.rpc cs o) J=(pursR cs=true∧J (.rpc cs o)):=by simp[frz,purR]
theorem qbp {d:Nat} {k:IntKind} {n:Int} {J:V→Prop}:frz hp (d+1) (.int k n) J=J (.int k n):=by simp[frz,purR]
theorem qbn {d:Nat} {b:Bool} {J:V→Prop}:frz hp (d+1) (.bool b) J=J (.bool b):=by simp[frz,purR]
theorem qbz {d:Nat} {s:List Int} {J:V→Prop}:frz hp (d+1) (.str s) J=J (.str s):=by simp[frz,purR]
theorem qbq {d:Nat} {k:IntKind} {xs:List Int} {J:V→Prop}:frz hp (d+1) (.ints k xs) J=J (.ints k xs):=by simp[frz,purR]
theorem qbr {d:Nat} {J:V→Prop}:frz hp (d+1) .nilp J=J .nilp:=by simp[frz,purR]
theorem qbm {d:Nat} {cs:List V} {J:V→Prop}:frz hp (d+1) (.agg cs) J=(match pursR cs with
      | true=>J (.agg cs)
      | false=>@Wi (List V) ⟨fun l=>frzs (frz hp d) l fun ds=>J (.agg ds)⟩ cs):=by rw[frz];rfl
theorem qcr {J:D→Prop} {a:V} {k:IntKind}:rd1 hp (.s k) a J=(match a with
    | .nils=>J (.s k [])
    | .slice b o sz len _=>match nthB hp b with
      | .ints _ k' xs=>(sz=1∧k=k'∧o+len≤xs.length)∧J (.s k (sub xs o len))
      | _=>False
    | _=>False):=by simp only[rd1];cases a<;>rfl
theorem qa0 {S:FuncId→Summ} {ev:X→V} (z:V):exec S ev hp (.build z []) K=K ⟨z,[],[]⟩:=by rw[qdx];rfl
theorem qa1 {S:FuncId→Summ} {ev:X→V} (z:V) (o m:Nat) (x:X):exec S ev hp (.build z [(o,m,x)]) K=fill z [(o,m,ev x)] fun v=>K ⟨v,[],[]⟩:=by rw[qdx];rfl
theorem qa2 {S:FuncId→Summ} {ev:X→V} (z:V) (o m o2 m2:Nat) (x x2:X):exec S ev hp (.build z [(o,m,x),(o2,m2,x2)]) K=fill z [(o,m,ev x),(o2,m2,ev x2)] fun v=>K ⟨v,[],[]⟩:=by rw[qdx];rfl
theorem qbi {z:V} {J:V→Prop}:fill z [] J=J z:=by rw[fill]
theorem qbj {k:IntKind} {xs:List Int} {o m:Nat} {p:V} {q:List (Nat×Nat×V)} {J:V→Prop}:fill (.ints k xs) ((o,m,p)::q) J=(match p with
    | .int k' n=>(k=k'∧m=1∧o<xs.length)∧fill (.ints k (xs.set o n)) q J
    | .ints k' ys=>(k=k'∧ys.length=m∧o+m≤xs.length)∧fill (.ints k (spl xs o ys)) q J
    | _=>False):=by cases p<;>simp only[fill]
end
section
variable {S : FuncId → Summ} {ev' : X → V} {hp : List Blk} {K : Ef → Prop} {Q : St → Prop} {Q' : Ex → St → Prop} {mm : Nat} {s : St} {r : List G} {d : Option Nat} {i : I} {t : Nat} {w : Bool} {c x y : X} {a b : C}
theorem qfe (h:ev' c=.bool true):exec S ev' hp (.pick c x y) K=K ⟨ev' x,[],[]⟩:=by
  rw[qeo,h];simp
theorem qfd (h:ev' c=.bool false):exec S ev' hp (.pick c x y) K=K ⟨ev' y,[],[]⟩:=by
  rw[qeo,h];simp
theorem sub1 (a:Int):sub [a] 0 1=[a]:=by have h:sub [a] 0 1=[a]:=rfl;exact h
def runG (S:FuncId→Summ) (t:Nat) (w:Bool) (d:Option Nat) (i:I) (r:List G) (Q:St→Prop) (s:St):Prop:=run S (⟨some (t,w),d,i⟩::r) s Q
theorem qc7:run S [] s Q=@Wi St ⟨Q⟩ s:=by rw[qaa,run_nil]
theorem qc5:run S (⟨none,d,i⟩::r) s Q=@Wi St ⟨fun s=>exec S (ev s.sl) s.hp i (fun e=>run S r ⟨put s.sl d e.v,apN (apS s.hp e.st) e.nw⟩ Q)⟩ s:=by rw[qaa,run_g0]
theorem qc6:run S (⟨some (t,w),d,i⟩::r) s Q=@Wi St ⟨runG S t w d i r Q⟩ s:=by rw[qaa,runG]
theorem qfa (h:nth s.sl t=.bool w):runG S t w d i r Q s=exec S (ev s.sl) s.hp i (fun e=>run S r ⟨put s.sl d e.v,apN (apS s.hp e.st) e.nw⟩ Q):=by
  rw[runG,run_g1,h];simp
theorem qfb (h:nth s.sl t=.bool (!w)):runG S t w d i r Q s=run S r ⟨put s.sl d (.tup []),s.hp⟩ Q:=by
  rw[runG,run_g1,h];cases w<;>simp
theorem qfc (h:nth s.sl t=.tup []):runG S t w d i r Q s=run S r ⟨put s.sl d (.tup []),s.hp⟩ Q:=by
  rw[runG,run_g1,h]
theorem upd_nth:∀(l:List V) (t:Nat),upd l t (nth l t)=l
  | [],_=>rfl
  | _::_,0=>rfl
  | a::l,n+1=>by simp only[upd,nth,upd_nth l n]
theorem qe9:runG S t w d i r Q s=(match nth s.sl t with
      | .bool b=>(b=true→run S (⟨some (t,w),d,i⟩::r) ⟨upd s.sl t (.bool true),s.hp⟩ Q)∧(b=false→run S (⟨some (t,w),d,i⟩::r) ⟨upd s.sl t (.bool false),s.hp⟩ Q)
      | .tup []=>run S r ⟨put s.sl d (.tup []),s.hp⟩ Q
      | _=>False):=by
  rw[runG]
  cases hn:nth s.sl t
  case bool b =>
    have e:=upd_nth s.sl t
    rw[hn]at e
    cases b<;>simp[e]
  case tup vs=>rw[run_g1,hn];cases vs<;>rfl
  all_goals (rw[run_g1,hn])
def setX (sl:List V):X→V→List V
  | .t n,v=>upd sl n v
  | .c _,_=>sl
theorem qda {sl:List V} {n:Nat} {v:V}:setX sl (.t n) v=upd sl n v:=by rw[setX]
theorem qe8 (h:ev s.sl x=.bool true):awp S mm (.cond x a b) Q' s=awp S mm a Q' s:=by
  rw[w_cond,h];simp
theorem qe7 (h:ev s.sl x=.bool false):awp S mm (.cond x a b) Q' s=awp S mm b Q' s:=by
  rw[w_cond,h];simp
theorem qe6:awp S mm (.cond x a b) Q' s=(match ev s.sl x with
    | .bool c=>(c=true→awp S mm a Q' ⟨setX s.sl x (.bool true),s.hp⟩)∧(c=false→awp S mm b Q' ⟨setX s.sl x (.bool false),s.hp⟩)
    | _=>False):=by
  cases hn:ev s.sl x
  case bool b =>
    have e:setX s.sl x (.bool b)=s.sl:=by
      rw[←hn]
      cases x with
      | t n=>exact upd_nth s.sl n
      | c v=>rfl
    cases b<;>simp[w_cond,hn,e]
  all_goals (rw[w_cond,hn])
end
end Am
/-
Working code out: what comes behind a value waits for it.
-/
namespace Am
open Go (IntKind BinOp UnOp FuncId TypeId)
section
variable {S : FuncId → Summ} {ev : X → V} {hp : List Blk} {K : Ef → Prop} {J : V → Prop} {cs : List V} {o m : Nat} {p : V} {q : List (Nat × Nat × V)} {k : IntKind} {xs : List Int} {vs : List V}
theorem z_build {z:V} {ps:List (Nat×Nat×X)}:exec S ev hp (.build z ps) K=@Wi (List (Nat×Nat×V)) ⟨fun l=>fill z l fun v=>K ⟨v,[],[]⟩⟩ (evp ev ps):=by rw[qaa,qdx]
theorem z_bsl {sz len:Nat} {z:V} {ps:List (Nat×Nat×X)}:exec S ev hp (.bsl sz len z ps) K=@Wi (List (Nat×Nat×V)) ⟨fun l=>fill z l fun v=>match mkB v with
    | some B=>K ⟨.slice hp.length 0 sz len len,[],[B]⟩
    | none=>False⟩ (evp ev ps):=by first | (rw[qaa,qdw];done) | (rw[qaa,qdw];rfl)
theorem z_fill0 {z:V}:fill z [] J=@Wi V ⟨J⟩ z:=by rw[qaa];cases z<;>rw[fill]
theorem z_fillI:fill (.ints k xs) ((o,m,p)::q) J=(match p with
    | .int k' n=>(k=k'∧m=1∧o<xs.length)∧fill (.ints k (xs.set o n)) q J
    | .ints k' ys=>(k=k'∧ys.length=m∧o+m≤xs.length)∧fill (.ints k (spl xs o ys)) q J
    | _=>False):=by cases p<;>simp only[fill]
theorem z_fillA:fill (.agg cs) ((o,m,p)::q) J=(match p with
    | .ints k' ys=>(ys.length=m∧o+m≤cs.length)∧fill (.agg (spl cs o (ys.map (.int k')))) q J
    | .agg ds=>(ds.length=m∧o+m≤cs.length)∧fill (.agg (spl cs o ds)) q J
    | .tup _=>False
    | .undef=>False
    | v=>(m=1∧o<cs.length)∧fill (.agg (upd cs o v)) q J):=by cases p<;>simp only[fill]
theorem z_sData {shs:List Sh} {pre:List D→Prop} {F:List D→Out}:sData shs pre F vs hp K=rds hp shs vs fun ds=>@Wi (List D) ⟨fun ds=>pre ds∧@Wi Out ⟨fun o=>@Wi Ef ⟨K⟩ (exp hp.length o)⟩ (F ds)⟩ ds:=by
  simp only[qaa];rw[sData]
end
end Am
