/-
A law's arguments of any readable type, opened: numbers, truth values, strings, arrays of numbers, structs, slices of these.
-/
import Derived.Test.YtcefobjfkmfmiaaDoorAmRow
import Derived.ChangeArms
import Derived.Test.YtcefobjfkmfmiaaDoorAmLoop
set_option linter.unusedSimpArgs false
set_option linter.unusedVariables false
set_option linter.unusedSectionVars false
namespace Am
open Go
section
variable {H : Type} {enc : TypeId × Value → H} {P : Program} {W : World} {base : Nat}

/-- What a type's cells are, read. -/
def Op (enc:TypeId×Value→H) (P:Program) (W:World) (base:Nat) (t:TypeId) (G:List V→Prop):Prop :=
  ∀fuel cs x,DataW.trod enc P W base (fun _=>true) true fuel t cs=some x→∃as:List V,VRs ⟨fun _=>none,statW W⟩ as cs∧pursR as=true∧(∀v∈cs,v.oneCell'=true)∧G as
theorem VRs_len {σ:Sg} {as:List V} {vs:List Value} (h:VRs σ as vs):as.length=vs.length:=h.length
theorem pursR_append:∀{a b:List V},pursR a=true→pursR b=true→pursR (a++b)=true
  | [],b,_,h=>h
  | x::a,b,h1,h2=>by
    simp only[pursR,Bool.and_eq_true,List.cons_append]at h1 ⊢
    exact⟨h1.1,pursR_append h1.2 h2⟩
theorem op_int {t:TypeId} {k:IntKind} (ht:P.underlying t=some (.int k)):Op enc P W base t (fun as=>∃n,as=[.int k n]∧(Lit.int k n).wf=true):=by
  intro fuel cs x h
  obtain⟨n,rfl,-,hw⟩:=DataW.trod_int ht h
  exact⟨[.int k n],.cons (.int k n) .nil,rfl,by simp[Value.oneCell'],n,rfl,hw⟩
theorem cells_at {w:World} {base n:Nat} {a:Addr} {cs:List Value} (h:w.cells? base a n=some cs):cs.length=n∧∀j,j<n→w.cell? (a.add j)=cs[j]?:=by
  unfold World.cells? at h
  split at h
  · refine⟨by simpa using Lib.mapM_length h,fun j hj=>?_⟩
    obtain⟨b,h1,h2⟩:=Lib.mapM_at h j j (by simp[hj])
    rw[h2,h1]
  · cases h
theorem add_add (a:Addr) (m n:Nat):(a.add m).add n=a.add (m+n):=by
  unfold Addr.add
  by_cases h1:m=0
  · subst h1;simp
  · by_cases h2:n=0
    · subst h2;simp[h1]
    · simp only[if_neg h1,if_neg h2,if_neg (show ¬m+n=0 by omega),Nat.add_assoc]
theorem stat_of {w:World} {a:Addr} {j:Nat} {v:Value} (h:w.cell? (a.add j)=some v) (hv:v.oneCell'=true):statW w a.block (a.off+j) v:=by
  unfold Addr.add at h
  split at h
  · rename_i e
    subst e
    unfold World.cell? at h
    split at h
    · rename_i c e' fr hh
      split at h
      · cases h
      · exact⟨⟨c,e',fr,hh,h⟩,hv⟩
    · cases h
  · unfold World.cell? at h
    simp only at h
    split at h
    · rename_i c e' fr hh
      split at h
      · cases h
      · exact⟨⟨c,e',fr,hh,h⟩,hv⟩
    · cases h
theorem spot_of {w:World} {a:Addr} {v:Value} (h:w.cell? (a.add 0)=some v):a=⟨a.block,a.off,none⟩:=by
  simp only[Addr.add,if_true]at h
  unfold World.cell? at h
  split at h
  · split at h
    · cases h
    · rename_i hs
      cases a with
      | mk b o s=>cases s<;>simp_all
  · cases h
/-- So many elements, one behind the other. -/
theorem elems_at {e:TypeId} {G:List V→Prop} (hG:Op enc P W base e G) {sz:Nat} (hsz:P.cellsOf e=sz) {a:Addr} {fuel:Nat}:∀n:Nat,(∀i,i<n→∃y,(W.cells? base (a.add (i*sz)) sz).bind (DataW.trod enc P W base (fun _=>true) true fuel e)=some y) →
    ∃(cs:List V) (vs:List Value),vs.length=n*sz∧VRs ⟨fun _=>none,statW W⟩ cs vs∧pursR cs=true∧(∀(j:Nat) v,vs[j]?=some v→statW W a.block (a.off+j) v∧W.cell? (a.add j)=some v)∧∀i,i<n→G (sub cs (i*sz) sz)
  | 0,_=>⟨[],[],by simp,.nil,rfl,by simp,by simp⟩
  | n+1,h=>by
    obtain⟨cs,vs,h1,h2,h3,h4,h5⟩:=elems_at hG hsz n fun i hi=>h i (by omega)
    obtain⟨y,hy⟩:=h n (by omega)
    rw[Option.bind_eq_some_iff]at hy
    obtain⟨us,hu,hy⟩:=hy
    obtain⟨hul,hua⟩:=cells_at hu
    obtain⟨as,g1,g2,g3,g4⟩:=hG _ _ _ hy
    have hal:as.length=sz:=by rw[VRs_len g1,hul]
    have hcl:cs.length=n*sz:=by rw[VRs_len h2,h1]
    refine⟨cs++as,vs++us,by simp[h1,hul,Nat.add_mul],h2.append g1,pursR_append h3 g2,fun j v hj=>?_,fun i hi=>?_⟩
    · by_cases hlt:j<vs.length
      · rw[List.getElem?_append_left hlt]at hj
        exact h4 j v hj
      · rw[List.getElem?_append_right (by omega)]at hj
        have hj2:j-vs.length<sz:=by
          have:=(List.getElem?_eq_some_iff.1 hj).1
          omega
        have:=hua (j-vs.length) hj2
        rw[hj,add_add,show n*sz+(j-vs.length)=j by omega]at this
        exact⟨stat_of this (g3 v (List.mem_of_getElem? hj)),this⟩
    · by_cases hin:i<n
      · have hle:i*sz+sz≤n*sz:=by
          have:=Nat.mul_le_mul_right sz (show i+1≤n by omega)
          rwa [Nat.add_mul,Nat.one_mul]at this
        have e:sub (cs++as) (i*sz) sz=sub cs (i*sz) sz:=by
          unfold sub
          rw[List.drop_append_of_le_length (by omega),List.take_append_of_le_length (by simp;omega)]
        rw[e]
        exact h5 i hin
      · have hin':i=n:=by omega
        subst hin'
        have e:sub (cs++as) (i*sz) sz=as:=by
          unfold sub
          rw[←hcl,List.drop_left,←hal,List.take_length]
        rw[e]
        exact g4
/-- A slice of numbers. -/
theorem op_sl {t e:TypeId} {k:IntKind} (ht:P.underlying t=some (.slice e)) (he:P.underlying e=some (.int k)) (hsz:P.cellsOf e=1) :
    Op enc P W base t (fun as=>as=[.nils]∨∃xs,as=[.rsl 1 xs.length k xs]∧xs.length≤maxLen∧∀x∈xs,(Lit.int k x).wf=true):=by
  intro fuel cs x h
  rcases DataW.trod_slice ht h with ⟨rfl,-⟩ | ⟨a,len,cap,elems,rest,m,-,rfl,-,-,hl,hm,hlen,hel,hsp,-⟩
  · exact⟨[.nils],.cons .nils .nil,rfl,by simp[Value.oneCell'],.inl rfl⟩
  · obtain⟨hrl,hr⟩:=hsp rfl
    have each:∀i,i<cap→∃y,(W.cells? base (a.add (i*1)) 1).bind (DataW.trod enc P W base (fun _=>true) true m e)=some y:=by
      intro i hi
      by_cases h1:i<len
      · have:=hel i h1
        rw[hsz]at this
        exact⟨elems[i],by rw[this];exact List.getElem?_eq_getElem (by omega)⟩
      · have:=hr (i-len) (by omega)
        rw[hsz,show len+(i-len)=i by omega]at this
        exact⟨rest[i-len],by rw[this];exact List.getElem?_eq_getElem (by omega)⟩
    obtain⟨cs,vs,h1,h2,h3,h4,h5⟩:=elems_at (op_int he) hsz len fun i hi=>each i (by omega)
    rw[Nat.mul_one]at h1
    have hcl:cs.length=len:=by rw[VRs_len h2,h1]
    let xs:List Int:=cs.map fun v=>match v with | .int _ n=>n | _=>0
    have hat:∀i,i<len→∃n,cs[i]?=some (.int k n)∧xs[i]?=some n∧(Lit.int k n).wf=true:=by
      intro i hi
      obtain⟨n,hn,hw⟩:=h5 i hi
      have e:cs[i]?=some (.int k n):=by
        have:=congrArg (·[0]?) hn
        simpa[sub,List.getElem?_take,List.getElem?_drop]using this
      exact⟨n,e,by simp[xs,e],hw⟩
    have hxl:xs.length=len:=by simp[xs,hcl]
    have hcs:cs=xs.map (.int k):=by
      apply List.ext_getElem?
      intro i
      by_cases hi:i<len
      · obtain⟨n,e1,e2,-⟩:=hat i hi
        rw[e1,List.getElem?_map,e2];rfl
      · rw[List.getElem?_eq_none (by omega),List.getElem?_eq_none (by simp;omega)]
    rw[hcs]at h2
    have hvs:=VRs_ints h2
    refine⟨[.rsl 1 xs.length k xs],.cons ?_ .nil,rfl,by simp[Value.oneCell'],.inr ⟨xs,rfl,by omega,fun n hn=>?_⟩⟩
    · rw[hxl]
      refine .rsl (blk:=a.block) (off:=a.off) (by omega) hl (fun hc=>?_) fun j n hj=>(h4 j _ ?_).1
      · obtain⟨y,hy⟩:=each 0 hc
        rw[Option.bind_eq_some_iff]at hy
        obtain⟨us,hu,-⟩:=hy
        obtain⟨hul,hua⟩:=cells_at hu
        have:=hua 0 (by omega)
        rw[Nat.zero_mul,add_add]at this
        rw[List.getElem?_eq_getElem (by omega)]at this
        rw[←spot_of this]
      · rw[hvs];simp[hj]
    · obtain⟨i,hi⟩:=List.getElem?_of_mem hn
      have hlt:=(List.getElem?_eq_some_iff.1 hi).1
      obtain⟨m',-,e2,hw⟩:=hat i (by omega)
      rw[hi]at e2
      obtain rfl:=Option.some.inj e2
      exact hw
end
end Am
/-
A law's arguments: slices of arrays of numbers.
-/
namespace Am
open Go
section
variable {H : Type} {enc : TypeId × Value → H} {P : Program} {W : World} {base : Nat}
/-- An array of numbers. -/
def GArr (n:Nat) (k:IntKind) (as:List V):Prop:=∃xs:List Int,as=xs.map (.int k)∧xs.length=n∧∀x∈xs,(Lit.int k x).wf=true
theorem op_arr {t e:TypeId} {n:Nat} {k:IntKind} (ht:P.underlying t=some (.array n e)) (he:P.underlying e=some (.int k)) (hc:P.cellsOf e=1) (hct:P.cellsOf t=n):Op enc P W base t (GArr n k):=by
  intro fuel cs x h
  obtain⟨xs,m',-,-,hl,hxl,hel⟩:=DataW.trod_array ht h
  have hl':cs.length=n:=by rw[hl,hct]
  have each:∀i,i<n→∃x,cs[i]?=some (.int k x)∧(Lit.int k x).wf=true:=by
    intro i hi
    have h1:=hel i hi
    rw[hc,Nat.mul_one,List.getElem?_eq_getElem (by omega)]at h1
    obtain⟨x,hcs,-,hw⟩:=DataW.trod_int he h1
    refine⟨x,?_,hw⟩
    have:(List.take 1 (cs.drop i))[0]?=some (.int k x):=by rw[hcs];rfl
    simpa[List.getElem?_take,List.getElem?_drop]using this
  let ys:List Int:=cs.map fun v=>match v with | .int _ n=>n | _=>0
  have hys:cs=ys.map (Value.int k):=by
    apply List.ext_getElem?
    intro i
    by_cases hi:i<n
    · obtain⟨x,e1,-⟩:=each i hi
      simp[ys,e1]
    · rw[List.getElem?_eq_none (by omega),List.getElem?_eq_none (by simp[ys];omega)]
  have hvr:∀l:List Int,VRs ⟨fun _=>none,statW W⟩ (l.map (.int k)) (l.map (Value.int k)):=fun l=>by
    induction l with
    | nil=>exact .nil
    | cons a l ih=>exact .cons (.int k a) ih
  have hpr:∀l:List Int,pursR (l.map (V.int k))=true:=fun l=>by
    induction l with
    | nil=>rfl
    | cons a l ih=>simpa[pursR,purR]using ih
  refine⟨ys.map (.int k),?_,hpr ys,fun v hv=>?_,ys,rfl,by simp[ys,hl'],fun y hy=>?_⟩
  · rw[hys];simpa[ys,Function.comp_def]using hvr ys
  · rw[hys]at hv
    obtain⟨y,-,rfl⟩:=List.mem_map.1 hv
    simp[Value.oneCell']
  · obtain⟨i,hi⟩:=List.getElem?_of_mem hy
    have hlt:=(List.getElem?_eq_some_iff.1 hi).1
    have hln:i<n:=by simpa[ys,hl']using hlt
    obtain⟨x,e1,hw⟩:=each i hln
    have:ys[i]?=some x:=by simp[ys,e1]
    rw[this]at hi
    obtain rfl:=Option.some.inj hi
    exact hw
end
end Am
/-
A law's arguments: structs whose slices are lent, as slices that are arguments by themselves.
-/
namespace Am
open Go
/-- Arguments of which some are structs: the structs' cells are data by themselves. -/
def AF (W:World) (sh:List (Option Nat)) (ds:List D) (vs:List Value):Prop:=∃fl,ARs W ds fl∧∀(τ:Sg) ws,VRs τ ws fl→VRs τ (fold sh ws) vs
theorem AF.nil {W:World}:AF W [] [] []:=⟨[],.nil,fun _ _ _=>.nil⟩
theorem AF.one {W:World} {sh:List (Option Nat)} {d:D} {ds:List D} {v:Value} {vs:List Value} (a:AR W d v) (t:AF W sh ds vs):AF W (none::sh) (d::ds) (v::vs):=by
  obtain⟨fl,h1,h2⟩:=t
  refine⟨v::fl,.cons a h1,fun τ ws hw=>?_⟩
  cases hw with
  | cons h t=>exact .cons h (h2 τ _ t)
theorem ARs.length {W:World}:∀{ds:List D} {vs:List Value},ARs W ds vs→ds.length=vs.length
  | _,_,.nil=>rfl
  | _,_,.cons _ t=>by simp[t.length]
theorem ARs.append {W:World}:∀{a b:List D} {u v:List Value},ARs W a u→ARs W b v→ARs W (a++b) (u++v)
  | _,_,_,_,.nil,h=>h
  | _,_,_,_,.cons h t,h'=>.cons h (t.append h')
theorem AF.st {W:World} {sh:List (Option Nat)} {es ds:List D} {m:Nat} {cs:Array Value} {vs:List Value} (a:ARs W es cs.toList) (hm:es.length=m) (h1:∀v∈cs.toList,v.oneCell'=true) (t:AF W sh ds vs):AF W (some m::sh) (es++ds) (.agg cs::vs):=by
  obtain⟨fl,h2,h3⟩:=t
  refine⟨cs.toList++fl,a.append h2,fun τ ws hw=>?_⟩
  obtain⟨b1,b2⟩:=hw.split
  rw[←a.length,hm]at b1 b2
  exact .cons (.agg b1 h1) (h3 τ _ b2)
section
variable {H : Type} {enc : TypeId × Value → H} {P : Program} {W : World} {base : Nat}
def OpD (enc:TypeId×Value→H) (P:Program) (W:World) (base:Nat) (t:TypeId) (G:List D→Prop):Prop :=
  ∀fuel cs x,DataW.trod enc P W base (fun _=>true) true fuel t cs=some x→∃ds,ARs W ds cs∧(∀v∈cs,v.oneCell'=true)∧G ds
def DInt (k:IntKind) (ds:List D):Prop:=∃n,ds=[.v (.int k n)]∧(Lit.int k n).wf=true
def DBool (ds:List D):Prop:=∃b,ds=[.v (.bool b)]
def DSl (k:IntKind) (ds:List D):Prop:=∃xs,ds=[.s k xs]∧(∀x∈xs,(Lit.int k x).wf=true)∧xs.length≤maxLen
def DArr (n:Nat) (k:IntKind) (ds:List D):Prop:=∃xs:List Int,ds=xs.map (fun x=>D.v (.int k x))∧xs.length=n∧∀x∈xs,(Lit.int k x).wf=true
theorem opd_int {t:TypeId} {k:IntKind} (ht:P.underlying t=some (.int k)):OpD enc P W base t (DInt k):=by
  intro fuel cs x h
  obtain⟨n,rfl,-,hw⟩:=DataW.trod_int ht h
  exact⟨[.v (.int k n)],.cons (.v (.int k n) rfl) .nil,by simp[Value.oneCell'],n,rfl,hw⟩
theorem opd_bool {t:TypeId} (ht:P.underlying t=some .bool):OpD enc P W base t DBool:=by
  intro fuel cs x h
  obtain⟨b,rfl,-⟩:=DataW.trod_bool ht h
  exact⟨[.v (.bool b)],.cons (.v (.bool b) rfl) .nil,by simp[Value.oneCell'],b,rfl⟩
theorem opd_arr {t e:TypeId} {n:Nat} {k:IntKind} (ht:P.underlying t=some (.array n e)) (he:P.underlying e=some (.int k)) (hc:P.cellsOf e=1) (hct:P.cellsOf t=n):OpD enc P W base t (DArr n k):=by
  intro fuel cs x h
  obtain⟨as,h1,h2,h3,xs,rfl,hl,hw⟩:=op_arr ht he hc hct fuel cs x h
  refine⟨xs.map fun x=>D.v (.int k x),?_,h3,xs,rfl,hl,hw⟩
  have main:∀(xs:List Int) (cs:List Value),VRs ⟨fun _=>none,statW W⟩ (xs.map (.int k)) cs→ARs W (xs.map fun x=>D.v (.int k x)) cs:=by
    intro xs
    induction xs with
    | nil=>intro cs h;cases h;exact .nil
    | cons a l ih =>
      intro cs h
      cases h with
      | cons h t=>exact .cons (.v h rfl) (ih _ t)
  exact main xs cs h1
theorem opd_sl {t e:TypeId} {k:IntKind} (ht:P.underlying t=some (.slice e)) (he:P.underlying e=some (.int k)) (hc:P.cellsOf e=1):OpD enc P W base t (DSl k):=by
  intro fuel cs x h
  have hv:∃a len cap,cs=[.slice a len cap]:=by
    rcases DataW.trod_slice ht h with ⟨rfl,-⟩ | ⟨a,len,cap,elems,rest,m,-,rfl,-⟩
    · exact⟨none,0,0,rfl⟩
    · exact⟨some a,len,cap,rfl⟩
  obtain⟨a,len,cap,rfl⟩:=hv
  have main:∃xs,AR W (.s k xs) (.slice a len cap)∧(∀x∈xs,(Lit.int k x).wf=true)∧xs.length≤maxLen:=by
    rcases ChangeShapes.open_ints ht he hc h with ⟨h,-⟩ | ⟨ad,len',cap',zs,h,-,hl,hm,hz,-,hcell,hw⟩
    · simp at h
      obtain⟨rfl,rfl,rfl⟩:=h
      exact⟨[],.nil k,by simp,by simp⟩
    · simp at h
      obtain⟨rfl,rfl,rfl⟩:=h
      simp only[if_true]at hz
      have htl:(zs.take len).length=len:=by simp;omega
      refine⟨zs.take len,?_,fun x hx=>hw x (List.mem_of_mem_take hx),by omega⟩
      have this:=fun c e fr=>AR.s (W:=W) (k:=k) (xs:=zs.take len) (b:=ad.block) (off:=ad.off) (cap:=cap) (ad:=some ad) (c:=c) (e:=e) (fr:=fr)
      rw[htl]at this
      by_cases h0:0<cap
      · have h1:=hcell 0 (by omega)
        simp only[Addr.add]at h1
        have hsp:ad=⟨ad.block,ad.off,none⟩∧∃c e' fr,W.heap[ad.block]?=some (.cells c e' fr):=by
          simp only[if_true]at h1
          unfold World.cell? at h1
          split at h1
          · rename_i c e' fr hh
            split at h1
            · simp at h1
            · rename_i hs
              refine⟨?_,c,e',fr,hh⟩
              cases ad with
              | mk b o s=>cases s<;>simp_all
          · simp at h1
        obtain⟨hsp,c,e',fr,hh⟩:=hsp
        have hat:∀i,i<cap→c[ad.off+i]?=some (.int k (zs.getD i 0)):=by
          intro i hi
          have h2:=hcell i (by omega)
          rw[hsp]at h2
          unfold Addr.add at h2
          split at h2
          · rename_i h0
            subst h0
            simpa[World.cell?,hh]using h2
          · simpa[World.cell?,hh]using h2
        refine this c e' fr (fun _=>by rw[←hsp]) hl (fun _=>⟨hh,?_⟩) fun j x hj=>?_
        · have:=hat (cap-1) (by omega)
          have:=(Array.getElem?_eq_some_iff.1 this).1
          omega
        · rw[List.getElem?_take]at hj
          split at hj
          · rw[hat j (by omega)];simp[List.getD,hj]
          · simp at hj
      · refine this #[] 0 (0,0) (fun h=>absurd h h0) hl (fun h=>absurd h h0) fun j x hj=>?_
        have hlz:len=0:=by omega
        subst hlz
        simp at hj
  obtain⟨xs,a1,a2,a3⟩:=main
  exact⟨[.s k xs],.cons a1 .nil,by simp[Value.oneCell'],xs,rfl,a2,a3⟩
/-- A slice that stays as it is. -/
def DRs (k:IntKind) (ds:List D):Prop:=∃xs,ds=[.v (.rsl 1 xs.length k xs)]∧∀x∈xs,(Lit.int k x).wf=true
theorem opd_rsl {t e:TypeId} {k:IntKind} (ht:P.underlying t=some (.slice e)) (he:P.underlying e=some (.int k)) (hc:P.cellsOf e=1):OpD enc P W base t (DRs k):=by
  intro fuel cs x h
  obtain⟨as,h1,h2,h3,h4⟩:=op_sl ht he hc fuel cs x h
  rcases h4 with rfl | ⟨xs,rfl,hl,hw⟩
  · cases h1 with
    | cons q t =>
      cases t
      cases q
      exact⟨[.v (.rsl 1 0 k [])],.cons (.v (.rsl (blk:=0) (off:=0) rfl (Nat.le_refl _) (by simp) (by simp)) rfl) .nil,h3,[],rfl,by simp⟩
  · cases h1 with
    | cons q t=>cases t;exact⟨[.v (.rsl 1 xs.length k xs)],.cons (.v q rfl) .nil,h3,xs,rfl,hw⟩
/-- A struct, field by field: how many cells, and what they are. -/
def Dm:List (Nat×(List D→Prop))→List D→Prop
  | [],as=>as=[]
  | (n,G)::r,as=>∃a b,as=a++b∧a.length=n∧G a∧Dm r b
def offD:List (Nat×(List D→Prop))→Nat→Nat
  | _,0=>0
  | [],_=>0
  | p::r,i+1=>p.1+offD r i
theorem offD_succ:∀(l:List (Nat×(List D→Prop))) (i:Nat) (p:Nat×(List D→Prop)),l[i]?=some p→offD l (i+1)=offD l i+p.1
  | [],i,p,h=>by simp at h
  | q::r,0,p,h=>by
    simp only[List.getElem?_cons_zero,Option.some.injEq]at h
    subst h
    cases r<;>simp[offD]
  | q::r,i+1,p,h=>by
    have:=offD_succ r i p (by simpa using h)
    simp only[offD]at this ⊢
    omega
theorem opd_stm {t:TypeId} {fs:Array Field} {Gl:List (Nat×(List D→Prop))} (ht:P.underlying t=some (.struct fs)) (hc:P.cellsOf t=offD Gl fs.size) (hl:Gl.length=fs.size)
    (hf:∀(i:Nat) (f:Field) (p:Nat×(List D→Prop)),fs[i]?=some f→Gl[i]?=some p→f.offset=offD Gl i∧P.cellsOf f.type=p.1∧OpD enc P W base f.type p.2):OpD enc P W base t (Dm Gl):=by
  intro fuel cs x h
  obtain⟨xs,n,-,-,hcl,hxl,hx⟩:=DataW.trod_struct ht h
  rw[hc]at hcl
  have mono:∀k d,d+k≤fs.size→offD Gl d≤offD Gl (d+k):=by
    intro k
    induction k with
    | zero=>intro d _;exact Nat.le_refl _
    | succ k ihk =>
      intro d hk
      have:=ihk d (by omega)
      have e:Gl[d+k]?=some (Gl[d+k]'(by omega)):=List.getElem?_eq_getElem (by omega)
      have:=offD_succ Gl _ _ e
      rw[show d+(k+1)=d+k+1 by omega]
      omega
  have main:∀(d:Nat) (Gr:List (Nat×(List D→Prop))),Gl.drop d=Gr→d≤fs.size→∃as,ARs W as (cs.drop (offD Gl d))∧(∀v∈cs.drop (offD Gl d),v.oneCell'=true)∧Dm Gr as:=by
    intro d Gr
    induction Gr generalizing d with
    | nil =>
      intro hd hle
      have:d=fs.size:=by
        have:=congrArg List.length hd
        simp at this
        omega
      rw[this,List.drop_of_length_le (by omega)]
      exact⟨[],.nil,by simp,rfl⟩
    | cons p Gr ih =>
      intro hd hle
      have hdl:d<fs.size:=by
        have:=congrArg List.length hd
        simp at this
        omega
      have hGd:Gl[d]?=some p:=by
        have:=congrArg (·[0]?) hd
        simpa using this
      have hgr:Gl.drop (d+1)=Gr:=by
        have:=congrArg (List.drop 1) hd
        simpa using this
      obtain⟨as,a1,a3,a4⟩:=ih (d+1) hgr (by omega)
      have hfd:fs[d]?=some fs[d]:=Array.getElem?_eq_getElem hdl
      obtain⟨o1,o2,o3⟩:=hf d _ _ hfd hGd
      have hy:=hx d _ hfd
      rw[o1,o2]at hy
      rw[List.getElem?_eq_getElem (by omega)]at hy
      obtain⟨bs,b1,b3,b4⟩:=o3 _ _ _ hy
      have hs:=offD_succ Gl d p hGd
      have hm:=mono (fs.size-(d+1)) (d+1) (by omega)
      rw[show d+1+(fs.size-(d+1))=fs.size by omega]at hm
      rw[hs]at a1 a3
      have hdr:cs.drop (offD Gl d)=(cs.drop (offD Gl d)).take p.1++cs.drop (offD Gl d+p.1):=by
        rw[←List.drop_drop,List.take_append_drop]
      have hlen:bs.length=p.1:=by
        have:=b1.length
        simp only[List.length_take,List.length_drop]at this
        omega
      refine⟨bs++as,?_,fun v hv=>?_,bs,as,rfl,hlen,b4,a4⟩
      · rw[hdr];exact b1.append a1
      · rw[hdr]at hv
        rcases List.mem_append.1 hv with hv | hv
        · exact b3 v hv
        · exact a3 v hv
  obtain⟨as,a1,a3,a4⟩:=main 0 Gl rfl (by omega)
  have z:offD Gl 0=0:=by cases Gl<;>rfl
  rw[z]at a1 a3
  exact⟨as,a1,a3,a4⟩
theorem Dm.len:∀{Gl:List (Nat×(List D→Prop))} {as:List D},Dm Gl as→as.length=offD Gl Gl.length
  | [],as,h=>by rw[show as=[]from h];rfl
  | (n,G)::r,as,h=>by
    obtain⟨a,b,rfl,h1,-,h2⟩:=h
    have:=Dm.len h2
    simp only[List.length_append,List.length_cons,offD,h1,this]
/-- A struct as an argument. -/
theorem open_stD {r:Reach} {b0:Nat} {t:TypeId} {fs:Array Field} {v:Value} {d:DataW H} {ps:List MemPlace} {G:List D→Prop} (ht:P.underlying t=some (.struct fs)) (hG:OpD enc P W base t G) (hval:Value.okWide P W r b0 t v) (hd:DataW.Trod enc P W base (fun _=>true) true t v d ps) :
    ∃(as:List D) (cs:Array Value),v=.agg cs∧ARs W as cs.toList∧(∀v∈cs.toList,v.oneCell'=true)∧G as:=by
  simp only[Value.okWide,ht]at hval
  obtain⟨cs,rfl,-⟩:=hval
  obtain⟨fuel,hd⟩:=hd
  obtain⟨as,a1,a3,a4⟩:=hG _ _ _ hd
  simp only[Value.cells]at a1 a3
  exact⟨as,cs,rfl,a1,a3,a4⟩
end
theorem fdoesF {P:Go.Program} {gl:List Blk} {f:FuncId} {fn:Go.Func} {ir:C} {rs:List R} {h:List (List Nat)} {N:Nat} {l:List (FuncId×Summ)} {mf:List FuncId} {pre:List D→Prop} {F:List D→Out} {vf:List D→List V}
    (hm:P.follows .mixedOrders=true) (hgl:Plain gl) (hlen:gl.length=4) (hf:P.funcs[f]?=some fn) (hc:(fn.body.bind fun c=>comp P mf c h)=some (ir,[])) (hr:compR P fn.results.toList=some rs) (hN:fn.ntmps=N)
    (hl:∀p∈l,SumOK P gl p.1 p.2∧SumAbs p.2)
    (hw:∀ds,pre ds→(∀f,SumAbs (env l f))→awp (env l) (4+(injB true ds).length) ir (retQ rs fun v s=>out (4+(injB true ds).length) (F ds) v s.hp) ⟨asl (N+((vf ds).length-N)) (enumV 0 (vf ds)),gl++injB true ds⟩) :
    ∀ds,pre ds→Does P gl f (vf ds) (gl++injB true ds) (out (4+(injB true ds).length) (F ds)):=by
  intro ds hp
  obtain⟨c,hb,hc⟩:=Option.bind_eq_some_iff.1 hc
  subst hN
  have hA:=env_abs (l:=l) fun p hp=>(hl p hp).2
  have hw:=hw ds hp hA
  rw[←init_asl]at hw
  have hlg:(gl++injB true ds).length=4+(injB true ds).length:=by rw[List.length_append,hlen]
  rw[←hlg]at hw
  rw[←hlg]
  refine does_of (env_ok fun p hp=>(hl p hp).1) hA hm (fun B hB=>(hgl B hB).1) hf hb hc hr (fun B hB keep=>?_) (by rw[hlg];omega) hw
  rcases (hgl B hB).2 with rfl | ⟨ro,k,xs,rfl⟩<;>rfl
theorem law_atF {P:Program} {gl:List Blk} {f:FuncId} {ds:List D} {vs:Array Value} {W:World} {sh:List (Option Nat)} (hD:Does P gl f (fold sh (injV ds 4)) (gl++injB true ds) (out (4+(injB true ds).length) (FT ds)))
    (hG:GW W gl) (hA:AF W sh ds vs.toList):Calls P f vs W fun e W'=>e=.returned (.bool true)∧Kept (fun _ _=>False) W W':=by
  obtain⟨fl,h1,h2⟩:=hA
  exact(call_atV hD out_true hG h1 fun τ h=>h2 τ _ h).mono fun e W' ⟨v,σ,he,hv,hk⟩=>by
    cases hv
    exact⟨he,hk⟩
end Am
