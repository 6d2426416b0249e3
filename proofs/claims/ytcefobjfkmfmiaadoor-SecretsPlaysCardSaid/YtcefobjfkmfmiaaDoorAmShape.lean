/-
A law's arguments of any readable type, opened: numbers, truth values, strings, arrays of numbers, structs, slices of these.
-/
import Derived.Test.YtcefobjfkmfmiaaDoorAmRow
import Derived.ChangeArms
set_option linter.unusedSimpArgs false
set_option linter.unusedVariables false
set_option linter.unusedSectionVars false
namespace Am
open Go
section
variable {H : Type} {enc : TypeId × Value → H} {P : Program} {W : World} {base : Nat}

/-- What a type's cells are, read. -/
def Op (enc:TypeId×Value→H) (P:Program) (W:World) (base:Nat) (t:TypeId) (G:List V→Prop):Prop :=
  ∀fuel cs x,DataW.trod enc P W base (fun _=>true) true fuel t cs=some x→∃as:List V,VRs ⟨fun _=>none,statW W⟩ as cs∧pursR as=true∧(∀v∈cs,v.oneCell'=true)∧G as
theorem VRs_len {σ:Sg} {as:List V} {vs:List Value} (h:VRs σ as vs):as.length=vs.length:=h.length
theorem pursR_append:∀{a b:List V},pursR a=true→pursR b=true→pursR (a++b)=true
  | [],b,_,h=>h
  | x::a,b,h1,h2=>by
    simp only[pursR,Bool.and_eq_true,List.cons_append]at h1 ⊢
    exact⟨h1.1,pursR_append h1.2 h2⟩
theorem op_int {t:TypeId} {k:IntKind} (ht:P.underlying t=some (.int k)):Op enc P W base t (fun as=>∃n,as=[.int k n]∧(Lit.int k n).wf=true):=by
  intro fuel cs x h
  obtain⟨n,rfl,-,hw⟩:=DataW.trod_int ht h
  exact⟨[.int k n],.cons (.int k n) .nil,rfl,by simp[Value.oneCell'],n,rfl,hw⟩
theorem cells_at {w:World} {base n:Nat} {a:Addr} {cs:List Value} (h:w.cells? base a n=some cs):cs.length=n∧∀j,j<n→w.cell? (a.add j)=cs[j]?:=by
  unfold World.cells? at h
  split at h
  · refine⟨by simpa using Lib.mapM_length h,fun j hj=>?_⟩
    obtain⟨b,h1,h2⟩:=Lib.mapM_at h j j (by simp[hj])
    rw[h2,h1]
  · cases h
theorem add_add (a:Addr) (m n:Nat):(a.add m).add n=a.add (m+n):=by
  unfold Addr.add
  by_cases h1:m=0
  · subst h1;simp
  · by_cases h2:n=0
    · subst h2;simp[h1]
    · simp only[if_neg h1,if_neg h2,if_neg (show ¬m+n=0 by omega),Nat.add_assoc]
theorem stat_of {w:World} {a:Addr} {j:Nat} {v:Value} (h:w.cell? (a.add j)=some v) (hv:v.oneCell'=true):statW w a.block (a.off+j) v:=by
  unfold Addr.add at h
  split at h
  · rename_i e
    subst e
    unfold World.cell? at h
    split at h
    · rename_i c e' fr hh
      split at h
      · cases h
      · exact⟨⟨c,e',fr,hh,h⟩,hv⟩
    · cases h
  · unfold World.cell? at h
    simp only at h
    split at h
    · rename_i c e' fr hh
      split at h
      · cases h
      · exact⟨⟨c,e',fr,hh,h⟩,hv⟩
    · cases h
theorem spot_of {w:World} {a:Addr} {v:Value} (h:w.cell? (a.add 0)=some v):a=⟨a.block,a.off,none⟩:=by
  simp only[Addr.add,if_true]at h
  unfold World.cell? at h
  split at h
  · split at h
    · cases h
    · rename_i hs
      cases a with
      | mk b o s=>cases s<;>simp_all
  · cases h
/-- So many elements, one behind the other. -/
theorem elems_at {e:TypeId} {G:List V→Prop} (hG:Op enc P W base e G) {sz:Nat} (hsz:P.cellsOf e=sz) {a:Addr} {fuel:Nat}:∀n:Nat,(∀i,i<n→∃y,(W.cells? base (a.add (i*sz)) sz).bind (DataW.trod enc P W base (fun _=>true) true fuel e)=some y) →
    ∃(cs:List V) (vs:List Value),vs.length=n*sz∧VRs ⟨fun _=>none,statW W⟩ cs vs∧pursR cs=true∧(∀(j:Nat) v,vs[j]?=some v→statW W a.block (a.off+j) v∧W.cell? (a.add j)=some v)∧∀i,i<n→G (sub cs (i*sz) sz)
  | 0,_=>⟨[],[],by simp,.nil,rfl,by simp,by simp⟩
  | n+1,h=>by
    obtain⟨cs,vs,h1,h2,h3,h4,h5⟩:=elems_at hG hsz n fun i hi=>h i (by omega)
    obtain⟨y,hy⟩:=h n (by omega)
    rw[Option.bind_eq_some_iff]at hy
    obtain⟨us,hu,hy⟩:=hy
    obtain⟨hul,hua⟩:=cells_at hu
    obtain⟨as,g1,g2,g3,g4⟩:=hG _ _ _ hy
    have hal:as.length=sz:=by rw[VRs_len g1,hul]
    have hcl:cs.length=n*sz:=by rw[VRs_len h2,h1]
    refine⟨cs++as,vs++us,by simp[h1,hul,Nat.add_mul],h2.append g1,pursR_append h3 g2,fun j v hj=>?_,fun i hi=>?_⟩
    · by_cases hlt:j<vs.length
      · rw[List.getElem?_append_left hlt]at hj
        exact h4 j v hj
      · rw[List.getElem?_append_right (by omega)]at hj
        have hj2:j-vs.length<sz:=by
          have:=(List.getElem?_eq_some_iff.1 hj).1
          omega
        have:=hua (j-vs.length) hj2
        rw[hj,add_add,show n*sz+(j-vs.length)=j by omega]at this
        exact⟨stat_of this (g3 v (List.mem_of_getElem? hj)),this⟩
    · by_cases hin:i<n
      · have hle:i*sz+sz≤n*sz:=by
          have:=Nat.mul_le_mul_right sz (show i+1≤n by omega)
          rwa [Nat.add_mul,Nat.one_mul]at this
        have e:sub (cs++as) (i*sz) sz=sub cs (i*sz) sz:=by
          unfold sub
          rw[List.drop_append_of_le_length (by omega),List.take_append_of_le_length (by simp;omega)]
        rw[e]
        exact h5 i hin
      · have hin':i=n:=by omega
        subst hin'
        have e:sub (cs++as) (i*sz) sz=as:=by
          unfold sub
          rw[←hcl,List.drop_left,←hal,List.take_length]
        rw[e]
        exact g4
/-- A slice of elements of any readable type. -/
theorem op_sls {t e:TypeId} {G:List V→Prop} {sz:Nat} (ht:P.underlying t=some (.slice e)) (hG:Op enc P W base e G) (hsz:P.cellsOf e=sz) (hpos:0<sz) :
    Op enc P W base t (fun as=>as=[.nils]∨∃n cs,as=[.rcs sz n cs]∧cs.length=n*sz∧n≤maxLen∧∀i,i<n→G (sub cs (i*sz) sz)):=by
  intro fuel cs x h
  rcases DataW.trod_slice ht h with ⟨rfl,-⟩ | ⟨a,len,cap,elems,rest,m,-,rfl,-,-,hl,hm,hlen,hel,hsp,-⟩
  · exact⟨[.nils],.cons .nils .nil,rfl,by simp[Value.oneCell'],.inl rfl⟩
  · obtain⟨hrl,hr⟩:=hsp rfl
    have each:∀i,i<cap→∃y,(W.cells? base (a.add (i*sz)) sz).bind (DataW.trod enc P W base (fun _=>true) true m e)=some y:=by
      intro i hi
      by_cases h1:i<len
      · have:=hel i h1
        rw[hsz]at this
        exact⟨elems[i],by rw[this];exact List.getElem?_eq_getElem (by omega)⟩
      · have:=hr (i-len) (by omega)
        rw[hsz,show len+(i-len)=i by omega]at this
        exact⟨rest[i-len],by rw[this];exact List.getElem?_eq_getElem (by omega)⟩
    obtain⟨cs,vs,h1,h2,h3,h4,h5⟩:=elems_at hG hsz len fun i hi=>each i (by omega)
    refine⟨[.rcs sz len cs],.cons (.rcs (blk:=a.block) (off:=a.off) (by rw[VRs_len h2,h1]) hl (fun hc=>?_) h3 h2 fun j v hj=>(h4 j v hj).1) .nil,by simp[pursR,purR,h3],by simp[Value.oneCell'],.inr ⟨len,cs,rfl,by rw[VRs_len h2,h1],by omega,h5⟩⟩
    obtain⟨y,hy⟩:=each 0 hc
    rw[Option.bind_eq_some_iff]at hy
    obtain⟨us,hu,-⟩:=hy
    obtain⟨hul,hua⟩:=cells_at hu
    have:=hua 0 hpos
    rw[Nat.zero_mul,add_add]at this
    rw[List.getElem?_eq_getElem (by omega)]at this
    rw[←spot_of this]
/-- A slice of numbers. -/
theorem op_sl {t e:TypeId} {k:IntKind} (ht:P.underlying t=some (.slice e)) (he:P.underlying e=some (.int k)) (hsz:P.cellsOf e=1) :
    Op enc P W base t (fun as=>as=[.nils]∨∃xs,as=[.rsl 1 xs.length k xs]∧xs.length≤maxLen∧∀x∈xs,(Lit.int k x).wf=true):=by
  intro fuel cs x h
  rcases DataW.trod_slice ht h with ⟨rfl,-⟩ | ⟨a,len,cap,elems,rest,m,-,rfl,-,-,hl,hm,hlen,hel,hsp,-⟩
  · exact⟨[.nils],.cons .nils .nil,rfl,by simp[Value.oneCell'],.inl rfl⟩
  · obtain⟨hrl,hr⟩:=hsp rfl
    have each:∀i,i<cap→∃y,(W.cells? base (a.add (i*1)) 1).bind (DataW.trod enc P W base (fun _=>true) true m e)=some y:=by
      intro i hi
      by_cases h1:i<len
      · have:=hel i h1
        rw[hsz]at this
        exact⟨elems[i],by rw[this];exact List.getElem?_eq_getElem (by omega)⟩
      · have:=hr (i-len) (by omega)
        rw[hsz,show len+(i-len)=i by omega]at this
        exact⟨rest[i-len],by rw[this];exact List.getElem?_eq_getElem (by omega)⟩
    obtain⟨cs,vs,h1,h2,h3,h4,h5⟩:=elems_at (op_int he) hsz len fun i hi=>each i (by omega)
    rw[Nat.mul_one]at h1
    have hcl:cs.length=len:=by rw[VRs_len h2,h1]
    let xs:List Int:=cs.map fun v=>match v with | .int _ n=>n | _=>0
    have hat:∀i,i<len→∃n,cs[i]?=some (.int k n)∧xs[i]?=some n∧(Lit.int k n).wf=true:=by
      intro i hi
      obtain⟨n,hn,hw⟩:=h5 i hi
      have e:cs[i]?=some (.int k n):=by
        have:=congrArg (·[0]?) hn
        simpa[sub,List.getElem?_take,List.getElem?_drop]using this
      exact⟨n,e,by simp[xs,e],hw⟩
    have hxl:xs.length=len:=by simp[xs,hcl]
    have hcs:cs=xs.map (.int k):=by
      apply List.ext_getElem?
      intro i
      by_cases hi:i<len
      · obtain⟨n,e1,e2,-⟩:=hat i hi
        rw[e1,List.getElem?_map,e2];rfl
      · rw[List.getElem?_eq_none (by omega),List.getElem?_eq_none (by simp;omega)]
    rw[hcs]at h2
    have hvs:=VRs_ints h2
    refine⟨[.rsl 1 xs.length k xs],.cons ?_ .nil,rfl,by simp[Value.oneCell'],.inr ⟨xs,rfl,by omega,fun n hn=>?_⟩⟩
    · rw[hxl]
      refine .rsl (blk:=a.block) (off:=a.off) (by omega) hl (fun hc=>?_) fun j n hj=>(h4 j _ ?_).1
      · obtain⟨y,hy⟩:=each 0 hc
        rw[Option.bind_eq_some_iff]at hy
        obtain⟨us,hu,-⟩:=hy
        obtain⟨hul,hua⟩:=cells_at hu
        have:=hua 0 (by omega)
        rw[Nat.zero_mul,add_add]at this
        rw[List.getElem?_eq_getElem (by omega)]at this
        rw[←spot_of this]
      · rw[hvs];simp[hj]
    · obtain⟨i,hi⟩:=List.getElem?_of_mem hn
      have hlt:=(List.getElem?_eq_some_iff.1 hi).1
      obtain⟨m',-,e2,hw⟩:=hat i (by omega)
      rw[hi]at e2
      obtain rfl:=Option.some.inj e2
      exact hw
/-- A struct whose fields have one cell each. -/
def Gs:List (List V→Prop)→List V→Prop
  | [],as=>as=[]
  | G::Gr,as=>∃a r,as=a::r∧G [a]∧Gs Gr r
theorem op_st {t:TypeId} {fs:Array Field} {Gl:List (List V→Prop)} (ht:P.underlying t=some (.struct fs)) (hc:P.cellsOf t=fs.size) (hf:∀(i:Nat) (f:Field),fs[i]?=some f→f.offset=i∧P.cellsOf f.type=1) (hl:Gl.length=fs.size)
    (hG:∀(i:Nat) (f:Field) (G:List V→Prop),fs[i]?=some f→Gl[i]?=some G→Op enc P W base f.type G):Op enc P W base t (Gs Gl):=by
  intro fuel cs x h
  obtain⟨xs,n,-,-,hcl,hxl,hx⟩:=DataW.trod_struct ht h
  have main:∀(d:Nat) (Gr:List (List V→Prop)),Gl.drop d=Gr→d≤fs.size→∃as,VRs ⟨fun _=>none,statW W⟩ as (cs.drop d)∧pursR as=true∧(∀v∈cs.drop d,v.oneCell'=true)∧Gs Gr as:=by
    intro d Gr
    induction Gr generalizing d with
    | nil =>
      intro hd hle
      have:d=fs.size:=by
        have:=congrArg List.length hd
        simp at this
        omega
      rw[List.drop_of_length_le (by omega)]
      exact⟨[],.nil,rfl,by simp,rfl⟩
    | cons G Gr ih =>
      intro hd hle
      have hdl:d<fs.size:=by
        have:=congrArg List.length hd
        simp at this
        omega
      have hGd:Gl[d]?=some G:=by
        have:=congrArg (·[0]?) hd
        simpa using this
      have hgr:Gl.drop (d+1)=Gr:=by
        have:=congrArg (List.drop 1) hd
        simpa using this
      obtain⟨as,a1,a2,a3,a4⟩:=ih (d+1) hgr (by omega)
      have hfd:fs[d]?=some fs[d]:=Array.getElem?_eq_getElem hdl
      obtain⟨o1,o2⟩:=hf d _ hfd
      have hy:=hx d _ hfd
      rw[o1,o2]at hy
      rw[List.getElem?_eq_getElem (by omega)]at hy
      obtain⟨bs,b1,b2,b3,b4⟩:=hG d _ G hfd hGd _ _ _ hy
      have hdr:cs.drop d=cs[d]::cs.drop (d+1):=List.drop_eq_getElem_cons (by omega)
      have ht1:(cs.drop d).take 1=[cs[d]]:=by rw[hdr];rfl
      rw[ht1]at b1 b3
      cases b1 with
      | @cons a0 v0 l0 m0 hv hr =>
        cases hr
        rw[hdr]
        refine⟨a0::as,.cons hv a1,?_,?_,a0,as,rfl,b4,a4⟩
        · simp only[pursR,Bool.and_eq_true]at b2 ⊢
          exact⟨b2.1,a2⟩
        · intro v hv'
          rcases List.mem_cons.1 hv' with rfl | hv'
          · exact b3 _ (by simp)
          · exact a3 v hv'
  exact main 0 Gl rfl (by omega)
def GInt (k:IntKind) (as:List V):Prop:=∃n,as=[.int k n]∧(Lit.int k n).wf=true
/-- A slice as an argument. -/
theorem open_sls {r:Reach} {b0:Nat} {t e:TypeId} {v:Value} {d:DataW H} {ps:List MemPlace} {G:List V→Prop} (ht:P.underlying t=some (.slice e)) (hG:Op enc P W base t G) (hval:Value.okWide P W r b0 t v) (hd:DataW.Trod enc P W base (fun _=>true) true t v d ps):∃a,AR W (.v a) v∧G [a]:=by
  obtain⟨a,len,cap,rfl⟩:=WideShapes.okWide_slice ht hval
  obtain⟨fuel,hd⟩:=hd
  obtain⟨as,a1,a2,a3,a4⟩:=hG _ _ _ hd
  simp only[Value.cells]at a1
  cases a1 with
  | cons hv hr =>
    cases hr
    refine⟨_,.v hv ?_,a4⟩
    simpa[pursR]using a2
end
end Am
/-
Slices as arguments, none of which is nil: a nil one reads as one of no cells.
-/
namespace Am
open Go
section
variable {H : Type} {enc : TypeId × Value → H} {P : Program} {W : World} {base : Nat}
def GSr (k:IntKind) (as:List V):Prop:=∃xs,as=[.rsl 1 xs.length k xs]∧xs.length≤maxLen∧∀x∈xs,(Lit.int k x).wf=true
theorem op_slr {t e:TypeId} {k:IntKind} (ht:P.underlying t=some (.slice e)) (he:P.underlying e=some (.int k)) (hc:P.cellsOf e=1):Op enc P W base t (GSr k):=by
  intro fuel cs x h
  obtain⟨as,h1,h2,h3,h4⟩:=op_sl ht he hc fuel cs x h
  rcases h4 with rfl | h4
  · cases h1 with
    | cons q t =>
      cases t
      cases q
      exact⟨[.rsl 1 0 k []],.cons (.rsl (blk:=0) (off:=0) rfl (Nat.le_refl _) (by simp) (by simp)) .nil,rfl,h3,[],rfl,by simp,by simp⟩
  · exact⟨as,h1,h2,h3,h4⟩
def GSlr (sz:Nat) (G:List V→Prop) (as:List V):Prop:=∃n cs,as=[.rcs sz n cs]∧cs.length=n*sz∧n≤maxLen∧∀i,i<n→G (sub cs (i*sz) sz)
theorem op_slsr {t e:TypeId} {sz:Nat} {G:List V→Prop} (ht:P.underlying t=some (.slice e)) (hG:Op enc P W base e G) (hsz:P.cellsOf e=sz) (h0:0<sz):Op enc P W base t (GSlr sz G):=by
  intro fuel cs x h
  obtain⟨as,h1,h2,h3,h4⟩:=op_sls ht hG hsz h0 fuel cs x h
  rcases h4 with rfl | h4
  · cases h1 with
    | cons q t =>
      cases t
      cases q
      exact⟨[.rcs sz 0 []],.cons (.rcs (blk:=0) (off:=0) (by simp) (Nat.le_refl _) (by simp) rfl .nil (by simp)) .nil,rfl,h3,0,[],rfl,by simp,by simp,fun i hi=>by omega⟩
  · exact⟨as,h1,h2,h3,h4⟩
end
end Am
