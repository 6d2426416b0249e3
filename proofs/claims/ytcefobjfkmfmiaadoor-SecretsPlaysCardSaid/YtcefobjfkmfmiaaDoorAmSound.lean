/-
Code: what the abstract machine shows, the model's does; functions.
-/
import Derived.Test.YtcefobjfkmfmiaaDoorAmExec
set_option linter.unusedSimpArgs false
set_option linter.unusedVariables false
set_option linter.unusedSectionVars false
namespace Am
open Go (IntKind BinOp UnOp Value FuncId TypeId World Program Oper Op Operand Code Func ResultVar Addr Obj Act Exit Sem Result Next execOp Ending Calls wpList yielded wpAny wpOp)

def Ex.to:Ex→Exit
  | .normal=>.normal
  | .exit i=>.exit i
  | .ret=>.ret

theorem kill_len:∀(d:List Nat) (sl:List V),(kill d sl).length=sl.length
  | [],sl=>rfl
  | t::r,sl=>by simp[kill,kill_len r,upd_set]
theorem nth_kill:∀(d:List Nat) (sl:List V) (t:Nat),nth (kill d sl) t=nth sl t∨nth (kill d sl) t=.undef
  | [],sl,t=>.inl rfl
  | u::r,sl,t=>by
    simp only[kill]
    rcases nth_kill r (upd sl u .undef) t with h | h
    · rw[h,nth_upd]
      split
      · exact .inr rfl
      · exact .inl rfl
    · exact .inr h
theorem StOK.kill {Own:Nat→Nat→Prop} {gl:List Blk} {σ:Sg} {s:St} {a:Act} {w:World} (h:StOK Own gl σ s a w) (d:List Nat):StOK Own gl σ ⟨Am.kill d s.sl,s.hp⟩ a w :=
  ⟨h.sim,h.glob,⟨by rw[kill_len];exact h.sr.len,fun t=>by
    rcases nth_kill d s.sl t with e | e
    · simp only[e];exact h.sr.get t
    · simp only[e];exact .undef _⟩,h.defers,h.dom,h.ro⟩

theorem posOf_get:∀{l:List Nat} {b c:Nat},posOf l b=some c→l[c]?=some b
  | [],b,c,h=>by simp[posOf]at h
  | a::r,b,c,h=>by
    simp only[posOf]at h
    cases hab:Nat.beq a b with
    | true =>
      simp only[hab]at h
      have:=Nat.eq_of_beq_eq_true hab
      cases h;subst this;simp
    | false =>
      simp only[hab]at h
      cases hr:posOf r b with
      | none=>simp[hr]at h
      | some n =>
        simp only[hr,Option.some.injEq]at h
        subst h
        simpa using posOf_get hr
/-- Where the blocks that are kept lie. -/
def Sg.gc (keep:List Nat) (σ:Sg):Sg:=⟨fun b=>(keep[b]?).bind σ.loc,σ.stat⟩
theorem Sg.gc_pos {keep:List Nat} {σ:Sg} {b c:Nat} (h:posOf keep b=some c):Sg.gc keep σ c=σ b:=by
  simp[Sg.gc,posOf_get h]
mutual
theorem VR.gc {σ:Sg} (keep:List Nat):∀{a:V} {v:Value},VR σ a v→VR (Sg.gc keep σ) (gcV keep a) v
  | _,_,.undef v=>by simpa[gcV]using VR.undef v
  | _,_,.bool b=>by simpa[gcV]using VR.bool b
  | _,_,.int k n=>by simpa[gcV]using VR.int k n
  | _,_,.str s=>by simpa[gcV]using VR.str s
  | _,_,.ptr (b:=b) h=>by
    simp only[gcV]
    cases hp:posOf keep b with
    | none=>exact .undef _
    | some c=>exact .ptr (by rw[Sg.gc_pos hp];exact h)
  | _,_,.nilp=>by simpa[gcV]using VR.nilp
  | _,_,.slice (b:=b) h hl hc hb ha=>by
    simp only[gcV]
    cases hp:posOf keep b with
    | none=>exact .undef _
    | some c=>exact .slice (by rw[Sg.gc_pos hp];exact h) hl hc hb ha
  | _,_,.nils=>by simpa[gcV]using VR.nils
  | _,_,.fn h=>by simpa[gcV]using VR.fn (VRs.gc keep h)
  | _,_,.nilfn=>by simpa[gcV]using VR.nilfn
  | _,_,.mth=>by simpa[gcV]using VR.mth
  | _,_,.iface h=>by simpa[gcV]using VR.iface (VR.gc keep h)
  | _,_,.nili=>by simpa[gcV]using VR.nili
  | _,_,.ints k xs=>by simpa[gcV]using VR.ints k xs
  | _,_,.agg h h1=>by simpa[gcV]using VR.agg (VRs.gc keep h) h1
  | _,_,.tup h=>by simpa[gcV]using VR.tup (VRs.gc keep h)
  | _,_,.rsl hn hl ha hx=>by simpa[gcV]using VR.rsl (σ:=Sg.gc keep σ) hn hl ha hx
  | _,_,.rcs hn hl ha hp hv hx=>by simpa[gcV]using VR.rcs (σ:=Sg.gc keep σ) hn hl ha hp (VRs.purR (σ:=σ) (τ:=Sg.gc keep σ) (fun _ _ _ h=>h) hv hp) hx
  | _,_,.rpi hx=>by simpa[gcV]using VR.rpi (σ:=Sg.gc keep σ) hx
  | _,_,.rpc hp hv hx=>by simpa[gcV]using VR.rpc (σ:=Sg.gc keep σ) hp (VRs.purR (σ:=σ) (τ:=Sg.gc keep σ) (fun _ _ _ h=>h) hv hp) hx
theorem VRs.gc {σ:Sg} (keep:List Nat):∀{l:List V} {m:List Value},VRs σ l m→VRs (Sg.gc keep σ) (gcVs keep l) m
  | _,_,.nil=>by simpa[gcVs]using VRs.nil
  | _,_,.cons h t=>by simpa[gcVs]using VRs.cons (VR.gc keep h) (VRs.gc keep t)
end
theorem gcVs_map (keep:List Nat):∀l:List V,gcVs keep l=l.map (gcV keep)
  | []=>by simp[gcVs]
  | a::l=>by simp[gcVs,gcVs_map keep l]
theorem gcB_vs (keep:List Nat) (B:Blk):(gcB keep B).vs=B.vs.map (gcV keep):=by
  cases B with
  | dead=>simp[gcB,Blk.vs]
  | ints ro k xs=>simp[gcB,Blk.vs,gcV]
  | cells ro cs=>simp[gcB,Blk.vs,gcVs_map]
theorem gcB_live (keep:List Nat) (B:Blk):(gcB keep B).live=B.live:=by cases B<;>rfl
theorem gcB_wr (keep:List Nat) (B:Blk):(gcB keep B).wr=B.wr:=by cases B with | cells ro cs=>cases ro<;>rfl | ints ro k xs=>cases ro<;>rfl | dead=>rfl
theorem gcH_map (keep:List Nat) (hp:List Blk):∀l:List Nat,gcH keep hp l=l.map fun b=>gcB keep (nthB hp b)
  | []=>rfl
  | b::l=>by simp[gcH,gcH_map keep hp l]
theorem nth_gcVs (keep:List Nat) (l:List V) (t:Nat):nth (gcVs keep l) t=gcV keep (nth l t):=by
  rw[gcVs_map,nth_get,nth_get,List.getElem?_map]
  cases l[t]?<;>simp[gcV]
theorem Weak.refl (m:Nat) (s:St):Weak m s s:=.inl rfl
theorem Weak.of (keep:List Nat) {m:Nat} {s s':St} (h1:keep.take m=List.range m) (h2:keep.Nodup) (h3:∀b∈keep,b<s.hp.length) (h:s'=gc keep s):Weak m s s':=.inr ⟨keep,h1,h2,h3,h⟩
theorem Weak.ok {Own:Nat→Nat→Prop} {gl:List Blk} {σ0 σ:Sg} {w0 w:World} {m:Nat} {s s':St} {a:Act} (hw:Weak m s s') (hgl:∀B∈gl,∀keep,gcB keep B=B) (hm:4≤m) (h0:∀b,m≤b→σ0 b=none)
    (hst:StOK Own gl σ s a w) (hk:Since Own σ0 w0 σ w):∃σ',StOK Own gl σ' s' a w∧Since Own σ0 w0 σ' w:=by
  rcases hw with rfl | ⟨keep,h1,h2,h3,rfl⟩
  · exact⟨σ,hst,hk⟩
  · have hlow:∀b,b<m→keep[b]?=some b:=by
      intro b hb
      have:(keep.take m)[b]?=some b:=by rw[h1,List.getElem?_range hb]
      rwa [List.getElem?_take,if_pos hb]at this
    have hσ:∀b,b<m→Sg.gc keep σ b=σ b:=fun b hb=>by simp[Sg.gc,hlow b hb]
    have hget:∀b c,keep[b]?=some c→nthB (gcH keep s.hp keep) b=gcB keep (nthB s.hp c):=by
      intro b c hb
      rw[gcH_map,nthB_get,List.getElem?_map,hb];rfl
    refine⟨Sg.gc keep σ,⟨⟨fun b l hb=>?_,fun b b' l l' hne hb hb' hwr hlv=>?_,hst.sim.new,fun k j v hsv=>⟨(hst.sim.stat k j v hsv).1,(hst.sim.stat k j v hsv).2.1,fun b l hb hwr=>?_⟩⟩,⟨fun g hg=>?_,?_⟩,⟨by simp[gc,gcVs_map,hst.sr.len],fun t=>?_⟩,hst.defers,fun b hb=>?_,hst.ro⟩,hk.kept,⟨fun b l hb=>?_,hk.ext.stat⟩⟩
    · simp only[Sg.gc,Option.bind_eq_some_iff]at hb
      obtain⟨c,hc,hl⟩:=hb
      have hbk:=hst.sim.blk c l hl
      simp only[gc,hget b c hc]
      refine⟨by rw[gcB_vs];simpa using hbk.len,fun hlv hs=>?_⟩
      rw[gcB_live]at hlv
      obtain⟨cs,e,fr,k1,k2,k3,k4⟩:=hbk.row hlv hs
      refine⟨cs,e,fr,k1,k2,fun j x hx=>?_,fun hwr=>k4 (by rwa [gcB_wr]at hwr)⟩
      rw[gcB_vs,List.getElem?_map,Option.map_eq_some_iff]at hx
      obtain⟨y,hy,rfl⟩:=hx
      obtain⟨v,hv,hr,ho⟩:=k3 j y hy
      exact⟨v,hv,hr.gc keep,ho⟩
    · simp only[Sg.gc,Option.bind_eq_some_iff]at hb hb'
      obtain⟨c,hc,hl⟩:=hb
      obtain⟨c',hc',hl'⟩:=hb'
      simp only[gc,hget b c hc,gcB_wr]at hwr
      simp only[gc,hget b' c' hc',gcB_live]at hlv
      refine hst.sim.excl c c' l l' (fun e=>hne ?_) hl hl' hwr hlv
      subst e
      have i1:=(List.getElem?_eq_some_iff.1 hc)
      have i2:=(List.getElem?_eq_some_iff.1 hc')
      obtain⟨p1,q1⟩:=i1
      obtain⟨p2,q2⟩:=i2
      exact(List.getElem_inj h2).1 (q1.trans q2.symm)
    · simp only[Sg.gc,Option.bind_eq_some_iff]at hb
      obtain⟨c,hc,hl⟩:=hb
      simp only[gc,hget b c hc,gcB_wr]at hwr
      exact(hst.sim.stat k j v hsv).2.2 c l hl hwr
    · obtain⟨l,hl,hr⟩:=hst.glob.at_ g hg
      exact⟨l,by rw[hσ g (by omega)];exact hl,hr⟩
    · have hlen:m≤keep.length:=by
        have:=congrArg List.length h1
        simp at this;omega
      have hgis:=hst.glob.is
      apply List.ext_getElem?
      intro i
      rcases Nat.lt_or_ge i 4 with hi | hi
      · have hi':=hlow i (by omega)
        have hb3:=h3 i (List.mem_of_getElem? hi')
        have hgi:gl[i]?=some (nthB s.hp i):=by
          rw[←hgis,List.getElem?_take,if_pos hi,nthB_get,List.getElem?_eq_getElem hb3];rfl
        rw[List.getElem?_take,if_pos hi,hgi]
        simp only[gc,gcH_map,List.getElem?_map,hi',Option.map_some]
        rw[hgl _ (List.mem_of_getElem? hgi)]
      · rw[List.getElem?_take,if_neg (by omega)]
        have:gl.length≤4:=by rw[←hgis];simp;omega
        rw[List.getElem?_eq_none (by omega)]
    · simp only[gc,nth_gcVs]
      exact(hst.sr.get t).gc keep
    · simp only[gc,gcH_map,List.length_map]at hb
      simp[Sg.gc,List.getElem?_eq_none hb]
    · have hb':b<m:=by
        rcases Nat.lt_or_ge b m with h | h
        · exact h
        · rw[h0 b h]at hb;simp at hb
      rw[hσ b hb']
      exact hk.ext.loc b l hb

section
variable {P : Program} {Own : Nat → Nat → Prop} {gl : List Blk} {S : FuncId → Summ} {mf : List FuncId} {σ0 : Sg} {w0 : World}

theorem op_sound {ops:Array Oper} {Qw:Exit→Act→World→Prop} {F:St→Prop} {N:Act→World→Prop} (hS:∀f,SumOK P gl f (S f)) (σ0:Sg) (w0:World) (hQ:∀σ s a w,StOK Own gl σ s a w→Since Own σ0 w0 σ w→F s→N a w)
    {i:Nat} {o:Oper} {g:G} {σ:Sg} {s:St} {a:Act} {w:World} (ho:ops[i]?=some o) (hg:compG P mf ops o=some g) (hst:StOK Own gl σ s a w) (hk:Since Own σ0 w0 σ w) (h:run S [g] s F):wpOp P ops Qw i N a w:=by
  unfold compG at hg
  obtain⟨ii,hi,hg⟩:=Option.bind_eq_some_iff.1 hg
  have doit:exec S (ev s.sl) s.hp ii (fun e=>F ⟨put s.sl o.dst e.v,apN (apS s.hp e.st) e.nw⟩)→o.wp P a w N Qw:=by
    intro hx
    obtain⟨e,hr,hd⟩:=exec_good (Q:=Qw) hi hS hst.sim hst.glob (rho_ok hst.sr hst.glob) (fun e _ j hj=>hst.dom _ (by omega)) hx
    refine Go.Oper.wp_mono (fun a' w' ⟨v',σ',ha',hp'⟩=>?_) hd
    subst ha'
    exact hQ σ' _ _ _ (hst.step hp') (hk.step hst.sim hp') hr
  unfold wpOp
  rw[ho]
  simp only[]
  cases hgd:o.guard with
  | none =>
    simp only[hgd,Option.some.injEq]at hg
    subst hg
    simp only[run]at h
    rw[if_pos (by simp[Go.Region.wanted,hgd])]
    exact .inl (doit h)
  | some jw =>
    obtain⟨j,want⟩:=jw
    simp only[hgd]at hg
    obtain⟨t,ht,rfl⟩:=Option.map_eq_some_iff.1 hg
    obtain⟨w1,w2⟩:=wanted_of hgd ht hst.sr
    simp only[run]at h
    cases hn:nth s.sl t<;>simp only[hn]at h<;>try exact h.elim
    case bool b =>
      have hw:=w1 b hn
      by_cases hbw:b=want
      · subst hbw
        rw[if_pos (by rw[hw];simp)]
        exact .inl (doit (h.1 rfl))
      · rw[if_neg (by rw[hw];simpa using hbw)]
        have hb2:b=!want:=by cases b<;>cases want<;>simp_all
        exact hQ σ _ _ _ hst.skip hk (h.2 hb2)
    case tup vs =>
      cases vs with
      | nil =>
        rw[if_neg (by rw[w2 hn];simp)]
        exact hQ σ _ _ _ hst.skip hk h
      | cons=>simp at h
theorem alts_mem {m:Nat} {Q:Ex→St→Prop} {s:St}:∀{l:List (Option C)} {c:C},alts l=some c→awp S m c Q s→∀x∈l,∃d,x=some d∧awp S m d Q s
  | [],_,h,_,_,_=>by simp[alts]at h
  | [y],c,h,hw,x,hx=>by
    simp only[List.mem_singleton]at hx
    subst hx
    exact⟨c,h,hw⟩
  | y::z::r,c,h,hw,x,hx=>by
    simp only[alts]at h
    obtain⟨a,ha,h⟩:=Option.bind_eq_some_iff.1 h
    obtain⟨b,hb,rfl⟩:=Option.map_eq_some_iff.1 h
    rcases List.mem_cons.1 hx with rfl | hx
    · exact⟨a,ha,hw.1⟩
    · exact alts_mem hb hw.2 x hx
theorem orders_sound {m:Nat} {ops:Array Oper} {gs:List G} {Q:Ex→St→Prop} {Qw:Exit→Act→World→Prop} (hS:∀f,SumOK P gl f (S f)) (hc:compGs P mf ops ops.toList=some gs)
    (hQ:∀σ s a w,StOK Own gl σ s a w→Since Own σ0 w0 σ w→Q .normal s→Qw .normal a w) :
    ∀(n:Nat) (lst:Array Bool) (c:C) (σ:Sg) (s:St) (a:Act) (w:World),orders ops gs n lst=some c→StOK Own gl σ s a w→Since Own σ0 w0 σ w→awp S m c Q s→wpAny P .any ops Qw n lst a w:=by
  intro n
  induction n with
  | zero =>
    intro lst c σ s a w h hst hk hw
    simp only[orders]at h
    split at h
    · rename_i he
      cases h
      exact⟨List.isEmpty_iff.1 he,hQ σ s a w hst hk hw⟩
    · cases h
  | succ n ih =>
    intro lst c σ s a w h hst hk hw
    simp only[orders]at h
    cases hr:Go.Region.ready .any ops lst with
    | nil =>
      rw[hr]at h
      cases h
      exact⟨fun _=>hQ σ s a w hst hk hw,fun i hi=>by rw[hr]at hi;simp at hi⟩
    | cons i0 r =>
      rw[hr]at h
      refine⟨fun he=>(by rw[hr]at he;cases he),fun i hi=>?_⟩
      rw[hr]at hi
      obtain⟨d,hd,hw⟩:=alts_mem h hw _ (List.mem_map.2 ⟨i,hi,rfl⟩)
      obtain⟨g,hg,hd⟩:=Option.bind_eq_some_iff.1 hd
      obtain⟨c',hc',rfl⟩:=Option.map_eq_some_iff.1 hd
      have hlt:i<ops.size:=by
        have:=(List.getElem?_eq_some_iff.1 hg).1
        rw[(compGs_get hc).1]at this
        simpa using this
      have ho:=Array.getElem?_eq_getElem hlt
      obtain⟨g',hg',hcg⟩:=(compGs_get hc).2 (i:=i) (o:=ops[i]) (by simp)
      rw[hg]at hg'
      cases hg'
      exact op_sound hS σ0 w0 (F:=awp S m c' Q) (fun σ' s' a' w' h1 h2 h3=>ih _ c' σ' s' a' w' hc' h1 h2 h3) ho hcg hst hk hw
theorem awp_sound {m:Nat} (hS:∀f,SumOK P gl f (S f)) (hA:∀f,SumAbs (S f)) (hm:P.follows .mixedOrders=true) (hgl:∀B∈gl,∀keep,gcB keep B=B) (hm4:4≤m) (h0:∀b,m≤b→σ0 b=none) :
    ∀(code:Code) (h:List (List Nat)) (c:C) (h':List (List Nat)),comp P mf code h=some (c,h')→∀(σ:Sg) (s:St) (a:Act) (w:World) (Q:Ex→St→Prop) (Qw:Exit→Act→World→Prop),
      StOK Own gl σ s a w→Since Own σ0 w0 σ w→awp S m c Q s→(∀e σ' s' a' w',StOK Own gl σ' s' a' w'→Since Own σ0 w0 σ' w'→Q e s'→Qw e.to a' w')→code.wp P Qw a w:=by
  intro code
  induction code with
  | skip =>
    intro h c h' hc σ s a w Q Qw hst hk hw hQ
    simp[comp]at hc
    obtain⟨rfl,-⟩:=hc
    exact Go.wp_skip (hQ .normal σ s a w hst hk hw)
  | region id ops draw =>
    intro h c h' hc σ s a w Q Qw hst hk hw hQ
    simp only[comp]at hc
    obtain⟨gs,hgs,hc⟩:=Option.bind_eq_some_iff.1 hc
    cases draw with
    | true =>
      simp only[if_true]at hc
      cases hchk:drawChk ops gs with
      | some chk =>
        rw[hchk]at hc
        simp only[Option.some.injEq,Prod.mk.injEq]at hc
        obtain⟨rfl,-⟩:=hc
        exact run_any (F:=Q .normal) hS hA hm (fun σ' s' a' w' h1 h2 h3=>hQ .normal σ' s' a' w' h1 h2 h3) hgs hchk hst hk hw
      | none =>
        rw[hchk]at hc
        simp only[]at hc
        split at hc
        · obtain⟨c',hc',hc⟩:=Option.map_eq_some_iff.1 hc
          simp only[Prod.mk.injEq]at hc
          obtain⟨rfl,-⟩:=hc
          exact Go.wp_region_any hm (orders_sound hS hgs (fun σ' s' a' w' h1 h2 h3=>hQ .normal σ' s' a' w' h1 h2 h3) _ _ _ σ s a _ hc' hst.drew ⟨hk.kept.trans (Kept.drew _ _),hk.ext⟩ hw)
        · cases hc
    | false =>
      simp at hc
      obtain⟨rfl,-⟩:=hc
      refine Go.wp_region ?_
      have:=Go.wpOps_eq_wpList (P:=P) (ops:=ops) (Q:=Qw) ops.toList 0 (fun j=>by simp)
      rw[←List.range_eq_range']at this
      simp only[Array.length_toList]at this
      rw[this]
      exact run_sound (F:=Q .normal) hS σ0 w0 (fun σ' s' a' w' h1 h2 h3=>hQ .normal σ' s' a' w' h1 h2 h3) _ _ σ s a w hgs hst hk hw
  | seq x y ihx ihy =>
    intro h c h' hc σ s a w Q Qw hst hk hw hQ
    simp only[comp]at hc
    obtain⟨⟨cx,h1⟩,hx,hc⟩:=Option.bind_eq_some_iff.1 hc
    obtain⟨⟨cy,h2⟩,hy,hc⟩:=Option.map_eq_some_iff.1 hc
    simp only[Prod.mk.injEq]at hc
    obtain⟨rfl,-⟩:=hc
    refine Go.wp_seq (ihx _ _ _ hx σ s a w _ _ hst hk hw fun e σ' s' a' w' k1 k2 k3=>?_)
    cases e with
    | normal=>exact ihy _ _ _ hy σ' s' a' w' _ _ k1 k2 k3 hQ
    | exit i=>exact hQ (.exit i) σ' s' a' w' k1 k2 k3
    | ret=>exact hQ .ret σ' s' a' w' k1 k2 k3
  | cond x y z ihy ihz =>
    intro h c h' hc σ s a w Q Qw hst hk hw hQ
    simp only[comp]at hc
    obtain⟨cx,hx,hc⟩:=Option.bind_eq_some_iff.1 hc
    obtain⟨⟨cy,h1⟩,hy,hc⟩:=Option.bind_eq_some_iff.1 hc
    obtain⟨⟨cz,h2⟩,hz,hc⟩:=Option.map_eq_some_iff.1 hc
    simp only[Prod.mk.injEq]at hc
    obtain⟨rfl,-⟩:=hc
    simp only[awp]at hw
    have hv:=rho_ok hst.sr hst.glob _ _ hx
    cases hq:ev s.sl cx<;>simp only[hq]at hw<;>try exact hw.elim
    rename_i b
    rw[hq]at hv
    generalize hu:a.eval x=u at hv
    cases hv
    exact Go.wp_cond_split hu (fun hb=>ihy _ _ _ hy σ s a w _ _ hst hk (hw.1 hb) hQ) (fun hb=>ihz _ _ _ hz σ s a w _ _ hst hk (hw.2 hb) hQ)
  | block id x ih =>
    intro h c h' hc σ s a w Q Qw hst hk hw hQ
    simp only[comp]at hc
    obtain⟨⟨cx,h1⟩,hx,hc⟩:=Option.map_eq_some_iff.1 hc
    simp only[Prod.mk.injEq]at hc
    obtain⟨rfl,-⟩:=hc
    refine Go.wp_block (ih _ _ _ hx σ s a w _ _ hst hk hw fun e σ' s' a' w' k1 k2 k3=>?_)
    cases e with
    | normal=>exact hQ .normal σ' s' a' w' k1 k2 k3
    | exit i =>
      simp only[blockQ]at k3
      simp only[Ex.to,Go.Exit.inBlock]
      split
      · rename_i hi
        rw[if_pos hi]at k3
        exact hQ .normal σ' s' a' w' k1 k2 k3
      · rename_i hi
        rw[if_neg hi]at k3
        exact hQ (.exit i) σ' s' a' w' k1 k2 k3
    | ret=>exact hQ .ret σ' s' a' w' k1 k2 k3
  | loop x ih =>
    intro h c h' hc σ s a w Q Qw hst hk hw hQ
    simp only[comp]at hc
    cases h with
    | nil=>simp at hc
    | cons k h =>
      obtain⟨⟨cx,h1⟩,hx,hc⟩:=Option.map_eq_some_iff.1 hc
      simp only[Prod.mk.injEq]at hc
      obtain⟨rfl,-⟩:=hc
      simp only[awp]at hw
      obtain⟨n,hn⟩:=hw
      refine Go.wp_loop_rounds n ?_
      induction n generalizing σ s a w with
      | zero=>exact hn.elim
      | succ n ihn =>
        rw[Go.rounds_succ]
        obtain⟨s1,hwk,hn⟩:=hn
        obtain⟨σ1,hst1,hk1⟩:=hwk.ok hgl hm4 h0 (hst.kill k) hk
        refine ih _ _ _ hx σ1 _ a w _ _ hst1 hk1 hn fun e σ' s' a' w' k1 k2 k3=>?_
        cases e with
        | normal=>exact ihn σ' s' a' w' k1 k2 k3
        | exit i=>exact hQ (.exit i) σ' s' a' w' k1 k2 k3
        | ret=>exact hQ .ret σ' s' a' w' k1 k2 k3
  | exit id =>
    intro h c h' hc σ s a w Q Qw hst hk hw hQ
    simp[comp]at hc
    obtain⟨rfl,-⟩:=hc
    exact Go.wp_exit (hQ (.exit id) σ s a w hst hk hw)
  | ret =>
    intro h c h' hc σ s a w Q Qw hst hk hw hQ
    simp[comp]at hc
    obtain⟨rfl,-⟩:=hc
    exact Go.wp_ret (hQ .ret σ s a w hst hk hw)
  | rangeFunc | scope | label | goto | refuse=>intro h c h' hc;simp[comp]at hc

/-! ### Results -/
def oneR (tmps:Array Value):ResultVar→Sem Value
  | .tmp t=>pure (tmps.getD t Go.undef)
  | .cell ad t=>do Go.loadVar t (←Go.asAddr (tmps.getD ad Go.undef))
theorem resOne_ok {rv:ResultVar} {r:R} {s:St} {σ:Sg} {a:Act} {w:World} {K:V→Prop} (hc:compR P [rv]=some [r]) (hst:StOK Own gl σ s a w) (h:resOne s r K) :
    ∃v v',K v∧VR σ v v'∧(oneR a.tmps rv).run P w=.ok v' w:=by
  cases rv with
  | tmp t =>
    simp[compR]at hc
    subst hc
    exact⟨_,_,h,hst.sr.get t,by simp[oneR]⟩
  | cell ad t =>
    simp only[compR]at hc
    obtain⟨m,hm,hc⟩:=Option.bind_eq_some_iff.1 hc
    simp at hc
    subst hc
    simp only[resOne]at h
    cases hq:nth s.sl ad<;>simp only[hq]at h<;>try exact h.elim
    rename_i b c
    have hv:=hst.sr.get ad
    rw[hq]at hv
    have one:∀B,m=none→nthB s.hp b=B→c<B.vs.length→K (nth B.vs c)→∃v v',K v∧VR σ v v'∧(oneR a.tmps (.cell ad t)).run P w=.ok v' w:=by
      intro B hm' hB hlt hk
      subst hm'
      obtain⟨l,u,hp1,hb,hrun,hr⟩:=load_one hm hst.sim hv hB hlt
      exact⟨_,u,hk,hr,by simp only[oneR];rw[hp1];simpa[Go.asAddr]using hrun⟩
    cases hB:nthB s.hp b<;>simp only[hB]at h<;>try exact h.elim
    · rename_i ro k xs
      cases m with
      | none=>exact one _ rfl hB (by simpa[Blk.vs]using h.1) (by simpa[Blk.vs,nth_map_int _ _ _ h.1]using h.2)
      | some n =>
        simp only at h
        obtain⟨l,us,hp1,hb,hrun,hr,h1⟩:=load_row (n:=n) hm hst.sim hv hB rfl (by simpa[Blk.vs]using h.1)
        simp only[Blk.vs,sub_map]at hr
        have he:=VRs_ints hr
        refine⟨_,.agg us,h.2,?_,by simp only[oneR];rw[hp1];simpa[Go.asAddr]using hrun⟩
        have:us=((sub xs c n).map (Value.int k)).toArray:=by apply Array.toList_inj.1;simpa using he
        rw[this];exact .ints k _
    · rename_i ro cs
      cases m with
      | none=>exact one _ rfl hB (by simpa[Blk.vs]using h.1) (by simpa[Blk.vs]using h.2)
      | some n =>
        simp only at h
        obtain⟨l,us,hp1,hb,hrun,hr,h1⟩:=load_row (n:=n) hm hst.sim hv hB rfl (by simpa[Blk.vs]using h.1)
        simp only[Blk.vs]at hr
        exact⟨_,.agg us,h.2,.agg hr h1,by simp only[oneR];rw[hp1];simpa[Go.asAddr]using hrun⟩

theorem resAll_ok {s:St} {σ:Sg} {a:Act} {w:World} (hst:StOK Own gl σ s a w):∀{rvs:List ResultVar} {rs:List R} {K:List V→Prop},compR P rvs=some rs→resAll s rs K →
    ∃vs vs',K vs∧VRs σ vs vs'∧(rvs.mapM (oneR a.tmps)).run P w=.ok vs' w
  | [],rs,K,hc,h=>by
    simp[compR]at hc
    subst hc
    exact⟨[],[],h,.nil,by simp⟩
  | rv::rvs,rs,K,hc,h=>by
    have:∃r rs',rs=r::rs'∧compR P [rv]=some [r]∧compR P rvs=some rs':=by
      cases rv with
      | tmp t =>
        simp only[compR]at hc
        obtain⟨rs',h1,rfl⟩:=Option.map_eq_some_iff.1 hc
        exact⟨_,_,rfl,by simp[compR],h1⟩
      | cell ad t =>
        simp only[compR]at hc
        obtain⟨m,hm,hc⟩:=Option.bind_eq_some_iff.1 hc
        obtain⟨rs',h1,rfl⟩:=Option.map_eq_some_iff.1 hc
        exact⟨_,_,rfl,by simp[compR,hm],h1⟩
    obtain⟨r,rs',rfl,h1,h2⟩:=this
    simp only[resAll]at h
    obtain⟨v,v',hk,hv,hrun⟩:=resOne_ok h1 hst h
    obtain⟨vs,vs',hk',hvs,hrun'⟩:=resAll_ok hst h2 hk
    refine⟨v::vs,v'::vs',hk',.cons hv hvs,?_⟩
    rw[List.mapM_cons]
    simp[hrun,hrun']

/-- What a function does, said of a small memory that holds its arguments. -/
def Does (P:Program) (gl:List Blk) (f:FuncId) (vs:List V) (hp:List Blk) (R:V→List Blk→Prop):Prop :=
  ∀(Own:Nat→Nat→Prop) (σ:Sg) (w:World) (cvs:Array Value),Sim Own σ (nthB hp) w→GOk gl σ hp→(∀b,hp.length≤b→σ b=none)→VRs σ vs cvs.toList →
    Calls P f cvs w fun en w'=>∃v v' hp' σ',en=.returned v'∧R v hp'∧Sim Own σ' (nthB hp') w'∧VR σ' v v'∧Sg.le σ σ'∧Kept Own w w'

theorem does_of {f:FuncId} {fn:Func} {code:Code} {ir:C} {rs:List R} {h:List (List Nat)} {h':List (List Nat)} {vs:List V} {hp:List Blk} {R:V→List Blk→Prop}
    (hS:∀f,SumOK P gl f (S f)) (hA:∀f,SumAbs (S f)) (hm:P.follows .mixedOrders=true) (hro:∀B∈gl,B.wr=false)
    (hf:P.funcs[f]?=some fn) (hb:fn.body=some code) (hc:comp P mf code h=some (ir,h')) (hr:compR P fn.results.toList=some rs)
    (hgl:∀B∈gl,∀keep,gcB keep B=B) (h4:4≤hp.length) (hw:awp S hp.length ir (retQ rs fun v s=>R v s.hp) ⟨vs++List.replicate (fn.ntmps-vs.length) .undef,hp⟩):Does P gl f vs hp R:=by
  intro Own σ w cvs hs hG hdom hvs
  have hsz:cvs.size=vs.length:=by have:=hvs.length;simpa using this.symm
  have hund:VRs σ (List.replicate (fn.ntmps-vs.length) V.undef) (List.replicate (fn.ntmps-vs.length) Go.undef):=by
    generalize fn.ntmps-vs.length=n
    induction n with
    | zero=>exact .nil
    | succ n ih=>exact .cons (.undef _) ih
  have hst:StOK Own gl σ ⟨vs++List.replicate (fn.ntmps-vs.length) .undef,hp⟩ { tmps:=cvs++Array.replicate (fn.ntmps-cvs.size) Go.undef,defers:=[] } w:=by
    refine⟨hs,hG,⟨by simp[hsz],fun t=>?_⟩,rfl,hdom,hro⟩
    have hall:=hvs.append hund
    simp only[Array.getD_eq_getD_getElem?]
    rw[nth_get]
    cases ht:(vs++List.replicate (fn.ntmps-vs.length) V.undef)[t]? with
    | none=>exact .undef _
    | some x =>
      obtain⟨u,hu,hr⟩:=hall.get ht
      have:(cvs++Array.replicate (fn.ntmps-cvs.size) Go.undef)[t]?=some u:=by
        rw[←Array.getElem?_toList];simpa[hsz]using hu
      rw[this];exact hr
  refine Go.calls_of_wp hf hb ?_
  refine awp_sound (σ0:=σ) (w0:=w) hS hA hm hgl h4 hdom code h ir h' hc σ _ _ w _ _ hst ⟨Kept.refl _ _,Sg.le_refl _⟩ hw fun e σ' s' a' w' h1 h2 h3=>?_
  have fin:res s' rs (fun v=>R v s'.hp)→a'.defers=[]∧∃v',(Go.results fn a'.tmps).run P w'=.ok v' w' ∧
      ∃v v'' hp' σ',Ending.returned v'=.returned v''∧R v hp'∧Sim Own σ' (nthB hp') w'∧VR σ' v v''∧Sg.le σ σ'∧Kept Own w w':=by
    intro hres
    refine⟨h1.defers,?_⟩
    unfold res at hres
    obtain⟨us,us',hk,hus,hrun⟩:=resAll_ok h1 hr hres
    have hlen:=hus.length
    have hrun2:(fn.results.mapM (oneR a'.tmps)).run P w'=.ok us'.toArray w':=by
      rw[Array.mapM_eq_mapM_toList]
      simp[hrun]
    refine⟨if h:us'.toArray.size=1 then us'.toArray[0]else .tuple us'.toArray,?_,?_⟩
    · have:Go.results fn a'.tmps=(do
          let vs ←fn.results.mapM (oneR a'.tmps)
          pure (if h:vs.size=1 then vs[0]else .tuple vs)):=by
        unfold Go.results
        congr 1
      rw[this]
      simp[hrun2]
    · cases hus with
      | nil=>exact⟨.tup [],_,s'.hp,σ',rfl,hk,h1.sim,by simpa using VR.tup (vs:=#[]) .nil,h2.ext,h2.kept⟩
      | cons hv ht =>
        cases ht with
        | nil=>exact⟨_,_,s'.hp,σ',rfl,hk,h1.sim,by simpa using hv,h2.ext,h2.kept⟩
        | cons hv2 ht=>exact⟨_,_,s'.hp,σ',rfl,hk,h1.sim,by simpa using VR.tup (.cons hv (.cons hv2 ht)),h2.ext,h2.kept⟩
  cases e with
  | normal=>exact fin h3
  | ret=>exact fin h3
  | exit i=>exact h3.elim
end
end Am
/-
Contracts between functions at the level of plain data: arguments lent, results new.
-/
namespace Am
open Go (IntKind BinOp UnOp Value FuncId TypeId World Program Oper Op Operand Code Func ResultVar Addr Obj Act Exit Sem Result Next execOp Ending Calls wpList yielded wpAny wpOp)

mutual
/-- A value that leads nowhere. -/
def pur:V→Bool
  | .bool _=>true
  | .int _ _=>true
  | .str _=>true
  | .nilp=>true
  | .nils=>true
  | .nilfn=>true
  | .nili=>true
  | .ints _ _=>true
  | .agg cs=>purs cs
  | .tup cs=>purs cs
  | _=>false
def purs:List V→Bool
  | []=>true
  | a::r=>pur a&&purs r
end
mutual
theorem purR_of_pur:∀{a:V},pur a=true→purR a=true
  | .bool _,_=>rfl
  | .int _ _,_=>rfl
  | .str _,_=>rfl
  | .nilp,_=>rfl
  | .nils,_=>rfl
  | .nilfn,_=>rfl
  | .nili,_=>rfl
  | .ints _ _,_=>rfl
  | .agg cs,h=>by simp only[purR];exact pursR_of_purs (by simpa[pur]using h)
  | .tup cs,h=>by simp only[purR];exact pursR_of_purs (by simpa[pur]using h)
  | .undef,h=>by simp[pur]at h
  | .ptr _ _,h=>by simp[pur]at h
  | .slice _ _ _ _ _,h=>by simp[pur]at h
  | .fn _ _,h=>by simp[pur]at h
  | .iface _ _,h=>by simp[pur]at h
  | .rsl _ _ _ _,h=>by simp[pur]at h
  | .rcs _ _ _,h=>by simp[pur]at h
  | .rpi _ _ _,h=>by simp[pur]at h
  | .rpc _ _,h=>by simp[pur]at h
theorem pursR_of_purs:∀{l:List V},purs l=true→pursR l=true
  | [],_=>rfl
  | a::l,h=>by
    simp only[purs,Bool.and_eq_true]at h
    simp only[pursR,Bool.and_eq_true]
    exact⟨purR_of_pur h.1,pursR_of_purs h.2⟩
end
mutual
theorem VR.pur {σ τ:Sg}:∀{a:V} {v:Value},VR σ a v→Am.pur a=true→VR τ a v
  | _,_,.undef v,h=>by simp[Am.pur]at h
  | _,_,.bool b,_=>.bool b
  | _,_,.int k n,_=>.int k n
  | _,_,.str s,_=>.str s
  | _,_,.ptr _,h=>by simp[Am.pur]at h
  | _,_,.nilp,_=>.nilp
  | _,_,.slice ..,h=>by simp[Am.pur]at h
  | _,_,.nils,_=>.nils
  | _,_,.fn _,h=>by simp[Am.pur]at h
  | _,_,.nilfn,_=>.nilfn
  | _,_,.mth,h=>by simp[Am.pur]at h
  | _,_,.iface _,h=>by simp[Am.pur]at h
  | _,_,.nili,_=>.nili
  | _,_,.ints k xs,_=>.ints k xs
  | _,_,.agg h h1,hp=>.agg (VRs.pur h (by simpa[Am.pur]using hp)) h1
  | _,_,.tup h,hp=>.tup (VRs.pur h (by simpa[Am.pur]using hp))
  | _,_,.rsl _ _ _ _,h=>by simp[Am.pur]at h
  | _,_,.rcs _ _ _ _ _ _,h=>by simp[Am.pur]at h
  | _,_,.rpi _,h=>by simp[Am.pur]at h
  | _,_,.rpc _ _ _,h=>by simp[Am.pur]at h
theorem VRs.pur {σ τ:Sg}:∀{l:List V} {m:List Value},VRs σ l m→purs l=true→VRs τ l m
  | _,_,.nil,_=>.nil
  | _,_,.cons h t,hp=>by
    simp only[purs,Bool.and_eq_true]at hp
    exact .cons (VR.pur h hp.1) (VRs.pur t hp.2)
end

inductive D where
  | v (a:V)
  | s (k:IntKind) (xs:List Int)
  deriving Inhabited
inductive Sh where
  | v
  | s (k:IntKind)
  | r

/-- What a row of a world holds. -/
def statW (w:World) (k j:Nat) (v:Value):Prop:=(∃c e fr,w.heap[k]?=some (.cells c e fr)∧c[j]?=some v)∧v.oneCell'=true
def frzs (f:V→(V→Prop)→Prop):List V→(List V→Prop)→Prop
  | [],K=>K []
  | a::r,K=>f a fun v=>frzs f r fun vs=>K (v::vs)
/-- A value as it is seen by who only reads: what it leads to is a part of it. -/
def frz (hp:List Blk):Nat→V→(V→Prop)→Prop
  | 0,_,_=>False
  | d+1,a,K=>match a with
    | .slice b o sz len _=>match nthB hp b with
      | .ints _ k xs=>o+len*sz≤xs.length∧K (.rsl sz len k (sub xs o (len*sz)))
      | .cells _ cs=>o+len*sz≤cs.length∧frzs (frz hp d) (sub cs o (len*sz)) fun ds=>K (.rcs sz len ds)
      | .dead=>False
    | .ptr b o=>match nthB hp b with
      | .ints _ k xs=>K (.rpi k xs o)
      | .cells _ cs=>frzs (frz hp d) cs fun ds=>K (.rpc ds o)
      | .dead=>False
    | .iface t v=>frz hp d v fun v=>K (.iface t v)
    | .agg cs=>match pursR cs with
      | true=>K (.agg cs)
      | false=>frzs (frz hp d) cs fun ds=>K (.agg ds)
    | a=>purR a=true∧K a

def rd1 (hp:List Blk) (sh:Sh) (a:V) (K:D→Prop):Prop :=
  match sh with
  | .v=>purR a=true∧K (.v a)
  | .r=>frz hp 4 a fun v=>K (.v v)
  | .s k=>match a with
    | .nils=>K (.s k [])
    | .slice b o sz len _=>match nthB hp b with
      | .ints _ k' xs=>(sz=1∧k=k'∧o+len≤xs.length)∧K (.s k (sub xs o len))
      | _=>False
    | _=>False
def rds (hp:List Blk):List Sh→List V→(List D→Prop)→Prop
  | [],[],K=>K []
  | sh::shs,a::as,K=>rd1 hp sh a fun d=>rds hp shs as fun ds=>K (d::ds)
  | _,_,_=>False
/-- The data as arguments: slices are blocks from a number on. -/
def injV:List D→Nat→List V
  | [],_=>[]
  | .v a::r,n=>a::injV r n
  | .s _ xs::r,n=>.slice n 0 1 xs.length xs.length::injV r (n+1)
def injB (ro:Bool):List D→List Blk
  | []=>[]
  | .v _::r=>injB ro r
  | .s k xs::r=>.ints ro k xs::injB ro r

inductive Out where
  | one (d:D)
  | many (ds:List D)
def out1 (m:Nat) (hp:List Blk) (v:V) (d:D) (used:List Nat) (K:List Nat→Prop):Prop :=
  match d with
  | .v a=>(v=a∧pur a=true)∧K used
  | .s k xs=>match v with
    | .nils=>xs=[]∧K used
    | .slice b o sz len _=>match nthB hp b with
      | .ints false k' ys=>(sz=1∧k=k'∧m≤b∧b∉used∧o+len≤ys.length∧sub ys o len=xs)∧K (b::used)
      | _=>False
    | _=>False
def outs (m:Nat) (hp:List Blk):List V→List D→List Nat→Prop
  | [],[],_=>True
  | v::vs,d::ds,used=>out1 m hp v d used fun used=>outs m hp vs ds used
  | _,_,_=>False
/-- What a function's result is, at its own memory. -/
def out (m:Nat) (o:Out) (v:V) (hp:List Blk):Prop :=
  match o with
  | .one d=>outs m hp [v] [d] []
  | .many ds=>match v with
    | .tup vs=>outs m hp vs ds []
    | _=>False
/-- What it is to the caller. -/
def exp (n:Nat) (o:Out):Ef :=
  match o with
  | .one d=>⟨nth (injV [d] n) 0,[],injB false [d]⟩
  | .many ds=>⟨.tup (injV ds n),[],injB false ds⟩

def sData (shs:List Sh) (pre:List D→Prop) (F:List D→Out):Summ:=fun vs hp K=>rds hp shs vs fun ds=>pre ds∧K (exp hp.length (F ds))

theorem frzs_det {f:V→(V→Prop)→Prop} (hf:∀a K,f a K→∃v,K v∧∀K':V→Prop,K' v→f a K'):∀{l:List V} {K:List V→Prop},frzs f l K→∃vs,K vs∧∀K':List V→Prop,K' vs→frzs f l K'
  | [],K,h=>⟨[],h,fun _ h=>h⟩
  | a::r,K,h=>by
    simp only[frzs]at h
    obtain⟨v,h,h1⟩:=hf _ _ h
    obtain⟨vs,h,h2⟩:=frzs_det hf h
    exact⟨v::vs,h,fun K' h'=>by simp only[frzs];exact h1 _ (h2 _ h')⟩
theorem frz_det {hp:List Blk}:∀{d:Nat} {a:V} {K:V→Prop},frz hp d a K→∃v,K v∧∀K':V→Prop,K' v→frz hp d a K'
  | 0,a,K,h=>by simp[frz]at h
  | d+1,a,K,h=>by
    have ih:=fun a K (h:frz hp d a K)=>frz_det h
    unfold frz at h
    split at h
    · rename_i b o sz len cap
      split at h<;>try exact h.elim
      · rename_i hb
        exact⟨_,h.2,fun K' h'=>by simp only[frz,hb];exact⟨h.1,h'⟩⟩
      · rename_i hb
        obtain⟨vs,hk,hd⟩:=frzs_det ih h.2
        exact⟨_,hk,fun K' h'=>by simp only[frz,hb];exact⟨h.1,hd _ h'⟩⟩
    · split at h<;>try exact h.elim
      · rename_i hb
        exact⟨_,h,fun K' h'=>by simp only[frz,hb];exact h'⟩
      · rename_i hb
        obtain⟨vs,hk,hd⟩:=frzs_det ih h
        exact⟨_,hk,fun K' h'=>by simp only[frz,hb];exact hd _ h'⟩
    · obtain⟨v,hk,hd⟩:=ih _ _ h
      exact⟨_,hk,fun K' h'=>by simp only[frz];exact hd _ h'⟩
    · split at h
      · rename_i hb
        exact⟨_,h,fun K' h'=>by simp only[frz,hb];exact h'⟩
      · rename_i hb
        obtain⟨vs,hk,hd⟩:=frzs_det ih h
        exact⟨_,hk,fun K' h'=>by simp only[frz,hb];exact hd _ h'⟩
    · rename_i h1 h2 h3 h4
      refine⟨_,h.2,fun K' h'=>?_⟩
      unfold frz
      split
      · exact absurd rfl (h1 _ _ _ _ _)
      · exact absurd rfl (h2 _ _)
      · exact absurd rfl (h3 _ _)
      · exact absurd rfl (h4 _)
      · exact⟨h.1,h'⟩
theorem rd1_det {hp:List Blk} {sh:Sh} {a:V} {K:D→Prop} (h:rd1 hp sh a K):∃d,K d∧∀K':D→Prop,K' d→rd1 hp sh a K':=by
  unfold rd1 at *
  split at h
  · exact⟨_,h.2,fun K' h'=>⟨h.1,h'⟩⟩
  · obtain⟨v,hk,hd⟩:=frz_det h
    exact⟨_,hk,fun K' h'=>hd _ h'⟩
  · split at h<;>try exact h.elim
    · exact⟨_,h,fun K' h'=>h'⟩
    · split at h<;>try exact h.elim
      exact⟨_,h.2,fun K' h'=>⟨h.1,h'⟩⟩
theorem rds_det {hp:List Blk}:∀{shs:List Sh} {as:List V} {K:List D→Prop},rds hp shs as K→∃ds,K ds∧∀K':List D→Prop,K' ds→rds hp shs as K'
  | [],[],K,h=>⟨[],h,fun _ h=>h⟩
  | sh::shs,a::as,K,h=>by
    simp only[rds]at h
    obtain⟨d,h,h1⟩:=rd1_det h
    obtain⟨ds,h,h2⟩:=rds_det h
    exact⟨d::ds,h,fun K' h'=>h1 _ (h2 _ h')⟩
  | [],_::_,K,h=>by simp[rds]at h
  | _::_,[],K,h=>by simp[rds]at h

theorem sData_abs (shs:List Sh) (pre:List D→Prop) (F:List D→Out):SumAbs (sData shs pre F):=by
  intro vs hp K h
  obtain⟨ds,⟨hp',hk⟩,h1⟩:=rds_det h
  refine⟨_,hk,fun K' h'=>h1 _ ⟨hp',h'⟩,?_,?_⟩<;>cases F ds<;>simp[exp]

theorem sub_zero' {α:Type} {l:List α} {n:Nat} (h:l.length≤n):sub l 0 n=l:=by simp[sub,List.take_of_length_le h]
section
variable {Own : Nat → Nat → Prop} {σ : Sg} {w : World} {hp : List Blk}

theorem stat_w (hs:Sim Own σ (nthB hp) w) {k j:Nat} {v:Value} (h:σ.stat k j v):statW w k j v:=⟨(hs.stat k j v h).1,(hs.stat k j v h).2.1⟩
theorem frzs_ok {f:V→(V→Prop)→Prop} {τ:Sg} (hf:∀a v a',VR σ a v→f a (·=a')→VR τ a' v∧purR a'=true) (hd:∀a K,f a K→∃v,K v∧∀K':V→Prop,K' v→f a K') :
    ∀{l:List V} {m:List Value} {l':List V},VRs σ l m→frzs f l (·=l')→VRs τ l' m∧pursR l'=true
  | [],m,l',hv,h=>by
    simp only[frzs]at h
    subst h
    cases hv
    exact⟨.nil,rfl⟩
  | a::r,m,l',hv,h=>by
    cases hv with
    | cons hv hvs =>
      simp only[frzs]at h
      obtain⟨v,h,h1⟩:=hd _ _ h
      obtain⟨vs,h,h2⟩:=frzs_det hd h
      subst h
      obtain⟨a1,a2⟩:=hf _ _ _ hv (h1 (·=v) rfl)
      obtain⟨b1,b2⟩:=frzs_ok hf hd hvs (h2 (·=vs) rfl)
      exact⟨.cons a1 b1,by simp[pursR,a2,b2]⟩
/-- The cells of a part of a block. -/
theorem part_stat (hs:Sim Own σ (nthB hp) w) {b o n:Nat} {l:Loc} {B:Blk} (hb:σ b=some l) (hB:nthB hp b=B) (hlive:B.live=true) (h:o+n≤B.vs.length) :
    ∃us:List Value,VRs σ (sub B.vs o n) us∧∀(j:Nat) v,us[j]?=some v→statW w l.blk (l.off+o+j) v:=by
  by_cases h0:n=0
  · subst h0
    exact⟨[],by simpa[sub]using VRs.nil,by simp⟩
  · have hsz:0<l.size:=by
      have:=(hs.blk b l hb).len
      rw[hB]at this;omega
    obtain⟨cs,e,fr,h1,h2,h3,vs,hvs,hl,hr,ho,hcell⟩:=hs.row hb hB h hsz hlive
    refine⟨vs,hr,fun j v hj=>?_⟩
    have:=hcell j v hj
    rw[Go.cell_of_row w _ _ cs e fr h1]at this
    exact⟨⟨cs,e,fr,h1,by simpa[Nat.add_assoc]using this⟩,ho v (List.mem_of_getElem? hj)⟩
theorem frz_ok (hs:Sim Own σ (nthB hp) w) {τ:Sg} (hτ:∀k j v,statW w k j v→τ.stat k j v):∀{d:Nat} {a:V} {v:Value} {a':V},VR σ a v→frz hp d a (·=a')→VR τ a' v∧purR a'=true
  | 0,a,v,a',_,h=>by simp[frz]at h
  | d+1,a,v,a',hv,h=>by
    have ih:=fun a v a' (hv:VR σ a v) (h:frz hp d a (·=a'))=>frz_ok hs hτ hv h
    unfold frz at h
    split at h
    · rename_i b o sz len cap
      cases hv with
      | @slice _ _ _ _ _ cap' ad l hb hl hc hbd ha =>
      split at h<;>try exact h.elim
      · rename_i ro k xs hB
        obtain⟨hle,rfl⟩:=h
        obtain⟨us,hr,hu⟩:=part_stat hs hb hB rfl (by simpa[Blk.vs]using hle)
        simp only[Blk.vs,sub_map]at hr
        have he:=VRs_ints hr
        refine⟨VR.rsl (blk:=l.blk) (off:=l.off+o) (by simp[sub];omega) (by omega) ha fun j x hj=>hτ _ _ _ (hu j _ ?_),rfl⟩
        rw[he];simp[hj]
      · rename_i ro cs hB
        obtain⟨hle,h⟩:=h
        obtain⟨vs,h,h1⟩:=frzs_det (fun a K h=>frz_det h) h
        subst h
        obtain⟨us,hr,hu⟩:=part_stat hs hb hB rfl (by simpa[Blk.vs]using hle)
        obtain⟨a1,a2⟩:=frzs_ok ih (fun a K h=>frz_det h) hr (h1 (·=vs) rfl)
        refine⟨VR.rcs (blk:=l.blk) (off:=l.off+o) ?_ (by omega) ha a2 a1 fun j x hj=>hτ _ _ _ (hu j _ hj),by simpa[purR]using a2⟩
        rw[a1.length,←hr.length];simp[sub,Blk.vs];omega
    · rename_i b o
      cases hv with
      | @ptr _ _ l hb =>
      split at h<;>try exact h.elim
      · rename_i ro k xs hB
        subst h
        obtain⟨us,hr,hu⟩:=part_stat (o:=0) (n:=xs.length) hs hb hB rfl (by simp[Blk.vs])
        simp only[Blk.vs,sub_map,sub_zero' (Nat.le_refl _)]at hr
        have he:=VRs_ints hr
        refine⟨VR.rpi (blk:=l.blk) (off:=l.off) fun j x hj=>hτ _ _ _ (hu j _ ?_),rfl⟩
        rw[he];simp[hj]
      · rename_i ro cs hB
        obtain⟨vs,h,h1⟩:=frzs_det (fun a K h=>frz_det h) h
        subst h
        obtain⟨us,hr,hu⟩:=part_stat (o:=0) (n:=cs.length) hs hb hB rfl (by simp[Blk.vs])
        simp only[Blk.vs,sub_zero' (Nat.le_refl _)]at hr
        obtain⟨a1,a2⟩:=frzs_ok ih (fun a K h=>frz_det h) hr (h1 (·=vs) rfl)
        exact⟨VR.rpc (blk:=l.blk) (off:=l.off) a2 a1 fun j x hj=>hτ _ _ _ (hu j _ hj),by simpa[purR]using a2⟩
    · rename_i t v0
      cases hv with
      | iface hv =>
      obtain⟨u,h,h1⟩:=frz_det h
      subst h
      obtain⟨a1,a2⟩:=ih _ _ _ hv (h1 (·=u) rfl)
      exact⟨.iface a1,by simpa[purR]using a2⟩
    · rename_i cs
      split at h
      · rename_i hp'
        subst h
        have hp'':purR (.agg cs)=true:=by simpa[purR]using hp'
        exact⟨hv.purR (fun k j v h=>hτ _ _ _ (stat_w hs h)) hp'',hp''⟩
      · cases hv with
        | agg hv h1 =>
        obtain⟨vs,h,h2⟩:=frzs_det (fun a K h=>frz_det h) h
        subst h
        obtain⟨a1,a2⟩:=frzs_ok ih (fun a K h=>frz_det h) hv (h2 (·=vs) rfl)
        exact⟨.agg a1 h1,by simpa[purR]using a2⟩
    · obtain⟨hp',rfl⟩:=h
      exact⟨hv.purR (fun k j v h=>hτ _ _ _ (stat_w hs h)) hp',hp'⟩
/-- An argument, seen from the function. -/
theorem rd1_ok (hs:Sim Own σ (nthB hp) w) {sh:Sh} {a:V} {v:Value} (hv:VR σ a v) {d:D} (h:rd1 hp sh a (·=d)):∃locs:List Loc,locs.length=(injB true [d]).length ∧
    (∀(n:Nat) (τ:Sg),(∀k j v,statW w k j v→τ.stat k j v)→(∀j l,locs[j]?=some l→τ (n+j)=some l)→VRs τ (injV [d] n) [v]) ∧
    (∀(O:Nat→Nat→Prop) (τ:Sg) (j:Nat) (l:Loc) (B:Blk),locs[j]?=some l→(injB true [d])[j]?=some B→BOk O τ w l B):=by
  unfold rd1 at h
  split at h
  · obtain⟨h,rfl⟩:=h
    exact⟨[],by simp[injB],fun n τ hst _=>by simpa[injV]using VRs.cons (hv.purR (fun k j v h=>hst _ _ _ (stat_w hs h)) h) .nil,by simp⟩
  · obtain⟨u,h,h1⟩:=frz_det h
    subst h
    exact⟨[],by simp[injB],fun n τ hst _=>by simpa[injV]using VRs.cons (frz_ok hs hst hv (h1 (·=u) rfl)).1 .nil,by simp⟩
  · rename_i k
    split at h<;>try exact h.elim
    · subst h
      cases hv
      refine⟨[⟨0,0,0⟩],by simp[injB],fun n τ _ hτ=>?_,fun O τ j l B hl hB=>?_⟩
      · have:=hτ 0 ⟨0,0,0⟩ (by simp)
        simp only[injV]
        exact .cons (.slice (cap':=0) (l:=⟨0,0,0⟩) this (by simp) (by simp) (by simp) (by simp)) .nil
      · cases j with
        | zero=>simp[injB]at hl hB;subst hl hB;exact⟨by simp[Blk.vs],by simp⟩
        | succ j=>simp at hl
    · rename_i b o sz len cap
      split at h<;>try exact h.elim
      rename_i ro k' xs hb
      obtain⟨⟨rfl,rfl,hlen⟩,rfl⟩:=h
      cases hv
      rename_i cap' ad l hσ hle hbd hc hl
      refine⟨[⟨l.blk,l.off+o,cap'*1⟩],by simp[injB],fun n τ _ hτ=>?_,fun O τ j m B hm hB=>?_⟩
      · have:=hτ 0 ⟨l.blk,l.off+o,cap'*1⟩ (by simp)
        have hsl:(sub xs o len).length=len:=by simp[sub];omega
        simp only[injV,hsl]
        refine .cons (.slice (cap':=cap') (l:=⟨l.blk,l.off+o,cap'*1⟩) this (by simp) (by omega) (by simp) fun h0=>?_) .nil
        have:=hle h0
        simpa using this
      · cases j with
        | zero =>
          simp[injB]at hm hB
          subst hm hB
          have hsl:(sub xs o len).length=len:=by simp[sub];omega
          refine⟨by simp[Blk.vs,hsl];omega,fun _ h0=>?_⟩
          have hbok:=hs.blk b l hσ
          rw[hb]at hbok
          simp only[]at h0
          obtain⟨c,e,fr,h1,h2,h3,h4⟩:=hbok.row rfl (by omega)
          refine⟨c,e,fr,h1,by simp only[];omega,fun j a ha=>?_,by simp[Blk.wr]⟩
          simp only[Blk.vs,List.getElem?_map,sub,List.getElem?_take,List.getElem?_drop,Option.map_eq_some_iff]at ha
          obtain⟨x,hx,rfl⟩:=ha
          split at hx
          · obtain⟨u,hu,hr,ho⟩:=h3 (o+j) (.int k x) (by simp[Blk.vs,hx])
            refine⟨u,?_,hr.pur rfl,ho⟩
            rw[←hu];congr 1;simp only[];omega
          · simp at hx
        | succ j=>simp at hm
end

theorem injV_cons (d:D) (ds:List D) (n:Nat):injV (d::ds) n=injV [d] n++injV ds (n+(injB true [d]).length):=by cases d<;>simp[injV,injB]
theorem injB_cons (ro:Bool) (d:D) (ds:List D):injB ro (d::ds)=injB ro [d]++injB ro ds:=by cases d<;>simp[injB]
theorem injB_length (ro ro':Bool):∀ds:List D,(injB ro ds).length=(injB ro' ds).length
  | []=>rfl
  | .v _::r=>by simpa[injB]using injB_length ro ro' r
  | .s _ _::r=>by simpa[injB]using injB_length ro ro' r

theorem rds_ok {Own:Nat→Nat→Prop} {σ:Sg} {w:World} {hp:List Blk} (hs:Sim Own σ (nthB hp) w):∀{shs:List Sh} {as:List V} {vs:List Value} {ds:List D},VRs σ as vs→rds hp shs as (·=ds)→∃locs:List Loc,locs.length=(injB true ds).length ∧
    (∀(n:Nat) (τ:Sg),(∀k j v,statW w k j v→τ.stat k j v)→(∀j l,locs[j]?=some l→τ (n+j)=some l)→VRs τ (injV ds n) vs) ∧
    (∀(O:Nat→Nat→Prop) (τ:Sg) (j:Nat) (l:Loc) (B:Blk),locs[j]?=some l→(injB true ds)[j]?=some B→BOk O τ w l B)
  | [],[],vs,ds,hv,h=>by
    simp only[rds]at h
    subst h
    cases hv
    exact⟨[],by simp[injB],fun _ _ _ _=>by simpa[injV]using VRs.nil,by simp⟩
  | sh::shs,a::as,vs,ds,hv,h=>by
    cases hv
    rename_i v vs hv hvs
    simp only[rds]at h
    obtain⟨d,h,h1⟩:=rd1_det h
    obtain⟨ds',h,h2⟩:=rds_det h
    subst h
    obtain⟨l1,a1,a2,a3⟩:=rd1_ok hs hv (h1 (·=d) rfl)
    obtain⟨l2,b1,b2,b3⟩:=rds_ok hs hvs (h2 (·=ds') rfl)
    refine⟨l1++l2,by rw[injB_cons];simp[a1,b1],fun n τ hst hτ=>?_,fun O τ j l B hl hB=>?_⟩
    · rw[injV_cons]
      refine (a2 n τ hst fun j l hj=>hτ j l ?_).append (b2 _ τ hst fun j l hj=>?_)
      · rw[List.getElem?_append_left (List.getElem?_eq_some_iff.1 hj).1];exact hj
      · rw[Nat.add_assoc]
        refine hτ _ l ?_
        rw[List.getElem?_append_right (by omega)]
        rw[←a1,Nat.add_sub_cancel_left];exact hj
    · rw[injB_cons]at hB
      rcases Nat.lt_or_ge j l1.length with hlt | hge
      · rw[List.getElem?_append_left hlt]at hl
        rw[List.getElem?_append_left (by omega)]at hB
        exact a3 O τ j l B hl hB
      · rw[List.getElem?_append_right hge]at hl
        rw[List.getElem?_append_right (by omega),←a1]at hB
        exact b3 O τ _ l B hl hB
  | [],_::_,vs,ds,hv,h=>by simp[rds]at h
  | _::_,[],vs,ds,hv,h=>by simp[rds]at h
end Am
/-
What a function does at its own memory is a summary for its callers.
-/
namespace Am
open Go (IntKind BinOp UnOp Value FuncId TypeId World Program Oper Op Operand Code Func ResultVar Addr Obj Act Exit Sem Result Next execOp Ending Calls wpList yielded wpAny wpOp)

/-- A place within what a block stands for. -/
def Within (m:Nat) (used:List Nat) (σ:Sg) (hp:List Blk) (l:Loc):Prop:=l.size=0∨∃b lb,m≤b∧b∉used∧σ b=some lb∧(nthB hp b).wr=true∧l.blk=lb.blk∧lb.off≤l.off∧l.off+l.size≤lb.off+lb.size

theorem Within.mono {m:Nat} {used used':List Nat} {σ:Sg} {hp:List Blk} {l:Loc} (h:Within m used σ hp l) (hu:∀b,b∈used'→b∈used):Within m used' σ hp l:=by
  rcases h with h | ⟨b,lb,h1,h2,h3⟩
  · exact .inl h
  · exact .inr ⟨b,lb,h1,fun hb=>h2 (hu b hb),h3⟩

section
variable {Own : Nat → Nat → Prop} {σ : Sg} {w : World} {hp : List Blk} {m : Nat}

theorem out1_ok (hs:Sim Own σ (nthB hp) w) {v:V} {v':Value} {d:D} {used:List Nat} {K:List Nat→Prop} (hv:VR σ v v') (h:out1 m hp v d used K):∃(used':List Nat) (locs:List Loc),K used'∧(∀b,b∈used→b∈used')∧locs.length=(injB false [d]).length ∧
    (∀(n:Nat) (τ:Sg),(∀j l,locs[j]?=some l→τ (n+j)=some l)→VRs τ (injV [d] n) [v']) ∧
    (∀(τ:Sg) (j:Nat) (l:Loc) (B:Blk),locs[j]?=some l→(injB false [d])[j]?=some B→BOk Own τ w l B) ∧
    (∀(j:Nat) (l:Loc),locs[j]?=some l→Within m used σ hp l) ∧
    (∀(l l':Loc),l∈locs→Within m used' σ hp l'→l.disj l'):=by
  unfold out1 at h
  split at h
  · obtain⟨⟨rfl,hp⟩,hk⟩:=h
    exact⟨used,[],hk,fun _ h=>h,by simp[injB],fun n τ _=>by simpa[injV]using VRs.cons (hv.pur hp) .nil,by simp,by simp,by simp⟩
  · rename_i k xs
    split at h<;>try exact h.elim
    · obtain⟨rfl,hk⟩:=h
      cases hv
      refine⟨used,[⟨0,0,0⟩],hk,fun _ h=>h,by simp[injB],fun n τ hτ=>?_,fun τ j l B hl hB=>?_,fun j l hl=>?_,fun l l' hl _=>?_⟩
      · have:=hτ 0 ⟨0,0,0⟩ (by simp)
        simp only[injV]
        exact .cons (.slice (cap':=0) (l:=⟨0,0,0⟩) this (by simp) (by simp) (by simp) (by simp)) .nil
      · cases j with
        | zero=>simp[injB]at hl hB;subst hl hB;exact⟨by simp[Blk.vs],by simp⟩
        | succ j=>simp at hl
      · cases j with
        | zero=>simp at hl;subst hl;exact .inl rfl
        | succ j=>simp at hl
      · simp at hl;subst hl;exact .inl rfl
    · rename_i b o sz len cap
      split at h<;>try exact h.elim
      rename_i k' ys hb
      obtain⟨⟨rfl,rfl,hmb,hbu,hlen,rfl⟩,hk⟩:=h
      cases hv
      rename_i cap' ad l hσ hle hbd hc hl
      have hsl:(sub ys o len).length=len:=by simp[sub];omega
      have hbok:=hs.blk b l hσ
      rw[hb]at hbok
      refine⟨b::used,[⟨l.blk,l.off+o,cap'*1⟩],hk,fun _ h=>List.mem_cons_of_mem _ h,by simp[injB],fun n τ hτ=>?_,fun τ j l' B hl' hB=>?_,fun j l' hl'=>?_,fun l1 l' hl1 hW=>?_⟩
      · have:=hτ 0 ⟨l.blk,l.off+o,cap'*1⟩ (by simp)
        simp only[injV,hsl]
        refine .cons (.slice (cap':=cap') (l:=⟨l.blk,l.off+o,cap'*1⟩) this (by simp) (by omega) (by simp) fun h0=>?_) .nil
        have:=hle h0
        simpa using this
      · cases j with
        | zero =>
          simp[injB]at hl' hB
          subst hl' hB
          refine⟨by simp[Blk.vs,hsl];omega,fun _ h0=>?_⟩
          simp only[]at h0
          obtain⟨c,e,fr,h1,h2,h3,h4⟩:=hbok.row rfl (by omega)
          refine⟨c,e,fr,h1,by simp only[];omega,fun j a ha=>?_,fun _=>⟨fun j hj=>?_,(h4 rfl).2⟩⟩
          · simp only[Blk.vs,List.getElem?_map,sub,List.getElem?_take,List.getElem?_drop,Option.map_eq_some_iff]at ha
            obtain⟨x,hx,rfl⟩:=ha
            split at hx
            · obtain⟨u,hu,hr,ho⟩:=h3 (o+j) (.int k x) (by simp[Blk.vs,hx])
              refine⟨u,?_,hr.pur rfl,ho⟩
              rw[←hu];congr 1;simp only[];omega
            · simp at hx
          · simp only[]at hj
            have:=(h4 rfl).1 (o+j) (by omega)
            simpa[Nat.add_assoc]using this
        | succ j=>simp at hl'
      · cases j with
        | zero=>simp at hl';subst hl';exact .inr ⟨b,l,hmb,hbu,hσ,by rw[hb];rfl,rfl,by simp,by simp;omega⟩
        | succ j=>simp at hl'
      · simp at hl1
        subst hl1
        rcases hW with hz | ⟨b',lb,h1,h2,h3,h4,h5,h6,h7⟩
        · exact .inr (.inl hz)
        · simp only[List.mem_cons,not_or]at h2
          have:=hs.excl b b' l lb (fun e=>h2.1 e.symm) hσ h3 (by rw[hb];rfl) (Blk.live_of_wr h4)
          unfold Loc.disj at *
          simp only[]
          omega

theorem outs_ok (hs:Sim Own σ (nthB hp) w):∀{vs:List V} {vs':List Value} {ds:List D} {used:List Nat},VRs σ vs vs'→outs m hp vs ds used→∃locs:List Loc,locs.length=(injB false ds).length ∧
    (∀(n:Nat) (τ:Sg),(∀j l,locs[j]?=some l→τ (n+j)=some l)→VRs τ (injV ds n) vs') ∧
    (∀(τ:Sg) (j:Nat) (l:Loc) (B:Blk),locs[j]?=some l→(injB false ds)[j]?=some B→BOk Own τ w l B) ∧
    (∀(j:Nat) (l:Loc),locs[j]?=some l→Within m used σ hp l) ∧
    (∀(j j':Nat) (l l':Loc),j≠j'→locs[j]?=some l→locs[j']?=some l'→l.disj l')
  | [],vs',[],used,hv,h=>by
    cases hv
    exact⟨[],by simp[injB],fun _ _ _=>by simpa[injV]using VRs.nil,by simp,by simp,by simp⟩
  | v::vs,vs',d::ds,used,hv,h=>by
    cases hv
    rename_i v' vs' hv hvs
    simp only[outs]at h
    obtain⟨used',l1,hk,hu,a1,a2,a3,a4,a5⟩:=out1_ok hs hv h
    obtain⟨l2,b1,b2,b3,b4,b5⟩:=outs_ok hs hvs hk
    have hlen:l1.length≤1:=by rw[a1];cases d<;>simp[injB]
    refine⟨l1++l2,by rw[injB_cons];simp[a1,b1],fun n τ hτ=>?_,fun τ j l B hl hB=>?_,fun j l hl=>?_,fun j j' l l' hne hl hl'=>?_⟩
    · rw[injV_cons]
      refine (a2 n τ fun j l hj=>hτ j l ?_).append (b2 _ τ fun j l hj=>?_)
      · rw[List.getElem?_append_left (List.getElem?_eq_some_iff.1 hj).1];exact hj
      · rw[Nat.add_assoc,injB_length true false]
        refine hτ _ l ?_
        rw[List.getElem?_append_right (by omega)]
        rw[←a1,Nat.add_sub_cancel_left];exact hj
    · rw[injB_cons]at hB
      rcases Nat.lt_or_ge j l1.length with hlt | hge
      · rw[List.getElem?_append_left hlt]at hl
        rw[List.getElem?_append_left (by omega)]at hB
        exact a3 τ j l B hl hB
      · rw[List.getElem?_append_right hge]at hl
        rw[List.getElem?_append_right (by omega),←a1]at hB
        exact b3 τ _ l B hl hB
    · rcases Nat.lt_or_ge j l1.length with hlt | hge
      · rw[List.getElem?_append_left hlt]at hl
        exact a4 j l hl
      · rw[List.getElem?_append_right hge]at hl
        exact(b4 _ l hl).mono hu
    · have dsym:∀l l':Loc,l.disj l'→l'.disj l:=by intro l l' h;unfold Loc.disj at *;omega
      rcases Nat.lt_or_ge j l1.length with hlt | hge
      · rw[List.getElem?_append_left hlt]at hl
        rw[List.getElem?_append_right (by omega)]at hl'
        exact a5 l l' (List.mem_of_getElem? hl) (b4 _ l' hl')
      · rw[List.getElem?_append_right hge]at hl
        rcases Nat.lt_or_ge j' l1.length with hlt' | hge'
        · rw[List.getElem?_append_left hlt']at hl'
          exact dsym _ _ (a5 l' l (List.mem_of_getElem? hl') (b4 _ l hl))
        · rw[List.getElem?_append_right hge']at hl'
          exact b5 _ _ l l' (by omega) hl hl'
  | [],vs',_::_,used,hv,h=>by simp[outs]at h
  | _::_,vs',[],used,hv,h=>by simp[outs]at h
end

theorem Kept.below {F G:Nat→Nat→Prop} {w w':World} (h:Kept F w w') (hF:∀k j,k<w.heap.size→F k j→G k j):Kept G w w' :=
  ⟨h.os,h.tape,h.output,h.size,fun k hk=>(h.blk k hk).mono fun j=>hF k j hk⟩

theorem BOk.own {Own Own':Nat→Nat→Prop} {σ:Sg} {w:World} {l:Loc} {B:Blk} (h:BOk Own σ w l B) (ho:∀k j,Own k j→Own' k j):BOk Own' σ w l B :=
  ⟨h.len,fun hl h0=>by
    obtain⟨c,e,fr,h1,h2,h3,h4⟩:=h.row hl h0
    exact⟨c,e,fr,h1,h2,h3,fun hw=>⟨fun j hj=>ho _ _ ((h4 hw).1 j hj),(h4 hw).2⟩⟩⟩

/-- Blocks of numbers alone. -/
def Plain (gl:List Blk):Prop:=∀B∈gl,B.wr=false∧(B=.dead∨∃ro k xs,B=.ints ro k xs)

theorem sum_of {P:Program} {gl:List Blk} {f:FuncId} {shs:List Sh} {pre:List D→Prop} {F:List D→Out} (hgl:Plain gl)
    (h:∀ds,pre ds→Does P gl f (injV ds 4) (gl++injB true ds) (out (4+(injB true ds).length) (F ds))) (hlen:gl.length=4):SumOK P gl f (sData shs pre F):=by
  intro Own σ hp w vs cvs K hs hG hvs hsum hfree
  obtain⟨ds,⟨hpre,hk⟩,hrd⟩:=rds_det hsum
  refine⟨_,hk,?_⟩
  have hfree:=hfree _ hk
  obtain⟨locs,c1,c2,c3⟩:=rds_ok hs hvs (hrd (·=ds) rfl)
  let O:Nat→Nat→Prop:=fun k _=>w.heap.size≤k
  let τ:Sg:=⟨fun b=>if b<4 then σ b else locs[b-4]?,statW w⟩
  have hτlow:∀b,b<4→τ b=σ b:=fun b hb=>by simp[τ,hb]
  have hτhigh:∀j,τ (4+j)=locs[j]?:=fun j=>by simp only[τ];rw[if_neg (by omega),Nat.add_sub_cancel_left]
  have hnlow:∀b,b<4→nthB (gl++injB true ds) b=nthB hp b:=by
    intro b hb
    rw[nthB_get,List.getElem?_append_left (by omega),←hG.is,List.getElem?_take,if_pos hb,nthB_get]
  have hnhigh:∀b,4≤b→nthB (gl++injB true ds) b=nthB (injB true ds) (b-4):=by
    intro b hb
    rw[nthB_get,List.getElem?_append_right (by omega),hlen,nthB_get]
  have hBlow:∀b,b<4→nthB hp b∈gl:=by
    intro b hb
    have:gl[b]?=some (nthB hp b):=by
      have:=List.getElem?_eq_getElem (show b<gl.length by omega)
      rw[←hnlow b hb,nthB_get,List.getElem?_append_left (by omega),this]
      rfl
    exact List.mem_of_getElem? this
  have hnowr:∀b,(nthB (gl++injB true ds) b).wr=false:=by
    intro b
    rcases Nat.lt_or_ge b 4 with hb | hb
    · rw[hnlow b hb];exact(hgl _ (hBlow b hb)).1
    · rw[hnhigh b hb,nthB_get]
      cases hq:(injB true ds)[b-4]? with
      | none=>rfl
      | some B =>
        have:∀(ds:List D) (B:Blk),B∈injB true ds→B.wr=false:=by
          intro ds
          induction ds with
          | nil=>simp[injB]
          | cons d ds ih =>
            intro B hB
            cases d with
            | v a=>exact ih B (by simpa[injB]using hB)
            | s k xs =>
              simp only[injB,List.mem_cons]at hB
              rcases hB with rfl | hB
              · rfl
              · exact ih B hB
        exact this ds B (List.mem_of_getElem? hq)
  have hsim:Sim O τ (nthB (gl++injB true ds)) w:=by
    refine⟨fun b l hb=>?_,fun b b' l l' _ _ _ hw=>?_,fun k j hk=>hk,fun k j v hv=>⟨hv.1,hv.2,fun b l _ hw=>by rw[hnowr b]at hw;simp at hw⟩⟩
    · rcases Nat.lt_or_ge b 4 with hb4 | hb4
      · rw[hτlow b hb4]at hb
        rw[hnlow b hb4]
        obtain⟨hnw,hpl⟩:=hgl _ (hBlow b hb4)
        have hbok:=hs.blk b l hb
        rcases hpl with hd | ⟨ro,k,xs,hd⟩
        · rw[hd];exact⟨by simp[Blk.vs],by simp[Blk.live]⟩
        · rw[hd]at hbok hnw ⊢
          refine⟨hbok.len,fun hl h0=>?_⟩
          obtain⟨c,e,fr,h1,h2,h3,h4⟩:=hbok.row hl h0
          refine⟨c,e,fr,h1,h2,fun j a ha=>?_,fun hw=>by rw[hnw]at hw;simp at hw⟩
          obtain⟨u,hu,hr,ho⟩:=h3 j a ha
          simp only[Blk.vs,List.getElem?_map,Option.map_eq_some_iff]at ha
          obtain⟨x,-,rfl⟩:=ha
          exact⟨u,hu,hr.pur rfl,ho⟩
      · rw[show b=4+(b-4) by omega,hτhigh]at hb
        rw[hnhigh b hb4]
        have hlt:=(List.getElem?_eq_some_iff.1 hb).1
        refine c3 O τ (b-4) l _ hb ?_
        rw[nthB_get,List.getElem?_eq_getElem (by omega)]
        rfl
    · rw[hnowr b]at hw;simp at hw
  have hG':GOk gl τ (gl++injB true ds):=⟨fun g hg=>by
    obtain⟨l,hl,h1⟩:=hG.at_ g hg
    exact⟨l,by rw[hτlow g hg];exact hl,h1⟩,by rw[←hlen];simp⟩
  have hdom:∀b,(gl++injB true ds).length≤b→τ b=none:=by
    intro b hb
    simp only[List.length_append,hlen]at hb
    rw[show b=4+(b-4) by omega,hτhigh]
    simp;omega
  have hcall:=h ds hpre O τ w cvs hsim hG' hdom (c2 4 τ (fun _ _ _ h=>h) fun j l hj=>by rw[hτhigh];exact hj)
  refine hcall.mono fun en w' ⟨v,v',hp',σ',hen,hout,hs',hv',hext,hkept⟩=>⟨v',?_⟩
  have hkept':Kept (fun k j=>False) w w':=hkept.below fun k j hk hO=>absurd hO (by simp only[O];omega)
  -- a list of results
  have list:∀(us:List V) (us':List Value) (rs:List D),VRs σ' us us'→outs (4+(injB true ds).length) hp' us rs []→(∀j,j<(injB false rs).length→σ (hp.length+j)=none) →
      ∃σ2:Sg,VRs σ2 (injV rs hp.length) us'∧∀x x',VR σ2 x x'→Post Own σ (nthB hp) hp.length ⟨x,[],injB false rs⟩ w x' w' σ2:=by
    intro us us' rs hus ho hfr
    obtain⟨ls,d1,d2,d3,d4,d5⟩:=outs_ok hs' hus ho
    let σ2:Sg:=⟨fun b=>if hp.length≤b∧b<hp.length+ls.length then ls[b-hp.length]? else σ b,σ.stat⟩
    have h2new:∀j l,ls[j]?=some l→σ2 (hp.length+j)=some l:=by
      intro j l hj
      have hlt:=(List.getElem?_eq_some_iff.1 hj).1
      simp only[σ2]
      rw[if_pos (by omega),Nat.add_sub_cancel_left]
      exact hj
    have hext2:Sg.le σ σ2:=by
      refine⟨fun b l hb=>?_,rfl⟩
      simp only[σ2]
      split
      · rename_i hc
        have:=hfr (b-hp.length) (by omega)
        rw[show hp.length+(b-hp.length)=b by omega,hb]at this
        simp at this
      · exact hb
    refine⟨σ2,d2 hp.length σ2 h2new,fun x x' hx=>⟨hext2,fun b hb=>?_,hx,by simp,by simp,by simp,hkept'.mono fun _ _ h=>h.elim,by simp,fun j B hj=>?_,fun j j' l l' hne hj hj' hl hl'=>?_⟩⟩
    · simp only[σ2]
      rw[if_neg]
      simp only[d1]
      simp only[]at hb
      omega
    · have hlt:=(List.getElem?_eq_some_iff.1 hj).1
      simp only[]at hlt
      have hl:=List.getElem?_eq_getElem (show j<ls.length by omega)
      refine⟨ls[j],h2new j _ hl,(d3 σ2 j _ B hl hj).own fun k j hk=>hs.new k j hk,?_⟩
      rcases d4 j _ hl with hz | ⟨b,lb,h1,h2,h3,h4,h5,h6,h7⟩
      · exact .inr (.inl hz)
      · by_cases hz:ls[j].size=0
        · exact .inr (.inl hz)
        · left
          obtain⟨c,e,fr,e1,e2,e3,e4⟩:=(hs'.blk b lb h3).row (Blk.live_of_wr h4) (by omega)
          have:=(e4 h4).1 0 (by omega)
          rw[h5];exact this
    · simp only[]at hj hj'
      have e1:=List.getElem?_eq_getElem (show j<ls.length by omega)
      have e2:=List.getElem?_eq_getElem (show j'<ls.length by omega)
      rw[h2new j _ e1]at hl
      rw[h2new j' _ e2]at hl'
      cases hl;cases hl'
      exact d5 j j' _ _ hne e1 e2
  cases hF:F ds with
  | one d =>
    rw[hF]at hout hfree
    simp only[out]at hout
    obtain⟨σ2,h1,h2⟩:=list [v] [v'] [d] (.cons hv' .nil) hout hfree
    refine⟨σ2,hen,h2 _ _ ?_⟩
    cases d<;>simp only[injV]at h1 ⊢<;>cases h1<;>assumption
  | many rs =>
    rw[hF]at hout hfree
    simp only[out]at hout
    cases v<;>simp only[]at hout
    cases hv'
    rename_i us us' hus
    obtain⟨σ2,h1,h2⟩:=list us us'.toList rs hus hout hfree
    exact⟨σ2,hen,h2 _ _ (.tup h1)⟩
end Am
