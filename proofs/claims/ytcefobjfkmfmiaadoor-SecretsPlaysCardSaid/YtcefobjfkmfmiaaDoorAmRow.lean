/-
From a law's arguments to the small memory, and from its true back to the row.
-/
import Derived.Test.YtcefobjfkmfmiaaDoorAmNum
import Derived.OpenShut
import Derived.ChangeStays
import Derived.ReadAgain
import Derived.Lib.LaidTab
import Derived.RowKit3
import Derived.ChangeMaps5
set_option linter.unusedSimpArgs false
set_option linter.unusedVariables false
set_option linter.unusedSectionVars false
namespace Am
open Go

/-- An argument in the world, as data. -/
inductive AR (W:World):D→Value→Prop
  | v {a:V} {v:Value} (h:VR ⟨fun _=>none,statW W⟩ a v) (hp:purR a=true):AR W (.v a) v
  | nil (k:IntKind):AR W (.s k []) (.slice none 0 0)
  | s {k:IntKind} {xs:List Int} {b off cap:Nat} {ad:Option Addr} {c:Array Value} {e:TypeId} {fr:Nat×Nat} (had:0<cap→ad=some ⟨b,off,none⟩) (hl:xs.length≤cap) (hb:0<cap→W.heap[b]?=some (.cells c e fr)∧off+cap≤c.size)
      (hx:∀(j:Nat) x,xs[j]?=some x→c[off+j]?=some (.int k x)):AR W (.s k xs) (.slice ad xs.length cap)
inductive ARs (W:World):List D→List Value→Prop
  | nil:ARs W [] []
  | cons {d:D} {v:Value} {ds:List D} {vs:List Value} (h:AR W d v) (t:ARs W ds vs):ARs W (d::ds) (v::vs)

theorem AR.locs {W:World} {d:D} {v:Value} (h:AR W d v):∃locs:List Loc,locs.length=(injB true [d]).length ∧
    (∀(n:Nat) (τ:Sg),(∀k j v,statW W k j v→τ.stat k j v)→(∀j l,locs[j]?=some l→τ (n+j)=some l)→VRs τ (injV [d] n) [v]) ∧
    (∀(O:Nat→Nat→Prop) (τ:Sg) (j:Nat) (l:Loc) (B:Blk),locs[j]?=some l→(injB true [d])[j]?=some B→BOk O τ W l B):=by
  cases h with
  | v h hp=>exact⟨[],by simp[injB],fun n τ hst _=>by simpa[injV]using VRs.cons (h.purR hst hp) .nil,by simp⟩
  | nil k =>
    refine⟨[⟨0,0,0⟩],by simp[injB],fun n τ _ hτ=>?_,fun O τ j l B hl hB=>?_⟩
    · have:=hτ 0 ⟨0,0,0⟩ (by simp)
      simp only[injV]
      exact .cons (.slice (cap':=0) (l:=⟨0,0,0⟩) this (by simp) (by simp) (by simp) (by simp)) .nil
    · cases j with
      | zero=>simp[injB]at hl hB;subst hl hB;exact⟨by simp[Blk.vs],by simp⟩
      | succ j=>simp at hl
  | @s k xs b off cap ad c e fr had hl hb hx =>
    refine⟨[⟨b,off,cap⟩],by simp[injB],fun n τ _ hτ=>?_,fun O τ j l B hl' hB=>?_⟩
    · have:=hτ 0 ⟨b,off,cap⟩ (by simp)
      simp only[injV]
      exact .cons (.slice (cap':=cap) (l:=⟨b,off,cap⟩) this (by simp) hl (by simp) (by simpa using had)) .nil
    · cases j with
      | zero =>
        simp[injB]at hl' hB;subst hl' hB
        refine⟨by simpa[Blk.vs]using hl,fun _ h0=>?_⟩
        obtain⟨h1,h2⟩:=hb h0
        refine⟨c,e,fr,h1,h2,fun j a ha=>?_,by simp[Blk.wr]⟩
        simp only[Blk.vs,List.getElem?_map,Option.map_eq_some_iff]at ha
        obtain⟨x,hx',rfl⟩:=ha
        exact⟨_,hx j x hx',.int k x,rfl⟩
      | succ j=>simp at hl'
theorem ARs.locs {W:World}:∀{ds:List D} {vs:List Value},ARs W ds vs→∃locs:List Loc,locs.length=(injB true ds).length ∧
    (∀(n:Nat) (τ:Sg),(∀k j v,statW W k j v→τ.stat k j v)→(∀j l,locs[j]?=some l→τ (n+j)=some l)→VRs τ (injV ds n) vs) ∧
    (∀(O:Nat→Nat→Prop) (τ:Sg) (j:Nat) (l:Loc) (B:Blk),locs[j]?=some l→(injB true ds)[j]?=some B→BOk O τ W l B)
  | _,_,.nil=>⟨[],by simp[injB],fun _ _ _ _=>by simpa[injV]using VRs.nil,by simp⟩
  | _,_,.cons (d:=d) (ds:=ds) h t=>by
    obtain⟨l1,a1,a2,a3⟩:=h.locs
    obtain⟨l2,b1,b2,b3⟩:=t.locs
    refine⟨l1++l2,by rw[injB_cons];simp[a1,b1],fun n τ hst hτ=>?_,fun O τ j l B hl hB=>?_⟩
    · rw[injV_cons]
      refine (a2 n τ hst fun j l hj=>hτ j l ?_).append (b2 _ τ hst fun j l hj=>?_)
      · rw[List.getElem?_append_left (List.getElem?_eq_some_iff.1 hj).1];exact hj
      · rw[Nat.add_assoc]
        refine hτ _ l ?_
        rw[List.getElem?_append_right (by omega)]
        rw[←a1,Nat.add_sub_cancel_left];exact hj
    · rw[injB_cons]at hB
      rcases Nat.lt_or_ge j l1.length with hlt | hge
      · rw[List.getElem?_append_left hlt]at hl
        rw[List.getElem?_append_left (by omega)]at hB
        exact a3 O τ j l B hl hB
      · rw[List.getElem?_append_right hge]at hl
        rw[List.getElem?_append_right (by omega),←a1]at hB
        exact b3 O τ _ l B hl hB

/-- The package-level variables, as the world holds them. -/
def GW (W:World) (gl:List Blk):Prop:=gl.length=4∧∀(g:Nat) B,gl[g]?=some B→B=.dead∨∃(k:IntKind) (xs:List Int) (e:TypeId) (fr:Nat×Nat),B=.ints true k xs∧W.heap[g]?=some (.cells (xs.map (Value.int k)).toArray e fr)

theorem call_atV {P:Program} {gl:List Blk} {f:FuncId} {ds:List D} {vs:Array Value} {vs0:List V} {fl:List Value} {a:V} {R:V→List Blk→Prop} {W:World} (hD:Does P gl f vs0 (gl++injB true ds) R) (hR:∀v hp,R v hp→v=a)
    (hG:GW W gl) (hA:ARs W ds fl) (hV:∀τ:Sg,VRs τ (injV ds 4) fl→VRs τ vs0 vs.toList):Calls P f vs W fun e W'=>∃v' σ',e=.returned v'∧VR σ' a v'∧Kept (fun _ _=>False) W W':=by
  obtain⟨hlen,hG⟩:=hG
  obtain⟨locs,c1,c2,c3⟩:=hA.locs
  let O:Nat→Nat→Prop:=fun k _=>W.heap.size≤k
  let gloc:Nat→Loc:=fun g=>⟨g,0,match gl[g]? with | some (.ints _ _ xs)=>xs.length | _=>0⟩
  let τ:Sg:=⟨fun b=>if b<4 then some (gloc b)else locs[b-4]?,statW W⟩
  have hτlow:∀b,b<4→τ b=some (gloc b):=fun b hb=>by simp[τ,hb]
  have hτhigh:∀j,τ (4+j)=locs[j]?:=fun j=>by simp only[τ];rw[if_neg (by omega),Nat.add_sub_cancel_left]
  have hnlow:∀b,b<4→∃B,gl[b]?=some B∧nthB (gl++injB true ds) b=B:=by
    intro b hb
    refine⟨gl[b],List.getElem?_eq_getElem (by omega),?_⟩
    rw[nthB_get,List.getElem?_append_left (by omega),List.getElem?_eq_getElem (by omega)]
    rfl
  have hnhigh:∀b,4≤b→nthB (gl++injB true ds) b=nthB (injB true ds) (b-4):=by
    intro b hb
    rw[nthB_get,List.getElem?_append_right (by omega),hlen,nthB_get]
  have hnowr:∀b,(nthB (gl++injB true ds) b).wr=false:=by
    intro b
    rcases Nat.lt_or_ge b 4 with hb | hb
    · obtain⟨B,h1,h2⟩:=hnlow b hb
      rw[h2]
      rcases hG b B h1 with rfl | ⟨k,xs,e,fr,rfl,-⟩<;>rfl
    · rw[hnhigh b hb,nthB_get]
      cases hq:(injB true ds)[b-4]? with
      | none=>rfl
      | some B =>
        have:∀(ds:List D) (B:Blk),B∈injB true ds→B.wr=false:=by
          intro ds
          induction ds with
          | nil=>simp[injB]
          | cons d ds ih =>
            intro B hB
            cases d with
            | v a=>exact ih B (by simpa[injB]using hB)
            | s k xs =>
              simp only[injB,List.mem_cons]at hB
              rcases hB with rfl | hB
              · rfl
              · exact ih B hB
        exact this ds B (List.mem_of_getElem? hq)
  have hsim:Sim O τ (nthB (gl++injB true ds)) W:=by
    refine⟨fun b l hb=>?_,fun b b' l l' _ _ _ hw=>?_,fun k j hk=>hk,fun k j v hv=>⟨hv.1,hv.2,fun b l _ hw=>by rw[hnowr b]at hw;simp at hw⟩⟩
    · rcases Nat.lt_or_ge b 4 with hb4 | hb4
      · rw[hτlow b hb4]at hb
        obtain⟨B,h1,h2⟩:=hnlow b hb4
        rw[h2]
        cases hb
        rcases hG b B h1 with rfl | ⟨k,xs,e,fr,rfl,hw⟩
        · exact⟨by simp[Blk.vs],by simp[Blk.live]⟩
        · refine⟨by simp[Blk.vs,gloc,h1],fun _ h0=>⟨_,e,fr,hw,by simp[gloc,h1],fun j a ha=>?_,by simp[Blk.wr]⟩⟩
          simp only[Blk.vs,List.getElem?_map,Option.map_eq_some_iff]at ha
          obtain⟨x,hx,rfl⟩:=ha
          exact⟨.int k x,by simp[gloc,hx],.int k x,rfl⟩
      · rw[show b=4+(b-4) by omega,hτhigh]at hb
        rw[hnhigh b hb4]
        have hlt:=(List.getElem?_eq_some_iff.1 hb).1
        refine c3 O τ (b-4) l _ hb ?_
        rw[nthB_get,List.getElem?_eq_getElem (by omega)]
        rfl
    · rw[hnowr b]at hw;simp at hw
  have hG':GOk gl τ (gl++injB true ds):=⟨fun g hg=>⟨_,hτlow g hg,rfl,rfl⟩,by rw[←hlen];simp⟩
  have hdom:∀b,(gl++injB true ds).length≤b→τ b=none:=by
    intro b hb
    simp only[List.length_append,hlen]at hb
    rw[show b=4+(b-4) by omega,hτhigh]
    simp;omega
  refine (hD O τ W vs hsim hG' hdom (hV τ (c2 4 τ (fun _ _ _ h=>h) fun j l hj=>by rw[hτhigh];exact hj))).mono fun en w' ⟨v,v',hp',σ',hen,hout,hs',hv',hext,hkept⟩=>?_
  rw[hR v hp' hout]at hv'
  exact⟨v',σ',hen,hv',hkept.below fun k j hk hO=>absurd hO (by simp only[O];omega)⟩

theorem call_at {P:Program} {gl:List Blk} {f:FuncId} {ds:List D} {vs:Array Value} {a:V} {R:V→List Blk→Prop} {W:World} (hD:Does P gl f (injV ds 4) (gl++injB true ds) R) (hR:∀v hp,R v hp→v=a)
    (hG:GW W gl) (hA:ARs W ds vs.toList):Calls P f vs W fun e W'=>∃v' σ',e=.returned v'∧VR σ' a v'∧Kept (fun _ _=>False) W W':=call_atV hD hR hG hA fun _ h=>h
/-! ### The row -/
theorem Kept.old {W W':World} (h:Kept (fun _ _=>False) W W') {k:Nat} (hk:k<W.heap.size):W'.heap[k]?=W.heap[k]?:=by
  rcases h.blk k hk with h | ⟨⟨_,h⟩,_⟩
  · exact h
  · exact h.elim
theorem Kept.keptBut {W W':World} (h:Kept (fun _ _=>False) W W') (may:MemPlace→Prop):W.keptBut W' may:=by
  refine⟨h.os,h.output,fun i hi=>?_⟩
  rw[h.old hi]
  cases W.heap[i]? with
  | none=>rfl
  | some o=>cases o<;>simp

section
variable {H : Type} {enc : TypeId × Value → H} {P : Program}
theorem trodAll_stays {W W':World} {T:TypeId→Prop} (K:Kids P T) (hsz:∀{t e:TypeId},T t→P.underlying t=some (.slice e)→0<P.cellsOf e) {sp:Nat→Bool} :
    ∀{ts:List TypeId} {vs:List Value} {ds:List (DataW H)} {ps:List MemPlace},(∀t∈ts,T t)→DataW.TrodAll enc P W 0 (fun _=>true) true ts vs ds ps→(∀p∈ps,W.sameAt W' p)→(∀p∈ps,sp p.block=true)→DataW.TrodAll enc P W' 0 sp true ts vs ds ps
  | [],[],[],_,_,h,_,_=>h
  | t::ts,v::vs,d::ds,ps,hT,⟨p,q,⟨n,h1⟩,h2,e⟩,hs,hp=>by
    subst e
    exact⟨p,q,⟨n,DataW.trod_stays K hsz (by simp) (hT t (by simp)) h1 (fun x hx=>hs x (by simp only[]at hx;exact List.mem_append_left _ hx)) (fun x hx=>hp x (by simp only[]at hx;exact List.mem_append_left _ hx))⟩,
      trodAll_stays K hsz (fun t ht=>hT t (List.mem_cons_of_mem _ ht)) h2 (fun x hx=>hs x (List.mem_append_right _ hx)) (fun x hx=>hp x (List.mem_append_right _ hx)),rfl⟩
  | [],_::_,_,_,_,h,_,_=>h.elim
  | _::_,[],_,_,_,h,_,_=>h.elim
  | [],[],_::_,_,_,h,_,_=>h.elim
  | _::_,_::_,[],_,_,h,_,_=>h.elim

/-- The law's true, and all else as it was. -/
theorem post_true {f:Func} {s:ChangeSpec} {apart fresh handsOn again:Bool} {W W':World} {args:Array Value} {ds:List (DataW H)} {before:List MemPlace} {t:TypeId}
    (hl:laidOutB P=true) (hm:mapsRowed P=true) (hsl:((List.range P.types.size).all fun t=>match P.underlying t with | some (.slice e)=>decide (0<P.cellsOf e) | _=>true)=true)
    (hT:∀t∈f.params.toList,t<P.types.size) (hb:P.underlying t=some .bool) (hr:f.resultTypes=#[t]) (hv:s.vars=[])
    (hf:s.fn H (ds++[])={ results:=[.lit (.bool true)],args:=ds })
    (hW:DataW.Whole enc P f.params.toList s.vars apart W args.toList ds [] before) (hk:Kept (fun _ _=>False) W W') :
    s.post enc P f apart fresh handsOn again W args (.bool true) W':=by
  have hsame:∀p∈before,W.sameAt W' p:=by
    intro p hp
    have hlt:=hW.lt p hp
    cases p with
    | cell b off =>
      have hlt:b<W.heap.size:=hlt
      simp only[World.sameAt,World.cell?,hk.old hlt]
    | map b =>
      have hlt:b<W.heap.size:=hlt
      exact hk.old hlt
  have hfz:∀b off,MemPlace.cell b off∈before→W'.frozen? ⟨b,off,none⟩=W.frozen? ⟨b,off,none⟩:=by
    intro b off hp
    have hlt:b<W.heap.size:=hW.lt _ hp
    simp only[World.frozen?,hk.old hlt]
  have hW':=hW
  obtain⟨p,q,hA,hV,hpq,hz,hn⟩:=hW
  rw[hv]at hV
  obtain rfl:q=[]:=hV
  simp only[List.append_nil]at hpq
  subst hpq
  have hres:∀(b:Nat) (sp:Nat→Bool) (hd:Bool),DataW.TrodAll enc P W' b sp hd f.resultTypes.toList ((Value.bool true).resultList f.resultTypes.size) (s.fn H (ds++[])).results []:=by
    intro b sp hd
    rw[hf,hr]
    exact trodAll_cons_mk (RowKit.shut_bool hb true) (by exact rfl)
  have hargs:∀sp:Nat→Bool,(∀p∈before,sp p.block=true)→DataW.TrodAll enc P W' 0 sp true f.params.toList args.toList (s.fn H (ds++[])).args before:=by
    intro sp hsp
    rw[hf]
    exact trodAll_stays (kids_rows hl hm) (fun {t e} h1 h2=>slices_full_of P hsl t e h1 h2) hT hA hsame hsp
  have hvars:∀sp:Nat→Bool,DataW.TrodVars enc P W' sp s.vars (s.fn H (ds++[])).vars []:=by
    intro sp
    rw[hf,hv]
    exact rfl
  have hold:∀p∈before,(fun b=>decide (b<W.heap.size)) p.block=true:=fun p hp=>by simpa using hW'.lt p hp
  refine⟨ds,[],before,[],before,[],hW',hres _ _ _,hargs _ hold,hvars _,hk.keptBut _,fun _=>?_⟩
  refine⟨RowKit.ok_one hr rfl (RowKit.okWide_bool_mk hb _),_,_,([]++before)++[],⟨[]++before,[],ChangeShapes.trodAll_append (hargs _ (fun _ _=>rfl)) (hres _ _ _),hvars _,rfl,?_,?_⟩,?_⟩
  · intro b off hp
    have hp':MemPlace.cell b off∈before:=by simpa using hp
    rw[hfz b off hp']
    exact hz b off (by simpa using hp')
  · intro ha
    have:=hn ha
    simpa using this
  · intro p hp _
    simpa using hp
end
/-- What a law answers. -/
def FT:List D→Out
  | _=>.one (.v (.bool true))
theorem out_true {m:Nat} {ds:List D}:∀v hp,out m (FT ds) v hp→v=.bool true:=by
  intro v hp h
  simpa[FT,out,outs,out1,pur]using h
/-- A law's call, out of what its code shows: true, and all else as it was. -/
theorem law_at {P:Program} {gl:List Blk} {f:FuncId} {ds:List D} {vs:Array Value} {W:World} (hD:Does P gl f (injV ds 4) (gl++injB true ds) (out (4+(injB true ds).length) (FT ds)))
    (hG:GW W gl) (hA:ARs W ds vs.toList):Calls P f vs W fun e W'=>e=.returned (.bool true)∧Kept (fun _ _=>False) W W' :=
  (call_at hD out_true hG hA).mono fun e W' ⟨v,σ,he,hv,hk⟩=>by
    cases hv
    exact⟨he,hk⟩
/-- A package-level variable that holds a table. -/
theorem gw_tab {P:Program} {W:World} {name:String} {k:IntKind} {zs:List Int} {g:Nat} (h:Lib.TabIs P W name k zs) (hg:P.globalNamed name=some g):∃(e:TypeId) (fr:Nat×Nat),W.heap[g]?=some (.cells (zs.map (Value.int k)).toArray e fr):=by
  unfold Lib.TabIs World.var? at h
  rw[hg,Option.bind_some]at h
  split at h
  · rename_i cs e fr hh
    simp only[Option.some.injEq]at h
    exact⟨e,fr,by rw[hh,h]⟩
  · simp at h
end Am
/-
A law's arguments, opened.
-/
namespace Am
open Go
section
variable {H : Type} {enc : TypeId × Value → H} {P : Program} {W : World} {r : Reach} {b0 base : Nat} {t e : TypeId} {k : IntKind} {v : Value} {d : DataW H} {ps : List MemPlace}

theorem open_sl (ht:P.underlying t=some (.slice e)) (he:P.underlying e=some (.int k)) (hc:P.cellsOf e=1) (hval:Value.okWide P W r b0 t v) (hd:DataW.Trod enc P W base (fun _=>true) true t v d ps) :
    ∃xs,AR W (.s k xs) v∧(∀x∈xs,(Lit.int k x).wf=true)∧xs.length≤maxLen:=by
  obtain⟨a,len,cap,rfl⟩:=WideShapes.okWide_slice ht hval
  obtain⟨n,hd⟩:=hd
  rcases ChangeShapes.open_ints ht he hc (by simpa[Value.cells]using hd)with ⟨h,-⟩ | ⟨ad,len',cap',zs,h,-,hl,hm,hz,-,hcell,hw⟩
  · simp at h
    obtain⟨rfl,rfl,rfl⟩:=h
    exact⟨[],.nil k,by simp,by simp⟩
  · simp at h
    obtain⟨rfl,rfl,rfl⟩:=h
    simp only[if_true]at hz
    have htl:(zs.take len).length=len:=by simp;omega
    refine⟨zs.take len,?_,fun x hx=>hw x (List.mem_of_mem_take hx),by omega⟩
    have this:=fun c e fr=>AR.s (W:=W) (k:=k) (xs:=zs.take len) (b:=ad.block) (off:=ad.off) (cap:=cap) (ad:=some ad) (c:=c) (e:=e) (fr:=fr)
    rw[htl]at this
    by_cases h0:0<cap
    · have h1:=hcell 0 (by omega)
      simp only[Addr.add]at h1
      have hsp:ad=⟨ad.block,ad.off,none⟩∧∃c e' fr,W.heap[ad.block]?=some (.cells c e' fr):=by
        simp only[if_true]at h1
        unfold World.cell? at h1
        split at h1
        · rename_i c e' fr hh
          split at h1
          · simp at h1
          · rename_i hs
            refine⟨?_,c,e',fr,hh⟩
            cases ad with
            | mk b o s=>cases s<;>simp_all
        · simp at h1
      obtain⟨hsp,c,e',fr,hh⟩:=hsp
      have hat:∀i,i<cap→c[ad.off+i]?=some (.int k (zs.getD i 0)):=by
        intro i hi
        have h2:=hcell i (by omega)
        rw[hsp]at h2
        unfold Addr.add at h2
        split at h2
        · rename_i h0
          subst h0
          simpa[World.cell?,hh]using h2
        · simpa[World.cell?,hh]using h2
      refine this c e' fr (fun _=>by rw[←hsp]) hl (fun _=>⟨hh,?_⟩) fun j x hj=>?_
      · have:=hat (cap-1) (by omega)
        have:=(Array.getElem?_eq_some_iff.1 this).1
        omega
      · rw[List.getElem?_take]at hj
        split at hj
        · rw[hat j (by omega)];simp[List.getD,hj]
        · simp at hj
    · refine this #[] 0 (0,0) (fun h=>absurd h h0) hl (fun h=>absurd h h0) fun j x hj=>?_
      have hlz:len=0:=by omega
      subst hlz
      simp at hj
end
theorem wf_u8 {x:Int} (h:(Lit.int .u8 x).wf=true):0≤x∧x<256:=by
  simp[Lit.wf,IntKind.min,IntKind.max,IntKind.signed,IntKind.bits]at h;omega
theorem dig_u8 {xs:List Int} (h:∀x∈xs,(Lit.int .u8 x).wf=true):Dig 256 xs:=fun x hx=>wf_u8 (h x hx)
end Am
/-
Several tables that a row lays, and strings among a law's arguments.
-/
namespace Am
open Go
theorem vars_of_met {P:Program} {W:World} {l:List (String×DataW Unit)} (h:laidMet P l W):∃ps,DataW.LaidVars P W l ps:=by
  obtain⟨ps,h,-⟩:=h
  exact⟨ps,h⟩
theorem vars_tail {P:Program} {W:World} {x:String×DataW Unit} {l:List (String×DataW Unit)} (h:∃ps,DataW.LaidVars P W (x::l) ps):∃ps,DataW.LaidVars P W l ps:=by
  obtain⟨ps,g,t,cs,fuel,p,q,_,_,_,_,hq,_⟩:=h
  exact⟨q,hq⟩
theorem tabIs_of_vars {P:Program} {W:World} {name:String} {k:IntKind} {zs:List Int} {rest:List (String×DataW Unit)} {g:Nat} {t e:TypeId} {n:Nat}
    (hg:P.globalNamed name=some g) (hty:(P.globals[g]?).map (·.type)=some t) (ht:P.underlying t=some (.array n e)) (he:P.underlying e=some (.int k)) (hce:P.cellsOf e=1) (hct:P.cellsOf t=n)
    (h:∃ps,DataW.LaidVars P W ((name,Lib.tabData k zs)::rest) ps):Lib.TabIs P W name k zs:=by
  obtain⟨ps,g',t',cs,fuel,p,q,hg',ht',hvar,hd,_,_⟩:=h
  obtain rfl:=Option.some.inj (hg.symm.trans hg')
  obtain rfl:=Option.some.inj (hty.symm.trans ht')
  unfold Lib.TabIs
  rw[hvar,←Lib.cells_of_tab ht he hce hct hd]
theorem open_s {H:Type} {enc:TypeId×Value→H} {P:Program} {W:World} {r:Reach} {b0 base:Nat} {t:TypeId} {v:Value} {d:DataW H} {ps:List MemPlace} (ht:P.underlying t=some .string) (hval:Value.okWide P W r b0 t v) (hd:DataW.Trod enc P W base (fun _=>true) true t v d ps) :
    ∃s,AR W (.v (.str s)) v∧(∀x∈s,0≤x∧x<256)∧s.length≤maxLen:=by
  obtain⟨s,rfl,-,-,hs⟩:=ChangeMaps.open_string ht hval hd
  refine⟨bytesOf s,.v (.str s) rfl,fun x hx=>?_,?_⟩
  · simp only[bytesOf,List.mem_map]at hx
    obtain⟨b,-,rfl⟩:=hx
    have:=b.toNat_lt
    omega
  · simpa[bytesOf]using hs
end Am
