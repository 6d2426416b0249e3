/-
Contracts of functions that write: arguments given away, objects behind pointers.
-/
import Derived.Test.YtcefobjfkmfmiaaDoorAmSound
set_option linter.unusedSimpArgs false
set_option linter.unusedVariables false
set_option linter.unusedSectionVars false
namespace Am
open Go (IntKind BinOp UnOp Value FuncId TypeId World Program Oper Op Operand Code Func ResultVar Addr Obj Act Exit Sem Result Next execOp Ending Calls wpList yielded wpAny wpOp)

/-- A datum: a value; a slice of its own memory, of numbers or of other cells; an object of its own memory. -/
inductive E where
  | v (a:V)
  | x
  | s (sz len:Nat) (k:IntKind) (xs:List Int)
  | c (sz len:Nat) (cs:List V)
  | w (k:IntKind) (xs:List Int)
  | p (fs:List E)
  deriving Inhabited
mutual
def cnt:E→Nat
  | .v _=>0
  | .x=>0
  | .s _ _ _ _=>1
  | .c _ _ _=>1
  | .w _ _=>1
  | .p fs=>cnts fs+1
def cnts:List E→Nat
  | []=>0
  | e::r=>cnt e+cnts r
end
def inj:E→Nat→V
  | .v a,_=>a
  | .x,_=>.undef
  | .s sz len _ _,n=>.slice n 0 sz len len
  | .c sz len _,n=>.slice n 0 sz len len
  | .w _ xs,n=>.slice n 0 1 xs.length xs.length
  | .p _,n=>.ptr n 0
def injs:List E→Nat→List V
  | [],_=>[]
  | e::r,n=>inj e n::injs r (n+cnt e)
mutual
def blk:E→Nat→List Blk
  | .v _,_=>[]
  | .x,_=>[]
  | .s _ _ k xs,_=>[.ints false k xs]
  | .c _ _ cs,_=>[.cells false cs]
  | .w k xs,_=>[.ints false k xs]
  | .p fs,n=>.cells false (injs fs (n+1))::blks fs (n+1)
def blks:List E→Nat→List Blk
  | [],_=>[]
  | e::r,n=>blk e n++blks r (n+cnt e)
end
mutual
theorem blk_length:∀(e:E) (n:Nat),(blk e n).length=cnt e
  | .v _,_=>rfl
  | .x,_=>rfl
  | .s _ _ _ _,_=>rfl
  | .c _ _ _,_=>rfl
  | .w _ _,_=>rfl
  | .p fs,n=>by simp[blk,cnt,blks_length fs (n+1)]
theorem blks_length:∀(es:List E) (n:Nat),(blks es n).length=cnts es
  | [],_=>rfl
  | e::r,n=>by simp[blks,cnts,blk_length e n,blks_length r _]
end

/-! ### What a function leaves -/
mutual
def outE (hp:List Blk):E→V→List Nat→(List Nat→Prop)→Prop
  | .v a,v,used,K=>(v=a∧pur a=true)∧K used
  | .x,v,used,K=>K used
  | .s sz len k xs,v,used,K=>match v with
    | .nils=>(xs=[]∧len=0)∧K used
    | .slice b o sz' len' _=>match nthB hp b with
      | .ints false k' ys=>(sz=sz'∧len=len'∧k=k'∧4≤b∧b∉used∧o+len*sz≤ys.length∧sub ys o (len*sz)=xs)∧K (b::used)
      | _=>False
    | _=>False
  | .c sz len cs,v,used,K=>match v with
    | .nils=>(cs=[]∧len=0)∧K used
    | .slice b o sz' len' _=>match nthB hp b with
      | .cells false ds=>(sz=sz'∧len=len'∧4≤b∧b∉used∧o+len*sz≤ds.length∧sub ds o (len*sz)=cs∧purs cs=true)∧K (b::used)
      | _=>False
    | _=>False
  | .w _ _,v,used,K=>False
  | .p fs,v,used,K=>match v with
    | .ptr b o=>match nthB hp b with
      | .cells false vs=>(o=0∧4≤b∧b∉used)∧outEs hp fs vs (b::used) K
      | .ints false k xs=>(o=0∧4≤b∧b∉used)∧outEs hp fs (xs.map (.int k)) (b::used) K
      | _=>False
    | _=>False
def outEs (hp:List Blk):List E→List V→List Nat→(List Nat→Prop)→Prop
  | [],vs,used,K=>vs=[]∧K used
  | e::r,vs,used,K=>match vs with
    | []=>False
    | v::vs=>outE hp e v used fun u=>outEs hp r vs u K
end

/-- A place within what a block stands for that is not used yet. -/
def In (used:List Nat) (σ:Sg) (hp:List Blk) (l:Loc):Prop:=l.size=0∨∃b lb,4≤b∧b∉used∧σ b=some lb∧(nthB hp b).wr=true∧l.blk=lb.blk∧lb.off≤l.off∧l.off+l.size≤lb.off+lb.size
theorem In.mono {used used':List Nat} {σ:Sg} {hp:List Blk} {l:Loc} (h:In used σ hp l) (hu:∀b,b∈used'→b∈used):In used' σ hp l:=by
  rcases h with h | ⟨b,lb,h1,h2,h3⟩
  · exact .inl h
  · exact .inr ⟨b,lb,h1,fun hb=>h2 (hu b hb),h3⟩
/-- What is shown of a datum's memory: where each block lies. -/
structure Lies (T:Sg→Prop) (Own:Nat→Nat→Prop) (w:World) (vs':List Value) (vals:Nat→List V) (bs:Nat→List Blk) (m:Nat) (locs:List Loc):Prop where
  len:locs.length=m
  val:∀(n:Nat) (τ:Sg),T τ→(∀j l,locs[j]?=some l→τ (n+j)=some l)→VRs τ (vals n) vs'
  ok:∀(n:Nat) (τ:Sg),T τ→(∀j l,locs[j]?=some l→τ (n+j)=some l)→∀(j:Nat) (l:Loc) (B:Blk),locs[j]?=some l→(bs n)[j]?=some B→BOk Own τ w l B
  dj:∀(j j':Nat) (l l':Loc),j≠j'→locs[j]?=some l→locs[j']?=some l'→l.disj l'
theorem disj_symm {l l':Loc} (h:l.disj l'):l'.disj l:=by unfold Loc.disj at *;omega
theorem disj_in {l a b:Loc} (h:a.disj b) (h0:l.size=0∨l.blk=a.blk∧a.off≤l.off∧l.off+l.size≤a.off+a.size):l.disj b:=by unfold Loc.disj at *;omega
theorem at_append {l1 l2:List Loc} {n:Nat} {τ:Sg} (h:∀(j:Nat) l,(l1++l2)[j]?=some l→τ (n+j)=some l) :
    (∀(j:Nat) l,l1[j]?=some l→τ (n+j)=some l)∧∀(j:Nat) l,l2[j]?=some l→τ (n+l1.length+j)=some l:=by
  refine⟨fun j l hj=>h j l ?_,fun j l hj=>?_⟩
  · rw[List.getElem?_append_left (List.getElem?_eq_some_iff.1 hj).1];exact hj
  · rw[Nat.add_assoc]
    refine h _ l ?_
    rw[List.getElem?_append_right (by omega),Nat.add_sub_cancel_left];exact hj
theorem Lies.append {T:Sg→Prop} {Own:Nat→Nat→Prop} {w:World} {vs1 vs2:List Value} {a1 a2:Nat→List V} {b1 b2:Nat→List Blk} {m1 m2:Nat} {l1 l2:List Loc}
    (h1:Lies T Own w vs1 a1 b1 m1 l1) (h2:Lies T Own w vs2 a2 b2 m2 l2) (hb1:∀n,(b1 n).length=m1) (hd:∀l l',l∈l1→l'∈l2→l.disj l') :
    Lies T Own w (vs1++vs2) (fun n=>a1 n++a2 (n+m1)) (fun n=>b1 n++b2 (n+m1)) (m1+m2) (l1++l2):=by
  refine⟨by simp[h1.len,h2.len],fun n τ hT hτ=>?_,fun n τ hT hτ j l B hl hB=>?_,fun j j' l l' hne hl hl'=>?_⟩
  · obtain⟨t1,t2⟩:=at_append hτ
    rw[h1.len]at t2
    exact(h1.val n τ hT t1).append (h2.val _ τ hT t2)
  · obtain⟨t1,t2⟩:=at_append hτ
    rw[h1.len]at t2
    rcases Nat.lt_or_ge j l1.length with hlt | hge
    · rw[List.getElem?_append_left hlt]at hl
      rw[List.getElem?_append_left (by rw[hb1,←h1.len];exact hlt)]at hB
      exact h1.ok n τ hT t1 j l B hl hB
    · rw[List.getElem?_append_right hge]at hl
      rw[List.getElem?_append_right (by rw[hb1,←h1.len];exact hge),hb1,←h1.len]at hB
      rw[←h1.len]at t2
      exact h2.ok _ τ hT t2 _ l B hl (by simpa only[h1.len]using hB)
  · rcases Nat.lt_or_ge j l1.length with hlt | hge
    · rw[List.getElem?_append_left hlt]at hl
      rcases Nat.lt_or_ge j' l1.length with hlt' | hge'
      · rw[List.getElem?_append_left hlt']at hl'
        exact h1.dj j j' l l' hne hl hl'
      · rw[List.getElem?_append_right hge']at hl'
        exact hd l l' (List.mem_of_getElem? hl) (List.mem_of_getElem? hl')
    · rw[List.getElem?_append_right hge]at hl
      rcases Nat.lt_or_ge j' l1.length with hlt' | hge'
      · rw[List.getElem?_append_left hlt']at hl'
        exact disj_symm (hd l' l (List.mem_of_getElem? hl') (List.mem_of_getElem? hl))
      · rw[List.getElem?_append_right hge']at hl'
        exact h2.dj _ _ l l' (by omega) hl hl'
theorem Lies.nil {T:Sg→Prop} {Own:Nat→Nat→Prop} {w:World}:Lies T Own w [] (fun _=>[]) (fun _=>[]) 0 []:=⟨rfl,fun _ _ _ _=>.nil,by simp,by simp⟩

theorem purs_mem:∀{l:List V},purs l=true↔∀a∈l,pur a=true
  | []=>by simp[purs]
  | a::l=>by simp[purs,purs_mem (l:=l)]
section
variable {Own : Nat → Nat → Prop} {σ : Sg} {w : World} {hp : List Blk}
/-- A part of a block, as a block of its own. -/
theorem sl_part (hs:Sim Own σ (nthB hp) w) {b o sz len cap:Nat} {v':Value} {B B':Blk} (hB:nthB hp b=B) (hw:B.wr=true) (hv:VR σ (.slice b o sz len cap) v') (hlen:o+len*sz≤B.vs.length) (hB':B'.vs=sub B.vs o (len*sz)) (hw':B'.wr=true)
    (hp:purs B'.vs=true):∃l,(∀(n:Nat) (τ:Sg),τ n=some l→VR τ (.slice n 0 sz len len) v')∧(∀τ:Sg,BOk Own τ w l B')∧∃lb,σ b=some lb∧l.blk=lb.blk∧lb.off≤l.off∧l.off+l.size≤lb.off+lb.size:=by
  cases hv with
  | @slice _ _ _ _ _ cap' ad l hb hl hc hbd ha =>
  have hbok:=hs.blk b l hb
  rw[hB]at hbok
  have hlz:len*sz≤cap'*sz:=Nat.mul_le_mul_right sz (by omega)
  refine⟨⟨l.blk,l.off+o,cap'*sz⟩,fun n τ hτ=>?_,fun τ=>⟨by rw[hB'];simp[sub];omega,fun _ h0=>?_⟩,l,hb,rfl,by simp,by simp only[];omega⟩
  · exact .slice (cap':=cap') (l:=⟨l.blk,l.off+o,cap'*sz⟩) hτ (by simp) (by omega) (by simp) fun h0=>by simpa using ha h0
  · simp only[]at h0
    obtain⟨c,e,fr,h1,h2,h3,h4⟩:=hbok.row (Blk.live_of_wr hw) (by omega)
    refine⟨c,e,fr,h1,by simp only[];omega,fun j a haj=>?_,fun _=>⟨fun j hj=>?_,(h4 hw).2⟩⟩
    · rw[hB',sub_get]at haj
      split at haj
      · obtain⟨u,hu,hr,ho⟩:=h3 (o+j) a haj
        refine⟨u,by simp only[];rw[←hu];congr 1;omega,hr.pur ?_,ho⟩
        have hm:B'.vs[j]?=some a:=by rw[hB',sub_get,if_pos (by assumption)];exact haj
        exact(purs_mem.1 hp) a (List.mem_of_getElem? hm)
      · simp at haj
    · simp only[]at hj
      have:=(h4 hw).1 (o+j) (by omega)
      simpa[Nat.add_assoc]using this
theorem in_disj (hs:Sim Own σ (nthB hp) w) {b:Nat} {lb l l':Loc} {used:List Nat} (hb:σ b=some lb) (hw:(nthB hp b).wr=true) (hl:l.size=0∨l.blk=lb.blk∧lb.off≤l.off∧l.off+l.size≤lb.off+lb.size)
    (hu:b∈used) (h:In used σ hp l'):l.disj l':=by
  rcases h with hz | ⟨b',lb',h1,h2,h3,h4,h5,h6,h7⟩
  · exact .inr (.inl hz)
  · have:=hs.excl b b' lb lb' (fun e=>h2 (e▸hu)) hb h3 hw (Blk.live_of_wr h4)
    exact disj_in (disj_symm (disj_in (disj_symm this) (.inr ⟨h5,h6,h7⟩))) hl
/-- The cells behind an object's pointer. -/
theorem obj_row (hs:Sim Own σ (nthB hp) w) {b:Nat} {l:Loc} {B:Blk} (hb:σ b=some l) (hB:nthB hp b=B) (hlive:B.live=true) :
    ∃us:List Value,VRs σ B.vs us∧(0<l.size→∃c e fr,w.heap[l.blk]?=some (.cells c e fr)∧l.off+l.size≤c.size∧(∀(j:Nat) u,us[j]?=some u→c[l.off+j]?=some u∧u.oneCell'=true) ∧
      (B.wr=true→(∀j,j<l.size→Own l.blk (l.off+j))∧Cool c.size fr)):=by
  have hbok:=hs.blk b l hb
  rw[hB]at hbok
  by_cases h0:0<l.size
  · obtain⟨c,e,fr,h1,h2,h3,h4⟩:=hbok.row hlive h0
    have hlen:=hbok.len
    refine⟨(c.toList.drop l.off).take B.vs.length,VRs.of_get (by simp;omega) fun i a u ha hu=>?_,fun _=>⟨c,e,fr,h1,h2,fun j u hu=>?_,h4⟩⟩
    · obtain⟨v,hv,hr,-⟩:=h3 i a ha
      simp only[List.getElem?_take,List.getElem?_drop,Array.getElem?_toList]at hu
      split at hu
      · rw[hv]at hu;cases hu;exact hr
      · simp at hu
    · simp only[List.getElem?_take,List.getElem?_drop,Array.getElem?_toList]at hu
      split at hu
      · rename_i hj
        obtain⟨v,hv,hr,ho⟩:=h3 j _ (List.getElem?_eq_getElem hj)
        rw[hv]at hu;cases hu
        exact⟨hv,ho⟩
      · simp at hu
  · have:B.vs=[]:=List.eq_nil_of_length_eq_zero (by have:=hbok.len;omega)
    exact⟨[],by rw[this];exact .nil,fun h=>absurd h h0⟩
mutual
theorem outE_ok (hs:Sim Own σ (nthB hp) w):∀(e:E) {v:V} {v':Value} {used:List Nat} {K:List Nat→Prop},VR σ v v'→outE hp e v used K→∃(used':List Nat) (locs:List Loc),K used'∧(∀b,b∈used→b∈used') ∧
    Lies (fun _=>True) Own w [v'] (fun n=>[inj e n]) (blk e) (cnt e) locs∧(∀l,l∈locs→In used σ hp l)∧∀l l',l∈locs→In used' σ hp l'→l.disj l'
  | .v a,v,v',used,K,hv,h=>by
    obtain⟨⟨rfl,hp⟩,hk⟩:=h
    exact⟨used,[],hk,fun _ h=>h,⟨rfl,fun n τ _ _=>.cons (hv.pur hp) .nil,by simp[blk],by simp⟩,by simp,by simp⟩
  | .x,v,v',used,K,hv,h=>by
    simp only[outE]at h
    exact⟨used,[],h,fun _ h=>h,⟨rfl,fun n τ _ _=>.cons (.undef _) .nil,by simp[blk],by simp⟩,by simp,by simp⟩
  | .s sz len k xs,v,v',used,K,hv,h=>by
    simp only[outE]at h
    split at h<;>try exact h.elim
    · obtain⟨⟨rfl,rfl⟩,hk⟩:=h
      cases hv
      refine⟨used,[⟨0,0,0⟩],hk,fun _ h=>h,⟨rfl,fun n τ _ hτ=>?_,fun n τ _ hτ j l B hl hB=>?_,fun j j' l l' hne hl hl'=>?_⟩,?_,?_⟩
      · exact .cons (.slice (cap':=0) (l:=⟨0,0,0⟩) (hτ 0 ⟨0,0,0⟩ (by simp)) (by simp) (by simp) (by simp) (by simp)) .nil
      · cases j with
        | zero=>simp[blk]at hl hB;subst hl hB;exact⟨by simp[Blk.vs],by simp⟩
        | succ j=>simp at hl
      · cases j<;>cases j'<;>simp at hl hl' hne
      · simp;exact .inl rfl
      · intro l l' hl _;simp at hl;subst hl;exact .inl rfl
    · rename_i b o sz' len' cap
      split at h<;>try exact h.elim
      rename_i k' ys hB
      obtain⟨⟨rfl,rfl,rfl,hb4,hbu,hlen,rfl⟩,hk⟩:=h
      obtain⟨l,p1,p2,lb,hb,q1⟩:=sl_part hs (B':=.ints false k (sub ys o (len*sz))) hB rfl hv (by simpa[Blk.vs]using hlen) (by simp[Blk.vs,sub_map]) rfl (purs_mem.2 (by simp[Blk.vs,pur]))
      refine⟨b::used,[l],hk,fun _ h=>List.mem_cons_of_mem _ h,⟨rfl,fun n τ _ hτ=>.cons (p1 n τ (hτ 0 l (by simp))) .nil,fun n τ _ hτ j l' B hl hB'=>?_,fun j j' l l' hne hl hl'=>?_⟩,?_,?_⟩
      · cases j with
        | zero=>simp[blk]at hl hB';subst hl hB';exact p2 τ
        | succ j=>simp at hl
      · cases j<;>cases j'<;>simp at hl hl' hne
      · simp;exact .inr ⟨b,lb,hb4,hbu,hb,by rw[hB];rfl,q1⟩
      · intro l1 l2 hl1 hl2;simp at hl1;subst hl1;exact in_disj hs hb (by rw[hB];rfl) (.inr q1) (by simp) hl2
  | .c sz len cs,v,v',used,K,hv,h=>by
    simp only[outE]at h
    split at h<;>try exact h.elim
    · obtain⟨⟨rfl,rfl⟩,hk⟩:=h
      cases hv
      refine⟨used,[⟨0,0,0⟩],hk,fun _ h=>h,⟨rfl,fun n τ _ hτ=>?_,fun n τ _ hτ j l B hl hB=>?_,fun j j' l l' hne hl hl'=>?_⟩,?_,?_⟩
      · exact .cons (.slice (cap':=0) (l:=⟨0,0,0⟩) (hτ 0 ⟨0,0,0⟩ (by simp)) (by simp) (by simp) (by simp) (by simp)) .nil
      · cases j with
        | zero=>simp[blk]at hl hB;subst hl hB;exact⟨by simp[Blk.vs],by simp⟩
        | succ j=>simp at hl
      · cases j<;>cases j'<;>simp at hl hl' hne
      · simp;exact .inl rfl
      · intro l l' hl _;simp at hl;subst hl;exact .inl rfl
    · rename_i b o sz' len' cap
      split at h<;>try exact h.elim
      rename_i ds hB
      obtain⟨⟨rfl,rfl,hb4,hbu,hlen,rfl,hpu⟩,hk⟩:=h
      obtain⟨l,p1,p2,lb,hb,q1⟩:=sl_part hs (B':=.cells false (sub ds o (len*sz))) hB rfl hv (by simpa[Blk.vs]using hlen) (by simp[Blk.vs]) rfl (by simpa[Blk.vs]using hpu)
      refine⟨b::used,[l],hk,fun _ h=>List.mem_cons_of_mem _ h,⟨rfl,fun n τ _ hτ=>.cons (p1 n τ (hτ 0 l (by simp))) .nil,fun n τ _ hτ j l' B hl hB'=>?_,fun j j' l l' hne hl hl'=>?_⟩,?_,?_⟩
      · cases j with
        | zero=>simp[blk]at hl hB';subst hl hB';exact p2 τ
        | succ j=>simp at hl
      · cases j<;>cases j'<;>simp at hl hl' hne
      · simp;exact .inr ⟨b,lb,hb4,hbu,hb,by rw[hB];rfl,q1⟩
      · intro l1 l2 hl1 hl2;simp at hl1;subst hl1;exact in_disj hs hb (by rw[hB];rfl) (.inr q1) (by simp) hl2
  | .w _ _,v,v',used,K,hv,h=>by
    simp only[outE]at h
  | .p fs,v,v',used,K,hv,h=>by
    simp only[outE]at h
    split at h<;>try exact h.elim
    rename_i b o
    obtain⟨B0,vs,hB,hBv,hBw,⟨rfl,hb4,hbu⟩,h5⟩:∃B vs,nthB hp b=B∧B.vs=vs∧B.wr=true∧(o=0∧4≤b∧b∉used)∧outEs hp fs vs (b::used) K:=by
      split at h<;>try exact h.elim
      · rename_i vs hB
        exact⟨_,vs,hB,rfl,rfl,h.1,h.2⟩
      · rename_i k xs hB
        exact⟨_,_,hB,rfl,rfl,h.1,h.2⟩
    cases hv with
    | @ptr _ _ l hb =>
    obtain⟨us,hus,hrow⟩:=obj_row hs hb hB (Blk.live_of_wr hBw)
    rw[hBv]at hus
    obtain⟨used',locs,hk,hu,hL,hin,hdj⟩:=outEs_ok hs fs hus h5
    have hlv:vs.length≤l.size:=by have:=(hs.blk b l hb).len;rw[hB,hBv]at this;exact this
    have hself:l.size=0∨l.blk=l.blk∧l.off≤l.off∧l.off+l.size≤l.off+l.size:=.inr ⟨rfl,Nat.le_refl _,Nat.le_refl _⟩
    have hwb:(nthB hp b).wr=true:=by rw[hB];exact hBw
    refine⟨used',l::locs,hk,fun c hc=>hu c (List.mem_cons_of_mem _ hc),⟨by simp[hL.len,cnt],fun n τ _ hτ=>.cons (.ptr (hτ 0 l (by simp))) .nil,fun n τ _ hτ j l' B hl hB'=>?_,fun j j' l1 l2 hne hl hl'=>?_⟩,fun l' hl'=>?_,fun l1 l2 hl1 hl2=>?_⟩
    · have hτ':∀(j:Nat) l,locs[j]?=some l→τ (n+1+j)=some l:=fun j l hj=>by rw[show n+1+j=n+(j+1) by omega];exact hτ (j+1) l (by simpa using hj)
      cases j with
      | zero =>
        simp[blk]at hl hB'
        subst hl hB'
        have hvs:=hL.val (n+1) τ trivial hτ'
        have hle:=hvs.length
        have hle2:=hus.length
        refine⟨by simp only[Blk.vs];omega,fun _ h0=>?_⟩
        obtain⟨c,e,fr,h1,h2,h3,h4⟩:=hrow h0
        refine⟨c,e,fr,h1,h2,fun j a haj=>?_,fun _=>h4 hBw⟩
        obtain⟨u,hu',hr⟩:=hvs.get haj
        exact⟨u,(h3 j u hu').1,hr,(h3 j u hu').2⟩
      | succ j=>exact hL.ok (n+1) τ trivial hτ' j l' B (by simpa using hl) (by simpa[blk]using hB')
    · cases j with
      | zero =>
        cases j' with
        | zero=>exact absurd rfl hne
        | succ j' =>
          simp at hl hl';subst hl
          exact in_disj hs hb hwb hself (by simp) (hin l2 (List.mem_of_getElem? hl'))
      | succ j =>
        cases j' with
        | zero =>
          simp at hl hl';subst hl'
          exact disj_symm (in_disj hs hb hwb hself (by simp) (hin l1 (List.mem_of_getElem? hl)))
        | succ j'=>exact hL.dj j j' l1 l2 (by omega) (by simpa using hl) (by simpa using hl')
    · simp only[List.mem_cons]at hl'
      rcases hl' with rfl | hl'
      · exact .inr ⟨b,l',hb4,hbu,hb,hwb,rfl,Nat.le_refl _,Nat.le_refl _⟩
      · exact(hin l' hl').mono fun c hc=>List.mem_cons_of_mem _ hc
    · simp only[List.mem_cons]at hl1
      rcases hl1 with rfl | hl1
      · exact in_disj hs hb hwb (.inr ⟨rfl,Nat.le_refl _,Nat.le_refl _⟩) (hu b (by simp)) hl2
      · exact hdj l1 l2 hl1 hl2
theorem outEs_ok (hs:Sim Own σ (nthB hp) w):∀(es:List E) {vs:List V} {vs':List Value} {used:List Nat} {K:List Nat→Prop},VRs σ vs vs'→outEs hp es vs used K→∃(used':List Nat) (locs:List Loc),K used'∧(∀b,b∈used→b∈used') ∧
    Lies (fun _=>True) Own w vs' (injs es) (blks es) (cnts es) locs∧(∀l,l∈locs→In used σ hp l)∧∀l l',l∈locs→In used' σ hp l'→l.disj l'
  | [],vs,vs',used,K,hv,h=>by
    simp only[outEs]at h
    obtain⟨rfl,hk⟩:=h
    cases hv
    exact⟨used,[],hk,fun _ h=>h,⟨rfl,fun _ _ _ _=>.nil,by simp,by simp⟩,by simp,by simp⟩
  | e::r,vs,vs',used,K,hv,h=>by
    simp only[outEs]at h
    split at h<;>try exact h.elim
    rename_i v vs
    cases hv with
    | cons hv hvs =>
    obtain⟨u1,l1,hk,hu1,hL1,hin1,hd1⟩:=outE_ok hs e hv h
    obtain⟨u2,l2,hk,hu2,hL2,hin2,hd2⟩:=outEs_ok hs r hvs hk
    refine⟨u2,l1++l2,hk,fun b hb=>hu2 b (hu1 b hb),hL1.append hL2 (fun n=>blk_length e n) (fun l l' hl hl'=>hd1 l l' hl (hin2 l' hl')),fun l hl=>?_,fun l l' hl hl'=>?_⟩
    · rcases List.mem_append.1 hl with hl | hl
      · exact hin1 l hl
      · exact(hin2 l hl).mono hu1
    · rcases List.mem_append.1 hl with hl | hl
      · exact hd1 l l' hl (hl'.mono hu2)
      · exact hd2 l l' hl hl'
end
end

/-! ### What a function is given -/
/-- How an argument is taken: a value; seen only; given away; an object that is written. -/
inductive Sp where
  | v
  | r
  | g (sz:Nat) (k:IntKind)
  | w (k:IntKind)
  | p (fs:List Sp)
mutual
def idsE (hp:List Blk):Sp→V→List Nat
  | .v,_=>[]
  | .r,_=>[]
  | .g _ _,a=>match a with
    | .slice b _ _ _ _=>[b]
    | _=>[]
  | .w _,a=>match a with
    | .slice b _ _ _ _=>[b]
    | _=>[]
  | .p fs,a=>match a with
    | .ptr b _=>match nthB hp b with
      | .cells _ cs=>b::idsEs hp fs cs
      | _=>[b]
    | _=>[]
def idsEs (hp:List Blk):List Sp→List V→List Nat
  | [],_=>[]
  | s::ss,as=>match as with
    | []=>[]
    | a::as=>idsE hp s a++idsEs hp ss as
end
def idss (hp:List Blk):List Sp→List V→List (List Nat)
  | [],_=>[]
  | s::ss,as=>match as with
    | []=>[]
    | a::as=>idsE hp s a::idss hp ss as
def killB:List Blk→List Nat→List Blk
  | hp,[]=>hp
  | hp,b::r=>killB (updB hp b .dead) r
mutual
def rdE (hp hk:List Blk):Sp→V→(E→Prop)→Prop
  | .v,a,K=>purR a=true∧K (.v a)
  | .r,a,K=>frz hk 4 a fun v=>K (.v v)
  | .g sz k,a,K=>match a with
    | .nils=>K (.s sz 0 k [])
    | .slice b o sz' len _=>match nthB hp b with
      | .ints false k' xs=>(sz=sz'∧k=k'∧xs.length=o+len*sz)∧K (.s sz len k (xs.drop o))
      | .cells false cs=>(sz=sz'∧cs.length=o+len*sz∧pursR (cs.drop o)=true)∧K (.c sz len (cs.drop o))
      | _=>False
    | _=>False
  | .w k,a,K=>match a with
    | .slice b o sz len _=>match nthB hp b with
      | .ints false k' xs=>(o=0∧sz=1∧k=k'∧len=xs.length)∧K (.w k xs)
      | _=>False
    | _=>False
  | .p fs,a,K=>match a with
    | .ptr b o=>match nthB hp b with
      | .cells false cs=>o=0∧rdEs hp hk fs cs fun ds=>K (.p ds)
      | _=>False
    | _=>False
def rdEs (hp hk:List Blk):List Sp→List V→(List E→Prop)→Prop
  | [],as,K=>as=[]∧K []
  | s::ss,as,K=>match as with
    | []=>False
    | a::as=>rdE hp hk s a fun d=>rdEs hp hk ss as fun ds=>K (d::ds)
end
mutual
theorem rdE_det {hp hk:List Blk}:∀{s:Sp} {a:V} {K:E→Prop},rdE hp hk s a K→∃d,K d∧∀K':E→Prop,K' d→rdE hp hk s a K'
  | .v,a,K,h=>by
    simp only[rdE]at h
    exact⟨_,h.2,fun K' h'=>by simp only[rdE];exact⟨h.1,h'⟩⟩
  | .r,a,K,h=>by
    simp only[rdE]at h
    obtain⟨v,hk,hd⟩:=frz_det h
    exact⟨_,hk,fun K' h'=>by simp only[rdE];exact hd _ h'⟩
  | .g sz k,a,K,h=>by
    simp only[rdE]at h
    split at h<;>try exact h.elim
    · exact⟨_,h,fun K' h'=>by simp only[rdE];exact h'⟩
    · split at h<;>try exact h.elim
      all_goals
        rename_i hb
        exact⟨_,h.2,fun K' h'=>by simp only[rdE,hb];exact⟨h.1,h'⟩⟩
  | .w k,a,K,h=>by
    simp only[rdE]at h
    split at h<;>try exact h.elim
    split at h<;>try exact h.elim
    rename_i hb
    exact⟨_,h.2,fun K' h'=>by simp only[rdE,hb];exact⟨h.1,h'⟩⟩
  | .p fs,a,K,h=>by
    simp only[rdE]at h
    split at h<;>try exact h.elim
    split at h<;>try exact h.elim
    rename_i hb
    obtain⟨ds,hk,hd⟩:=rdEs_det h.2
    exact⟨_,hk,fun K' h'=>by simp only[rdE,hb];exact⟨h.1,hd _ h'⟩⟩
theorem rdEs_det {hp hk:List Blk}:∀{ss:List Sp} {as:List V} {K:List E→Prop},rdEs hp hk ss as K→∃ds,K ds∧∀K':List E→Prop,K' ds→rdEs hp hk ss as K'
  | [],as,K,h=>by
    simp only[rdEs]at h
    exact⟨[],h.2,fun K' h'=>by simp only[rdEs];exact⟨h.1,h'⟩⟩
  | s::ss,as,K,h=>by
    simp only[rdEs]at h
    split at h<;>try exact h.elim
    obtain⟨d,h,h1⟩:=rdE_det h
    obtain⟨ds,h,h2⟩:=rdEs_det h
    exact⟨d::ds,h,fun K' h'=>by simp only[rdEs];exact h1 _ (h2 _ h')⟩
end

/-- Cells of what is given away. -/
def Given (σ:Sg) (ids:List Nat) (k j:Nat):Prop:=∃b l,b∈ids∧σ b=some l∧l.has k j
/-- A place within one of some blocks. -/
def From (ids:List Nat) (σ:Sg) (hp:List Blk) (l:Loc):Prop:=l.size=0∨∃b lb,b∈ids∧σ b=some lb∧(nthB hp b).wr=true∧l.blk=lb.blk∧lb.off≤l.off∧l.off+l.size≤lb.off+lb.size
theorem From.mono {ids ids':List Nat} {σ:Sg} {hp:List Blk} {l:Loc} (h:From ids σ hp l) (hu:∀b,b∈ids→b∈ids'):From ids' σ hp l:=by
  rcases h with h | ⟨b,lb,h1,h3⟩
  · exact .inl h
  · exact .inr ⟨b,lb,hu b h1,h3⟩

section
variable {Own : Nat → Nat → Prop} {σ : Sg} {w : World} {hp hk : List Blk} {ids : List Nat}
theorem from_disj (hs:Sim Own σ (nthB hp) w) {i1 i2:List Nat} {l l':Loc} (h:From i1 σ hp l) (h':From i2 σ hp l') (hd:∀b,b∈i1→b∈i2→False):l.disj l':=by
  rcases h with h | ⟨b,lb,h1,h2,h3,h4⟩
  · exact .inl h
  · rcases h' with h' | ⟨b',lb',k1,k2,k3,k4⟩
    · exact .inr (.inl h')
    · have:=hs.excl b b' lb lb' (fun e=>hd b h1 (e▸k1)) h2 k2 h3 (Blk.live_of_wr k3)
      exact disj_in (disj_symm (disj_in (disj_symm this) (.inr k4))) (.inr h4)
theorem from_own (hs:Sim Own σ (nthB hp) w) {l:Loc} (h:From ids σ hp l):∀j,j<l.size→Given σ ids l.blk (l.off+j)∧Own l.blk (l.off+j):=by
  intro j hj
  rcases h with h | ⟨b,lb,h1,h2,h3,h4,h5,h6⟩
  · omega
  · obtain⟨c,e,fr,k1,k2,k3,k4⟩:=(hs.blk b lb h2).row (Blk.live_of_wr h3) (by omega)
    refine⟨⟨b,lb,h1,h2,by rw[h4];exact⟨rfl,by omega,by omega⟩⟩,?_⟩
    have:=(k4 h3).1 (l.off+j-lb.off) (by omega)
    rw[h4]
    rwa [show lb.off+(l.off+j-lb.off)=l.off+j by omega]at this
def StG (σ:Sg) (w:World) (ids:List Nat) (τ:Sg):Prop:=∀k j v,statW w k j v→¬Given σ ids k j→τ.stat k j v
theorem stT_stat (hs:Sim Own σ (nthB hp) w) (hw:∀b,b∈ids→(nthB hp b).wr=true) {τ:Sg} (hT:StG σ w ids τ):∀k j v,σ.stat k j v→τ.stat k j v:=fun k j v h =>
  hT k j v (stat_w hs h) fun ⟨b,l,h1,h2,h3⟩=>(hs.stat k j v h).2.2 b l h2 (hw b h1) h3
/-- What is seen only, with what is given away left out. -/
theorem frz_okG (hs:Sim Own σ (nthB hp) w) (hw:∀b,b∈ids→(nthB hp b).wr=true) (hkl:∀b B,nthB hk b=B→B.live=true→nthB hp b=B∧b∉ids) {τ:Sg} (hT:StG σ w ids τ):∀{d:Nat} {a:V} {v:Value} {a':V},VR σ a v→frz hk d a (·=a')→VR τ a' v∧purR a'=true
  | 0,a,v,a',_,h=>by simp[frz]at h
  | d+1,a,v,a',hv,h=>by
    have ih:=fun a v a' (hv:VR σ a v) (h:frz hk d a (·=a'))=>frz_okG hs hw hkl hT hv h
    have free:∀{b:Nat} {l:Loc} {B:Blk} {i:Nat},σ b=some l→nthB hk b=B→B.live=true→l.has l.blk i→¬Given σ ids l.blk i:=by
      rintro b l B i hb hB hlv hi ⟨b',l',h1,h2,h3⟩
      obtain⟨e1,e2⟩:=hkl b B hB hlv
      have:=hs.excl b' b l' l (fun e=>e2 (e▸h1)) h2 hb (hw b' h1) (by rw[e1];exact hlv)
      unfold Loc.disj at this
      unfold Loc.has at h3 hi
      omega
    unfold frz at h
    split at h
    · rename_i b o sz len cap
      cases hv with
      | @slice _ _ _ _ _ cap' ad l hb hl hc hbd ha =>
      have hin:∀{B:Blk} {j:Nat},nthB hk b=B→B.live=true→j<len*sz→l.has l.blk (l.off+o+j):=fun {B j} hB hlv hj=>by
        have:len*sz≤cap'*sz:=Nat.mul_le_mul_right sz (by omega)
        exact⟨rfl,by omega,by omega⟩
      split at h<;>try exact h.elim
      · rename_i ro k xs hB
        obtain⟨hle,rfl⟩:=h
        obtain⟨us,hr,hu⟩:=part_stat hs hb (hkl b _ hB rfl).1 rfl (by simpa[Blk.vs]using hle)
        simp only[Blk.vs,sub_map]at hr
        have he:=VRs_ints hr
        refine⟨VR.rsl (blk:=l.blk) (off:=l.off+o) (by simp[sub];omega) (by omega) ha fun j x hj=>hT _ _ _ (hu j _ ?_) (free hb hB rfl (hin hB rfl ?_)),rfl⟩
        · rw[he];simp[hj]
        · have:=(List.getElem?_eq_some_iff.1 hj).1
          simp[sub]at this;omega
      · rename_i ro cs hB
        obtain⟨hle,h⟩:=h
        obtain⟨vs,h,h1⟩:=frzs_det (fun a K h=>frz_det h) h
        subst h
        obtain⟨us,hr,hu⟩:=part_stat hs hb (hkl b _ hB rfl).1 rfl (by simpa[Blk.vs]using hle)
        obtain⟨a1,a2⟩:=frzs_ok ih (fun a K h=>frz_det h) hr (h1 (·=vs) rfl)
        have hlen:us.length=len*sz:=by rw[←hr.length];simp[sub,Blk.vs];omega
        refine⟨VR.rcs (blk:=l.blk) (off:=l.off+o) ?_ (by omega) ha a2 a1 fun j x hj=>hT _ _ _ (hu j _ hj) (free hb hB rfl (hin hB rfl ?_)),by simpa[purR]using a2⟩
        · rw[a1.length,hlen]
        · rw[←hlen];exact(List.getElem?_eq_some_iff.1 hj).1
    · rename_i b o
      cases hv with
      | @ptr _ _ l hb =>
      have hin:∀{B:Blk} {j:Nat},nthB hk b=B→B.live=true→j<B.vs.length→l.has l.blk (l.off+0+j):=fun {B j} hB hlv hj=>by
        have:=(hs.blk b l hb).len
        rw[(hkl b B hB hlv).1]at this
        exact⟨rfl,by omega,by omega⟩
      split at h<;>try exact h.elim
      · rename_i ro k xs hB
        subst h
        obtain⟨us,hr,hu⟩:=part_stat (o:=0) (n:=xs.length) hs hb (hkl b _ hB rfl).1 rfl (by simp[Blk.vs])
        simp only[Blk.vs,sub_map,sub_zero' (Nat.le_refl _)]at hr
        have he:=VRs_ints hr
        refine⟨VR.rpi (blk:=l.blk) (off:=l.off) fun j x hj=>hT _ _ _ (hu j _ ?_) (free hb hB rfl (hin hB rfl ?_)),rfl⟩
        · rw[he];simp[hj]
        · simpa[Blk.vs]using (List.getElem?_eq_some_iff.1 hj).1
      · rename_i ro cs hB
        obtain⟨vs,h,h1⟩:=frzs_det (fun a K h=>frz_det h) h
        subst h
        obtain⟨us,hr,hu⟩:=part_stat (o:=0) (n:=cs.length) hs hb (hkl b _ hB rfl).1 rfl (by simp[Blk.vs])
        simp only[Blk.vs,sub_zero' (Nat.le_refl _)]at hr
        obtain⟨a1,a2⟩:=frzs_ok ih (fun a K h=>frz_det h) hr (h1 (·=vs) rfl)
        refine⟨VR.rpc (blk:=l.blk) (off:=l.off) a2 a1 fun j x hj=>hT _ _ _ (hu j _ hj) (free hb hB rfl (hin hB rfl ?_)),by simpa[purR]using a2⟩
        rw[show (Blk.cells ro cs).vs=cs from rfl,hr.length]
        exact(List.getElem?_eq_some_iff.1 hj).1
    · rename_i t v0
      cases hv with
      | iface hv =>
      obtain⟨u,h,h1⟩:=frz_det h
      subst h
      obtain⟨a1,a2⟩:=ih _ _ _ hv (h1 (·=u) rfl)
      exact⟨.iface a1,by simpa[purR]using a2⟩
    · rename_i cs
      split at h
      · rename_i hp'
        subst h
        have hp'':purR (.agg cs)=true:=by simpa[purR]using hp'
        exact⟨hv.purR (stT_stat hs hw hT) hp'',hp''⟩
      · cases hv with
        | agg hv h1 =>
        obtain⟨vs,h,h2⟩:=frzs_det (fun a K h=>frz_det h) h
        subst h
        obtain⟨a1,a2⟩:=frzs_ok ih (fun a K h=>frz_det h) hv (h2 (·=vs) rfl)
        exact⟨.agg a1 h1,by simpa[purR]using a2⟩
    · obtain⟨hp',rfl⟩:=h
      exact⟨hv.purR (stT_stat hs hw hT) hp',hp'⟩
/-- A part of a block up to its end, as a block of its own that is given away. -/
theorem give_part (hs:Sim Own σ (nthB hp) w) {b o sz len cap:Nat} {v':Value} {B B':Blk} {O:Nat→Nat→Prop} (hB:nthB hp b=B) (hw:B.wr=true) (hv:VR σ (.slice b o sz len cap) v') (hlen:B.vs.length=o+len*sz) (hB':B'.vs=B.vs.drop o) (hp':pursR B'.vs=true) (hO:∀k j,Given σ [b] k j→O k j) :
    ∃l,(∀(n:Nat) (τ:Sg),τ n=some l→VR τ (.slice n 0 sz len len) v')∧(∀τ:Sg,(∀k j v,σ.stat k j v→τ.stat k j v)→BOk O τ w l B')∧From [b] σ hp l:=by
  cases hv with
  | @slice _ _ _ _ _ cap' ad l hb hl hc hbd ha =>
  have hbok:=hs.blk b l hb
  rw[hB]at hbok
  have hlz:len*sz≤cap'*sz:=Nat.mul_le_mul_right sz (by omega)
  have hfrom:From [b] σ hp ⟨l.blk,l.off+o,cap'*sz⟩:=.inr ⟨b,l,by simp,hb,by rw[hB];exact hw,rfl,by simp,by simp only[];omega⟩
  refine⟨⟨l.blk,l.off+o,cap'*sz⟩,fun n τ hτ=>?_,fun τ hst=>⟨by rw[hB'];simp;omega,fun _ h0=>?_⟩,hfrom⟩
  · exact .slice (cap':=cap') (l:=⟨l.blk,l.off+o,cap'*sz⟩) hτ (by simp) (by omega) (by simp) fun h0=>by simpa using ha h0
  · simp only[]at h0
    obtain⟨c,e,fr,h1,h2,h3,h4⟩:=hbok.row (Blk.live_of_wr hw) (by omega)
    refine⟨c,e,fr,h1,by simp only[];omega,fun j a haj=>?_,fun _=>⟨fun j hj=>hO _ _ (from_own hs hfrom j hj).1,(h4 hw).2⟩⟩
    rw[hB',List.getElem?_drop]at haj
    obtain⟨u,hu,hr,ho⟩:=h3 (o+j) a haj
    refine⟨u,by simp only[];rw[←hu];congr 1;omega,hr.purR hst ?_,ho⟩
    exact pursR_mem.1 hp' a (by rw[hB'];exact List.mem_of_getElem? (by rw[List.getElem?_drop];exact haj))
end
/-- A datum whose first block stays the caller's. -/
def isO:E→Bool
  | .p _=>true
  | .w _ _=>true
  | _=>false
/-- Each object's first block is the caller's. -/
def Al (σ τ:Sg):List E→List (List Nat)→Nat→Prop
  | [],iss,_=>iss=[]
  | .p fs::r,iss,n=>match iss with
    | []=>False
    | is::iss=>(∃b is' l,is=b::is'∧σ b=some l∧τ n=some l)∧Al σ τ r iss (n+cnt (.p fs))
  | .w _ _::r,iss,n=>match iss with
    | []=>False
    | is::iss=>(∃b is' l,is=b::is'∧σ b=some l∧τ n=some l)∧Al σ τ r iss (n+1)
  | .v _::r,iss,n=>match iss with
    | []=>False
    | _::iss=>Al σ τ r iss n
  | .x::r,iss,n=>match iss with
    | []=>False
    | _::iss=>Al σ τ r iss n
  | .s _ _ _ _::r,iss,n=>match iss with
    | []=>False
    | _::iss=>Al σ τ r iss (n+1)
  | .c _ _ _::r,iss,n=>match iss with
    | []=>False
    | _::iss=>Al σ τ r iss (n+1)
section
variable {Own : Nat → Nat → Prop} {σ : Sg} {w : World} {hp hk : List Blk} {ids : List Nat} {O : Nat → Nat → Prop}
mutual
theorem rdE_ok (hs:Sim Own σ (nthB hp) w) (hw:∀b,b∈ids→(nthB hp b).wr=true) (hkl:∀b B,nthB hk b=B→B.live=true→nthB hp b=B∧b∉ids) (hO:∀k j,Given σ ids k j→O k j) :
    ∀(s:Sp) {a:V} {v':Value} {d:E},VR σ a v'→(idsE hp s a).Nodup→(∀b,b∈idsE hp s a→b∈ids)→rdE hp hk s a (·=d)→∃locs:List Loc,
      Lies (StG σ w ids) O w [v'] (fun n=>[inj d n]) (blk d) (cnt d) locs∧(∀l,l∈locs→From (idsE hp s a) σ hp l)∧(isO d=true→∃b is l ls,idsE hp s a=b::is∧σ b=some l∧locs=l::ls)
  | .v,a,v',d,hv,hnd,hsub,h=>by
    simp only[rdE]at h
    obtain⟨h,rfl⟩:=h
    exact⟨[],⟨rfl,fun n τ hT _=>.cons (hv.purR (stT_stat hs hw hT) h) .nil,by simp[blk],by simp⟩,by simp,by simp[isO]⟩
  | .r,a,v',d,hv,hnd,hsub,h=>by
    simp only[rdE]at h
    obtain⟨u,h,h1⟩:=frz_det h
    subst h
    exact⟨[],⟨rfl,fun n τ hT _=>.cons (frz_okG hs hw hkl hT hv (h1 (·=u) rfl)).1 .nil,by simp[blk],by simp⟩,by simp,by simp[isO]⟩
  | .g sz k,a,v',d,hv,hnd,hsub,h=>by
    simp only[rdE]at h
    split at h<;>try exact h.elim
    · subst h
      cases hv
      refine⟨[⟨0,0,0⟩],⟨rfl,fun n τ _ hτ=>?_,fun n τ _ hτ j l B hl hB=>?_,fun j j' l l' hne hl hl'=>?_⟩,?_,by simp[isO]⟩
      · exact .cons (.slice (cap':=0) (l:=⟨0,0,0⟩) (hτ 0 ⟨0,0,0⟩ (by simp)) (by simp) (by simp) (by simp) (by simp)) .nil
      · cases j with
        | zero=>simp[blk]at hl hB;subst hl hB;exact⟨by simp[Blk.vs],by simp⟩
        | succ j=>simp at hl
      · cases j<;>cases j'<;>simp at hl hl' hne
      · simp;exact .inl rfl
    · rename_i b o sz' len cap
      have hbi:b∈ids:=hsub b (by simp[idsE])
      have hOb:∀k j,Given σ [b] k j→O k j:=fun k j ⟨c,l,h1,h2,h3⟩=>hO k j ⟨c,l,by simp at h1;subst h1;exact hbi,h2,h3⟩
      have fin:∀(B B':Blk) (d:E),nthB hp b=B→B.wr=true→B.vs.length=o+len*sz'→B'.vs=B.vs.drop o→pursR B'.vs=true→(∀n,inj d n=.slice n 0 sz' len len)→(∀n,blk d n=[B'])→cnt d=1→isO d=false→∃locs:List Loc,
          Lies (StG σ w ids) O w [v'] (fun n=>[inj d n]) (blk d) (cnt d) locs∧(∀l,l∈locs→From (idsE hp (.g sz k) (.slice b o sz' len cap)) σ hp l)∧(isO d=true→∃b' is l ls,idsE hp (.g sz k) (.slice b o sz' len cap)=b'::is∧σ b'=some l∧locs=l::ls):=by
        intro B B' d hB hwB hlen hB' hpp hi hbk hc hnp
        obtain⟨l,p1,p2,p3⟩:=give_part hs hB hwB hv hlen hB' hpp hOb
        refine⟨[l],⟨by simp[hc],fun n τ _ hτ=>?_,fun n τ hT hτ j l' B'' hl hB''=>?_,fun j j' l l' hne hl hl'=>?_⟩,?_,fun hd=>absurd hd (by rw[hnp];decide)⟩
        · rw[hi];exact .cons (p1 n τ (hτ 0 l (by simp))) .nil
        · rw[hbk]at hB''
          cases j with
          | zero=>simp at hl hB'';subst hl hB'';exact p2 τ (stT_stat hs hw hT)
          | succ j=>simp at hl
        · cases j<;>cases j'<;>simp at hl hl' hne
        · simp;simpa[idsE]using p3
      split at h<;>try exact h.elim
      · rename_i k' xs hB
        obtain⟨⟨rfl,rfl,hlen⟩,rfl⟩:=h
        exact fin _ (.ints false k (xs.drop o)) _ hB rfl (by simpa[Blk.vs]using hlen) (by simp[Blk.vs,List.map_drop]) (pursR_mem.2 fun a ha=>by simp only[Blk.vs,List.mem_map]at ha;obtain⟨x,-,rfl⟩:=ha;rfl) (fun n=>rfl) (fun n=>rfl) rfl rfl
      · rename_i cs hB
        obtain⟨⟨rfl,hlen,hpp⟩,rfl⟩:=h
        exact fin _ (.cells false (cs.drop o)) _ hB rfl (by simpa[Blk.vs]using hlen) (by simp[Blk.vs]) (by simpa[Blk.vs]using hpp) (fun n=>rfl) (fun n=>rfl) rfl rfl
  | .w k,a,v',d,hv,hnd,hsub,h=>by
    simp only[rdE]at h
    split at h<;>try exact h.elim
    rename_i b o sz len cap
    split at h<;>try exact h.elim
    rename_i k' xs hB
    obtain⟨⟨rfl,rfl,rfl,rfl⟩,rfl⟩:=h
    have hbi:b∈ids:=hsub b (by simp[idsE])
    have hwb:(nthB hp b).wr=true:=by rw[hB];rfl
    cases hv with
    | @slice _ _ _ _ _ cap' ad l hb hl hc hbd ha =>
    obtain⟨us,hus,hrow⟩:=obj_row hs hb hB rfl
    simp only[Blk.vs]at hus
    have hlv:xs.length≤l.size:=by have:=(hs.blk b l hb).len;rw[hB]at this;simpa[Blk.vs]using this
    have hfl:From [b] σ hp l:=.inr ⟨b,l,by simp,hb,hwb,rfl,Nat.le_refl _,Nat.le_refl _⟩
    refine⟨[l],⟨rfl,fun n τ _ hτ=>?_,fun n τ hT hτ j l' B hl hB'=>?_,fun j j' l1 l2 hne hl hl'=>?_⟩,?_,fun _=>⟨b,[],l,[],by simp[idsE],hb,rfl⟩⟩
    · exact .cons (.slice (cap':=cap') (hτ 0 l (by simp)) (Nat.le_refl _) (by omega) hbd ha) .nil
    · cases j with
      | zero =>
        simp[blk]at hl hB'
        subst hl hB'
        have he:=VRs_ints hus
        refine⟨by simpa[Blk.vs]using hlv,fun _ h0=>?_⟩
        obtain⟨c,e,fr,h1,h2,h3,h4⟩:=hrow h0
        refine⟨c,e,fr,h1,h2,fun j a haj=>?_,fun _=>⟨fun j hj=>hO _ _ ?_,(h4 rfl).2⟩⟩
        · simp only[Blk.vs,List.getElem?_map,Option.map_eq_some_iff]at haj
          obtain⟨x,hx,rfl⟩:=haj
          have hu:us[j]?=some (.int k x):=by rw[he];simp[hx]
          exact⟨_,(h3 j _ hu).1,.int k x,(h3 j _ hu).2⟩
        · exact⟨b,l,hbi,hb,rfl,by omega,by omega⟩
      | succ j=>simp at hl
    · cases j<;>cases j'<;>simp at hl hl' hne
    · simp only[List.mem_singleton,idsE]
      rintro l' rfl
      exact hfl
  | .p fs,a,v',d,hv,hnd,hsub,h=>by
    simp only[rdE]at h
    split at h<;>try exact h.elim
    rename_i b o
    split at h<;>try exact h.elim
    rename_i cs hB
    obtain⟨rfl,h⟩:=h
    obtain⟨ds,h,h1⟩:=rdEs_det h
    subst h
    have hids:idsE hp (.p fs) (.ptr b 0)=b::idsEs hp fs cs:=by simp[idsE,hB]
    rw[hids]at hnd hsub ⊢
    simp only[List.nodup_cons]at hnd
    cases hv with
    | @ptr _ _ l hb =>
    obtain⟨us,hus,hrow⟩:=obj_row hs hb hB rfl
    simp only[Blk.vs]at hus
    obtain⟨locs,hL,hfrom,-⟩:=rdEs_ok hs hw hkl hO fs hus hnd.2 (fun c hc=>hsub c (List.mem_cons_of_mem _ hc)) (h1 (·=ds) rfl)
    have hwb:(nthB hp b).wr=true:=by rw[hB];rfl
    have hbi:b∈ids:=hsub b (by simp)
    have hlv:cs.length≤l.size:=by have:=(hs.blk b l hb).len;rw[hB]at this;simpa[Blk.vs]using this
    have hfl:From [b] σ hp l:=.inr ⟨b,l,by simp,hb,hwb,rfl,Nat.le_refl _,Nat.le_refl _⟩
    have hdl:∀l',From (idsEs hp fs cs) σ hp l'→l.disj l':=fun l' h'=>from_disj hs hfl h' fun c h1 h2=>by simp at h1;subst h1;exact hnd.1 h2
    refine⟨l::locs,⟨by simp[hL.len,cnt],fun n τ _ hτ=>.cons (.ptr (hτ 0 l (by simp))) .nil,fun n τ hT hτ j l' B hl hB'=>?_,fun j j' l1 l2 hne hl hl'=>?_⟩,fun l' hl'=>?_,fun _=>⟨b,_,l,locs,rfl,hb,rfl⟩⟩
    · have hτ':∀(j:Nat) l,locs[j]?=some l→τ (n+1+j)=some l:=fun j l hj=>by rw[show n+1+j=n+(j+1) by omega];exact hτ (j+1) l (by simpa using hj)
      cases j with
      | zero =>
        simp[blk]at hl hB'
        subst hl hB'
        have hvs:=hL.val (n+1) τ hT hτ'
        have hle:=hvs.length
        have hle2:=hus.length
        refine⟨by simp only[Blk.vs];omega,fun _ h0=>?_⟩
        obtain⟨c,e,fr,h1,h2,h3,h4⟩:=hrow h0
        refine⟨c,e,fr,h1,h2,fun j a haj=>?_,fun _=>⟨fun j hj=>hO _ _ ?_,(h4 rfl).2⟩⟩
        · obtain⟨u,hu',hr⟩:=hvs.get haj
          exact⟨u,(h3 j u hu').1,hr,(h3 j u hu').2⟩
        · exact⟨b,l,hbi,hb,rfl,by omega,by omega⟩
      | succ j=>exact hL.ok (n+1) τ hT hτ' j l' B (by simpa using hl) (by simpa[blk]using hB')
    · cases j with
      | zero =>
        cases j' with
        | zero=>exact absurd rfl hne
        | succ j' =>
          simp at hl hl';subst hl
          exact hdl l2 (hfrom l2 (List.mem_of_getElem? hl'))
      | succ j =>
        cases j' with
        | zero =>
          simp at hl hl';subst hl'
          exact disj_symm (hdl l1 (hfrom l1 (List.mem_of_getElem? hl)))
        | succ j'=>exact hL.dj j j' l1 l2 (by omega) (by simpa using hl) (by simpa using hl')
    · simp only[List.mem_cons]at hl'
      rcases hl' with rfl | hl'
      · exact hfl.mono fun c hc=>by simp at hc;subst hc;simp
      · exact(hfrom l' hl').mono fun c hc=>List.mem_cons_of_mem _ hc
theorem rdEs_ok (hs:Sim Own σ (nthB hp) w) (hw:∀b,b∈ids→(nthB hp b).wr=true) (hkl:∀b B,nthB hk b=B→B.live=true→nthB hp b=B∧b∉ids) (hO:∀k j,Given σ ids k j→O k j) :
    ∀(ss:List Sp) {as:List V} {vs':List Value} {ds:List E},VRs σ as vs'→(idsEs hp ss as).Nodup→(∀b,b∈idsEs hp ss as→b∈ids)→rdEs hp hk ss as (·=ds)→∃locs:List Loc,
      Lies (StG σ w ids) O w vs' (injs ds) (blks ds) (cnts ds) locs∧(∀l,l∈locs→From (idsEs hp ss as) σ hp l)∧∀(n:Nat) (τ:Sg),(∀j l,locs[j]?=some l→τ (n+j)=some l)→Al σ τ ds (idss hp ss as) n
  | [],as,vs',ds,hv,hnd,hsub,h=>by
    simp only[rdEs]at h
    obtain⟨rfl,rfl⟩:=h
    cases hv
    exact⟨[],⟨rfl,fun _ _ _ _=>.nil,by simp[blks],by simp⟩,by simp,fun _ _ _=>by simp[idss,Al]⟩
  | s::ss,as,vs',ds,hv,hnd,hsub,h=>by
    simp only[rdEs]at h
    split at h<;>try exact h.elim
    rename_i a as
    cases hv with
    | cons hv hvs =>
    obtain⟨d,h,h1⟩:=rdE_det h
    obtain⟨ds',h,h2⟩:=rdEs_det h
    subst h
    have hids:idsEs hp (s::ss) (a::as)=idsE hp s a++idsEs hp ss as:=by simp[idsEs]
    rw[hids]at hnd hsub ⊢
    obtain⟨n1,n2,n3⟩:=List.nodup_append.1 hnd
    obtain⟨l1,hL1,hf1,hp1⟩:=rdE_ok hs hw hkl hO s hv n1 (fun b hb=>hsub b (List.mem_append_left _ hb)) (h1 (·=d) rfl)
    obtain⟨l2,hL2,hf2,hal⟩:=rdEs_ok hs hw hkl hO ss hvs n2 (fun b hb=>hsub b (List.mem_append_right _ hb)) (h2 (·=ds') rfl)
    refine⟨l1++l2,hL1.append hL2 (fun n=>blk_length d n) (fun l l' hl hl'=>from_disj hs (hf1 l hl) (hf2 l' hl') fun b h1 h2=>n3 b h1 b h2 rfl),fun l hl=>?_,fun n τ hτ=>?_⟩
    · rcases List.mem_append.1 hl with hl | hl
      · exact(hf1 l hl).mono fun b hb=>List.mem_append_left _ hb
      · exact(hf2 l hl).mono fun b hb=>List.mem_append_right _ hb
    · obtain⟨t1,t2⟩:=at_append hτ
      rw[hL1.len]at t2
      have hal:=hal _ τ t2
      simp only[idss]
      cases d with
      | v a=>simpa only[Al,cnt,Nat.add_zero]using hal
      | x=>simpa only[Al,cnt,Nat.add_zero]using hal
      | s sz len k xs=>simpa only[Al,cnt]using hal
      | c sz len cs=>simpa only[Al,cnt]using hal
      | w k xs =>
        obtain⟨b,is,l,ls,e1,e2,e3⟩:=hp1 rfl
        exact⟨⟨b,is,l,e1,e2,by have:=t1 0 l (by rw[e3];simp);simpa using this⟩,hal⟩
      | p fs =>
        obtain⟨b,is,l,ls,e1,e2,e3⟩:=hp1 rfl
        exact⟨⟨b,is,l,e1,e2,by have:=t1 0 l (by rw[e3];simp);simpa using this⟩,hal⟩
end
end

mutual
theorem outE_some (hp:List Blk):∀(e:E) (v:V) (used:List Nat) (Q:List Nat→Prop),outE hp e v used Q→∃u,Q u
  | .v a,v,used,Q,h=>⟨_,h.2⟩
  | .x,v,used,Q,h=>⟨_,by simpa only[outE]using h⟩
  | .s sz len k xs,v,used,Q,h=>by
    simp only[outE]at h
    split at h<;>try exact h.elim
    · exact⟨_,h.2⟩
    · split at h<;>try exact h.elim
      exact⟨_,h.2⟩
  | .c sz len cs,v,used,Q,h=>by
    simp only[outE]at h
    split at h<;>try exact h.elim
    · exact⟨_,h.2⟩
    · split at h<;>try exact h.elim
      exact⟨_,h.2⟩
  | .w _ _,v,used,Q,h=>by
    simp only[outE]at h
  | .p fs,v,used,Q,h=>by
    simp only[outE]at h
    split at h<;>try exact h.elim
    split at h<;>try exact h.elim
    all_goals exact outEs_some hp fs _ _ _ h.2
theorem outEs_some (hp:List Blk):∀(es:List E) (vs:List V) (used:List Nat) (Q:List Nat→Prop),outEs hp es vs used Q→∃u,Q u
  | [],vs,used,Q,h=>⟨_,h.2⟩
  | e::r,vs,used,Q,h=>by
    simp only[outEs]at h
    split at h<;>try exact h.elim
    obtain⟨u,h⟩:=outE_some hp e _ _ _ h
    exact outEs_some hp r _ _ _ h
end
/-! ### What a call leaves -/
inductive EOut where
  | one (e:E)
  | many (es:List E)
def outR (hp:List Blk) (v:V) (o:EOut) (used:List Nat):Prop :=
  match o with
  | .one e=>outE hp e v used fun _=>True
  | .many es=>match v with
    | .tup vs=>outEs hp es vs used fun _=>True
    | _=>False
def outA (hp:List Blk):List E→Nat→List (List E)→List Nat→(List Nat→Prop)→Prop
  | [],_,as,used,K=>as=[]∧K used
  | .p fs::r,n,as,used,K=>match as with
    | []=>False
    | fs'::as=>match nthB hp n with
      | .cells false vs=>outEs hp fs' vs used fun u=>outA hp r (n+cnt (.p fs)) as u K
      | _=>False
  | .w k xs::r,n,as,used,K=>match as with
    | []=>False
    | fs'::as=>match nthB hp n with
      | .ints false k' ys=>(fs'=[.v (.ints k' ys)]∧ys.length=xs.length)∧outA hp r (n+1) as used K
      | _=>False
  | .v _::r,n,as,used,K=>outA hp r n as used K
  | .x::r,n,as,used,K=>outA hp r n as used K
  | .s _ _ _ _::r,n,as,used,K=>outA hp r (n+1) as used K
  | .c _ _ _::r,n,as,used,K=>outA hp r (n+1) as used K
def sids:List E→Nat→List Nat
  | [],_=>[]
  | .p fs::r,n=>n::sids r (n+cnt (.p fs))
  | .w _ _::r,n=>n::sids r (n+1)
  | .v _::r,n=>sids r n
  | .x::r,n=>sids r n
  | .s _ _ _ _::r,n=>sids r (n+1)
  | .c _ _ _::r,n=>sids r (n+1)
def deads:List Nat→List (Nat×Blk)
  | []=>[]
  | b::r=>(b,.dead)::deads r
/-- What a lent block holds afterwards. -/
def wBlk:List E→Blk
  | [.v (.ints k ys)]=>.ints false k ys
  | _=>.dead
def stA:List E→List (List Nat)→List (List E)→Nat→List (Nat×Blk)
  | [],_,_,_=>[]
  | .p _::r,iss,as,n=>match iss with
    | (b::is)::iss=>match as with
      | fs::as=>(b,.cells false (injs fs n))::(deads is++stA r iss as (n+cnts fs))
      | []=>[]
    | _=>[]
  | .w _ _::r,iss,as,n=>match iss with
    | (b::is)::iss=>match as with
      | fs::as=>(b,wBlk fs)::(deads is++stA r iss as (n+cnts fs))
      | []=>[]
    | _=>[]
  | .v _::r,iss,as,n=>match iss with
    | is::iss=>deads is++stA r iss as n
    | []=>[]
  | .x::r,iss,as,n=>match iss with
    | is::iss=>deads is++stA r iss as n
    | []=>[]
  | .s _ _ _ _::r,iss,as,n=>match iss with
    | is::iss=>deads is++stA r iss as n
    | []=>[]
  | .c _ _ _::r,iss,as,n=>match iss with
    | is::iss=>deads is++stA r iss as n
    | []=>[]
def nwA:List (List E)→Nat→List Blk
  | [],_=>[]
  | fs::r,n=>blks fs n++nwA r (n+cnts fs)
def cntA:List (List E)→Nat
  | []=>0
  | fs::r=>cnts fs+cntA r
def valO (o:EOut) (n:Nat):V :=
  match o with
  | .one e=>inj e n
  | .many es=>.tup (injs es n)
def blkO (o:EOut) (n:Nat):List Blk :=
  match o with
  | .one e=>blk e n
  | .many es=>blks es n
def cntO (o:EOut):Nat :=
  match o with
  | .one e=>cnt e
  | .many es=>cnts es
def effE (iss:List (List Nat)) (ds:List E) (as:List (List E)) (o:EOut) (n:Nat):Ef:=⟨valO o (n+cntA as),stA ds iss as n,nwA as n++blkO o (n+cntA as)⟩
/-- A summary of a function that writes. -/
def sEff (shs:List Sp) (pre:List E→Prop) (F:List E→List (List E)×EOut):Summ:=fun vs hp K =>
  rdEs hp (killB hp (idsEs hp shs vs)) shs vs fun ds=>((idsEs hp shs vs).Nodup∧pre ds)∧K (effE (idss hp shs vs) ds (F ds).1 (F ds).2 hp.length)

theorem nwA_length:∀(as:List (List E)) (n:Nat),(nwA as n).length=cntA as
  | [],_=>rfl
  | fs::r,n=>by simp[nwA,cntA,blks_length,nwA_length r]
theorem blkO_length (o:EOut) (n:Nat):(blkO o n).length=cntO o:=by cases o<;>simp[blkO,cntO,blk_length,blks_length]
theorem deads_fst:∀is:List Nat,(deads is).map (·.1)=is
  | []=>rfl
  | b::r=>by simp[deads,deads_fst r]
theorem deads_mem:∀{is:List Nat} {q:Nat×Blk},q∈deads is→q.2=.dead
  | [],q,h=>by simp[deads]at h
  | b::r,q,h=>by
    simp only[deads,List.mem_cons]at h
    rcases h with rfl | h
    · rfl
    · exact deads_mem h
theorem mem_deads:∀{is:List Nat} {b:Nat},b∈is→(b,Blk.dead)∈deads is
  | c::r,b,h=>by
    simp only[List.mem_cons]at h
    rcases h with rfl | h
    · simp[deads]
    · simp only[deads,List.mem_cons];exact .inr (mem_deads h)
theorem idsEs_flat (hp:List Blk):∀(ss:List Sp) (as:List V),(idss hp ss as).flatten=idsEs hp ss as
  | [],as=>by simp[idss,idsEs]
  | s::ss,[]=>by simp[idss,idsEs]
  | s::ss,a::as=>by simp[idss,idsEs,idsEs_flat hp ss as]
theorem stA_fst {σ τ:Sg}:∀{ds:List E} {iss:List (List Nat)} {as:List (List E)} {n m:Nat} {hp:List Blk} {used:List Nat} {K:List Nat→Prop},Al σ τ ds iss n→outA hp ds n as used K→(stA ds iss as m).map (·.1)=iss.flatten
  | [],iss,as,n,m,hp,used,K,h,ho=>by
    simp only[Al]at h
    subst h;simp[stA]
  | .p fs::r,iss,as,n,m,hp,used,K,h,ho=>by
    cases iss with
    | nil=>simp[Al]at h
    | cons is iss =>
      obtain⟨⟨b,is',l,rfl,-,-⟩,h⟩:=h
      simp only[outA]at ho
      split at ho<;>try exact ho.elim
      split at ho<;>try exact ho.elim
      rename_i fs' as _ vs hB
      -- whatever the fields, the rest is told
      have:∃u K',outA hp r (n+cnt (.p fs)) as u K':=by
        have key:∀(es:List E) (vs:List V) (used:List Nat) (Q:List Nat→Prop),outEs hp es vs used Q→∃u,Q u:=outEs_some hp
        obtain⟨u,hu⟩:=key _ _ _ _ ho
        exact⟨u,_,hu⟩
      obtain⟨u,K',ho⟩:=this
      simp[stA,deads_fst,stA_fst h ho]
  | .w k xs::r,iss,as,n,m,hp,used,K,h,ho=>by
    cases iss with
    | nil=>simp[Al]at h
    | cons is iss =>
      obtain⟨⟨b,is',l,rfl,-,-⟩,h⟩:=h
      simp only[outA]at ho
      split at ho<;>try exact ho.elim
      split at ho<;>try exact ho.elim
      simp[stA,deads_fst,stA_fst h ho.2]
  | .v a::r,iss,as,n,m,hp,used,K,h,ho=>by
    cases iss with
    | nil=>simp[Al]at h
    | cons is iss =>
      simp only[outA]at ho
      have:=stA_fst (m:=m) (show Al σ τ r iss n from h) ho
      simp[stA,deads_fst,this]
  | .x::r,iss,as,n,m,hp,used,K,h,ho=>by
    cases iss with
    | nil=>simp[Al]at h
    | cons is iss =>
      simp only[outA]at ho
      have:=stA_fst (m:=m) (show Al σ τ r iss n from h) ho
      simp[stA,deads_fst,this]
  | .s _ _ _ _::r,iss,as,n,m,hp,used,K,h,ho=>by
    cases iss with
    | nil=>simp[Al]at h
    | cons is iss =>
      simp only[outA]at ho
      have:=stA_fst (m:=m) (show Al σ τ r iss (n+1)from h) ho
      simp[stA,deads_fst,this]
  | .c _ _ _::r,iss,as,n,m,hp,used,K,h,ho=>by
    cases iss with
    | nil=>simp[Al]at h
    | cons is iss =>
      simp only[outA]at ho
      have:=stA_fst (m:=m) (show Al σ τ r iss (n+1)from h) ho
      simp[stA,deads_fst,this]

section
variable {σ' : Sg} {w' : World} {hp' : List Blk} {O : Nat → Nat → Prop} {σ : Sg}
theorem outA_ok (hs:Sim O σ' (nthB hp') w'):∀(ds:List E) {n:Nat} {as:List (List E)} {used:List Nat} {K:List Nat→Prop} {iss:List (List Nat)},Al σ σ' ds iss n→(∀b,b∈sids ds n→b∈used)→outA hp' ds n as used K →
    ∃(used':List Nat) (locs:List Loc),K used'∧(∀b,b∈used→b∈used')∧locs.length=cntA as∧(∀l,l∈locs→In used σ' hp' l)∧(∀l l',l∈locs→In used' σ' hp' l'→l.disj l') ∧
      (∀(j j':Nat) (l l':Loc),j≠j'→locs[j]?=some l→locs[j']?=some l'→l.disj l') ∧
      (∀(m:Nat) (τ:Sg),(∀j l,locs[j]?=some l→τ (m+j)=some l)→(∀(j:Nat) (l:Loc) (B:Blk),locs[j]?=some l→(nwA as m)[j]?=some B→BOk O τ w' l B) ∧
        ∀q,q∈stA ds iss as m→q.2=.dead∨∃l,σ q.1=some l∧BOk O τ w' l q.2) ∧
      ∀(m b:Nat),b∈iss.flatten→(b,Blk.dead)∈stA ds iss as m∨∃c l,c∈sids ds n∧σ b=some l∧σ' c=some l∧(nthB hp' c).wr=true
  | [],n,as,used,K,iss,hal,hu,h=>by
    simp only[outA]at h
    obtain⟨rfl,hk⟩:=h
    simp only[Al]at hal
    subst hal
    exact⟨used,[],hk,fun _ h=>h,rfl,by simp,by simp,by simp,fun m τ _=>⟨by simp,by simp[stA]⟩,by simp⟩
  | .p fs::r,n,as,used,K,iss,hal,hu,h=>by
    cases iss with
    | nil=>simp[Al]at hal
    | cons is iss =>
      obtain⟨⟨b,is',l,rfl,hb,hn⟩,hal⟩:=hal
      simp only[outA]at h
      split at h<;>try exact h.elim
      split at h<;>try exact h.elim
      rename_i fs' as _ vs hB
      obtain⟨us,hus,hrow⟩:=obj_row hs hn hB rfl
      simp only[Blk.vs]at hus
      obtain⟨u1,l1,h,hu1,hL,hin1,hd1⟩:=outEs_ok hs fs' hus h
      obtain⟨u2,l2,hk,hu2,hlen,hin2,hd2,hdj,hbk,hcov⟩:=outA_ok hs r hal (fun b hb=>hu1 b (hu b (by simp[sids,hb]))) h
      refine⟨u2,l1++l2,hk,fun b hb=>hu2 b (hu1 b hb),by simp[hL.len,hlen,cntA],fun l hl=>?_,fun l l' hl hl'=>?_,fun j j' x x' hne hx hx'=>?_,fun m τ hτ=>?_,fun m c hc=>?_⟩
      · rcases List.mem_append.1 hl with hl | hl
        · exact hin1 l hl
        · exact(hin2 l hl).mono hu1
      · rcases List.mem_append.1 hl with hl | hl
        · exact hd1 l l' hl (hl'.mono hu2)
        · exact hd2 l l' hl hl'
      · rcases Nat.lt_or_ge j l1.length with hlt | hge
        · rw[List.getElem?_append_left hlt]at hx
          rcases Nat.lt_or_ge j' l1.length with hlt' | hge'
          · rw[List.getElem?_append_left hlt']at hx'
            exact hL.dj j j' x x' hne hx hx'
          · rw[List.getElem?_append_right hge']at hx'
            exact hd1 x x' (List.mem_of_getElem? hx) (hin2 x' (List.mem_of_getElem? hx'))
        · rw[List.getElem?_append_right hge]at hx
          rcases Nat.lt_or_ge j' l1.length with hlt' | hge'
          · rw[List.getElem?_append_left hlt']at hx'
            exact disj_symm (hd1 x' x (List.mem_of_getElem? hx') (hin2 x (List.mem_of_getElem? hx)))
          · rw[List.getElem?_append_right hge']at hx'
            exact hdj _ _ x x' (by omega) hx hx'
      · obtain⟨t1,t2⟩:=at_append hτ
        rw[hL.len]at t2
        obtain⟨q1,q2⟩:=hbk _ τ t2
        refine⟨fun j l' B hl hB'=>?_,fun q hq=>?_⟩
        · simp only[nwA]at hB'
          rcases Nat.lt_or_ge j l1.length with hlt | hge
          · rw[List.getElem?_append_left hlt]at hl
            rw[List.getElem?_append_left (by rw[blks_length,←hL.len];exact hlt)]at hB'
            exact hL.ok m τ trivial t1 j l' B hl hB'
          · rw[List.getElem?_append_right hge]at hl
            rw[List.getElem?_append_right (by rw[blks_length,←hL.len];exact hge),blks_length,←hL.len]at hB'
            refine q1 _ l' B hl (by simpa only[hL.len]using hB')
        · simp only[stA,List.mem_cons,List.mem_append]at hq
          rcases hq with rfl | hq | hq
          · right
            refine⟨l,hb,?_⟩
            have hvs:=hL.val m τ trivial t1
            have hle:=hvs.length
            have hle2:=hus.length
            have hlv:vs.length≤l.size:=by have:=(hs.blk n l hn).len;rw[hB]at this;simpa[Blk.vs]using this
            refine⟨by simp only[Blk.vs];omega,fun _ h0=>?_⟩
            obtain⟨c,e,fr,h1,h2,h3,h4⟩:=hrow h0
            refine⟨c,e,fr,h1,h2,fun j a haj=>?_,fun _=>h4 rfl⟩
            obtain⟨u,hu',hr⟩:=hvs.get haj
            exact⟨u,(h3 j u hu').1,hr,(h3 j u hu').2⟩
          · exact .inl (deads_mem hq)
          · exact q2 q hq
      · simp only[List.flatten_cons,List.cons_append,List.mem_cons,List.mem_append]at hc
        rcases hc with rfl | hc | hc
        · exact .inr ⟨n,l,by simp[sids],hb,hn,by rw[hB];rfl⟩
        · exact .inl (by simp only[stA,List.mem_cons,List.mem_append];exact .inr (.inl (mem_deads hc)))
        · rcases hcov (m+cnts fs') c hc with h | ⟨d,l',h1,h2,h3,h4⟩
          · exact .inl (by simp only[stA,List.mem_cons,List.mem_append];exact .inr (.inr h))
          · exact .inr ⟨d,l',by simp only[sids,List.mem_cons];exact .inr h1,h2,h3,h4⟩
  | .w k xs::r,n,as,used,K,iss,hal,hu,h=>by
    cases iss with
    | nil=>simp[Al]at hal
    | cons is iss =>
      obtain⟨⟨b,is',l,rfl,hb,hn⟩,hal⟩:=hal
      simp only[outA]at h
      split at h<;>try exact h.elim
      split at h<;>try exact h.elim
      rename_i fs' as _ k' ys hB
      obtain⟨⟨rfl,hyl⟩,h⟩:=h
      obtain⟨us,hus,hrow⟩:=obj_row hs hn hB rfl
      simp only[Blk.vs]at hus
      have he:=VRs_ints hus
      have hlv:ys.length≤l.size:=by have:=(hs.blk n l hn).len;rw[hB]at this;simpa[Blk.vs]using this
      obtain⟨u2,l2,hk,hu2,hlen,hin2,hd2,hdj,hbk,hcov⟩:=outA_ok hs r hal (fun b hb=>hu b (by simp[sids,hb])) h
      have c0:cnts [E.v (.ints k' ys)]=0:=rfl
      refine⟨u2,l2,hk,hu2,by simp[hlen,cntA,c0],hin2,hd2,hdj,fun m τ hτ=>?_,fun m c hc=>?_⟩
      · obtain⟨q1,q2⟩:=hbk m τ hτ
        refine⟨fun j l' B hl hB'=>q1 j l' B hl (by simpa[nwA,blks,blk,c0]using hB'),fun q hq=>?_⟩
        simp only[stA,c0,Nat.add_zero,List.mem_cons,List.mem_append]at hq
        rcases hq with rfl | hq | hq
        · right
          refine⟨l,hb,⟨by simpa[wBlk,Blk.vs]using hlv,fun _ h0=>?_⟩⟩
          obtain⟨c,e,fr,h1,h2,h3,h4⟩:=hrow h0
          refine⟨c,e,fr,h1,h2,fun j a haj=>?_,fun _=>h4 rfl⟩
          simp only[wBlk,Blk.vs,List.getElem?_map,Option.map_eq_some_iff]at haj
          obtain⟨x,hx,rfl⟩:=haj
          have hu':us[j]?=some (.int k' x):=by rw[he];simp[hx]
          exact⟨_,(h3 j _ hu').1,.int k' x,(h3 j _ hu').2⟩
        · exact .inl (deads_mem hq)
        · exact q2 q hq
      · simp only[List.flatten_cons,List.cons_append,List.mem_cons,List.mem_append]at hc
        rcases hc with rfl | hc | hc
        · exact .inr ⟨n,l,by simp[sids],hb,hn,by rw[hB];rfl⟩
        · exact .inl (by simp only[stA,List.mem_cons,List.mem_append];exact .inr (.inl (mem_deads hc)))
        · rcases hcov m c hc with h | ⟨d,l',h1,h2,h3,h4⟩
          · exact .inl (by simp only[stA,c0,Nat.add_zero,List.mem_cons,List.mem_append];exact .inr (.inr h))
          · exact .inr ⟨d,l',by simp only[sids,List.mem_cons];exact .inr h1,h2,h3,h4⟩
  | .v a::r,n,as,used,K,iss,hal,hu,h=>by
    cases iss with
    | nil=>simp[Al]at hal
    | cons is iss =>
      simp only[outA]at h
      obtain⟨u2,l2,hk,hu2,hlen,hin2,hd2,hdj,hbk,hcov⟩:=outA_ok hs r (show Al σ σ' r iss n from hal) (by simpa[sids]using hu) h
      refine⟨u2,l2,hk,hu2,hlen,hin2,hd2,hdj,fun m τ hτ=>⟨(hbk m τ hτ).1,fun q hq=>?_⟩,fun m c hc=>?_⟩
      · simp only[stA,List.mem_append]at hq
        rcases hq with hq | hq
        · exact .inl (deads_mem hq)
        · exact(hbk m τ hτ).2 q hq
      · simp only[List.flatten_cons,List.mem_append]at hc
        simp only[stA,List.mem_append]
        rcases hc with hc | hc
        · exact .inl (.inl (mem_deads hc))
        · rcases hcov m c hc with h | h
          · exact .inl (.inr h)
          · exact .inr (by simpa only[sids]using h)
  | .x::r,n,as,used,K,iss,hal,hu,h=>by
    cases iss with
    | nil=>simp[Al]at hal
    | cons is iss =>
      simp only[outA]at h
      obtain⟨u2,l2,hk,hu2,hlen,hin2,hd2,hdj,hbk,hcov⟩:=outA_ok hs r (show Al σ σ' r iss n from hal) (by simpa[sids]using hu) h
      refine⟨u2,l2,hk,hu2,hlen,hin2,hd2,hdj,fun m τ hτ=>⟨(hbk m τ hτ).1,fun q hq=>?_⟩,fun m c hc=>?_⟩
      · simp only[stA,List.mem_append]at hq
        rcases hq with hq | hq
        · exact .inl (deads_mem hq)
        · exact(hbk m τ hτ).2 q hq
      · simp only[List.flatten_cons,List.mem_append]at hc
        simp only[stA,List.mem_append]
        rcases hc with hc | hc
        · exact .inl (.inl (mem_deads hc))
        · rcases hcov m c hc with h | h
          · exact .inl (.inr h)
          · exact .inr (by simpa only[sids]using h)
  | .s _ _ _ _::r,n,as,used,K,iss,hal,hu,h=>by
    cases iss with
    | nil=>simp[Al]at hal
    | cons is iss =>
      simp only[outA]at h
      obtain⟨u2,l2,hk,hu2,hlen,hin2,hd2,hdj,hbk,hcov⟩:=outA_ok hs r (show Al σ σ' r iss (n+1)from hal) (by simpa[sids]using hu) h
      refine⟨u2,l2,hk,hu2,hlen,hin2,hd2,hdj,fun m τ hτ=>⟨(hbk m τ hτ).1,fun q hq=>?_⟩,fun m c hc=>?_⟩
      · simp only[stA,List.mem_append]at hq
        rcases hq with hq | hq
        · exact .inl (deads_mem hq)
        · exact(hbk m τ hτ).2 q hq
      · simp only[List.flatten_cons,List.mem_append]at hc
        simp only[stA,List.mem_append]
        rcases hc with hc | hc
        · exact .inl (.inl (mem_deads hc))
        · rcases hcov m c hc with h | h
          · exact .inl (.inr h)
          · exact .inr (by simpa only[sids]using h)
  | .c _ _ _::r,n,as,used,K,iss,hal,hu,h=>by
    cases iss with
    | nil=>simp[Al]at hal
    | cons is iss =>
      simp only[outA]at h
      obtain⟨u2,l2,hk,hu2,hlen,hin2,hd2,hdj,hbk,hcov⟩:=outA_ok hs r (show Al σ σ' r iss (n+1)from hal) (by simpa[sids]using hu) h
      refine⟨u2,l2,hk,hu2,hlen,hin2,hd2,hdj,fun m τ hτ=>⟨(hbk m τ hτ).1,fun q hq=>?_⟩,fun m c hc=>?_⟩
      · simp only[stA,List.mem_append]at hq
        rcases hq with hq | hq
        · exact .inl (deads_mem hq)
        · exact(hbk m τ hτ).2 q hq
      · simp only[List.flatten_cons,List.mem_append]at hc
        simp only[stA,List.mem_append]
        rcases hc with hc | hc
        · exact .inl (.inl (mem_deads hc))
        · rcases hcov m c hc with h | h
          · exact .inl (.inr h)
          · exact .inr (by simpa only[sids]using h)
end

section
variable {Own : Nat → Nat → Prop} {σ : Sg} {w : World} {hp hk : List Blk}
mutual
theorem rdE_wr (hs:Sim Own σ (nthB hp) w):∀(s:Sp) {a:V} {v':Value} {K:E→Prop},VR σ a v'→rdE hp hk s a K→∀b,b∈idsE hp s a→(nthB hp b).wr=true∧∃l,σ b=some l
  | .v,a,v',K,hv,h,b,hb=>by simp[idsE]at hb
  | .r,a,v',K,hv,h,b,hb=>by simp[idsE]at hb
  | .g sz k,a,v',K,hv,h,b,hb=>by
    simp only[rdE]at h
    split at h<;>try exact h.elim
    · simp[idsE]at hb
    · simp[idsE]at hb
      subst hb
      cases hv with
      | slice hb =>
      split at h<;>try exact h.elim
      all_goals
        rename_i hB
        exact⟨by rw[hB];rfl,_,hb⟩
  | .w k,a,v',K,hv,h,b,hb=>by
    simp only[rdE]at h
    split at h<;>try exact h.elim
    simp[idsE]at hb
    subst hb
    cases hv with
    | slice hb =>
    split at h<;>try exact h.elim
    rename_i hB
    exact⟨by rw[hB];rfl,_,hb⟩
  | .p fs,a,v',K,hv,h,b,hb=>by
    simp only[rdE]at h
    split at h<;>try exact h.elim
    split at h<;>try exact h.elim
    rename_i c o cs hB
    obtain⟨rfl,h⟩:=h
    simp only[idsE,hB,List.mem_cons]at hb
    cases hv with
    | ptr hc =>
    rcases hb with rfl | hb
    · exact⟨by rw[hB];rfl,_,hc⟩
    · obtain⟨us,hus,-⟩:=obj_row hs hc hB rfl
      exact rdEs_wr hs fs (by simpa[Blk.vs]using hus) h b hb
theorem rdEs_wr (hs:Sim Own σ (nthB hp) w):∀(ss:List Sp) {as:List V} {vs':List Value} {K:List E→Prop},VRs σ as vs'→rdEs hp hk ss as K→∀b,b∈idsEs hp ss as→(nthB hp b).wr=true∧∃l,σ b=some l
  | [],as,vs',K,hv,h,b,hb=>by simp[idsEs]at hb
  | s::ss,as,vs',K,hv,h,b,hb=>by
    simp only[rdEs]at h
    split at h<;>try exact h.elim
    cases hv with
    | cons hv hvs =>
    simp only[idsEs,List.mem_append]at hb
    obtain⟨d,h0,-⟩:=rdE_det h
    rcases hb with hb | hb
    · exact rdE_wr hs s hv h b hb
    · exact rdEs_wr hs ss hvs h0 b hb
end
theorem nthB_killB:∀(ids:List Nat) (hp:List Blk) (b:Nat),nthB (killB hp ids) b=if b∈ids then .dead else nthB hp b
  | [],hp,b=>by simp[killB]
  | c::r,hp,b=>by
    simp only[killB,nthB_killB r,List.mem_cons]
    by_cases hr:b∈r
    · simp[hr]
    · by_cases hc:b=c
      · subst hc
        simp only[hr,if_false,true_or,if_true]
        rw[nthB_get,updB_set,List.getElem?_set]
        split
        · split<;>rfl
        · rename_i h;exact absurd rfl h
      · simp only[hr,hc,or_self,if_false]
        rw[nthB_get,updB_set,List.getElem?_set,if_neg (fun e=>hc e.symm),nthB_get]
theorem Al.mono {σ τ τ':Sg} (h:∀b l,τ b=some l→τ' b=some l):∀{ds:List E} {iss:List (List Nat)} {n:Nat},Al σ τ ds iss n→Al σ τ' ds iss n
  | [],_,_,ha=>ha
  | .p fs::r,iss,n,ha=>by
    cases iss with
    | nil=>exact ha
    | cons is iss =>
      obtain⟨⟨b,is',l,h1,h2,h3⟩,ha⟩:=ha
      exact⟨⟨b,is',l,h1,h2,h _ _ h3⟩,Al.mono h ha⟩
  | .w _ _::r,iss,n,ha=>by
    cases iss with
    | nil=>exact ha
    | cons is iss =>
      obtain⟨⟨b,is',l,h1,h2,h3⟩,ha⟩:=ha
      exact⟨⟨b,is',l,h1,h2,h _ _ h3⟩,Al.mono h ha⟩
  | .v a::r,iss,n,ha=>by
    cases iss with
    | nil=>exact ha
    | cons is iss=>exact Al.mono h (ds:=r) (n:=n) ha
  | .x::r,iss,n,ha=>by
    cases iss with
    | nil=>exact ha
    | cons is iss=>exact Al.mono h (ds:=r) (n:=n) ha
  | .s _ _ _ _::r,iss,n,ha=>by
    cases iss with
    | nil=>exact ha
    | cons is iss=>exact Al.mono h (ds:=r) (n:=n+1) ha
  | .c _ _ _::r,iss,n,ha=>by
    cases iss with
    | nil=>exact ha
    | cons is iss=>exact Al.mono h (ds:=r) (n:=n+1) ha
theorem given_own (hs:Sim Own σ (nthB hp) w) {ids:List Nat} (hw:∀b,b∈ids→(nthB hp b).wr=true) {k j:Nat} (h:Given σ ids k j):Own k j:=by
  obtain⟨b,l,h1,h2,h3,h4,h5⟩:=h
  obtain⟨c,e,fr,k1,k2,k3,k4⟩:=(hs.blk b l h2).row (Blk.live_of_wr (hw b h1)) (by omega)
  have:=(k4 (hw b h1)).1 (j-l.off) (by omega)
  rw[h3]at this
  rwa [show l.off+(j-l.off)=j by omega]at this
/-- What a function does at its own memory is a summary for its callers. -/
theorem sumE_of {P:Program} {gl:List Blk} {f:FuncId} {shs:List Sp} {pre:List E→Prop} {F:List E→List (List E)×EOut} (hgl:Plain gl) (hlen:gl.length=4)
    (h:∀ds,pre ds→Does P gl f (injs ds 4) (gl++blks ds 4) (fun v hp'=>outA hp' ds 4 (F ds).1 (sids ds 4) fun u=>outR hp' v (F ds).2 u)):SumOK P gl f (sEff shs pre F):=by
  intro Own σ hp w vs cvs K hs hG hvs hsum hfree
  unfold sEff at hsum
  obtain⟨ds,⟨⟨hnd,hpre⟩,hk⟩,hrd⟩:=rdEs_det hsum
  have hwd:=rdEs_wr hs shs hvs hsum
  obtain⟨ids,hids⟩:∃ids,ids=idsEs hp shs vs:=⟨_,rfl⟩
  obtain⟨iss,hiss⟩:∃iss,iss=idss hp shs vs:=⟨_,rfl⟩
  have hflat:iss.flatten=ids:=by rw[hiss,hids];exact idsEs_flat hp shs vs
  rw[←hids]at hnd hwd hrd
  rw[←hiss]at hk
  have hw:∀b,b∈ids→(nthB hp b).wr=true:=fun b hb=>(hwd b hb).1
  have hkl:∀b B,nthB (killB hp ids) b=B→B.live=true→nthB hp b=B∧b∉ids:=by
    intro b B hB hlv
    rw[nthB_killB]at hB
    split at hB
    · subst hB;simp[Blk.live]at hlv
    · exact⟨hB,by assumption⟩
  let O:Nat→Nat→Prop:=fun k j=>w.heap.size≤k∨Given σ ids k j
  have hOo:∀k j,O k j→Own k j:=fun k j h=>h.elim (hs.new k j) (given_own hs hw)
  obtain⟨locs,hL,hfrom,hal⟩:=rdEs_ok hs hw hkl (O:=O) (fun k j h=>.inr h) shs hvs (by rw[←hids];exact hnd) (fun b hb=>by rw[hids];exact hb) (hrd (·=ds) rfl)
  rw[←hids]at hfrom
  rw[←hiss]at hal
  refine⟨_,hk,?_⟩
  have hfree:=hfree _ hk
  let τ:Sg:=⟨fun b=>if b<4 then σ b else locs[b-4]?,fun k j v=>statW w k j v∧¬Given σ ids k j⟩
  have hτlow:∀b,b<4→τ b=σ b:=fun b hb=>by simp[τ,hb]
  have hτhigh:∀j,τ (4+j)=locs[j]?:=fun j=>by simp only[τ];rw[if_neg (by omega),Nat.add_sub_cancel_left]
  have hpos:∀(j:Nat) l,locs[j]?=some l→τ (4+j)=some l:=fun j l hj=>by rw[hτhigh];exact hj
  have hT:StG σ w ids τ:=fun k j v h1 h2=>⟨h1,h2⟩
  have hnlow:∀b,b<4→nthB (gl++blks ds 4) b=nthB hp b:=by
    intro b hb
    rw[nthB_get,List.getElem?_append_left (by omega),←hG.is,List.getElem?_take,if_pos hb,nthB_get]
  have hnhigh:∀b,4≤b→nthB (gl++blks ds 4) b=nthB (blks ds 4) (b-4):=by
    intro b hb
    rw[nthB_get,List.getElem?_append_right (by omega),hlen,nthB_get]
  have hBlow:∀b,b<4→nthB hp b∈gl:=by
    intro b hb
    have:gl[b]?=some (nthB hp b):=by
      have:=List.getElem?_eq_getElem (show b<gl.length by omega)
      rw[←hnlow b hb,nthB_get,List.getElem?_append_left (by omega),this]
      rfl
    exact List.mem_of_getElem? this
  have hhigh:∀b l,4≤b→τ b=some l→locs[b-4]?=some l:=fun b l hb h=>by rw[show b=4+(b-4) by omega,hτhigh]at h;exact h
  have hlowsig:∀b l,b<4→τ b=some l→σ b=some l:=fun b l hb h=>by rw[hτlow b hb]at h;exact h
  have hsim:Sim O τ (nthB (gl++blks ds 4)) w:=by
    refine⟨fun b l hb=>?_,fun b b' l l' hne hb hb' hwr hlv=>?_,fun k j hk=>.inl hk,fun k j v hv=>⟨hv.1.1,hv.1.2,fun b l hb hwr hh=>?_⟩⟩
    · rcases Nat.lt_or_ge b 4 with hb4 | hb4
      · rw[hτlow b hb4]at hb
        rw[hnlow b hb4]
        obtain⟨hnw,hpl⟩:=hgl _ (hBlow b hb4)
        have hbok:=hs.blk b l hb
        rcases hpl with hd | ⟨ro,k,xs,hd⟩
        · rw[hd];exact⟨by simp[Blk.vs],by simp[Blk.live]⟩
        · rw[hd]at hbok hnw ⊢
          refine⟨hbok.len,fun hl h0=>?_⟩
          obtain⟨c,e,fr,h1,h2,h3,h4⟩:=hbok.row hl h0
          refine⟨c,e,fr,h1,h2,fun j a ha=>?_,fun hw=>by rw[hnw]at hw;simp at hw⟩
          obtain⟨u,hu,hr,ho⟩:=h3 j a ha
          simp only[Blk.vs,List.getElem?_map,Option.map_eq_some_iff]at ha
          obtain⟨x,-,rfl⟩:=ha
          exact⟨u,hu,hr.pur rfl,ho⟩
      · have hb':=hhigh b l hb4 hb
        rw[hnhigh b hb4]
        have hlt:=(List.getElem?_eq_some_iff.1 hb').1
        refine hL.ok 4 τ hT hpos (b-4) l _ hb' ?_
        rw[nthB_get,List.getElem?_eq_getElem (by rw[blks_length,←hL.len];exact hlt)]
        rfl
    · rcases Nat.lt_or_ge b 4 with hb4 | hb4
      · rw[hnlow b hb4,(hgl _ (hBlow b hb4)).1]at hwr;simp at hwr
      · have e1:=hhigh b l hb4 hb
        rcases Nat.lt_or_ge b' 4 with hb4' | hb4'
        · rw[hnlow b' hb4']at hlv
          rcases hfrom l (List.mem_of_getElem? e1)with h | ⟨c,lc,c1,c2,c3,c4⟩
          · exact .inl h
          · have hcb:c≠b':=by
              rintro rfl
              rw[(hgl _ (hBlow c hb4')).1]at c3;simp at c3
            exact disj_in (hs.excl c b' lc l' hcb c2 (hlowsig b' l' hb4' hb') c3 hlv) (.inr c4)
        · exact hL.dj (b-4) (b'-4) l l' (by omega) e1 (hhigh b' l' hb4' hb')
    · rcases Nat.lt_or_ge b 4 with hb4 | hb4
      · rw[hnlow b hb4,(hgl _ (hBlow b hb4)).1]at hwr;simp at hwr
      · obtain⟨x1,x2,x3⟩:=hh
        have:=(from_own hs (hfrom l (List.mem_of_getElem? (hhigh b l hb4 hb))) (j-l.off) (by omega)).1
        rw[x1,show l.off+(j-l.off)=j by omega]at this
        exact hv.2 this
  have hG':GOk gl τ (gl++blks ds 4):=⟨fun g hg=>by
    obtain⟨l,hl,h1⟩:=hG.at_ g hg
    exact⟨l,by rw[hτlow g hg];exact hl,h1⟩,by rw[←hlen];simp⟩
  have hdom:∀b,(gl++blks ds 4).length≤b→τ b=none:=by
    intro b hb
    simp only[List.length_append,hlen,blks_length]at hb
    rw[show b=4+(b-4) by omega,hτhigh]
    have:=hL.len
    simp;omega
  have hcall:=h ds hpre O τ w cvs hsim hG' hdom (hL.val 4 τ hT hpos)
  refine hcall.mono fun en w' ⟨v,v',hp',σ',hen,hout,hs',hv',hext,hkept⟩=>⟨v',?_⟩
  have hkept':Kept (Given σ ids) w w':=hkept.below fun k j hk hO=>hO.resolve_left (by omega)
  have hal':Al σ σ' ds iss 4:=(hal 4 τ hpos).mono fun b l hb=>hext.loc b l hb
  have hfst:(stA ds iss (F ds).1 hp.length).map (·.1)=ids:=by rw[stA_fst hal' hout,hflat]
  obtain⟨u1,l1,hR,hu1,hlen1,hin1,hd1,hdj1,hbk1,hcov⟩:=outA_ok hs' ds hal' (fun b hb=>hb) hout
  obtain⟨l2,hlen2,hval2,hok2,hdj2,hin2⟩:∃l2:List Loc,l2.length=cntO (F ds).2∧(∀(n:Nat) (τ:Sg),(∀j l,l2[j]?=some l→τ (n+j)=some l)→VR τ (valO (F ds).2 n) v') ∧
      (∀(n:Nat) (τ:Sg),(∀j l,l2[j]?=some l→τ (n+j)=some l)→∀(j:Nat) (l:Loc) (B:Blk),l2[j]?=some l→(blkO (F ds).2 n)[j]?=some B→BOk O τ w' l B) ∧
      (∀(j j':Nat) (l l':Loc),j≠j'→l2[j]?=some l→l2[j']?=some l'→l.disj l')∧∀l,l∈l2→In u1 σ' hp' l:=by
    cases hF:(F ds).2 with
    | one e =>
      rw[hF]at hR
      obtain⟨u2,l2,-,-,hL2,hi2,-⟩:=outE_ok hs' e hv' hR
      refine⟨l2,by simpa[cntO]using hL2.len,fun n τ hτ=>?_,fun n τ hτ=>hL2.ok n τ trivial hτ,hL2.dj,hi2⟩
      cases hL2.val n τ trivial hτ with
      | cons h _=>exact h
    | many es =>
      rw[hF]at hR
      simp only[outR]at hR
      cases v<;>simp only[]at hR
      cases hv' with
      | tup hus =>
      obtain⟨u2,l2,-,-,hL2,hi2,-⟩:=outEs_ok hs' es hus hR
      exact⟨l2,by simpa[cntO]using hL2.len,fun n τ hτ=>.tup (hL2.val n τ trivial hτ),fun n τ hτ=>hL2.ok n τ trivial hτ,hL2.dj,hi2⟩
  have hnwl:(nwA (F ds).1 hp.length++blkO (F ds).2 (hp.length+cntA (F ds).1)).length=(l1++l2).length:=by
    rw[List.length_append,List.length_append,nwA_length,blkO_length,hlen1,hlen2]
  let σ2:Sg:=⟨fun b=>if hp.length≤b∧b<hp.length+(l1++l2).length then (l1++l2)[b-hp.length]? else σ b,σ.stat⟩
  have h2new:∀(j:Nat) l,(l1++l2)[j]?=some l→σ2 (hp.length+j)=some l:=by
    intro j l hj
    have hlt:=(List.getElem?_eq_some_iff.1 hj).1
    simp only[σ2]
    rw[if_pos (by omega),Nat.add_sub_cancel_left]
    exact hj
  obtain⟨t1,t2⟩:=at_append h2new
  rw[hlen1]at t2
  have hfree':∀j,j<(l1++l2).length→σ (hp.length+j)=none:=fun j hj=>hfree j (by simp only[effE];rw[hnwl];exact hj)
  have hext2:Sg.le σ σ2:=by
    refine⟨fun b l hb=>?_,rfl⟩
    simp only[σ2]
    split
    · rename_i hc
      have:=hfree' (b-hp.length) (by omega)
      rw[show hp.length+(b-hp.length)=b by omega,hb]at this
      simp at this
    · exact hb
  obtain⟨hok1,hst1⟩:=hbk1 hp.length σ2 t1
  have hok2:=hok2 _ σ2 t2
  have hmem:∀b,b∈ids→∃q,q∈stA ds iss (F ds).1 hp.length∧q.1=b:=fun b hb=>by
    rw[←hfst]at hb
    obtain⟨q,h1,h2⟩:=List.mem_map.1 hb
    exact⟨q,h1,h2⟩
  have hmem':∀q,q∈stA ds iss (F ds).1 hp.length→q.1∈ids:=fun q hq=>by rw[←hfst];exact List.mem_map.2 ⟨q,hq,rfl⟩
  have hinall:∀l,l∈l1++l2→In (sids ds 4) σ' hp' l:=fun l hl=>by
    rcases List.mem_append.1 hl with hl | hl
    · exact hin1 l hl
    · exact(hin2 l hl).mono hu1
  have hkeptF:Kept (fun k j=>∃p∈stA ds iss (F ds).1 hp.length,∃l,σ p.1=some l∧l.has k j) w w':=hkept'.mono fun k j ⟨b,l,h1,h2,h3⟩=>by
    obtain⟨q,q1,q2⟩:=hmem b h1
    exact⟨q,q1,l,by rw[q2];exact h2,h3⟩
  refine⟨σ2,hen,⟨hext2,fun b hb=>?_,hval2 _ σ2 t2,by simp only[effE];rw[hfst];exact hnd,fun q hq=>(hwd q.1 (hmem' q hq)).2,fun q hq=>hw q.1 (hmem' q hq),hkeptF,fun q hq l hl=>?_,fun j B hj=>?_,fun j j' l l' hne hj hj' hl hl'=>?_⟩⟩
  · simp only[effE]at hb
    rw[hnwl]at hb
    simp only[σ2]
    rw[if_neg (by omega)]
  · rcases hst1 q hq with h | ⟨l',h1,h2⟩
    · rw[h];exact⟨by simp[Blk.vs],by simp[Blk.live]⟩
    · rw[hl]at h1;cases h1
      exact h2.own hOo
  · have hlt:=(List.getElem?_eq_some_iff.1 hj).1
    simp only[effE]at hlt hj
    rw[hnwl]at hlt
    have hlj:=List.getElem?_eq_getElem hlt
    refine⟨_,h2new j _ hlj,?_,?_⟩
    · rcases Nat.lt_or_ge j l1.length with hlt1 | hge
      · rw[List.getElem?_append_left (by rw[nwA_length,←hlen1];exact hlt1)]at hj
        rw[List.getElem?_append_left hlt1]at hlj
        exact(hok1 j _ B hlj hj).own hOo
      · rw[List.getElem?_append_right (by rw[nwA_length,←hlen1];exact hge),nwA_length,←hlen1]at hj
        rw[List.getElem?_append_right hge]at hlj
        refine (hok2 _ _ B hlj ?_).own hOo
        rw[←hlen1];exact hj
    · generalize (l1++l2)[j]=l at hlj
      rcases hinall l (List.mem_of_getElem? hlj)with hz | ⟨b,lb,b1,b2,b3,b4,b5,b6,b7⟩
      · exact .inr (.inl hz)
      · by_cases hz:l.size=0
        · exact .inr (.inl hz)
        · by_cases hbig:w.heap.size≤l.blk
          · exact .inl hbig
          · right;right
            intro i hi1 hi2
            obtain⟨c,e,fr,e1,e2,e3,e4⟩:=(hs'.blk b lb b3).row (Blk.live_of_wr b4) (by omega)
            have hO:=(e4 b4).1 (i-lb.off) (by omega)
            rw[←b5,show lb.off+(i-lb.off)=i by omega]at hO
            obtain⟨d,ld,d1,d2,d3⟩:=hO.resolve_left hbig
            rcases hcov hp.length d (by rw[hflat];exact d1)with hin | ⟨c',l',c1,c2,c3,c4⟩
            · exact⟨_,hin,rfl,ld,d2,d3⟩
            · rw[d2]at c2;cases c2
              have:=hs'.excl b c' lb ld (fun e=>b2 (e▸c1)) b3 c3 b4 (Blk.live_of_wr c4)
              unfold Loc.disj at this
              unfold Loc.has at d3
              omega
  · simp only[effE]at hj hj'
    rw[hnwl]at hj hj'
    have e1:=List.getElem?_eq_getElem hj
    have e2:=List.getElem?_eq_getElem hj'
    rw[h2new j _ e1]at hl
    rw[h2new j' _ e2]at hl'
    cases hl;cases hl'
    generalize (l1++l2)[j]=x at e1
    generalize (l1++l2)[j']=y at e2
    rcases Nat.lt_or_ge j l1.length with hlt | hge
    · rw[List.getElem?_append_left hlt]at e1
      rcases Nat.lt_or_ge j' l1.length with hlt' | hge'
      · rw[List.getElem?_append_left hlt']at e2
        exact hdj1 j j' x y hne e1 e2
      · rw[List.getElem?_append_right hge']at e2
        exact hd1 x y (List.mem_of_getElem? e1) (hin2 y (List.mem_of_getElem? e2))
    · rw[List.getElem?_append_right hge]at e1
      rcases Nat.lt_or_ge j' l1.length with hlt' | hge'
      · rw[List.getElem?_append_left hlt']at e2
        exact disj_symm (hd1 y x (List.mem_of_getElem? e2) (hin2 x (List.mem_of_getElem? e1)))
      · rw[List.getElem?_append_right hge']at e2
        exact hdj2 _ _ x y (by omega) e1 e2
theorem sEff_abs (shs:List Sp) (pre:List E→Prop) (F:List E→List (List E)×EOut) (hF:∀(vs:List V) (hp:List Blk) (ds:List E),rdEs hp (killB hp (idsEs hp shs vs)) shs vs (·=ds)→(idsEs hp shs vs).Nodup→pre ds→((stA ds (idss hp shs vs) (F ds).1 hp.length).map (·.1)).Nodup∧∀q,q∈stA ds (idss hp shs vs) (F ds).1 hp.length→(nthB hp q.1).wr=true):SumAbs (sEff shs pre F):=by
  intro vs hp K h
  unfold sEff at h
  obtain⟨ds,⟨⟨hnd,hp'⟩,hk⟩,h1⟩:=rdEs_det h
  obtain⟨a1,a2⟩:=hF vs hp ds (h1 (·=ds) rfl) hnd hp'
  exact⟨_,hk,fun K' h'=>h1 _ ⟨⟨hnd,hp'⟩,h'⟩,a1,a2⟩
theorem deads_map:∀is:List Nat,(deads is).map (·.1)=is
  | []=>rfl
  | b::r=>by simp[deads,deads_map r]
theorem stA_sub:∀(ds:List E) (iss:List (List Nat)) (as:List (List E)) (n:Nat),((stA ds iss as n).map (·.1)).Sublist iss.flatten
  | [],iss,as,n=>by simp[stA]
  | .p fs::r,iss,as,n=>by
    simp only[stA]
    split
    · split
      · rename_i b is iss _ fs' as
        simp only[List.map_cons,List.map_append,deads_map,List.flatten_cons,List.cons_append]
        exact((List.Sublist.refl is).append (stA_sub r iss as _)).cons_cons b
      · simp
    · simp
  | .w _ _::r,iss,as,n=>by
    simp only[stA]
    split
    · split
      · rename_i b is iss _ fs' as
        simp only[List.map_cons,List.map_append,deads_map,List.flatten_cons,List.cons_append]
        exact((List.Sublist.refl is).append (stA_sub r iss as _)).cons_cons b
      · simp
    · simp
  | .v _::r,iss,as,n=>by
    simp only[stA]
    split
    · rename_i is iss
      simp only[List.map_append,deads_map,List.flatten_cons]
      exact(List.Sublist.refl is).append (stA_sub r iss as _)
    · simp
  | .x::r,iss,as,n=>by
    simp only[stA]
    split
    · rename_i is iss
      simp only[List.map_append,deads_map,List.flatten_cons]
      exact(List.Sublist.refl is).append (stA_sub r iss as _)
    · simp
  | .s _ _ _ _::r,iss,as,n=>by
    simp only[stA]
    split
    · rename_i is iss
      simp only[List.map_append,deads_map,List.flatten_cons]
      exact(List.Sublist.refl is).append (stA_sub r iss as _)
    · simp
  | .c _ _ _::r,iss,as,n=>by
    simp only[stA]
    split
    · rename_i is iss
      simp only[List.map_append,deads_map,List.flatten_cons]
      exact(List.Sublist.refl is).append (stA_sub r iss as _)
    · simp
mutual
theorem rdE_wr' {hp hk:List Blk}:∀(s:Sp) {a:V} {K:E→Prop},rdE hp hk s a K→∀b,b∈idsE hp s a→(nthB hp b).wr=true
  | .v,a,K,h,b,hb=>by simp[idsE]at hb
  | .r,a,K,h,b,hb=>by simp[idsE]at hb
  | .g sz k,a,K,h,b,hb=>by
    simp only[rdE]at h
    split at h<;>try exact h.elim
    · simp[idsE]at hb
    · simp only[idsE,List.mem_singleton]at hb
      subst hb
      split at h<;>try exact h.elim
      all_goals
        rename_i hq
        rw[hq];rfl
  | .w k,a,K,h,b,hb=>by
    simp only[rdE]at h
    split at h<;>try exact h.elim
    simp only[idsE,List.mem_singleton]at hb
    subst hb
    split at h<;>try exact h.elim
    rename_i hq
    rw[hq];rfl
  | .p fs,a,K,h,b,hb=>by
    simp only[rdE]at h
    split at h<;>try exact h.elim
    split at h<;>try exact h.elim
    rename_i hq
    simp only[idsE,hq,List.mem_cons]at hb
    rcases hb with rfl | hb
    · rw[hq];rfl
    · exact rdEs_wr' fs h.2 b hb
theorem rdEs_wr' {hp hk:List Blk}:∀(ss:List Sp) {as:List V} {K:List E→Prop},rdEs hp hk ss as K→∀b,b∈idsEs hp ss as→(nthB hp b).wr=true
  | [],as,K,h,b,hb=>by simp[idsEs]at hb
  | s::ss,as,K,h,b,hb=>by
    simp only[rdEs]at h
    split at h<;>try exact h.elim
    rename_i a as
    simp only[idsEs,List.mem_append]at hb
    rcases hb with hb | hb
    · exact rdE_wr' s h b hb
    · obtain⟨d,h,-⟩:=rdE_det h
      exact rdEs_wr' ss h b hb
end
theorem sEff_absA (shs:List Sp) (pre:List E→Prop) (F:List E→List (List E)×EOut):SumAbs (sEff shs pre F) :=
  sEff_abs shs pre F fun vs hp ds hr hnd hp'=>by
    have hsub:=stA_sub ds (idss hp shs vs) (F ds).1 hp.length
    rw[idsEs_flat]at hsub
    exact⟨hsub.nodup hnd,fun q hq=>rdEs_wr' shs hr q.1 (hsub.subset (List.mem_map.2 ⟨q,hq,rfl⟩))⟩
end
end Am
