/-
Each operation of the small language does what the model's operation does: texts, new slices, literals.
-/
import Derived.Test.YtcefobjfkmfmiaaDoorAmOps1
import Derived.Laws.MakeOwn
import Derived.Lib.ConvBytes
import Derived.Laws.StructEq
import Derived.ChangeKeysEq
set_option linter.unusedSimpArgs false
set_option linter.unusedVariables false
set_option linter.unusedSectionVars false
namespace Am
open Go (IntKind BinOp UnOp Value FuncId TypeId World Program Oper Op Operand Code Func ResultVar Addr Obj Act Exit Sem Result Next execOp)

section
variable {P : Program} {Own : Nat → Nat → Prop} {σ : Sg} {hp : List Blk} {w : World} {a : Act} {o : Oper} {Q : Exit → Act → World → Prop} {S : FuncId → Summ} {ρ : X → V} {K : Ef → Prop}

theorem bytesOf_strOfNums (xs:List Int):bytesOf (Go.strOfNums xs)=xs.map byte:=by
  simp[bytesOf,Go.strOfNums,byte]

theorem good_b2s {t u e:TypeId} {x:Operand} {x':X} (ho:o.op=.convert t u x) (ht:P.underlying t=some (.slice e)) (he:P.underlying e=some (.int .u8)) (hu:P.underlying u=some .string)
    (hs:Sim Own σ (nthB hp) w) (hx:VR σ (ρ x') (a.eval x)) (h:exec S ρ hp (.b2s x') K):∃e,K e∧Done P Own σ hp w a o Q e:=by
  simp only[exec]at h
  generalize hX:ρ x'=X at h hx
  generalize hxv:a.eval x=xv at hx
  cases X<;>simp only at h<;>try exact h.elim
  case rsl sz len k xs =>
    obtain⟨⟨rfl,rfl⟩,h⟩:=h
    cases hx
    rename_i cap' ad blk off ha hl hn hx
    by_cases h0:len=0
    · subst h0
      have hx0:xs=[]:=List.eq_nil_of_length_eq_zero (by omega)
      subst hx0
      have hb0:([]:List Int).map byte=bytesOf ByteArray.empty:=by simp[bytesOf]
      cases ad with
      | none =>
        refine⟨_,h,done_pure (v':=.string ByteArray.empty) (by simp[execOp,ho,hxv,Go.run_convert_bytes_nil w t e ht he 0 cap' u hu]) ?_⟩
        rw[hb0];exact .str _
      | some ad =>
        obtain⟨blk,off,spot⟩:=ad
        have hr:(Go.convert t u (.slice (some ⟨blk,off,spot⟩) 0 cap')).run P w=.ok (.string ByteArray.empty) w:=by
          rw[Go.run_convert_bytes_string w t u e _ _ _ ht he hu]
          simp[Go.Conv.bytesToString,Go.loadCells,Go.loadCellsFrom]
        refine⟨_,h,done_pure (v':=.string ByteArray.empty) (by simp[execOp,ho,hxv,hr]) ?_⟩
        rw[hb0];exact .str _
    · have had:=ha (by omega)
      subst had
      have hrun:=Go.run_convert_bytes_arg w t e ht he blk off len cap' xs (by omega) (fun i hi=>by
        refine stat_cell hs (hx i _ ?_)
        simp[List.getElem?_eq_getElem (show i<xs.length by omega)]) u hu
      exact⟨_,h,done_pure (v':=.string (Go.strOfNums xs)) (by simp[execOp,ho,hxv,hrun]) (by rw[←bytesOf_strOfNums];exact .str _)⟩
  · rename_i b c sz len cap
    cases hB:nthB hp b<;>simp only[hB]at h<;>try exact h.elim
    rename_i ro k xs
    obtain⟨⟨rfl,rfl,hl⟩,h⟩:=h
    cases hx
    rename_i cap' ad l hb ha hbd hc hl'
    by_cases h0:len=0
    · subst h0
      cases ad with
      | none =>
        refine⟨_,h,done_pure (v':=.string ByteArray.empty) (by simp[execOp,ho,hxv,Go.run_convert_bytes_nil w t e ht he 0 cap' u hu]) ?_⟩
        have:(sub xs c 0).map byte=bytesOf ByteArray.empty:=by simp[sub,bytesOf]
        rw[this];exact .str _
      | some ad =>
        obtain⟨blk,off,spot⟩:=ad
        have hr:(Go.convert t u (.slice (some ⟨blk,off,spot⟩) 0 cap')).run P w=.ok (.string ByteArray.empty) w:=by
          rw[Go.run_convert_bytes_string w t u e _ _ _ ht he hu]
          simp[Go.Conv.bytesToString,Go.loadCells,Go.loadCellsFrom]
        refine⟨_,h,done_pure (v':=.string ByteArray.empty) (by simp[execOp,ho,hxv,hr]) ?_⟩
        have:(sub xs c 0).map byte=bytesOf ByteArray.empty:=by simp[sub,bytesOf]
        rw[this];exact .str _
    · have had:=ha (by omega)
      subst had
      obtain⟨cs,e',fr,h1,h2,h3,vs,hvs,hvl,hr,ho',hcell⟩:=hs.row (n:=len) hb hB (by simpa[Blk.vs]using hl) (by
        have:=(hs.blk b l hb).len
        rw[hB]at this
        simp[Blk.vs]at this;omega) rfl
      simp only[Blk.vs,sub_map]at hr
      have hvi:=VRs_ints hr
      have hsl:(sub xs c len).length=len:=by simp[sub];omega
      have hrun:=Go.run_convert_bytes_arg w t e ht he l.blk (l.off+c) len cap' (sub xs c len) hsl (fun i hi=>by
        refine hcell i _ ?_
        rw[hvi];simp[List.getElem?_eq_getElem (show i<(sub xs c len).length by omega)]) u hu
      exact⟨_,h,done_pure (v':=.string (Go.strOfNums (sub xs c len))) (by simp[execOp,ho,hxv,hrun]) (by rw[←bytesOf_strOfNums];exact .str _)⟩
  · cases hx
    refine⟨_,h,done_pure (v':=.string ByteArray.empty) (by simp[execOp,ho,hxv,Go.run_convert_bytes_nil w t e ht he 0 0 u hu]) ?_⟩
    have:([]:List Int)=bytesOf ByteArray.empty:=by simp[bytesOf]
    rw[this];exact .str _

theorem good_s2b {t u e:TypeId} {x:Operand} {x':X} (ho:o.op=.convert t u x) (ht:P.underlying t=some .string) (hu:P.underlying u=some (.slice e)) (he:P.underlying e=some (.int .u8))
    (hs:Sim Own σ (nthB hp) w) (hfr:∀e,K e→∀j,j<e.nw.length→σ (hp.length+j)=none) (hx:VR σ (ρ x') (a.eval x)) (h:exec S ρ hp (.s2b x') K):∃e,K e∧Done P Own σ hp w a o Q e:=by
  simp only[exec]at h
  generalize hX:ρ x'=X at h hx
  generalize hxv:a.eval x=xv at hx
  cases X<;>simp only at h<;>try exact h.elim
  cases hx
  rename_i s
  have hlen:(bytesOf s).length=s.size:=by simp[bytesOf]
  have hrun:=Go.Lib.run_convert_string_bytes (P:=P) w t u e s ht hu he
  have hge:s.size≤Go.grownCap w s.size 0 e:=by unfold Go.grownCap;simp only[Go.Question.cut];omega
  have hsz:(Go.Lib.bytesCells w e s).size=Go.grownCap w s.size 0 e:=by
    have:s.data.size=s.size:=rfl
    simp[Go.Lib.bytesCells];omega
  have hvs:(Blk.ints false .u8 (bytesOf s)).vs=(bytesOf s).map (V.int .u8):=rfl
  have htake:(Go.Lib.bytesCells w e s).toList.take (bytesOf s).length=(bytesOf s).map (Value.int .u8):=by
    simp only[Go.Lib.bytesCells,Array.toList_append,Array.toList_map,bytesOf,List.length_map,List.map_map]
    rw[List.take_left' (by simp)]
    rfl
  refine⟨_,h,done_val (v':=.slice (some ⟨w.heap.size,0,none⟩) s.size (Go.grownCap w s.size 0 e)) (w':=Go.Lib.bytesWorld w e s) (by simp[execOp,ho,hxv,hrun]) (post_new (w1:=w.drew) (l:=⟨w.heap.size,0,Go.grownCap w s.size 0 e⟩) (e:=e) (fr:=((Go.Lib.bytesCells w e s).size,(Go.Lib.bytesCells w e s).size+1)) (c:=Go.Lib.bytesCells w e s)
    hs.new (hfr _ h 0 (by simp)) (fun F=>Kept.drew F w) (fun F=>?_) (Go.Lib.bytesWorld_at_new w e s) rfl rfl (by simp only[];omega) (.inr (Nat.le_refl _)) (by rw[hvs];simp only[List.length_map];omega) ?_ ?_ ?_)⟩
  · exact⟨rfl,rfl,rfl,by rw[Go.Lib.bytesWorld_size];simp,fun k hk=>.inl (Go.Lib.bytesWorld_at_old w e s k (by simpa using hk))⟩
  · rw[hvs,List.length_map,htake];exact VRs.ints _ _ _
  · rw[hvs,List.length_map,htake];simp;intro x _;rfl
  · rw[hlen]
    exact .slice (Sg.set_same _ _ _) (Nat.le_refl _) hge (by simp only[];omega) (fun _=>rfl)

theorem freeze_row {w:World} {g n:Nat} {c:Array Value} {e:TypeId} {fr:Nat×Nat} (hg:w.heap[g]?=some (.cells c e fr)) :
    (w.freeze ⟨g,n,none⟩ 1).heap[g]?=some (.cells c e (if fr.1=fr.2 then (n,n+1)else (min fr.1 n,max fr.2 (n+1))))∧(∀k,k≠g→(w.freeze ⟨g,n,none⟩ 1).heap[k]?=w.heap[k]?)∧(w.freeze ⟨g,n,none⟩ 1).heap.size=w.heap.size ∧
    (w.freeze ⟨g,n,none⟩ 1).os=w.os∧(w.freeze ⟨g,n,none⟩ 1).tape=w.tape∧(w.freeze ⟨g,n,none⟩ 1).output=w.output:=by
  unfold World.freeze
  rw[if_neg (by decide)]
  refine⟨?_,fun k hk=>?_,by simp,rfl,rfl,rfl⟩
  · simp only[Array.getElem?_modify,if_true,hg,Option.map_some,Option.some.injEq,Obj.cells.injEq,true_and]
    obtain⟨lo,hi⟩:=fr
    by_cases h:lo=hi<;>simp[h]
  · simp only[Array.getElem?_modify]
    rw[if_neg (Ne.symm hk)]

theorem good_mark {t e:TypeId} {x:Operand} {x':X} (ho:o.op=.convert t t x) (ht:P.underlying t=some (.slice e)) (he:P.underlying e=some (.int .u8))
    (hs:Sim Own σ (nthB hp) w) (hx:VR σ (ρ x') (a.eval x)) (h:exec S ρ hp (.mark x') K):∃e,K e∧Done P Own σ hp w a o Q e:=by
  simp only[exec]at h
  generalize hX:ρ x'=X at h hx
  generalize hxv:a.eval x=xv at hx
  cases X<;>simp only at h<;>try exact h.elim
  rename_i b c sz len cap
  cases hB:nthB hp b<;>simp only[hB]at h<;>try exact h.elim
  rename_i ro k xs
  cases ro<;>simp only at h<;>try exact h.elim
  obtain⟨⟨h0,h00⟩,h⟩:=h
  have hx':=hx
  cases hx
  rename_i cap' ad l hb ha hbd hc hl
  have had:=ha (by omega)
  subst had
  have hbk:=hs.blk b l hb
  rw[hB]at hbk
  have hlen:=hbk.len
  simp only[Blk.vs,List.length_map]at hlen
  obtain⟨cs,e',fr,r1,r2,r3,r4⟩:=hbk.row rfl (by omega)
  have hsh:w.shape? l.blk=some (e',cs.size):=by simp[World.shape?,r1]
  have hrun:(Go.convert t t (.slice (some ⟨l.blk,l.off+c,none⟩) len cap')).run P w=.ok (.slice (some ⟨l.blk,l.off+c,none⟩) len cap') (w.freeze ⟨l.blk,cs.size,none⟩ 1):=by
    simp[Go.convert,under_ok ht,under_ok he,Go.markStringish,hsh]
  obtain⟨f1,f2,f3,f4,f5,f6⟩:=freeze_row (n:=cs.size) r1
  have hcool:Cool cs.size fr→Cool cs.size (if fr.1=fr.2 then (cs.size,cs.size+1)else (min fr.1 cs.size,max fr.2 (cs.size+1))):=by
    intro hf
    unfold Cool at *
    by_cases hq:fr.1=fr.2
    · rw[if_pos hq];exact .inr (Nat.le_refl _)
    · rw[if_neg hq];right;simp only[];omega
  refine⟨_,h,done_val (v':=.slice (some ⟨l.blk,l.off+c,none⟩) len cap') (w':=w.freeze ⟨l.blk,cs.size,none⟩ 1) (σ':=σ) (by simp[execOp,ho,hxv,hrun]) ?_⟩
  refine⟨Sg.le_refl σ,fun _ _=>rfl,hx',by simp,by simpa using⟨l,hb⟩,by simp[hB,Blk.wr],?_,?_,by simp,fun j j' l l' _ h=>by simp at h⟩
  · refine⟨f4,f5,f6,by omega,fun k hk=>?_⟩
    by_cases hkk:k=l.blk
    · subst hkk
      refine .inr ⟨⟨l.off,(b,.ints false k xs),by simp,l,hb,rfl,Nat.le_refl _,by omega⟩,cs,cs,e',fr,_,r1,f1,rfl,hcool,fun _ _=>rfl⟩
    · exact .inl (f2 k hkk)
  · intro p hp' l' hl'
    simp only[List.mem_singleton]at hp'
    subst hp'
    rw[hb]at hl'
    obtain rfl:=Option.some.inj hl'
    exact⟨by simpa[Blk.vs]using hlen,fun _ _=>⟨cs,e',_,f1,r2,r3,fun hw=>⟨(r4 hw).1,hcool (r4 hw).2⟩⟩⟩

/-! ### New slices -/
theorem flat_get {α:Type} (l:List α):∀(n i:Nat),i<n*l.length→(List.replicate n l).flatten[i]?=l[i%l.length]?
  | 0,i,h=>by simp at h
  | n+1,i,h=>by
    rw[List.replicate_succ,List.flatten_cons]
    by_cases hi:i<l.length
    · rw[List.getElem?_append_left hi,Nat.mod_eq_of_lt hi]
    · rw[List.getElem?_append_right (by omega),flat_get l n (i-l.length) (by rw[Nat.add_mul]at h;omega)]
      congr 1
      rw[Nat.mod_eq_sub_mod (a:=i) (by omega)]
theorem made_get (z:Array Value) (n i:Nat) (h:i<n) (hz:0<z.size):(Go.madeCells z n)[i]?=z[i%z.size]?:=by
  have:i%z.size<z.size:=Nat.mod_lt _ hz
  simp[Go.madeCells,h,this]

theorem flat1 {α:Type} (x:α) (n:Nat):(List.replicate n [x]).flatten=List.replicate n x:=by simp

theorem repB_ok {z:V} {z':Value} {n:Nat} {B:Blk} (hz:VR σ z z') (h:repB z n=some B) :
    B.wr=true∧B.vs.length=n*z'.cells.size∧VRs σ B.vs (Go.madeCells z'.cells (n*z'.cells.size)).toList∧∀u∈(Go.madeCells z'.cells (n*z'.cells.size)).toList,u.oneCell'=true:=by
  have key:∀(zs:List V),VRs σ zs z'.cells.toList→(∀u∈z'.cells.toList,u.oneCell'=true)→B.vs=(List.replicate n zs).flatten→B.wr=true →
      B.wr=true∧B.vs.length=n*z'.cells.size∧VRs σ B.vs (Go.madeCells z'.cells (n*z'.cells.size)).toList∧∀u∈(Go.madeCells z'.cells (n*z'.cells.size)).toList,u.oneCell'=true:=by
    intro zs hzs h1 hv hw
    have hl:=hzs.length
    simp only[Array.length_toList]at hl
    have hget:∀i (u:Value),(Go.madeCells z'.cells (n*z'.cells.size)).toList[i]?=some u→i<n*z'.cells.size∧z'.cells.toList[i%z'.cells.size]?=some u:=by
      intro i u hu
      have hi:i<n*z'.cells.size:=by
        rcases Nat.lt_or_ge i (n*z'.cells.size)with h | h
        · exact h
        · simp[Go.madeCells,h]at hu
      have h0:0<z'.cells.size:=by
        rcases Nat.eq_zero_or_pos z'.cells.size with h0 | h0
        · rw[h0]at hi;simp at hi
        · exact h0
      refine⟨hi,?_⟩
      have:=made_get z'.cells _ i hi h0
      rw[Array.getElem?_toList]at hu
      rw[this]at hu
      simpa using hu
    refine⟨hw,by rw[hv];simp[hl],VRs.of_get (by rw[hv];simp[hl,Go.madeCells]) ?_,?_⟩
    · intro i a v ha hvv
      obtain⟨hi,hu⟩:=hget i v hvv
      rw[hv,flat_get zs n i (by rw[hl];exact hi),hl]at ha
      obtain⟨v',hv',hr⟩:=hzs.get ha
      rw[hu]at hv'
      obtain rfl:=Option.some.inj hv'
      exact hr
    · intro u hu
      obtain⟨i,hi,rfl⟩:=List.mem_iff_getElem.1 hu
      obtain⟨-,hu'⟩:=hget i _ (List.getElem?_eq_getElem hi)
      exact h1 _ (List.mem_of_getElem? hu')
  have hz0:=hz
  cases hz<;>simp only[repB,Option.some.injEq,reduceCtorEq]at h<;>subst h
  case int k x =>
    refine key [.int k x] (.cons (.int k x) .nil) (by simp[Value.cells,Value.oneCell']) ?_ rfl
    simp only[Blk.vs]
    clear key
    induction n with
    | zero=>rfl
    | succ n ih=>simp[List.replicate_succ,ih]
  case ints k xs =>
    refine key (xs.map (.int k)) (by simpa[Value.cells]using VRs.ints σ k xs) (by simp[Value.cells];intro x _;rfl) ?_ rfl
    simp only[Blk.vs]
    clear key
    induction n with
    | zero=>rfl
    | succ n ih=>simp[List.replicate_succ,ih]
  case agg hr h1=>exact key _ hr h1 rfl rfl
  all_goals
    exact key [_] (.cons hz0 .nil) (by simp[Value.cells,Value.oneCell']) (flat1 _ n).symm rfl

theorem ofB_ok {z:V} {z':Value} {n:Nat} {B:Blk} (hz:VR σ z z') (h:repB z n=some B):VR σ (ofB B) (.agg (Go.madeCells z'.cells (n*z'.cells.size))):=by
  obtain⟨h1,h2,h3,h4⟩:=repB_ok hz h
  cases B with
  | dead=>simp[Blk.wr]at h1
  | ints ro k xs =>
    simp only[ofB,Blk.vs]at *
    have:=VRs_ints h3
    have e:Go.madeCells z'.cells (n*z'.cells.size)=(xs.map (Value.int k)).toArray:=by
      apply Array.toList_inj.1;simpa using this
    rw[e];exact .ints k xs
  | cells ro cs=>exact .agg h3 h4

theorem vlen_ok {z:V} {z':Value} (hz:VR σ z z') (h:mkB z≠none):vlen z=z'.cells.size:=by
  cases hz<;>simp[mkB]at h<;>simp only[vlen,Value.cells]<;>try rfl
  · simp
  · rename_i h1 h2
    first | (simpa using h1.length) | (simpa using h2.length)
theorem mkB_of_repB {z:V} {n:Nat} {B:Blk} (h:repB z n=some B):mkB z≠none:=by
  cases z<;>simp[repB]at h<;>simp[mkB]

theorem good_mks {t e:TypeId} {sz by_:Nat} {z:V} {x y:Operand} {x' y':X} (ho:o.op=.makeSlice t x y) (ht:P.underlying t=some (.slice e)) (hsz:size? P e=some sz) (hby:bytes? P e=some by_) (hz:zero? P e=some z) (hvl:vlen z=sz)
    (hs:Sim Own σ (nthB hp) w) (hfr:∀e,K e→∀j,j<e.nw.length→σ (hp.length+j)=none) (hx:VR σ (ρ x') (a.eval x)) (hy:VR σ (ρ y') (a.eval y)) (h:exec S ρ hp (.mks sz by_ z x' y') K):∃e,K e∧Done P Own σ hp w a o Q e:=by
  simp only[exec]at h
  generalize hX:ρ x'=X at h hx
  generalize hxv:a.eval x=xv at hx
  generalize hY:ρ y'=Y at h hy
  generalize hyv:a.eval y=yv at hy
  cases X<;>simp only at h<;>try exact h.elim
  cases Y<;>simp only at h<;>try exact h.elim
  cases hx;cases hy
  rename_i kl n kc m
  obtain⟨⟨h0,rfl,hb,h63⟩,h⟩:=h
  cases hB:repB z n.toNat<;>simp only[hB]at h
  rename_i B
  obtain⟨i,zv,hi,hzv,hzz,-⟩:=zero_ok hz
  have hsz':i.size=sz:=by unfold size? at hsz;rw[hi]at hsz;simpa using hsz
  have hby':i.bytes=by_:=by unfold bytes? at hby;rw[hi]at hby;simpa using hby
  have hzr:=ofValue_ok (σ:=σ) hzz
  have hcs:zv.cells.size=sz:=by rw[←vlen_ok hzr (mkB_of_repB hB)];exact hvl
  have hrun:=Go.run_make (P:=P) w t e i zv ht hi hzv kl kc n n h0 (Int.le_refl n) (by rw[hby'];omega) h63
  obtain⟨r1,r2,r3,r4⟩:=repB_ok hzr hB
  rw[hsz']at hrun
  rw[hcs]at r2 r3 r4
  have hms:(Go.madeCells zv.cells (n.toNat*sz)).size=n.toNat*sz:=Go.size_madeCells _ _
  have htake:(Go.madeCells zv.cells (n.toNat*sz)).toList.take B.vs.length=(Go.madeCells zv.cells (n.toNat*sz)).toList:=List.take_of_length_le (by simp;omega)
  refine⟨_,h,done_val (v':=.slice (some ⟨w.heap.size,0,none⟩) n.toNat n.toNat) (w':=w.alloc (.cells (Go.madeCells zv.cells (n.toNat*sz)) e)) (by simp[execOp,ho,hxv,hyv,hrun]) (post_new (w1:=w) (l:=⟨w.heap.size,0,n.toNat*sz⟩) (e:=e) (fr:=(0,0)) (c:=Go.madeCells zv.cells (n.toNat*sz))
    hs.new (hfr _ h 0 (by simp)) (fun F=>Kept.refl F w) (fun F=>Kept.alloc F w _) (Go.heap_alloc_new w _) rfl rfl (by simp only[];omega) (.inl rfl) (by simp only[];omega) (by rw[htake];exact r3) (by rw[htake];exact r4) ?_)⟩
  exact .slice (Sg.set_same _ _ _) (Nat.le_refl _) (Nat.le_refl _) (by simp only[];omega) (fun _=>rfl)

/-- The literal's parts: what the model has of each. -/
def PR (σ:Sg) (place:Nat→Option (Nat×Nat)):List (Nat×Nat×V)→List (Nat×Value)→Prop
  | [],[]=>True
  | (o,m,p)::r,(i,v)::s=>place i=some (o,m)∧VR σ p v∧PR σ place r s
  | _,_=>False

theorem foldl_set (vs:List Value):∀(off j:Nat) (cs:Array Value),off+j+vs.length≤cs.size→(vs.zipIdx j).foldl (fun cs (x:Value×Nat)=>cs.setIfInBounds (off+x.2) x.1) cs=laidA cs (off+j) vs:=by
  induction vs with
  | nil =>
    intro off j cs h
    simp only[List.zipIdx_nil,List.foldl_nil]
    apply Array.ext_getElem?
    intro k
    rw[laidA_get _ _ _ (by simpa using h)]
    simp
    intro h1 h2;omega
  | cons v vs ih =>
    intro off j cs h
    simp only[List.length_cons]at h
    simp only[List.zipIdx_cons,List.foldl_cons]
    rw[ih off (j+1) _ (by simp;omega)]
    apply Array.ext_getElem?
    intro k
    rw[laidA_get _ _ _ (by simp;omega),laidA_get _ _ _ (by simp;omega)]
    simp only[List.length_cons]
    by_cases hk:off+(j+1)≤k∧k<off+(j+1)+vs.length
    · rw[if_pos hk,if_pos (by omega),show k-(off+j)=(k-(off+(j+1)))+1 by omega];simp
    · rw[if_neg hk]
      by_cases hk2:k=off+j
      · subst hk2;rw[if_pos (by omega),Array.getElem?_setIfInBounds_self_of_lt (by omega)];simp
      · rw[if_neg (by omega),Array.getElem?_setIfInBounds_ne (by omega)]

theorem VRs.spl {l:List V} {m:List Value} {l':List V} {m':List Value} (o:Nat) (h:VRs σ l m) (h':VRs σ l' m'):VRs σ (spl l o l') (spl m o m'):=by
  unfold Am.spl
  rw[h'.length]
  exact(h.take o).append (h'.append (h.drop _))

theorem fill_step {place:Nat→Option (Nat×Nat)} {i off m:Nat} {cs:Array Value} {v:Value} {r:List (Nat×Value)} (hp:place i=some (off,m)) (hm:v.cells.size=m) (hl:off+m≤cs.size) :
    Go.Instr.fill place cs ((i,v)::r)=Go.Instr.fill place (laidA cs off v.cells.toList) r:=by
  have:(v.cells.zipIdx.foldl (fun cs (x:Value×Nat)=>cs.setIfInBounds (off+x.2) x.1) cs)=laidA cs off v.cells.toList:=by
    have:=foldl_set v.cells.toList off 0 cs (by simp;omega)
    rw[Nat.add_zero]at this
    rw[←this,←Array.foldl_toList,Array.toList_zipIdx]
  simp only[Go.Instr.fill,hp,hm]
  rw[if_neg (by simp;omega)]
  rw[←this]

theorem fill_ok {place:Nat→Option (Nat×Nat)}:∀{ps:List (Nat×Nat×V)} {qs:List (Nat×Value)} {z:V} {cs:Array Value} {F:V→Prop},PR σ place ps qs→VR σ z (.agg cs)→fill z ps F →
    ∃z' cs',F z'∧Go.Instr.fill place cs qs=some cs'∧VR σ z' (.agg cs')∧cs'.size=cs.size
  | [],[],z,cs,F,_,hz,h=>⟨z,cs,by cases z<;>simpa[fill]using h,rfl,hz,rfl⟩
  | [],_::_,_,_,_,hp,_,_=>hp.elim
  | _::_,[],_,_,_,hp,_,_=>hp.elim
  | (o,m,p)::ps,(i,v)::qs,z,cs,F,hp,hz,h=>by
    obtain⟨h1,h2,h3⟩:=hp
    have one:∀(zs nv:List V) (z1:V),VRs σ zs cs.toList→(∀u∈cs.toList,u.oneCell'=true)→VRs σ nv v.cells.toList→(∀u∈v.cells.toList,u.oneCell'=true)→nv.length=m→o+m≤zs.length →
        (∀ds:Array Value,VRs σ (spl zs o nv) ds.toList→(∀u∈ds.toList,u.oneCell'=true)→VR σ z1 (.agg ds))→fill z1 ps F →
        ∃z' cs',F z'∧Go.Instr.fill place cs ((i,v)::qs)=some cs'∧VR σ z' (.agg cs')∧cs'.size=cs.size:=by
      intro zs nv z1 hzs hc1 hnv hn1 hm hl hmk hf
      have e1:=hzs.length
      have e2:=hnv.length
      simp only[Array.length_toList]at e1 e2
      have hlaid:VRs σ (spl zs o nv) (laidA cs o v.cells.toList).toList:=by simpa[laidA]using VRs.spl o hzs hnv
      have hlo:∀u∈(laidA cs o v.cells.toList).toList,u.oneCell'=true:=by
        intro u hu
        simp only[laidA,spl,List.mem_append]at hu
        rcases hu with hu | hu | hu
        · exact hc1 u (List.mem_of_mem_take hu)
        · exact hn1 u hu
        · exact hc1 u (List.mem_of_mem_drop hu)
      obtain⟨z',cs',k1,k2,k3,k4⟩:=fill_ok (cs:=laidA cs o v.cells.toList) h3 (hmk _ hlaid hlo) hf
      refine⟨z',cs',k1,?_,k3,?_⟩
      · rw[fill_step h1 (by omega) (by omega)];exact k2
      · rw[k4,laidA_size _ _ _ (by simp;omega)]
    cases hz with
    | undef=>simp[fill]at h
    | ints k xs =>
      cases p<;>simp only[fill]at h<;>try exact h.elim
      case int k' n =>
        obtain⟨⟨rfl,rfl,hl⟩,h⟩:=h
        cases h2
        refine one (xs.map (.int k)) [.int k n] _ (by simpa using VRs.ints σ k xs) (by simp;intro x _;rfl) (by simpa[Value.cells]using VRs.cons (.int k n) .nil) (by simp[Value.cells,Value.oneCell']) rfl (by simp;omega) ?_ h
        intro ds hds _
        rw[show [V.int k n]=[n].map (V.int k)from rfl,←spl_map,←set_spl _ _ _ hl]at hds
        have e:ds=((xs.set o n).map (Value.int k)).toArray:=by apply Array.toList_inj.1;simpa using VRs_ints hds
        rw[e];exact .ints _ _
      case ints k' ys =>
        obtain⟨⟨rfl,hy,hl⟩,h⟩:=h
        cases h2
        refine one (xs.map (.int k)) (ys.map (.int k)) _ (by simpa using VRs.ints σ k xs) (by simp;intro x _;rfl) (by simpa[Value.cells]using VRs.ints σ k ys) (by simp[Value.cells];intro x _;rfl) (by simpa using hy) (by simp;omega) ?_ h
        intro ds hds _
        rw[←spl_map]at hds
        have e:ds=((spl xs o ys).map (Value.int k)).toArray:=by apply Array.toList_inj.1;simpa using VRs_ints hds
        rw[e];exact .ints _ _
    | agg hr hr1 =>
      rename_i zs
      have single:∀(hone:p.one) (hm:m=1) (hl:o<zs.length) (hf:fill (.agg (upd zs o p)) ps F),∃z' cs',F z'∧Go.Instr.fill place cs ((i,v)::qs)=some cs'∧VR σ z' (.agg cs')∧cs'.size=cs.size:=by
        intro hone hm hl hf
        obtain⟨g1,g2⟩:=one_of h2 hone
        refine one zs [p] _ hr hr1 (by rw[g2];exact .cons h2 .nil) (by rw[g2];simpa using g1) (by simp[hm]) (by omega) ?_ hf
        intro ds hds hd1
        rw[upd_set,set_spl _ _ _ hl]
        exact .agg hds hd1
      cases p<;>simp only[fill]at h<;>try exact h.elim
      case ints k' ys =>
        obtain⟨⟨hy,hl⟩,h⟩:=h
        cases h2
        exact one zs (ys.map (.int k')) _ hr hr1 (by simpa[Value.cells]using VRs.ints σ k' ys) (by simp[Value.cells];intro x _;rfl) (by simpa using hy) hl (fun ds hds hd1=>.agg hds hd1) h
      case agg es =>
        obtain⟨⟨hy,hl⟩,h⟩:=h
        cases h2
        rename_i vs g1 g2
        exact one zs es _ hr hr1 g2 g1 hy hl (fun ds hds hd1=>.agg hds hd1) h
      all_goals exact single trivial h.1.1 h.1.2 h.2
end
end Am
/-
Each operation of the small language does what the model's operation does: literals, append, copy.
-/
namespace Am
open Go (IntKind BinOp UnOp Value FuncId TypeId World Program Oper Op Operand Code Func ResultVar Addr Obj Act Exit Sem Result Next execOp)

section
variable {P : Program} {Own : Nat → Nat → Prop} {σ : Sg} {hp : List Blk} {w : World} {a : Act} {o : Oper} {Q : Exit → Act → World → Prop} {S : FuncId → Summ} {ρ : X → V} {K : Ef → Prop}

theorem compPs_ok {place:Nat→Option (Nat×Nat)} (hρ:∀x y,compX x=some y→VR σ (ρ y) (a.eval x)):∀{qs:List (Nat×Operand)} {ps:List (Nat×Nat×X)},compPs place qs=some ps →
    PR σ place (evp ρ ps) (qs.map fun (i,x)=>(i,a.eval x))
  | [],ps,h=>by simp[compPs]at h;subst h;trivial
  | (i,x)::qs,ps,h=>by
    simp only[compPs]at h
    obtain⟨p,hp,h⟩:=Option.bind_eq_some_iff.1 h
    obtain⟨y,hy,h⟩:=Option.bind_eq_some_iff.1 h
    obtain⟨r,hr,rfl⟩:=Option.map_eq_some_iff.1 h
    exact⟨hp,hρ x y hy,compPs_ok hρ hr⟩

theorem fieldPlaces_ok:∀{fs:List Go.Field} {pl:List (Nat×Nat)},fieldPlaces P fs=some pl→fs.mapM (fun f=>(P.info? f.type).map fun i=>(f.offset,i.size))=some pl
  | [],pl,h=>by simp[fieldPlaces]at h;subst h;rfl
  | f::fs,pl,h=>by
    simp only[fieldPlaces]at h
    obtain⟨n,hn,h⟩:=Option.bind_eq_some_iff.1 h
    obtain⟨r,hr,rfl⟩:=Option.map_eq_some_iff.1 h
    obtain⟨i,hi,rfl,-⟩:=size_ok hn
    rw[List.mapM_cons,fieldPlaces_ok hr]
    simp[hi]

theorem good_build {t:TypeId} {ps:Array (Nat×Operand)} {z:V} {ps':List (Nat×Nat×X)} {d:Go.TypeDesc} {place:Nat→Option (Nat×Nat)} (ho:o.op=.build t ps) (ht:P.underlying t=some d) (hz:zero? P t=some z)
    (hd:(∃fs pl,d=.struct fs∧fieldPlaces P fs.toList=some pl∧place=fun i=>pl[i]?)∨∃n e sz,d=.array n e∧size? P e=some sz∧place=fun i=>some (i*sz,sz))
    (hps:compPs place ps.toList=some ps') (hρ:∀x y,compX x=some y→VR σ (ρ y) (a.eval x)) (hzz:(∃k xs,z=.ints k xs)∨∃cs,z=.agg cs)
    (h:exec S ρ hp (.build z ps') K):∃e,K e∧Done P Own σ hp w a o Q e:=by
  simp only[exec]at h
  obtain⟨i,zv,hi,hzv,hzz',-⟩:=zero_ok hz
  have hzr:=ofValue_ok (σ:=σ) hzz'
  have hze:∃cs,zv=.agg cs:=by
    rcases hzz with ⟨k,xs,rfl⟩ | ⟨cs,rfl⟩<;>cases hzr<;>exact⟨_,rfl⟩
  obtain⟨cs,hze⟩:=hze
  rw[hze]at hzr
  obtain⟨z',cs',hk,hf,hv,-⟩:=fill_ok (compPs_ok hρ hps) hzr h
  refine⟨_,hk,done_pure (v':=.agg cs') ?_ hv⟩
  have hb:P.built t (ps.map fun (i,x)=>(i,a.eval x)).toList=some cs':=by
    unfold Go.Program.built
    rw[hi,ht]
    rcases hd with ⟨fs,pl,rfl,hpl,rfl⟩ | ⟨n,e,sz,rfl,hsz,rfl⟩
    · simp only[hzv,fieldPlaces_ok hpl]
      rw[hze]
      simpa[Value.cells]using hf
    · obtain⟨ie,hie,rfl,-⟩:=size_ok hsz
      simp only[hzv,hie]
      rw[hze]
      simpa[Value.cells]using hf
  have:=Go.run_build (P:=P) w t _ cs' hb
  simp[execOp,ho]
  rw[this]
  rfl

theorem good_bsl {t e:TypeId} {n sz:Nat} {ps:Array (Nat×Operand)} {z:V} {ps':List (Nat×Nat×X)} {B0:Blk} (ho:o.op=.buildSlice t n ps) (ht:P.underlying t=some (.slice e)) (hsz:size? P e=some sz) (hz:zero? P e=some z)
    (hn:n*sz≤16777216) (hvl:vlen z=sz) (hB0:repB z n=some B0) (hps:compPs (fun i=>some (i*sz,sz)) ps.toList=some ps') (hρ:∀x y,compX x=some y→VR σ (ρ y) (a.eval x))
    (hs:Sim Own σ (nthB hp) w) (hfr:∀e,K e→∀j,j<e.nw.length→σ (hp.length+j)=none) (h:exec S ρ hp (.bsl sz n (ofB B0) ps') K):∃e,K e∧Done P Own σ hp w a o Q e:=by
  simp only[exec]at h
  obtain⟨i,zv,hi,hzv,hzz,hzrun⟩:=zero_ok hz
  obtain⟨i',hi',hsz',hrun⟩:=size_ok hsz
  have hzr:=ofValue_ok (σ:=σ) hzz
  have hcs:zv.cells.size=sz:=by rw[←vlen_ok hzr (mkB_of_repB hB0)];exact hvl
  have hz0:=ofB_ok hzr hB0
  rw[hcs]at hz0
  obtain⟨z',cs',hk,hf,hv,hsize⟩:=fill_ok (compPs_ok hρ hps) hz0 h
  rw[Go.size_madeCells]at hsize
  cases hB:mkB z'<;>simp only[hB]at hk
  rename_i B
  obtain⟨r1,r2,r3,r4⟩:=mkB_ok hv hB
  simp only[Value.cells]at r2 r3 r4
  have htake:cs'.toList.take B.vs.length=cs'.toList:=List.take_of_length_le (by simp;omega)
  have hr:(Go.Instr.buildSlice t n (ps.map fun (i,x)=>(i,a.eval x))).run P w=.ok (.slice (some ⟨w.heap.size,0,none⟩) n n) (w.alloc (.cells cs' e)):=by
    have hn':¬(16777216<n*sz):=by omega
    have hcells:(Array.range (n*sz)).map (fun x=>zv.cells[x%zv.cells.size]!)=Go.madeCells zv.cells (n*sz):=rfl
    by_cases h0:n*sz=0
    · have hm0:Go.madeCells zv.cells (n*sz)=#[]:=by simp[Go.madeCells,h0]
      rw[hm0]at hf
      have hf':Go.Instr.fill (fun i=>some (i*sz,sz)) #[] (List.map (fun x=>(x.fst,a.eval x.snd)) ps.toList)=some cs':=hf
      have hr0:Array.range 0=#[]:=by simp[Array.range]
      simp[Go.Instr.buildSlice,under_ok ht,hrun,h0,Go.newRow,hr0,hf']
    · have hf':Go.Instr.fill (fun i=>some (i*sz,sz)) (Go.madeCells zv.cells (n*sz)) (List.map (fun x=>(x.fst,a.eval x.snd)) ps.toList)=some cs':=hf
      rw[←hcells]at hf'
      simp[Go.Instr.buildSlice,under_ok ht,hrun,hn',h0,Go.newRow,hzrun,hf']
  refine⟨_,hk,done_val (v':=.slice (some ⟨w.heap.size,0,none⟩) n n) (w':=w.alloc (.cells cs' e)) (by simp[execOp,ho];rw[hr];rfl) (post_new (w1:=w) (l:=⟨w.heap.size,0,n*sz⟩) (e:=e) (fr:=(0,0)) (c:=cs')
    hs.new (hfr _ hk 0 (by simp)) (fun F=>Kept.refl F w) (fun F=>Kept.alloc F w _) (Go.heap_alloc_new w _) rfl rfl (by simp only[];omega) (.inl rfl) (by simp only[];omega) (by rw[htake];exact r3) (by rw[htake];exact r4) ?_)⟩
  exact .slice (Sg.set_same _ _ _) (Nat.le_refl _) (Nat.le_refl _) (by simp only[];omega) (fun _=>rfl)

/-! ### What a slice holds -/
theorem stat_cells {sz len cap:Nat} {ad:Option Addr} {blk off:Nat} {vs:List Value} (hs:Sim Own σ (nthB hp) w) (hn:vs.length=len*sz) (hl:len≤cap) (ha:0<cap→ad=some ⟨blk,off,none⟩)
    (hx:∀(j:Nat) v,vs[j]?=some v→σ.stat blk (off+j) v) (w':World) (m:Nat) (hw:w'.heap=w.heap) (hm:m≤len) :
    (Go.Builtin.firstCells sz m (.slice ad len cap)).run P w'=.ok (vs.take (m*sz)).toArray w':=by
  have hmz:m*sz≤len*sz:=Nat.mul_le_mul_right sz hm
  by_cases h0:m*sz=0
  · cases ad<;>simp[Go.Builtin.firstCells,h0,Go.loadCells,Go.loadCellsFrom]
  · have hpos:0<cap:=by
      rcases Nat.eq_zero_or_pos cap with h | h
      · exfalso;apply h0;have:m=0:=by omega
        simp[this]
      · exact h
    have had:=ha hpos
    subst had
    have:=Go.run_loadCells_list (P:=P) w' ⟨blk,off,none⟩ (vs.take (m*sz)) (fun j v hj=>by
      rw[Addr_add]
      have hw2:∀q,w'.cell? q=w.cell? q:=fun q=>by simp[World.cell?,hw]
      rw[hw2]
      refine stat_cell hs (hx j v ?_)
      rw[List.getElem?_take]at hj
      split at hj
      · exact hj
      · simp at hj)
    rw[show (vs.take (m*sz)).length=m*sz by simp;omega]at this
    simpa[Go.Builtin.firstCells]using this
theorem content_ok {z:Nat} {y:V} {v:Value} {F:Blk→Nat→Prop} (hs:Sim Own σ (nthB hp) w) (hv:VR σ y v) (h:content z hp y F):∃B n news,F B n∧B.vs.length=n*z∧VRs σ B.vs news∧(∀u∈news,u.oneCell'=true) ∧
    (∀w,(Go.Builtin.lenOf v).run P w=.ok n w)∧(∀w' m,w'.heap=w.heap→m≤n→(Go.Builtin.firstCells z m v).run P w'=.ok (news.take (m*z)).toArray w')∧B.live=true:=by
  cases y<;>simp only[content]at h<;>try exact h.elim
  case str s =>
    obtain⟨rfl,h⟩:=h
    cases hv
    rename_i bs
    have hlen:(bytesOf bs).length=bs.size:=by simp[bytesOf]
    refine⟨_,_,(bytesOf bs).map (Value.int .u8),h,by simp[Blk.vs],by simpa[Blk.vs]using VRs.ints σ .u8 (bytesOf bs),by simp;intro x _;rfl,by intro w;simp[Go.Builtin.lenOf,hlen],fun w' m _ hm=>?_,rfl⟩
    simp only[Go.Builtin.firstCells,Sem.run_pure]
    congr 1
    apply Array.toList_inj.1
    simp[bytesOf]
    rfl
  case nils =>
    cases hv
    refine⟨_,_,[],h,by simp[Blk.vs],by simpa[Blk.vs]using VRs.nil,by simp,by intro w;simp[Go.Builtin.lenOf],fun w' m _ hm=>?_,rfl⟩
    simp[Go.Builtin.firstCells]
  case rsl sz len k xs =>
    obtain⟨rfl,h⟩:=h
    cases hv
    rename_i cap' ad blk off ha hl hn hx
    refine⟨_,len,xs.map (Value.int k),h,by simp[Blk.vs,hn],by simpa[Blk.vs]using VRs.ints σ k xs,by simp;intro x _;rfl,by intro w;simp[Go.Builtin.lenOf],fun w' m hw hm=>?_,rfl⟩
    exact stat_cells (vs:=xs.map (Value.int k)) hs (by simp[hn]) hl ha (fun j v hj=>by
      simp only[List.getElem?_map,Option.map_eq_some_iff]at hj
      obtain⟨y,hy,rfl⟩:=hj
      exact hx j y hy) w' m hw hm
  case rcs sz len cs =>
    obtain⟨rfl,h⟩:=h
    cases hv
    rename_i cap' vs ad blk off ha hx hl hp' hvs hn
    refine⟨_,len,vs,h,by simp[Blk.vs,hn],by simpa[Blk.vs]using hvs,fun u hu=>?_,by intro w;simp[Go.Builtin.lenOf],fun w' m hw hm=>?_,rfl⟩
    · obtain⟨j,hj⟩:=List.getElem?_of_mem hu
      exact(hs.stat _ _ _ (hx j u hj)).2.1
    · exact stat_cells (vs:=vs) hs (by rw[←hvs.length,hn]) hl ha hx w' m hw hm
  case slice b o sz len cap =>
    have key:∀(B:Blk) (B':Blk),nthB hp b=B→B.live=true→B'.live=true→z=sz→o+len*sz≤B.vs.length→B'.vs=sub B.vs o (len*sz)→F B' len→∃B n news,F B n∧B.vs.length=n*z∧VRs σ B.vs news∧(∀u∈news,u.oneCell'=true) ∧
        (∀w,(Go.Builtin.lenOf v).run P w=.ok n w)∧(∀w' m,w'.heap=w.heap→m≤n→(Go.Builtin.firstCells z m v).run P w'=.ok (news.take (m*z)).toArray w')∧B.live=true:=by
      intro B B' hB hl hl' hz hle hB' hF
      subst hz
      cases hv
      rename_i cap' ad l hb ha hbd hc hlc
      by_cases h0:len*z=0
      · refine⟨B',len,[],hF,by rw[hB',h0];simp[sub],by rw[hB',h0];simpa[sub]using VRs.nil,by simp,by intro w;simp[Go.Builtin.lenOf],fun w' m _ hm=>?_,hl'⟩
        have hm0:m*z=0:=by
          rcases Nat.mul_eq_zero.1 h0 with h | h
          · have:m=0:=by omega
            simp[this]
          · simp[h]
        cases ad<;>simp[Go.Builtin.firstCells,hm0,Go.loadCells,Go.loadCellsFrom]
      · have hpos:0<cap':=by
          rcases Nat.eq_zero_or_pos cap' with h | h
          · exfalso;apply h0;have:len=0:=by omega
            simp[this]
          · exact h
        have had:=ha hpos
        subst had
        have hsz:0<l.size:=by
          have:=(hs.blk b l hb).len
          rw[hB]at this
          omega
        obtain⟨cs,e,fr,h1,h2,h3,vs,hvs,hvl,hr,ho,hcell⟩:=hs.row hb hB hle hsz hl
        refine⟨B',len,vs,hF,by rw[hB'];simp[sub];omega,by rw[hB'];exact hr,ho,by intro w;simp[Go.Builtin.lenOf],fun w' m hw hm=>?_,hl'⟩
        have hmz:m*z≤len*z:=Nat.mul_le_mul_right z hm
        have:=Go.run_loadCells_list (P:=P) w' ⟨l.blk,l.off+o,none⟩ (vs.take (m*z)) (fun j v hj=>by
          rw[Addr_add]
          have hw2:∀q,w'.cell? q=w.cell? q:=fun q=>by simp[World.cell?,hw]
          rw[hw2]
          refine hcell j v ?_
          rw[List.getElem?_take]at hj
          split at hj
          · exact hj
          · simp at hj)
        rw[show (vs.take (m*z)).length=m*z by simp;omega]at this
        simpa[Go.Builtin.firstCells]using this
    cases hB:nthB hp b<;>simp only[hB]at h<;>try exact h.elim
    · obtain⟨⟨hz,hle⟩,h⟩:=h
      exact key _ _ hB rfl rfl hz (by simpa[Blk.vs]using hle) (by simp[Blk.vs,sub_map]) h
    · obtain⟨⟨hz,hle⟩,h⟩:=h
      exact key _ _ hB rfl rfl hz (by simpa[Blk.vs]using hle) rfl h
end
end Am
/-
Each operation of the small language does what the model's operation does: append and copy.
-/
namespace Am
open Go (IntKind BinOp UnOp Value FuncId TypeId World Program Oper Op Operand Code Func ResultVar Addr Obj Act Exit Sem Result Next execOp)

section
variable {P : Program} {Own : Nat → Nat → Prop} {σ : Sg} {hp : List Blk} {w : World} {a : Act} {o : Oper} {Q : Exit → Act → World → Prop} {S : FuncId → Summ} {ρ : X → V} {K : Ef → Prop}

def notInt (d:Go.TypeDesc):Prop:=(∃e,d=.slice e)∨d=.string

theorem run_app_room {t u e ty:TypeId} {du:Go.TypeDesc} {size n sLen sCap:Nat} {base:Option Addr} {x:Value} {news:List Value} (ht:P.underlying t=some (.slice e)) (hu:P.underlying u=some du) (hdu:notInt du)
    (hs:∀w,(Go.sizeOf e).run P w=.ok size w) (hl:∀w,(Go.Builtin.lenOf x).run P w=.ok n w) (hf:(Go.Builtin.firstCells size n x).run P w=.ok news.toArray w) (hr:sLen+n≤sCap) :
    (Go.Builtin.append_ #[t,u] ty #[.slice base sLen sCap,x]).run P w=(match base with
      | some a=>((Go.storeCells (a.add (sLen*size)) news).run P w).andThen fun _ w'=>.ok (.slice base (sLen+n) sCap) w'
      | none=>.ok (.slice base (sLen+n) sCap) w):=by
  rcases hdu with ⟨e',rfl⟩ | rfl<;>cases base<;>simp[Go.Builtin.append_,under_ok ht,under_ok hu,hs,hl,hr,hf]

theorem run_app_grow {t u e ty:TypeId} {du:Go.TypeDesc} {i:Go.TypeInfo} {z:Value} {n sLen sCap:Nat} {base:Option Addr} {x:Value} {olds news:List Value} (ht:P.underlying t=some (.slice e)) (hu:P.underlying u=some du) (hdu:notInt du)
    (hi:P.info? e=some i) (hz:i.zero=some z) (h0:0<i.bytes) (hl:∀w,(Go.Builtin.lenOf x).run P w=.ok n w)
    (ho:(Go.Builtin.firstCells i.size sLen (.slice base sLen sCap)).run P w.drew=.ok olds.toArray w.drew) (hf:(Go.Builtin.firstCells i.size n x).run P w.drew=.ok news.toArray w.drew) (hr:sCap<sLen+n) (hb:(sLen+n)*i.bytes≤140737488355328) :
    (Go.Builtin.append_ #[t,u] ty #[.slice base sLen sCap,x]).run P w=.ok (.slice (some ⟨w.heap.size,0,none⟩) (sLen+n) (Go.grownCap w (sLen+n) sCap e))
      (w.drew.alloc (.cells (olds.toArray++(news.toArray++Go.Builtin.zeroCells z.cells (Go.grownCap w (sLen+n) sCap e-(sLen+n)))) e)):=by
  have hn:¬(sLen+n≤sCap):=by omega
  have hfit:=Go.growslice_fits hr hb
  have h48:¬(281474976710656<Go.Builtin.nextslicecap (sLen+n) sCap*i.bytes):=by omega
  have hb0:¬i.bytes=0:=by omega
  rcases hdu with ⟨e',rfl⟩ | rfl<;>simp[-List.append_toArray,Go.Builtin.append_,under_ok ht,under_ok hu,Go.sizeOf,Go.typeInfo,Go.zeroValue,hi,hz,hl,hn,hb0,h48,Go.Question.forced,ho,hf,Go.newRow,Go.grownCap]

theorem zeroCells_size (z:Array Value) (n:Nat):(Go.Builtin.zeroCells z n).size=n*z.size:=by simp[Go.Builtin.zeroCells]

/-- The new row of an append that grows. -/
theorem post_grow {B':Blk} {w:World} {e:TypeId} {z:Value} {sz n cap:Nat} {all:List Value} {st:List (Nat×Blk)} (hs:Sim Own σ (nthB hp) w)
    (hst:st=[]∨∃b l,st=[(b,.dead)]∧σ b=some l∧(nthB hp b).wr=true) (hfree:σ hp.length=none) (hcap:n≤cap) (hz:z.cells.size=sz) (hall:all.length=n*sz)
    (hB:B'.vs.length=n*sz) (hr:VRs σ B'.vs all) (h1:∀u∈all,u.oneCell'=true) :
    Post Own σ (nthB hp) hp.length ⟨.slice hp.length 0 sz n n,st,[B']⟩ w (.slice (some ⟨w.heap.size,0,none⟩) n cap) (w.drew.alloc (.cells (all.toArray++Go.Builtin.zeroCells z.cells (cap-n)) e)) (σ.set hp.length ⟨w.heap.size,0,cap*sz⟩):=by
  have hle:=Sg.le_set (σ:=σ) ⟨w.heap.size,0,cap*sz⟩ hfree
  have hrow:(w.drew.alloc (.cells (all.toArray++Go.Builtin.zeroCells z.cells (cap-n)) e)).heap[w.heap.size]?=some (.cells (all.toArray++Go.Builtin.zeroCells z.cells (cap-n)) e):=Go.heap_alloc_new w.drew _
  have hsize:(all.toArray++Go.Builtin.zeroCells z.cells (cap-n)).size=cap*sz:=by
    simp only[Array.size_append,List.size_toArray,zeroCells_size,hz,hall,←Nat.add_mul]
    congr 1
    omega
  have hk:∀F,Kept F w (w.drew.alloc (.cells (all.toArray++Go.Builtin.zeroCells z.cells (cap-n)) e)):=fun F=>(Kept.drew F w).trans (Kept.alloc F w.drew _)
  have htake:(all.toArray++Go.Builtin.zeroCells z.cells (cap-n)).toList.take B'.vs.length=all:=by
    rw[hB,←hall];simp
  refine⟨hle,fun b hb=>Sg.set_ne σ _ (by simp at hb;omega),?_,?_,?_,?_,hk _,?_,?_,?_⟩
  · exact .slice (Sg.set_same _ _ _) (Nat.le_refl _) hcap (by simp only[];omega) (fun _=>rfl)
  · rcases hst with rfl | ⟨b,l,rfl,-,-⟩<;>simp
  · rcases hst with rfl | ⟨b,l,rfl,hb,-⟩
    · simp
    · simpa using⟨l,hb⟩
  · rcases hst with rfl | ⟨b,l,rfl,-,hw⟩
    · simp
    · simpa using hw
  · rcases hst with rfl | ⟨b,l,rfl,hb,-⟩
    · simp
    · intro p hp' l' hl'
      simp only[List.mem_singleton]at hp'
      subst hp'
      exact⟨by simp[Blk.vs],fun h=>by simp[Blk.live]at h⟩
  · intro j B'' hB'
    have hj:j=0:=by
      rcases j with _ | j
      · rfl
      · simp at hB'
    subst hj
    simp at hB'
    subst hB'
    exact⟨⟨w.heap.size,0,cap*sz⟩,by simpa using Sg.set_same σ hp.length _,Own_row hs.new hrow rfl (by simp only[];omega) (Nat.le_refl _) (.inl rfl) (by simp only[];rw[hB];exact Nat.mul_le_mul_right sz hcap) (by rw[htake];exact hr.mono hle) (by rw[htake];exact h1),.inl (Nat.le_refl _)⟩
  · intro j j' l l' hne hj hj'
    simp at hj hj'
    omega

/-- A new block without a cell: nothing is laid. -/
theorem post_none {sz:Nat} {B':Blk} {st:List (Nat×Blk)} {v':Value} {ad:Option Addr} (hst:st=[]∨∃b l,st=[(b,.dead)]∧σ b=some l∧(nthB hp b).wr=true) (hfree:σ hp.length=none)
    (hB:B'.vs.length=0) (hv':v'=.slice ad 0 0):Post Own σ (nthB hp) hp.length ⟨.slice hp.length 0 sz 0 0,st,[B']⟩ w v' w (σ.set hp.length ⟨0,0,0⟩):=by
  subst hv'
  have hle:=Sg.le_set (σ:=σ) ⟨0,0,0⟩ hfree
  refine⟨hle,fun b hb=>Sg.set_ne σ _ (by simp at hb;omega),?_,?_,?_,?_,Kept.refl _ _,?_,?_,?_⟩
  · exact .slice (Sg.set_same _ _ _) (Nat.le_refl _) (Nat.le_refl _) (by simp) (fun h=>by omega)
  · rcases hst with rfl | ⟨b,l,rfl,-,-⟩<;>simp
  · rcases hst with rfl | ⟨b,l,rfl,hb,-⟩
    · simp
    · simpa using⟨l,hb⟩
  · rcases hst with rfl | ⟨b,l,rfl,-,hw⟩
    · simp
    · simpa using hw
  · rcases hst with rfl | ⟨b,l,rfl,hb,-⟩
    · simp
    · intro p hp' l' hl'
      simp only[List.mem_singleton]at hp'
      subst hp'
      exact⟨by simp[Blk.vs],fun h=>by simp[Blk.live]at h⟩
  · intro j B'' hB'
    have hj:j=0:=by
      rcases j with _ | j
      · rfl
      · simp at hB'
    subst hj
    simp at hB'
    subst hB'
    exact⟨⟨0,0,0⟩,by simpa using Sg.set_same σ hp.length _,⟨by omega,fun _ h=>by simp at h⟩,.inr (.inl rfl)⟩
  · intro j j' l l' hne hj hj'
    simp at hj hj'
    omega

/-- An append that goes into the room behind a slice of one's own. -/
theorem post_room {b c sz len n cap':Nat} {l:Loc} {B B':Blk} {cs:Array Value} {e:TypeId} {fr:Nat×Nat} {news:List Value} {nv:List V} (hs:Sim Own σ (nthB hp) w) (hb:σ b=some l) (hB:nthB hp b=B) (hwr:B.wr=true)
    (hrow:w.heap[l.blk]?=some (.cells cs e fr)) (hfree:σ hp.length=none) (hlen:B.vs.length=c+len*sz) (hroom:len+n≤cap') (hbd:c+cap'*sz≤l.size) (hpos:0<cap'*sz)
    (hnl:nv.length=n*sz) (hB':B'.vs=B.vs.drop c++nv) (hn:VRs σ nv news) (h1:∀u∈news,u.oneCell'=true) :
    Post Own σ (nthB hp) hp.length ⟨.slice hp.length 0 sz (len+n) (len+n),[(b,.dead)],[B']⟩ w (.slice (some ⟨l.blk,l.off+c,none⟩) (len+n) cap') (w.setRow l.blk (laidA cs (l.off+c+len*sz) news)) (σ.set hp.length ⟨l.blk,l.off+c,cap'*sz⟩):=by
  subst hB
  have hle:=Sg.le_set (σ:=σ) ⟨l.blk,l.off+c,cap'*sz⟩ hfree
  have hbk:=hs.blk b l hb
  obtain⟨cs',e',fr',r1,r2,r3,r4⟩:=hbk.row (Blk.live_of_wr hwr) (by omega)
  rw[hrow]at r1
  simp only[Option.some.injEq,Obj.cells.injEq]at r1
  obtain⟨rfl,rfl,rfl⟩:=r1
  have hnl':=hn.length
  have hroom':len*sz+n*sz≤cap'*sz:=by rw[←Nat.add_mul];exact Nat.mul_le_mul_right sz hroom
  have hin:l.off+c+len*sz+news.length≤cs.size:=by omega
  have hrow':=Go.setRow_heap w l.blk cs (laidA cs (l.off+c+len*sz) news) e fr hrow
  refine⟨hle,fun b hb=>Sg.set_ne σ _ (by simp at hb;omega),?_,by simp,by simpa using⟨l,hb⟩,by simpa using hwr,?_,?_,?_,?_⟩
  · have:=VR.slice (σ:=σ.set hp.length ⟨l.blk,l.off+c,cap'*sz⟩) (b:=hp.length) (o:=0) (sz:=sz) (len:=len+n) (cap:=len+n) (cap':=cap') (a:=some ⟨l.blk,l.off+c,none⟩) (Sg.set_same _ _ _) (Nat.le_refl _) hroom (by simp only[];omega) (fun _=>by simp)
    exact this
  · refine kept_setRow hrow (laidA_size _ _ _ hin) fun j hF=>?_
    rw[laidA_get _ _ _ hin]
    split
    · rename_i hj
      exact absurd ⟨(b,.dead),by simp,l,hb,rfl,by omega,by omega⟩ hF
    · rfl
  · intro p hp' l' hl'
    simp only[List.mem_singleton]at hp'
    subst hp'
    exact⟨by simp[Blk.vs],fun h=>by simp[Blk.live]at h⟩
  · intro j B'' hB''
    have hj:j=0:=by
      rcases j with _ | j
      · rfl
      · simp at hB''
    subst hj
    simp at hB''
    subst hB''
    have hvl:B'.vs.length=len*sz+n*sz:=by rw[hB'];simp;omega
    refine⟨⟨l.blk,l.off+c,cap'*sz⟩,by simpa using Sg.set_same σ hp.length _,⟨by simp only[];omega,fun _ _=>⟨_,e,fr,hrow',by rw[laidA_size _ _ _ hin];simp only[];omega,?_,fun _=>⟨fun j hj=>?_,by rw[laidA_size _ _ _ hin];exact(r4 hwr).2⟩⟩⟩,?_⟩
    · intro j x hx
      simp only[]
      rw[laidA_get _ _ _ hin]
      rw[hB']at hx
      by_cases hj:j<len*sz
      · rw[List.getElem?_append_left (by simp;omega),List.getElem?_drop]at hx
        rw[if_neg (by omega)]
        obtain⟨v,hv,hr,h1⟩:=r3 _ x hx
        exact⟨v,by rw[←hv];congr 1;omega,hr.mono hle,h1⟩
      · rw[List.getElem?_append_right (by simp;omega)]at hx
        obtain⟨v,hv,hr⟩:=hn.get hx
        have hjl:j-(List.drop c (nthB hp b).vs).length<nv.length:=(List.getElem?_eq_some_iff.1 hx).1
        have hd:(List.drop c (nthB hp b).vs).length=len*sz:=by simp;omega
        rw[hd]at hv hjl
        have hj2:l.off+c+j<l.off+c+len*sz+news.length:=by rw[←hnl'];omega
        rw[if_pos ⟨by omega,hj2⟩]
        refine⟨v,by rw[←hv];congr 1;omega,hr.mono hle,h1 v (List.mem_of_getElem? hv)⟩
    · have hj':j<cap'*sz:=hj
      have:=(r4 hwr).1 (c+j) (by omega)
      simp only[]
      rwa [show l.off+c+j=l.off+(c+j) by omega]
    · exact .inr (.inr fun i h1 h2=>⟨(b,.dead),by simp,rfl,l,hb,rfl,by simp only[]at h1;omega,by simp only[]at h2;omega⟩)
  · intro j j' l l' hne hj hj'
    simp at hj hj'
    omega

theorem VRs_nil_of_length {l:List V} {m:List Value} (h:VRs σ l m) (h0:l.length=0):m=[]:=by
  have:=h.length
  exact List.eq_nil_of_length_eq_zero (by omega)

/-- An append, over what the model's run of it does. -/
theorem good_appK {t u e:TypeId} {sz by_ n:Nat} {zv yv:Value} {B:Blk} {news:List Value} {x:Operand} {x':X} (hzc:zv.cells.size=sz)
    (exe:∀(base:Option Addr) (sLen sCap:Nat) (v':Value) (w':World),a.eval x=.slice base sLen sCap→(Go.Builtin.append_ #[t,u] o.type #[.slice base sLen sCap,yv]).run P w=.ok v' w'→(execOp a.eval o).run P w=.ok (.value v') w')
    (hroomR:∀(base:Option Addr) (sLen sCap:Nat),sLen+n≤sCap→(Go.Builtin.append_ #[t,u] o.type #[.slice base sLen sCap,yv]).run P w=(match base with
      | some a=>((Go.storeCells (a.add (sLen*sz)) news).run P w).andThen fun _ w'=>.ok (.slice base (sLen+n) sCap) w'
      | none=>.ok (.slice base (sLen+n) sCap) w))
    (hgrowR:∀(base:Option Addr) (sLen sCap:Nat) (olds:List Value),(Go.Builtin.firstCells sz sLen (.slice base sLen sCap)).run P w.drew=.ok olds.toArray w.drew→sCap<sLen+n→(sLen+n)*by_≤140737488355328 →
      (Go.Builtin.append_ #[t,u] o.type #[.slice base sLen sCap,yv]).run P w=.ok (.slice (some ⟨w.heap.size,0,none⟩) (sLen+n) (Go.grownCap w (sLen+n) sCap e))
        (w.drew.alloc (.cells (olds.toArray++(news.toArray++Go.Builtin.zeroCells zv.cells (Go.grownCap w (sLen+n) sCap e-(sLen+n)))) e)))
    (hBl:B.vs.length=n*sz) (hBr:VRs σ B.vs news) (hB1:∀u∈news,u.oneCell'=true)
    (hs:Sim Own σ (nthB hp) w) (hfr:∀e,K e→∀j,j<e.nw.length→σ (hp.length+j)=none) (hx:VR σ (ρ x') (a.eval x)) (h:appK sz by_ hp (ρ x') B n K):∃e,K e∧Done P Own σ hp w a o Q e:=by
  unfold appK at h
  generalize hX:ρ x'=X at h hx
  generalize hxv:a.eval x=xv at hx
  cases X<;>simp only at h<;>try exact h.elim
  case nils =>
    obtain⟨hbd,h⟩:=h
    cases hx
    have key:∀(B':Blk),B'.vs=B.vs→B'.wr=true→K ⟨.slice hp.length 0 sz n n,[],[B']⟩→∃e,K e∧Done P Own σ hp w a o Q e:=by
      intro B' hv hw hk
      by_cases hn0:n=0
      · subst hn0
        have hr:=hroomR none 0 0 (by omega)
        exact⟨_,hk,done_val (exe _ _ _ _ _ hxv hr) (post_none (.inl rfl) (hfr _ hk 0 (by simp)) (by rw[hv,hBl];simp) rfl)⟩
      · have hr:=hgrowR none 0 0 [] (by simp[Go.Builtin.firstCells]) (by omega) (by rw[Nat.zero_add];omega)
        simp only[Nat.zero_add]at hr
        have he:([]:List Value).toArray++(news.toArray++Go.Builtin.zeroCells zv.cells (Go.grownCap w n 0 e-n))=news.toArray++Go.Builtin.zeroCells zv.cells (Go.grownCap w n 0 e-n):=by simp
        rw[he]at hr
        exact⟨_,hk,done_val (exe _ _ _ _ _ hxv hr) (post_grow hs (.inl rfl) (hfr _ hk 0 (by simp)) (Go.grownCap_ge w n 0 e) hzc (by rw[←hBr.length,hBl]) (by rw[hv,hBl]) (by rw[hv];exact hBr) hB1)⟩
    cases B with
    | ints ro k ys=>exact key _ (by simp[Blk.vs]) rfl h
    | cells ro cs =>
      cases cs with
      | nil =>
        obtain⟨rfl,h⟩:=h
        have hr:=hroomR none 0 0 (by omega)
        exact⟨_,h,done_pure (exe _ _ _ _ _ hxv hr) .nils⟩
      | cons c cs=>exact key _ (by simp[Blk.vs]) rfl h
    | dead=>exact h.elim
  case slice b c sz' len cap =>
    obtain⟨⟨rfl,hbd⟩,h⟩:=h
    cases hx
    rename_i cap' ad l hb ha hbd' hc hl
    have key:∀(B0 B':Blk),nthB hp b=B0→B0.wr=true→B0.vs.length=c+len*sz→B'.vs=B0.vs.drop c++B.vs→B'.wr=true→K ⟨.slice hp.length 0 sz (len+n) (len+n),[(b,.dead)],[B']⟩→∃e,K e∧Done P Own σ hp w a o Q e:=by
      intro B0 B' hB0 hw0 hlen0 hv hw hk
      have hst:([(b,Blk.dead)]:List (Nat×Blk))=[]∨∃b' l,[(b,Blk.dead)]=[(b',Blk.dead)]∧σ b'=some l∧(nthB hp b').wr=true:=.inr ⟨b,l,rfl,hb,by rw[hB0];exact hw0⟩
      have hfree:=hfr _ hk 0 (by simp)
      simp only[Nat.add_zero]at hfree
      by_cases hroom:len+n≤cap'
      · have hr:=hroomR ad len cap' hroom
        by_cases h0:cap'*sz=0
        · have hnews:news=[]:=VRs_nil_of_length hBr (by
            rw[hBl]
            rcases Nat.mul_eq_zero.1 h0 with h | h
            · have:n=0:=by omega
              simp[this]
            · simp[h])
          subst hnews
          have hBv:B'.vs.length=0:=by
            rw[hv,List.length_append,hBr.length]
            simp
            have:len*sz=0:=by
              rcases Nat.mul_eq_zero.1 h0 with h | h
              · have:len=0:=by omega
                simp[this]
              · simp[h]
            omega
          have hrr:(Go.Builtin.append_ #[t,u] o.type #[.slice ad len cap',yv]).run P w=.ok (.slice ad (len+n) cap') w:=by
            rw[hr];cases ad<;>simp[Go.storeCells]
          by_cases hcz:cap'=0
          · have e1:len=0:=by omega
            have e2:n=0:=by omega
            subst hcz e1 e2
            exact⟨_,hk,done_val (exe _ _ _ _ _ hxv hrr) (post_none hst hfree hBv rfl)⟩
          · -- cells of no size
            have hs0:sz=0:=by
              rcases Nat.mul_eq_zero.1 h0 with h | h
              · exact absurd h hcz
              · exact h
            refine⟨_,hk,done_val (σ':=σ.set hp.length ⟨l.blk,l.off+c,0⟩) (exe _ _ _ _ _ hxv hrr) ?_⟩
            have hle:=Sg.le_set (σ:=σ) ⟨l.blk,l.off+c,0⟩ hfree
            have had:=ha (by omega)
            refine⟨hle,fun b hb=>Sg.set_ne σ _ (by simp at hb;omega),?_,by simp,by simpa using⟨l,hb⟩,by simpa[hB0]using hw0,Kept.refl _ _,?_,?_,?_⟩
            · subst hs0
              have:=VR.slice (σ:=σ.set hp.length ⟨l.blk,l.off+c,0⟩) (b:=hp.length) (o:=0) (sz:=0) (len:=len+n) (cap:=len+n) (cap':=cap') (a:=ad) (Sg.set_same _ _ _) (Nat.le_refl _) hroom (by simp) (fun _=>by simpa using had)
              exact this
            · intro p hp' l' hl'
              simp only[List.mem_singleton]at hp'
              subst hp'
              exact⟨by simp[Blk.vs],fun h=>by simp[Blk.live]at h⟩
            · intro j B'' hB''
              have hj:j=0:=by
                rcases j with _ | j
                · rfl
                · simp at hB''
              subst hj
              simp at hB''
              subst hB''
              exact⟨⟨l.blk,l.off+c,0⟩,by simpa using Sg.set_same σ hp.length _,⟨by omega,fun _ h=>by simp at h⟩,.inr (.inl rfl)⟩
            · intro j j' l l' hne hj hj'
              simp at hj hj'
              omega
        · have hpos:0<cap':=by
            rcases Nat.eq_zero_or_pos cap' with h | h
            · simp[h]at h0
            · exact h
          have had:=ha hpos
          subst had
          have hbk:=hs.blk b l hb
          rw[hB0]at hbk
          obtain⟨cs,e',fr,r1,r2,r3,r4⟩:=hbk.row (Blk.live_of_wr hw0) (by omega)
          have hroom':len*sz+n*sz≤cap'*sz:=by rw[←Nat.add_mul];exact Nat.mul_le_mul_right sz hroom
          have hnl:news.length=n*sz:=by rw[←hBr.length,hBl]
          have hst2:=run_storeCells_fr P l.blk e' fr news (l.off+c+len*sz) 0 cs w r1 (by omega) (fun j _ hj=>(r4 hw0).2.not j (by omega)) hB1
          simp only[Nat.add_zero]at hst2
          have hrr:(Go.Builtin.append_ #[t,u] o.type #[.slice (some ⟨l.blk,l.off+c,none⟩) len cap',yv]).run P w=.ok (.slice (some ⟨l.blk,l.off+c,none⟩) (len+n) cap') (w.setRow l.blk (laidA cs (l.off+c+len*sz) news)):=by
            rw[hr]
            simp only[Addr_add,hst2,Go.Result.andThen_ok]
          exact⟨_,hk,done_val (exe _ _ _ _ _ hxv hrr) (post_room hs hb hB0 hw0 r1 hfree hlen0 hroom hbd' (by omega) hBl hv hBr hB1)⟩
      · -- it grows: what it holds
        have hold:∃olds,olds.length=len*sz∧VRs σ (B0.vs.drop c) olds∧(∀v∈olds,v.oneCell'=true)∧(Go.Builtin.firstCells sz len (.slice ad len cap')).run P w.drew=.ok olds.toArray w.drew:=by
          by_cases h0:len*sz=0
          · have hd:B0.vs.drop c=[]:=List.eq_nil_of_length_eq_zero (by simp;omega)
            refine⟨[],by simp[h0],by rw[hd];exact .nil,by simp,?_⟩
            cases ad<;>simp[Go.Builtin.firstCells,h0,Go.loadCells,Go.loadCellsFrom]
          · have hpos:0<cap':=by
              rcases Nat.eq_zero_or_pos cap' with h | h
              · have:len=0:=by omega
                simp[this]at h0
              · exact h
            have had:=ha hpos
            subst had
            obtain⟨cs,e',fr,h1,h2,h3,vs,hvs,hvl',hr,ho1,hcell⟩:=hs.row (o:=c) (n:=len*sz) hb hB0 (by omega) (by
              have:=(hs.blk b l hb).len
              rw[hB0]at this;omega) (Blk.live_of_wr hw0)
            refine⟨vs,hvl',?_,ho1,?_⟩
            · have:sub B0.vs c (len*sz)=B0.vs.drop c:=by
                unfold sub;exact List.take_of_length_le (by simp;omega)
              rwa [this]at hr
            · exact Go.run_firstCells_some (P:=P) w.drew sz len _ _ _ vs (by omega) (fun j v hj=>by rw[Addr_add,World.cell?_drew];exact hcell j v hj)
        obtain⟨olds,ol,or,oo,of⟩:=hold
        have hr:=hgrowR ad len cap' olds of (by omega) (by omega)
        have he:olds.toArray++(news.toArray++Go.Builtin.zeroCells zv.cells (Go.grownCap w (len+n) cap' e-(len+n)))=(olds++news).toArray++Go.Builtin.zeroCells zv.cells (Go.grownCap w (len+n) cap' e-(len+n)):=by
          apply Array.toList_inj.1;simp
        rw[he]at hr
        have hnl:news.length=n*sz:=by rw[←hBr.length,hBl]
        refine⟨_,hk,done_val (exe _ _ _ _ _ hxv hr) (post_grow hs hst hfree (Go.grownCap_ge w _ cap' e) hzc (by simp[ol,hnl,Nat.add_mul]) (by rw[hv,List.length_append,or.length,hBl,ol,Nat.add_mul]) (by rw[hv];exact or.append hBr) ?_)⟩
        intro v hv'
        simp at hv'
        rcases hv' with h | h
        · exact oo v h
        · exact hB1 v h
    cases hB0:nthB hp b<;>simp only[hB0]at h<;>try exact h.elim
    · rename_i ro k xs
      cases ro<;>simp only at h<;>try exact h.elim
      obtain⟨hxl,h⟩:=h
      split at h
      · obtain⟨rfl,h⟩:=h
        exact key _ _ hB0 rfl (by simpa[Blk.vs]using hxl) (by simp[Blk.vs,List.map_drop]) rfl h
      · exact key _ _ hB0 rfl (by simpa[Blk.vs]using hxl) (by simp[Blk.vs,List.map_drop]) rfl h
      · exact h.elim
    · rename_i ro cs
      cases ro<;>simp only at h<;>try exact h.elim
      obtain⟨hxl,h⟩:=h
      split at h
      · exact key _ _ hB0 rfl (by simpa[Blk.vs]using hxl) (by simp[Blk.vs]) rfl h
      · exact key _ _ hB0 rfl (by simpa[Blk.vs]using hxl) (by simp[Blk.vs]) rfl h
      · exact h.elim
theorem good_app {t u e:TypeId} {du:Go.TypeDesc} {sz by_:Nat} {z:V} {x y:Operand} {x' y':X} (ho:o.op=.call { callee:=.builtin .append,args:=#[x,y],argTypes:=#[t,u] })
    (ht:P.underlying t=some (.slice e)) (hu:P.underlying u=some du) (hdu:notInt du) (hsz:size? P e=some sz) (hby:bytes? P e=some by_) (hz:zero? P e=some z) (hvl:vlen z=sz) (hb0:0<by_) (hzm:mkB z≠none)
    (hs:Sim Own σ (nthB hp) w) (hfr:∀e,K e→∀j,j<e.nw.length→σ (hp.length+j)=none) (hx:VR σ (ρ x') (a.eval x)) (hy:VR σ (ρ y') (a.eval y)) (h:exec S ρ hp (.app sz by_ x' y') K):∃e,K e∧Done P Own σ hp w a o Q e:=by
  simp only[exec]at h
  obtain⟨B,n,news,h,hBl,hBr,hB1,hlen,hfc,hBlive⟩:=content_ok hs hy h
  have hfc':∀w',w'.heap=w.heap→(Go.Builtin.firstCells sz n (a.eval y)).run P w'=.ok news.toArray w':=by
    intro w' hw
    have:=hfc w' n hw (Nat.le_refl n)
    rwa [List.take_of_length_le (by rw[←hBr.length];omega)]at this
  obtain⟨i,zv,hi,hzv,hzz,-⟩:=zero_ok hz
  obtain⟨i',hi',hsz',hrunsz⟩:=size_ok hsz
  rw[hi]at hi'
  obtain rfl:=Option.some.inj hi'
  have hby':i.bytes=by_:=by unfold bytes? at hby;rw[hi]at hby;simpa using hby
  have hzc:zv.cells.size=sz:=by rw[←vlen_ok (ofValue_ok (σ:=σ) hzz) hzm];exact hvl
  refine good_appK (t:=t) (u:=u) (e:=e) (zv:=zv) (yv:=a.eval y) (news:=news) hzc (fun base sLen sCap v' w' hxv hr=>by simp[execOp,ho,Go.resolve,Go.invoke,Go.builtin,hxv,hr])
    (fun base sLen sCap hr=>run_app_room (P:=P) (w:=w) (ty:=o.type) ht hu hdu hrunsz hlen (hfc' w rfl) hr) (fun base sLen sCap olds ho' hr hb=>?_) hBl hBr hB1 hs hfr hx h
  exact run_app_grow (P:=P) (w:=w) (ty:=o.type) (olds:=olds) ht hu hdu hi hzv (by omega) hlen (by rw[hsz'];exact ho') (by rw[hsz'];exact hfc' _ rfl) hr (by rw[hby'];exact hb)
set_option maxRecDepth 100000 in
theorem run_appZ_room {t u e ty:TypeId} {i:Go.TypeInfo} {z:Value} {kd kv:IntKind} {n sLen sCap:Nat} {base:Option Addr} (ht:P.underlying t=some (.slice e)) (hu:P.underlying u=some (.int kd))
    (hi:P.info? e=some i) (hz:i.zero=some z) (hzc:z.cells.size=i.size) (hn:n<9223372036854775808) (hnb:n*i.bytes≤281474976710656) (hr:sLen+n≤sCap) :
    (Go.Builtin.append_ #[t,u] ty #[.slice base sLen sCap,.int kv n]).run P w=(match base with
      | some a=>((Go.storeCells (a.add (sLen*i.size)) (Go.Builtin.zeroCells z.cells n).toList).run P w).andThen fun _ w'=>.ok (.slice base (sLen+n) sCap) w'
      | none=>.ok (.slice base (sLen+n) sCap) w):=by
  have hw:IntKind.i64.wrap (n:Int)=n:=by
    simp[IntKind.wrap,IntKind.signed,IntKind.bits];split<;>omega
  have hneg:¬((n:Int)<0):=by omega
  have hbig:¬((281474976710656:Int)<(n:Int)*(i.bytes:Int)):=by
    have h1:((n*i.bytes:Nat):Int)≤((281474976710656:Nat):Int):=Int.ofNat_le.2 hnb
    rw[Int.natCast_mul]at h1
    omega
  by_cases h0:n*i.size=0
  · have hz0:Go.Builtin.zeroCells z.cells n=#[]:=Array.eq_empty_of_size_eq_zero (by rw[zeroCells_size,hzc,h0])
    cases base<;>simp[Go.Builtin.append_,under_ok ht,under_ok hu,Go.sizeOf,Go.typeInfo,hi,Go.asInt,Go.asIntOf,hw,hneg,hbig,hr,h0,hz0]
  · cases base<;>simp[Go.Builtin.append_,under_ok ht,under_ok hu,Go.sizeOf,Go.typeInfo,hi,Go.asInt,Go.asIntOf,hw,hneg,hbig,hr,h0,Go.zeroValue,hz]
theorem run_appZ_grow {t u e ty:TypeId} {i:Go.TypeInfo} {z:Value} {kd kv:IntKind} {n sLen sCap:Nat} {base:Option Addr} {olds:List Value} (ht:P.underlying t=some (.slice e)) (hu:P.underlying u=some (.int kd))
    (hi:P.info? e=some i) (hz:i.zero=some z) (hzc:z.cells.size=i.size) (h0:0<i.bytes) (hn:n<9223372036854775808) (hnb:n*i.bytes≤281474976710656)
    (ho:(Go.Builtin.firstCells i.size sLen (.slice base sLen sCap)).run P w.drew=.ok olds.toArray w.drew) (hr:sCap<sLen+n) (hb:(sLen+n)*i.bytes≤140737488355328) :
    (Go.Builtin.append_ #[t,u] ty #[.slice base sLen sCap,.int kv n]).run P w=.ok (.slice (some ⟨w.heap.size,0,none⟩) (sLen+n) (Go.grownCap w (sLen+n) sCap e))
      (w.drew.alloc (.cells (olds.toArray++((Go.Builtin.zeroCells z.cells n).toList.toArray++Go.Builtin.zeroCells z.cells (Go.grownCap w (sLen+n) sCap e-(sLen+n)))) e)):=by
  have hw:IntKind.i64.wrap (n:Int)=n:=by
    simp[IntKind.wrap,IntKind.signed,IntKind.bits];split<;>omega
  have hneg:¬((n:Int)<0):=by omega
  have hbig:¬((281474976710656:Int)<(n:Int)*(i.bytes:Int)):=by
    have h1:((n*i.bytes:Nat):Int)≤((281474976710656:Nat):Int):=Int.ofNat_le.2 hnb
    rw[Int.natCast_mul]at h1
    omega
  have hnr:¬(sLen+n≤sCap):=by omega
  have hfit:=Go.growslice_fits hr hb
  have h48:¬(281474976710656<Go.Builtin.nextslicecap (sLen+n) sCap*i.bytes):=by omega
  have hb0:¬i.bytes=0:=by omega
  have hsum:sLen+n≤140737488355328:=by
    have:(sLen+n)*1≤(sLen+n)*i.bytes:=Nat.mul_le_mul_left _ h0
    omega
  have hmx:¬((9223372036854775807:Int)<((sLen:Int)+(n:Int))):=by omega
  by_cases hz0:n*i.size=0
  · have hzz:Go.Builtin.zeroCells z.cells n=#[]:=Array.eq_empty_of_size_eq_zero (by rw[zeroCells_size,hzc,hz0])
    simp[-List.append_toArray,Go.Builtin.append_,under_ok ht,under_ok hu,Go.sizeOf,Go.typeInfo,Go.zeroValue,hi,hz,Go.asInt,Go.asIntOf,hw,hneg,hbig,hnr,hz0,hzz,hb0,h48,hmx,Go.Question.forced,ho,Go.newRow,Go.grownCap]
  · simp[-List.append_toArray,Go.Builtin.append_,under_ok ht,under_ok hu,Go.sizeOf,Go.typeInfo,Go.zeroValue,hi,hz,Go.asInt,Go.asIntOf,hw,hneg,hbig,hnr,hz0,hb0,h48,hmx,Go.Question.forced,ho,Go.newRow,Go.grownCap]
theorem zeroCells_made (z:Array Value) (n:Nat):Go.Builtin.zeroCells z n=Go.madeCells z (n*z.size):=rfl
theorem good_appZ {t u e:TypeId} {kd:IntKind} {sz by_:Nat} {z:V} {x y:Operand} {x' y':X} (ho:o.op=.call { callee:=.builtin .append,args:=#[x,y],argTypes:=#[t,u] })
    (ht:P.underlying t=some (.slice e)) (hu:P.underlying u=some (.int kd)) (hsz:size? P e=some sz) (hby:bytes? P e=some by_) (hz:zero? P e=some z) (hvl:vlen z=sz) (hb0:0<by_) (hzm:mkB z≠none)
    (hs:Sim Own σ (nthB hp) w) (hfr:∀e,K e→∀j,j<e.nw.length→σ (hp.length+j)=none) (hx:VR σ (ρ x') (a.eval x)) (hy:VR σ (ρ y') (a.eval y)) (h:exec S ρ hp (.appZ sz by_ z x' y') K):∃e,K e∧Done P Own σ hp w a o Q e:=by
  simp only[exec]at h
  generalize hY:ρ y'=Y at h hy
  generalize hyv:a.eval y=yv at hy
  cases Y<;>simp only at h<;>try exact h.elim
  rename_i kv m
  cases hy
  obtain⟨⟨h0,h63,hbd⟩,h⟩:=h
  obtain⟨n,rfl⟩:=Int.eq_ofNat_of_zero_le h0
  cases hB:repB z (Int.toNat (n:Int))<;>simp only[hB]at h
  rename_i B
  rw[Int.toNat_natCast]at hB h
  obtain⟨i,zv,hi,hzv,hzz,-⟩:=zero_ok hz
  obtain⟨i',hi',hsz',hrunsz⟩:=size_ok hsz
  rw[hi]at hi'
  obtain rfl:=Option.some.inj hi'
  have hby':i.bytes=by_:=by unfold bytes? at hby;rw[hi]at hby;simpa using hby
  have hzc:zv.cells.size=sz:=by rw[←vlen_ok (ofValue_ok (σ:=σ) hzz) hzm];exact hvl
  obtain⟨r1,r2,r3,r4⟩:=repB_ok (ofValue_ok (σ:=σ) hzz) hB
  rw[←zeroCells_made]at r3 r4
  have hbn:n*i.bytes≤281474976710656:=by
    have:((n*by_:Nat):Int)≤((140737488355328:Nat):Int):=by rw[Int.natCast_mul];exact hbd
    rw[hby']
    have:=Int.ofNat_le.1 this
    omega
  refine good_appK (t:=t) (u:=u) (e:=e) (zv:=zv) (yv:=.int kv n) (news:=(Go.Builtin.zeroCells zv.cells n).toList) hzc (fun base sLen sCap v' w' hxv hr=>by simp[execOp,ho,Go.resolve,Go.invoke,Go.builtin,hxv,hyv,hr])
    (fun base sLen sCap hr=>?_) (fun base sLen sCap olds ho' hr hb=>?_) (by rw[r2,hzc]) r3 r4 hs hfr hx h
  · have:=run_appZ_room (P:=P) (w:=w) (ty:=o.type) (kv:=kv) (base:=base) ht hu hi hzv (by rw[hzc,hsz']) (by omega) hbn hr
    rw[hsz']at this
    exact this
  · exact run_appZ_grow (P:=P) (w:=w) (ty:=o.type) (kv:=kv) (olds:=olds) ht hu hi hzv (by rw[hzc,hsz']) (by omega) (by omega) hbn (by rw[hsz'];exact ho') hr (by rw[hby'];exact hb)
theorem run_equal_slice {t e:TypeId} (hd:P.underlying t=some (.slice e)) (p:Option Addr) (n c:Nat):(Go.Op.equal t (.slice p n c) (.slice none 0 0)).run P w=.ok p.isNone w:=by
  unfold Go.Op.equal
  obtain⟨d,hd'⟩:∃d,Go.Op.maxDepth=d+1:=⟨9999,rfl⟩
  rw[hd']
  cases p<;>simp[Go.Op.equalIn,under_ok hd]
theorem good_eqnS {neg:Bool} {t ty e:TypeId} {x y:Operand} {x':X} (ho:o.op=.binOp (if neg then .neq else .eql) t x y ty) (hd:P.underlying t=some (.slice e))
    (hx:VR σ (ρ x') (a.eval x)) (hy:a.eval y=.slice none 0 0) (h:exec S ρ hp (.eqnS neg x') K):∃e,K e∧Done P Own σ hp w a o Q e:=by
  simp only[exec]at h
  generalize hX:ρ x'=X at h hx
  generalize hxv:a.eval x=xv at hx
  have hg:∀op p n c w,(Go.eqGuard op t x y (.slice p n c) (.slice none 0 0)).run P w=.ok () w:=fun op p n c w=>by unfold Go.eqGuard;cases op<;>rfl
  have fin:∀(p:Option Addr) (n c:Nat) (b:Bool),xv=.slice p n c→p.isNone=b→K ⟨.bool (if neg then !b else b),[],[]⟩→∃e,K e∧Done P Own σ hp w a o Q e:=by
    intro p n c b e1 e2 hk
    subst e1
    refine⟨_,hk,done_pure (v':=.bool _) ?_ (.bool _)⟩
    cases neg<;>simp[execOp,ho,hxv,hy,hg,Go.binOp,run_equal_slice hd,e2]
  cases X<;>simp only at h<;>try exact h.elim
  · obtain⟨h0,h⟩:=h
    cases hx
    rename_i cap' ad l hb ha hbd hc hl
    exact fin _ _ _ false rfl (by rw[ha (by omega)];rfl) (by cases neg<;>simpa using h)
  · cases hx
    exact fin _ _ _ true rfl rfl (by cases neg<;>simpa using h)
  · obtain⟨h0,h⟩:=h
    cases hx
    rename_i cap' ad blk off ha hl hn hx
    exact fin _ _ _ false rfl (by rw[ha (by omega)];rfl) (by cases neg<;>simpa using h)
  · obtain⟨h0,h⟩:=h
    cases hx
    rename_i cap' vs ad blk off ha hx hl hp' hvs hn
    exact fin _ _ _ false rfl (by rw[ha (by omega)];rfl) (by cases neg<;>simpa using h)
end
end Am
/-
Each operation of the small language does what the model's operation does: copy; comparing values of several numbers.
-/
namespace Am
open Go (IntKind BinOp UnOp Value FuncId TypeId World Program Oper Op Operand Code Func ResultVar Addr Obj Act Exit Sem Result Next execOp)

section
variable {P : Program} {Own : Nat → Nat → Prop} {σ : Sg} {hp : List Blk} {w : World} {a : Act} {o : Oper} {Q : Exit → Act → World → Prop} {S : FuncId → Summ} {ρ : X → V} {K : Ef → Prop}

/-- A block of one's own, written anew with what it holds. -/
theorem post_same {b:Nat} {l:Loc} {B B':Blk} {v:V} {v':Value} (hs:Sim Own σ (nthB hp) w) (hb:σ b=some l) (hB:nthB hp b=B) (hwr:B.wr=true) (hB':B'.vs=B.vs) (hv:VR σ v v') :
    Post Own σ (nthB hp) hp.length ⟨v,[(b,B')],[]⟩ w v' w σ:=by
  subst hB
  refine⟨Sg.le_refl σ,fun _ _=>rfl,hv,by simp,by simpa using⟨l,hb⟩,by simpa using hwr,Kept.refl _ _,?_,by simp,fun j j' l l' _ h=>by simp at h⟩
  intro p hp' l' hl'
  simp only[List.mem_singleton]at hp'
  subst hp'
  have hbk:=hs.blk b l' hl'
  refine⟨by rw[hB'];exact hbk.len,fun _ h0=>?_⟩
  obtain⟨c,e,fr,r1,r2,r3,r4⟩:=hbk.row (Blk.live_of_wr hwr) h0
  exact⟨c,e,fr,r1,r2,by rw[hB'];exact r3,fun _=>r4 hwr⟩

theorem good_copy {t e:TypeId} {ts:Array TypeId} {sz:Nat} {x y:Operand} {x' y':X} (ho:o.op=.call { callee:=.builtin .copy,args:=#[x,y],argTypes:=ts }) (h0t:ts[0]?=some t)
    (ht:P.underlying t=some (.slice e)) (hsz:size? P e=some sz) (hs:Sim Own σ (nthB hp) w) (hx:VR σ (ρ x') (a.eval x)) (hy:VR σ (ρ y') (a.eval y)) (h:exec S ρ hp (.copy sz x' y') K):∃e,K e∧Done P Own σ hp w a o Q e:=by
  simp only[exec]at h
  obtain⟨B,n,news,h,hBl,hBr,hB1,hlen,hfc,hBlive⟩:=content_ok (P:=P) hs hy h
  obtain⟨i',hi',hsz',hrunsz⟩:=size_ok hsz
  generalize hX:ρ x'=X at h hx
  generalize hxv:a.eval x=xv at hx
  have exe:∀(base:Option Addr) (dl cap:Nat) (w':World),xv=.slice base dl cap→(match base with
      | some q=>(Go.storeCells q (news.take (min n dl*sz))).run P w
      | none=>.ok () w)=.ok () w'→(execOp a.eval o).run P w=.ok (.value (.int .i64 (min n dl:Nat))) w':=by
    intro base dl cap w' hv hr
    subst hv
    have hf:=hfc w (min n dl) rfl (Nat.min_le_left _ _)
    cases base with
    | none =>
      simp only[Go.Result.ok.injEq]at hr
      obtain⟨-,rfl⟩:=hr
      have hmin:(Nat.min n dl)=min n dl:=rfl
      simp[execOp,ho,Go.resolve,Go.invoke,Go.builtin,Go.Builtin.copy_,h0t,hxv,under_ok ht,hlen,hrunsz,hmin,hf,Go.goInt]
    | some q =>
      simp only at hr
      have hmin:(Nat.min n dl)=min n dl:=rfl
      simp[execOp,ho,Go.resolve,Go.invoke,Go.builtin,Go.Builtin.copy_,h0t,hxv,under_ok ht,hlen,hrunsz,hmin,hf,hr,Go.goInt]
  cases X<;>simp only at h<;>try exact h.elim
  case nils =>
    cases hx
    have:=exe none 0 0 w rfl rfl
    exact⟨_,h,done_val this (post_pure (by simpa using VR.int .i64 0))⟩
  case slice b c sz' len cap =>
    obtain⟨rfl,h⟩:=h
    have hx0:=hx
    cases hx
    rename_i cap' ad l hb ha hbd' hc hl
    have key:∀(B0 B':Blk) (nv:List V),nthB hp b=B0→B0.wr=true→c+len*sz≤B0.vs.length→VRs σ nv (news.take (min n len*sz))→nv.length=min n len*sz→B'.vs=spl B0.vs c nv →
        K ⟨.int .i64 (min n len:Nat),[(b,B')],[]⟩→∃e,K e∧Done P Own σ hp w a o Q e:=by
      intro B0 B' nv hB0 hw0 hle hnv hnl hv hk
      have hmin:min n len*sz≤len*sz:=Nat.mul_le_mul_right sz (Nat.min_le_right _ _)
      by_cases h0:min n len*sz=0
      · have hnv0:nv=[]:=List.eq_nil_of_length_eq_zero (by omega)
        subst hnv0
        have hst:(match ad with
            | some q=>(Go.storeCells q (news.take (min n len*sz))).run P w
            | none=>.ok () w)=.ok () w:=by
          rw[h0];cases ad<;>simp[Go.storeCells]
        exact⟨_,hk,done_val (exe ad len cap' w rfl hst) (post_same hs hb hB0 hw0 (by rw[hv];simp[spl]) (.int _ _))⟩
      · have hpos:0<cap':=by
          rcases Nat.eq_zero_or_pos cap' with h | h
          · have:min n len=0:=by omega
            simp[this]at h0
          · exact h
        have had:=ha hpos
        subst had
        have hbk:=hs.blk b l hb
        rw[hB0]at hbk
        have hlenB:=hbk.len
        obtain⟨cs,e',fr,r1,r2,r3,r4⟩:=hbk.row (Blk.live_of_wr hw0) (by omega)
        have hnl2:(news.take (min n len*sz)).length=min n len*sz:=by rw[←hnv.length,hnl]
        have h1:∀u∈news.take (min n len*sz),u.oneCell'=true:=fun u hu=>hB1 u (List.mem_of_mem_take hu)
        have hst:=run_storeCells_fr P l.blk e' fr (news.take (min n len*sz)) (l.off+c) 0 cs w r1 (by omega) (fun j _ hj=>(r4 hw0).2.not j (by omega)) h1
        simp only[Nat.add_zero]at hst
        exact⟨_,hk,done_val (exe _ len cap' _ rfl hst) (post_set hs hb hB0 hw0 r1 (by omega) (by omega) hv hnv h1 (.int _ _))⟩
    have htk:∀l:List V,B.vs=l→(l.take (min n len*sz)).length=min n len*sz:=by
      intro l hl
      have:min n len*sz≤n*sz:=Nat.mul_le_mul_right sz (Nat.min_le_left _ _)
      rw[←hl];simp;omega
    cases hB0:nthB hp b<;>simp only[hB0]at h<;>try exact h.elim
    · rename_i ro k xs
      cases ro<;>simp only at h<;>try exact h.elim
      obtain⟨hxl,h⟩:=h
      split at h
      · rename_i ro' k' ys
        obtain⟨rfl,h⟩:=h
        have hq:VRs σ ((ys.take (min n len*sz)).map (.int k)) (news.take (min n len*sz)):=by
          rw[List.map_take];exact VRs.take _ hBr
        exact key _ _ _ hB0 rfl (by simpa[Blk.vs]using hxl) hq (by have:=htk _ rfl;simpa[Blk.vs]using this) (by simp only[Blk.vs];rw[spl_map]) h
      · have hn0:n*sz=0:=by simpa[Blk.vs]using hBl.symm
        have hm0:min n len*sz=0:=by
          rcases Nat.mul_eq_zero.1 hn0 with h | h
          · simp[h]
          · simp[h]
        have hst:(match ad with
            | some q=>(Go.storeCells q (news.take (min n len*sz))).run P w
            | none=>.ok () w)=.ok () w:=by
          rw[hm0];cases ad<;>simp[Go.storeCells]
        exact⟨_,h,done_val (exe ad len cap' w rfl hst) (post_pure (.int _ _))⟩
      · exact h.elim
    · rename_i ro cs
      cases ro<;>simp only at h<;>try exact h.elim
      obtain⟨hxl,h⟩:=h
      split at h
      · rename_i ro' k' ys
        exact key _ _ _ hB0 rfl (by simpa[Blk.vs]using hxl) (VRs.take _ hBr) (htk _ rfl) rfl h
      · exact key _ _ _ hB0 rfl (by simpa[Blk.vs]using hxl) (VRs.take _ hBr) (htk _ rfl) rfl h
      · exact h.elim

/-! ### Equality of values that are numbers alone -/
def mkv (P:Program) (t:TypeId) (k:IntKind) (xs:List Int):Value :=
  if cells? P t=some none then .int k (getI xs 0)else .agg (xs.map (Value.int k)).toArray

theorem part_mkv {t:TypeId} {k:IntKind} {xs:List Int} {off n:Nat} {m:Option Nat} (hc:cells? P t=some m) (hn:m.getD 1=n) (hl:off+n≤xs.length) (w:World) :
    (Go.part t (xs.map (Value.int k)).toArray off).run P w=.ok (mkv P t k (sub xs off n)) w:=by
  have hcc:=cells_ok hc
  cases m with
  | none =>
    simp at hn;subst hn
    have hg:((xs.map (Value.int k)).toArray)[off]?=some (.int k (getI xs off)):=by simp[getI,show off<xs.length by omega]
    have:getI (sub xs off 1) 0=getI xs off:=by
      have:off<xs.length:=by omega
      simp[getI,sub,this]
    simp only[mkv,hc,if_true,this]
    simp only[Go.part,Sem.run_bind,isAgg_ok hcc.1,Go.Result.andThen_ok,Bool.false_eq_true,if_false,hg]
    rfl
  | some q =>
    simp at hn;subst hn
    obtain⟨i,hi,hi2,hrun⟩:=size_ok hcc.2
    have:((xs.map (Value.int k)).toArray).extract off (off+q)=((sub xs off q).map (Value.int k)).toArray:=by
      apply Array.toList_inj.1
      simp[sub,List.map_take,List.map_drop]
    simp only[mkv,hc,Option.some.injEq,reduceCtorEq,if_false]
    simp only[Go.part,Sem.run_bind,isAgg_ok hcc.1,Go.Result.andThen_ok,if_true,hrun,this];rfl

theorem sub_split {α:Type} (l:List α) (o m r:Nat):sub l o (m+r)=sub l o m++sub l (o+m) r:=by
  simp only[sub,List.take_add,List.drop_drop]
theorem sub_len {α:Type} {l:List α} {o n:Nat} (h:o+n≤l.length):(sub l o n).length=n:=by simp[sub];omega
theorem dec_append {a b c d:List Int} (h:a.length=b.length):decide (a++c=b++d)=(decide (a=b)&&decide (c=d)):=by
  rw[Bool.eq_iff_iff]
  simp only[decide_eq_true_eq,Bool.and_eq_true]
  exact⟨fun e=>List.append_inj e h,fun ⟨e1,e2⟩=>by rw[e1,e2]⟩

def EqFlat (P:Program) (d:Nat) (t:TypeId) (n:Nat):Prop :=
  (∃m,cells? P t=some m∧m.getD 1=n)∧∀dd,d≤dd→∀(w:World) (k:IntKind) (xs ys:List Int),xs.length=n→ys.length=n→(Go.Op.equalIn dd t (mkv P t k xs) (mkv P t k ys)).run P w=.ok (decide (xs=ys)) w

theorem items_flat {d dd:Nat} {e:TypeId} {m:Nat} (he:EqFlat P d e m) (hd:d≤dd) (k:IntKind) (xs ys:List Int) (w:World):∀(r j:Nat),(j+r)*m≤xs.length→(j+r)*m≤ys.length →
    (Go.Op.eqItems dd e m (xs.map (Value.int k)).toArray (ys.map (Value.int k)).toArray (List.range' j r)).run P w=.ok (decide (sub xs (j*m) (r*m)=sub ys (j*m) (r*m))) w
  | 0,j,_,_=>by simp[Go.Op.eqItems,sub]
  | r+1,j,h1,h2=>by
    obtain⟨⟨q,hc,hq⟩,hE⟩:=he
    have e1:(j+(r+1))*m=j*m+m+r*m:=by simp only[Nat.add_mul];omega
    have e2:(j+1+r)*m=(j+(r+1))*m:=by congr 1;omega
    have ih:=items_flat ⟨⟨q,hc,hq⟩,hE⟩ hd k xs ys w r (j+1) (by omega) (by omega)
    simp only[List.range'_succ,Go.Op.eqItems,Sem.run_bind,part_mkv hc hq (show j*m+m≤xs.length by omega),part_mkv hc hq (show j*m+m≤ys.length by omega),Go.Result.andThen_ok,
      hE dd hd w k _ _ (sub_len (show j*m+m≤xs.length by omega)) (sub_len (show j*m+m≤ys.length by omega))]
    have e3:(r+1)*m=m+r*m:=by rw[Nat.add_mul];omega
    rw[e3,sub_split,sub_split,dec_append (by rw[sub_len (by omega),sub_len (by omega)])]
    have e4:(j+1)*m=j*m+m:=by rw[Nat.add_mul];omega
    rw[e4]at ih
    by_cases hh:sub xs (j*m) m=sub ys (j*m) m
    · simp[hh,ih]
    · simp[hh]

theorem fields_flat {d dd:Nat} (g:TypeId→Option Nat) (hg:∀t n,g t=some n→EqFlat P d t n) (hd:d≤dd) (k:IntKind) (xs ys:List Int) (w:World):∀(fs:List Go.Field) (off tot:Nat),flatFields g fs off=some tot→tot≤xs.length→tot≤ys.length→off≤tot ∧
    (Go.Op.eqFields dd (xs.map (Value.int k)).toArray (ys.map (Value.int k)).toArray fs).run P w=.ok (decide (sub xs off (tot-off)=sub ys off (tot-off))) w
  | [],off,tot,h,_,_=>by
    simp[flatFields]at h;subst h
    exact⟨Nat.le_refl _,by simp[Go.Op.eqFields,sub]⟩
  | f::fs,off,tot,h,h1,h2=>by
    simp only[flatFields]at h
    split at h
    · rename_i hf
      obtain⟨hname,hoff⟩:=hf
      obtain⟨m,hm,h⟩:=Option.bind_eq_some_iff.1 h
      obtain⟨hle,ih⟩:=fields_flat g hg hd k xs ys w fs (off+m) tot h h1 h2
      obtain⟨⟨q,hc,hq⟩,hE⟩:=hg _ _ hm
      refine⟨by omega,?_⟩
      simp only[Go.Op.eqFields,hname,ne_eq,not_false_eq_true,if_true,Sem.run_bind,hoff,part_mkv hc hq (show off+m≤xs.length by omega),part_mkv hc hq (show off+m≤ys.length by omega),Go.Result.andThen_ok,
        hE dd hd w k _ _ (sub_len (show off+m≤xs.length by omega)) (sub_len (show off+m≤ys.length by omega))]
      rw[show tot-off=m+(tot-(off+m)) by omega,sub_split,sub_split,dec_append (by rw[sub_len (by omega),sub_len (by omega)])]
      by_cases hh:sub xs off m=sub ys off m
      · simp[hh,ih]
      · simp[hh]
    · simp at h

theorem sub_all {α:Type} {l:List α} {n:Nat} (h:l.length=n):sub l 0 n=l:=by simp[sub,←h]

theorem flat_eq:∀(d:Nat) (t:TypeId) (n:Nat),flatInts P d t=some n→EqFlat P d t n
  | 0,t,n,h=>by simp[flatInts]at h
  | d+1,t,n,h=>by
    simp only[flatInts]at h
    split at h
    · rename_i k' hu
      split at h
      · rename_i hc
        simp at h;subst h
        refine⟨⟨none,hc,rfl⟩,fun dd hdd w k xs ys hx hy=>?_⟩
        obtain⟨dd,rfl⟩:∃q,dd=q+1:=⟨dd-1,by omega⟩
        obtain⟨x,rfl⟩:=List.length_eq_one_iff.1 hx
        obtain⟨y,rfl⟩:=List.length_eq_one_iff.1 hy
        simp only[mkv,hc,if_true]
        rw[Go.run_equalIn_int w dd t k k' _ _ hu]
        by_cases e:x=y<;>simp[getI,e]
      · simp at h
    · rename_i q e hu
      obtain⟨m,hm,h⟩:=Option.bind_eq_some_iff.1 h
      split at h
      · rename_i hh
        simp at h;subst h
        have ih:=flat_eq d e m hm
        refine⟨⟨some (q*m),hh.1,rfl⟩,fun dd hdd w k xs ys hx hy=>?_⟩
        obtain⟨dd,rfl⟩:∃q,dd=q+1:=⟨dd-1,by omega⟩
        obtain⟨i,hi,hi2,-⟩:=size_ok hh.2
        have hcells:P.cellsOf e=m:=by simp[Go.Program.cellsOf,hi,hi2]
        simp only[mkv,hh.1,Option.some.injEq,reduceCtorEq,if_false]
        rw[Go.run_equalIn_array w dd _ _ hu hi,hcells,List.range_eq_range',items_flat ih (by omega) k xs ys w q 0 (by simp;omega) (by simp;omega)]
        simp only[Nat.zero_mul,sub_all hx,sub_all hy]
      · simp at h
    · rename_i fs hu
      split at h
      · simp at h
      · rename_i hst
        obtain⟨m,hm,h⟩:=Option.bind_eq_some_iff.1 h
        split at h
        · rename_i hh
          simp at h;subst h
          refine⟨⟨some m,hh,rfl⟩,fun dd hdd w k xs ys hx hy=>?_⟩
          obtain⟨dd,rfl⟩:∃q,dd=q+1:=⟨dd-1,by omega⟩
          have hfs:P.fieldsOf t=fs:=by simp[Go.Program.fieldsOf,hu]
          simp only[mkv,hh,Option.some.injEq,reduceCtorEq,if_false]
          rw[Go.run_equalIn_struct w dd t _ _ (by rw[hfs];exact hu) (by simpa using hst),hfs]
          obtain⟨-,hr⟩:=fields_flat (dd:=dd) (flatInts P d) (fun t n h=>flat_eq d t n h) (by omega) k xs ys w fs.toList 0 m hm (by omega) (by omega)
          rw[hr]
          simp only[Nat.sub_zero,sub_all hx,sub_all hy]
        · simp at h
    · simp at h

theorem good_eqf {op:BinOp} {neg:Bool} {t ty:TypeId} {n:Nat} {x y:Operand} {x' y':X} (ho:o.op=.binOp op t x y ty) (hop:op=if neg then .neq else .eql) (hf:flatInts P 8 t=some n) (hg:P.eqGuardType P.depth t=false)
    (hagg:∃m,cells? P t=some (some m)) (hx:VR σ (ρ x') (a.eval x)) (hy:VR σ (ρ y') (a.eval y)) (h:exec S ρ hp (.eqf neg n x' y') K):∃e,K e∧Done P Own σ hp w a o Q e:=by
  simp only[exec]at h
  generalize hX:ρ x'=X at h hx
  generalize hxv:a.eval x=xv at hx
  generalize hY:ρ y'=Y at h hy
  generalize hyv:a.eval y=yv at hy
  cases X<;>simp only at h<;>try exact h.elim
  cases Y<;>simp only at h<;>try exact h.elim
  obtain⟨⟨rfl,hl1,hl2⟩,h⟩:=h
  rename_i k xs ys
  cases hx;cases hy
  obtain⟨m,hm⟩:=hagg
  have hE:=(flat_eq 8 t n hf).2 10000 (by omega) w k xs ys hl1 hl2
  simp only[mkv,hm,Option.some.injEq,reduceCtorEq,if_false]at hE
  have hgd:=fun op=>Go.run_eqGuard_agg (P:=P) w op t x y (xs.map (Value.int k)).toArray (ys.map (Value.int k)).toArray hg
  cases neg
  · simp only at h
    simp only[Bool.false_eq_true,if_false]at hop
    subst hop
    refine⟨_,h,done_pure (v':=.bool (decide (xs=ys))) ?_ (.bool _)⟩
    simp only[execOp,ho,hxv,hyv,Sem.run_bind,hgd,Go.Result.andThen_ok,Go.run_eql_struct,hE,Sem.run_pure]
  · simp only at h
    simp only[if_true]at hop
    subst hop
    refine⟨_,h,done_pure (v':=.bool (!decide (xs=ys))) ?_ (.bool _)⟩
    simp only[execOp,ho,hxv,hyv,Sem.run_bind,hgd,Go.Result.andThen_ok,Go.run_neq_struct,hE,Sem.run_pure]
end
end Am
