/-
Each operation of the small language does what the model's operation does: moves, new blocks, loads, stores.
-/
import Derived.Test.YtcefobjfkmfmiaaDoorAmDef
import Derived.Laws.Tables
import Derived.Orders
import Derived.Laws.Entries
import Derived.Laws.Small
import Derived.Laws.Strings
import Derived.Laws.BytesArg
import Derived.Laws.Externs
import Derived.KernelRfl
set_option linter.unusedSimpArgs false
set_option linter.unusedVariables false
set_option linter.unusedSectionVars false
namespace Am
open Go (IntKind BinOp UnOp Value FuncId TypeId World Program Oper Op Operand Code Func ResultVar Addr Obj Act Exit Sem Result Next execOp)

def Done (P:Program) (Own:Nat→Nat→Prop) (σ:Sg) (hp:List Blk) (w:World) (a:Act) (o:Oper) (Q:Exit→Act→World→Prop) (e:Ef):Prop :=
  o.wp P a w (fun a' w'=>∃v' σ',a'=a.put o.dst v'∧Post Own σ (nthB hp) hp.length e w v' w' σ') Q

section
variable {P : Program} {Own : Nat → Nat → Prop} {σ : Sg} {hp : List Blk} {w : World} {a : Act} {o : Oper} {Q : Exit → Act → World → Prop} {e : Ef}

theorem done_val {v':Value} {w':World} {σ':Sg} (h:(execOp a.eval o).run P w=.ok (.value v') w') (hp':Post Own σ (nthB hp) hp.length e w v' w' σ'):Done P Own σ hp w a o Q e:=by
  unfold Done Oper.wp
  rw[h]
  exact⟨v',σ',rfl,hp'⟩
theorem done_skip {w':World} {σ':Sg} (h:(execOp a.eval o).run P w=.ok .skip w') (hp':Post Own σ (nthB hp) hp.length e w Go.undef w' σ'):Done P Own σ hp w a o Q e:=by
  unfold Done Oper.wp
  rw[h]
  exact⟨Go.undef,σ',rfl,hp'⟩
theorem done_pure {v:V} {v':Value} (h:(execOp a.eval o).run P w=.ok (.value v') w) (hv:VR σ v v'):Done P Own σ hp w a o Q ⟨v,[],[]⟩ :=
  done_val h (post_pure hv)
end

/-! ### Constants -/
theorem allInts_ok:∀{k:IntKind} {l:List Value} {xs:List Int},allInts k l=some xs→l=xs.map (Value.int k)
  | k,[],xs,h=>by simp[allInts]at h;subst h;rfl
  | k,v::r,xs,h=>by
    cases v<;>simp only[allInts,reduceCtorEq]at h
    case int k' n =>
      split at h
      · rename_i hk;subst hk
        obtain⟨ys,hy,rfl⟩:=Option.map_eq_some_iff.1 h
        simp[allInts_ok hy]
      · simp at h
theorem ofCell_ok {σ:Sg} {v:Value} {a:V} (h:ofCell v=some a):VR σ a v∧v.oneCell'=true:=by
  unfold ofCell at h
  split at h<;>simp at h<;>subst h
  · exact⟨.bool _,rfl⟩
  · exact⟨.int _ _,rfl⟩
  · exact⟨.str _,rfl⟩
  · exact⟨.nilp,rfl⟩
  · exact⟨.nils,rfl⟩
  · exact⟨.nilfn,rfl⟩
  · exact⟨.nili,rfl⟩
theorem ofCells_ok {σ:Sg}:∀{l:List Value} {m:List V},ofCells l=some m→VRs σ m l∧∀v∈l,v.oneCell'=true
  | [],m,h=>by simp[ofCells]at h;subst h;exact⟨.nil,by simp⟩
  | v::l,m,h=>by
    simp only[ofCells]at h
    obtain⟨a,ha,h⟩:=Option.bind_eq_some_iff.1 h
    obtain⟨m',hm,rfl⟩:=Option.map_eq_some_iff.1 h
    obtain⟨h1,h2⟩:=ofCell_ok (σ:=σ) ha
    obtain⟨h3,h4⟩:=ofCells_ok (σ:=σ) hm
    refine⟨.cons h1 h3,?_⟩
    intro u hu
    simp at hu
    rcases hu with rfl | hu
    · exact h2
    · exact h4 u hu
theorem ofAgg_ok {σ:Sg} {cs:Array Value} {a:V} (h:ofAgg cs.toList=some a):VR σ a (.agg cs):=by
  unfold ofAgg at h
  split at h
  · rename_i k n r he
    split at h
    · rename_i xs hx
      simp at h;subst h
      have:cs=((n::xs).map (Value.int k)).toArray:=by
        apply Array.toList_inj.1
        rw[he,allInts_ok hx];simp
      rw[this]
      exact .ints k (n::xs)
    · obtain⟨m,hm,rfl⟩:=Option.map_eq_some_iff.1 h
      rw[←he]at hm
      obtain⟨h1,h2⟩:=ofCells_ok (σ:=σ) hm
      exact .agg h1 h2
  · obtain⟨m,hm,rfl⟩:=Option.map_eq_some_iff.1 h
    obtain⟨h1,h2⟩:=ofCells_ok (σ:=σ) hm
    exact .agg h1 h2
theorem ofValue_ok {σ:Sg} {v:Value} {a:V} (h:ofValue v=some a):VR σ a v:=by
  unfold ofValue at h
  split at h
  · exact ofAgg_ok h
  · simp at h;subst h;exact .tup .nil
  · exact(ofCell_ok h).1

section
variable {P : Program} {Own : Nat → Nat → Prop} {σ : Sg} {hp : List Blk} {w : World} {a : Act} {o : Oper} {Q : Exit → Act → World → Prop} {S : FuncId → Summ} {ρ : X → V} {K : Ef → Prop}

theorem good_mov {x:Operand} {y:X} (ho:o.op=.move x∨o.op=.assign x) (hv:VR σ (ρ y) (a.eval x)) (h:exec S ρ hp (.mov y) K):∃e,K e∧Done P Own σ hp w a o Q e:=by
  simp only[exec]at h
  refine⟨_,h,done_pure (v':=a.eval x) ?_ hv⟩
  rcases ho with ho | ho<;>simp[execOp,ho]

theorem good_pick {c x y:Operand} {c' x' y':X} (ho:o.op=.pick c x y) (hc:VR σ (ρ c') (a.eval c)) (hx:VR σ (ρ x') (a.eval x)) (hy:VR σ (ρ y') (a.eval y))
    (h:exec S ρ hp (.pick c' x' y') K):∃e,K e∧Done P Own σ hp w a o Q e:=by
  simp only[exec]at h
  cases hq:ρ c'<;>simp only[hq]at h<;>try exact h.elim
  rename_i b
  rw[hq]at hc
  generalize hcv:a.eval c=cv at hc
  cases hc
  cases b
  · exact⟨_,h.2 rfl,done_pure (v':=a.eval y) (by simp[execOp,ho,hcv,Go.asBool]) hy⟩
  · exact⟨_,h.1 rfl,done_pure (v':=a.eval x) (by simp[execOp,ho,hcv,Go.asBool]) hx⟩

/-- A new variable. -/
theorem post_box {t:TypeId} {v:V} {v':Value} {B:Blk} (hs:Sim Own σ (nthB hp) w) (hv:VR σ v v') (hB:mkB v=some B) (hfree:σ hp.length=none) :
    ∃σ',Post Own σ (nthB hp) hp.length ⟨.ptr hp.length 0,[],[B]⟩ w (.pointer (some ⟨w.heap.size,0,none⟩)) (w.alloc (.cells v'.cells t)) σ':=by
  obtain⟨h1,h2,h3,h4⟩:=mkB_ok hv hB
  have htake:v'.cells.toList.take B.vs.length=v'.cells.toList:=List.take_of_length_le (by simp;omega)
  refine⟨σ.set hp.length ⟨w.heap.size,0,v'.cells.size⟩,post_new (l:=⟨w.heap.size,0,v'.cells.size⟩) (fr:=(0,0)) hs.new hfree (fun F=>Kept.refl F w) (fun F=>Kept.alloc F w _)
    (Go.heap_alloc_new w _) rfl rfl (Nat.le_refl _) (.inl rfl) (by simp only[];omega) (by rw[htake];exact h3) (by rw[htake];exact h4) ?_⟩
  have:=VR.ptr (σ:=σ.set hp.length ⟨w.heap.size,0,v'.cells.size⟩) (b:=hp.length) (o:=0) (Sg.set_same _ _ _)
  simpa using this

theorem zero_ok {t:TypeId} {z:V} (hz:zero? P t=some z):∃i v,P.info? t=some i∧i.zero=some v∧ofValue v=some z∧∀w,(Go.zeroValue t).run P w=.ok v w:=by
  unfold zero? at hz
  obtain⟨i,hi,hz⟩:=Option.bind_eq_some_iff.1 hz
  obtain⟨v,hv,hz⟩:=Option.bind_eq_some_iff.1 hz
  exact⟨i,v,hi,hv,hz,fun w=>by simp[Go.zeroValue,Go.typeInfo,hi,hv]⟩
theorem size_ok {t:TypeId} {n:Nat} (h:size? P t=some n):∃i,P.info? t=some i∧i.size=n∧∀w,(Go.sizeOf t).run P w=.ok n w:=by
  unfold size? at h
  obtain⟨i,hi,rfl⟩:=Option.map_eq_some_iff.1 h
  exact⟨i,hi,rfl,fun w=>by simp[Go.sizeOf,Go.typeInfo,hi]⟩
theorem under_ok {t:TypeId} {d:Go.TypeDesc} (h:P.underlying t=some d):∀w,(Go.underlying t).run P w=.ok d w:=fun w=>Go.run_underlying h w
theorem isAgg_ok {t:TypeId} {b:Bool} (h:isAgg? P t=some b):∀w,(Go.isAgg t).run P w=.ok b w:=by
  intro w
  unfold isAgg? at h
  obtain⟨d,hd,hb⟩:=Option.map_eq_some_iff.1 h
  unfold Go.isAgg
  rw[Sem.run_bind,Go.run_underlying hd w]
  cases d<;>simp_all
theorem cells_ok {t:TypeId} {m:Option Nat} (h:cells? P t=some m):match m with
    | none=>isAgg? P t=some false∧size? P t=some 1
    | some n=>isAgg? P t=some true∧size? P t=some n:=by
  unfold cells? at h
  obtain⟨b,hb,h⟩:=Option.bind_eq_some_iff.1 h
  cases b
  · simp only[Bool.false_eq_true,if_false]at h
    split at h
    · rename_i h1;simp at h;subst h;exact⟨hb,h1⟩
    · simp at h
  · simp only[if_true]at h
    obtain⟨n,hn,rfl⟩:=Option.map_eq_some_iff.1 h
    exact⟨hb,hn⟩

theorem good_alloc {t:TypeId} {z:V} (ho:o.op=.alloc t) (hz:zero? P t=some z) (hs:Sim Own σ (nthB hp) w) (hfr:∀e,K e→∀j,j<e.nw.length→σ (hp.length+j)=none)
    (h:exec S ρ hp (.alloc z) K):∃e,K e∧Done P Own σ hp w a o Q e:=by
  simp only[exec]at h
  obtain⟨i,v,hi,hv,hz',hrun⟩:=zero_ok hz
  cases hB:mkB z with
  | none=>simp only[hB]at h
  | some B =>
    simp only[hB]at h
    obtain⟨σ',hp'⟩:=post_box (t:=t) hs (ofValue_ok (σ:=σ) hz') hB (hfr _ h 0 (by simp))
    exact⟨_,h,done_val (by simp[execOp,ho,Go.Instr.alloc,hrun,Go.newVar,Go.newRow]) hp'⟩

theorem good_box {t:TypeId} {x:Operand} {y:X} (ho:o.op=.box t x) (hv:VR σ (ρ y) (a.eval x)) (hs:Sim Own σ (nthB hp) w) (hfr:∀e,K e→∀j,j<e.nw.length→σ (hp.length+j)=none)
    (h:exec S ρ hp (.box y) K):∃e,K e∧Done P Own σ hp w a o Q e:=by
  simp only[exec]at h
  cases hB:mkB (ρ y)with
  | none=>simp only[hB]at h
  | some B =>
    simp only[hB]at h
    obtain⟨σ',hp'⟩:=post_box (t:=t) hs hv hB (hfr _ h 0 (by simp))
    exact⟨_,h,done_val (by simp[execOp,ho,Go.Instr.box,Go.newVar,Go.newRow]) hp'⟩

/-- What a load finds: one cell. -/
theorem load_one {t:TypeId} {b c:Nat} {v:Value} {B:Blk} (hc:cells? P t=some none) (hs:Sim Own σ (nthB hp) w) (hv:VR σ (.ptr b c) v) (hB:nthB hp b=B) (h:c<B.vs.length) :
    ∃l u,v=.pointer (some ⟨l.blk,l.off+c,none⟩)∧σ b=some l∧(Go.loadVar t ⟨l.blk,l.off+c,none⟩).run P w=.ok u w∧VR σ (nth B.vs c) u:=by
  cases hv
  rename_i l hb
  obtain⟨cs,e,fr,h1,h2,h3,u,hu,hr,-⟩:=hs.at hb hB h
  refine⟨l,u,rfl,hb,?_,hr⟩
  have hcell:w.cell? ⟨l.blk,l.off+c,none⟩=some u:=by rw[Go.cell_of_row w _ _ cs e fr h1];exact hu
  simp[Go.loadVar,isAgg_ok (cells_ok hc).1,hcell]
theorem load_row {t:TypeId} {b c n:Nat} {v:Value} {B:Blk} (hc:cells? P t=some (some n)) (hs:Sim Own σ (nthB hp) w) (hv:VR σ (.ptr b c) v) (hB:nthB hp b=B) (hlive:B.live=true) (h:c+n≤B.vs.length) :
    ∃l us,v=.pointer (some ⟨l.blk,l.off+c,none⟩)∧σ b=some l∧(Go.loadVar t ⟨l.blk,l.off+c,none⟩).run P w=.ok (.agg us) w∧VRs σ (sub B.vs c n) us.toList∧∀u∈us.toList,u.oneCell'=true:=by
  cases hv
  rename_i l hb
  have hsz:=(cells_ok hc).2
  obtain⟨i,hi,rfl,hrun⟩:=size_ok hsz
  by_cases h0:0<l.size
  · obtain⟨cs,e,fr,h1,h2,h3,vs,hvs,hl,hr,ho,hcell⟩:=hs.row hb hB h h0 hlive
    refine⟨l,vs.toArray,rfl,hb,?_,by simpa using hr,by simpa using ho⟩
    have:=Go.run_loadCells_list (P:=P) w ⟨l.blk,l.off+c,none⟩ vs (fun j v hj=>by rw[Addr_add];exact hcell j v hj)
    rw[hl]at this
    simp[Go.loadVar,isAgg_ok (cells_ok hc).1,hrun,this]
  · have hB0:B.vs.length=0:=by
      have:=(hs.blk b l hb).len
      rw[hB]at this;omega
    have hi0:i.size=0:=by omega
    refine⟨l,#[],rfl,hb,?_,?_,by simp⟩
    · simp[Go.loadVar,isAgg_ok (cells_ok hc).1,hrun,hi0,Go.loadCells,Go.loadCellsFrom]
    · have:sub B.vs c i.size=[]:=by simp[sub,hi0]
      rw[this];exact .nil

theorem nth_map_int (k:IntKind) (xs:List Int) (i:Nat) (h:i<xs.length):nth (xs.map (.int k)) i=.int k (getI xs i):=by
  rw[nth_get];simp[h,getI]
theorem sub_map {α β:Type} (f:α→β) (l:List α) (o n:Nat):sub (l.map f) o n=(sub l o n).map f:=by simp[sub]

theorem stat_cell (hs:Sim Own σ (nthB hp) w) {k j:Nat} {v:Value} (h:σ.stat k j v):w.cell? ⟨k,j,none⟩=some v:=by
  obtain⟨⟨c,e,fr,h1,h2⟩,-⟩:=hs.stat k j v h
  rw[Go.cell_of_row w _ _ c e fr h1];exact h2
theorem sub_get {α:Type} (l:List α) (o n j:Nat):(sub l o n)[j]?=if j<n then l[o+j]? else none:=by
  simp only[sub,List.getElem?_take,List.getElem?_drop]
theorem sub_len' {α:Type} {l:List α} {o n:Nat} (h:o+n≤l.length):(sub l o n).length=n:=by simp[sub];omega
theorem VRs.sub {l:List V} {m:List Value} (h:VRs σ l m) (o n:Nat):VRs σ (sub l o n) (sub m o n):=(h.drop o).take n
/-- A row of known cells, loaded. -/
theorem stat_row {t:TypeId} {n blk off o:Nat} {vs:List Value} (hc:cells? P t=some (some n)) (hs:Sim Own σ (nthB hp) w) (hx:∀(j:Nat) v,vs[j]?=some v→σ.stat blk (off+j) v) (h:o+n≤vs.length) :
    (Go.loadVar t ⟨blk,off+o,none⟩).run P w=.ok (.agg (sub vs o n).toArray) w∧∀u∈sub vs o n,u.oneCell'=true:=by
  obtain⟨i,hi,rfl,hrun⟩:=size_ok (cells_ok hc).2
  have hl:(sub vs o i.size).length=i.size:=sub_len' h
  have hat:∀(j:Nat) v,(sub vs o i.size)[j]?=some v→σ.stat blk (off+o+j) v:=by
    intro j v hj
    rw[sub_get]at hj
    split at hj
    · rw[Nat.add_assoc];exact hx _ _ hj
    · simp at hj
  refine⟨?_,fun u hu=>?_⟩
  · have:=Go.run_loadCells_list (P:=P) w ⟨blk,off+o,none⟩ (sub vs o i.size) (fun j v hj=>by rw[Addr_add];exact stat_cell hs (hat j v hj))
    rw[hl]at this
    simp[Go.loadVar,isAgg_ok (cells_ok hc).1,hrun,this]
  · obtain⟨j,hj⟩:=List.getElem?_of_mem hu
    exact(hs.stat _ _ _ (hat j u hj)).2.1
theorem stat_one {t:TypeId} {blk off o:Nat} {v:Value} (hc:cells? P t=some none) (hs:Sim Own σ (nthB hp) w) (hx:σ.stat blk (off+o) v) :
    (Go.loadVar t ⟨blk,off+o,none⟩).run P w=.ok v w:=by
  simp[Go.loadVar,isAgg_ok (cells_ok hc).1,stat_cell hs hx]

theorem good_load {t:TypeId} {x:Operand} {y:X} (ho:o.op=.load t x) (hc:cells? P t=some none) (hv:VR σ (ρ y) (a.eval x)) (hs:Sim Own σ (nthB hp) w)
    (h:exec S ρ hp (.load y) K):∃e,K e∧Done P Own σ hp w a o Q e:=by
  simp only[exec]at h
  cases hq:ρ y<;>simp only[hq]at h<;>try exact h.elim
  case rpi k xs o' =>
    rw[hq]at hv
    generalize hxv:a.eval x=xv at hv
    cases hv
    rename_i blk off hx
    refine⟨_,h.2,done_pure (v':=.int k (getI xs o')) ?_ (.int _ _)⟩
    have:=stat_one hc hs (hx o' (getI xs o') (by simp[getI,h.1]))
    simp[execOp,ho,hxv,Go.Instr.loadAt,Go.Instr.sureAddr,this]
  case rpc cs o' =>
    rw[hq]at hv
    generalize hxv:a.eval x=xv at hv
    cases hv
    rename_i vs blk off hx hp' hvs
    obtain⟨u,hu,hr⟩:=hvs.get (nth_some h.1)
    refine⟨_,h.2,done_pure (v':=u) ?_ hr⟩
    have:=stat_one hc hs (hx o' u hu)
    simp[execOp,ho,hxv,Go.Instr.loadAt,Go.Instr.sureAddr,this]
  rename_i b c
  rw[hq]at hv
  have key:∀(B:Blk),nthB hp b=B→c<B.vs.length→K ⟨nth B.vs c,[],[]⟩→∃e,K e∧Done P Own σ hp w a o Q e:=by
    intro B hB hc' hk
    obtain⟨l,u,hp1,hb,hrun,hr⟩:=load_one hc hs hv hB hc'
    exact⟨_,hk,done_pure (v':=u) (by simp[execOp,ho,hp1,Go.Instr.loadAt,Go.Instr.sureAddr,hrun]) hr⟩
  cases hB:nthB hp b<;>simp only[hB]at h<;>try exact h.elim
  · exact key _ hB (by simpa[Blk.vs]using h.1) (by simpa[Blk.vs,nth_map_int _ _ _ h.1]using h.2)
  · exact key _ hB (by simpa[Blk.vs]using h.1) (by simpa[Blk.vs]using h.2)

theorem VRs_ints {k:IntKind} {xs:List Int} {us:List Value} (h:VRs σ (xs.map (.int k)) us):us=xs.map (Value.int k):=by
  induction xs generalizing us with
  | nil=>cases h;rfl
  | cons x xs ih =>
    simp only[List.map_cons]at h
    cases h with
    | cons h t=>cases h;simp[ih t]

theorem allI_some {k:IntKind}:∀{cs:List V} {xs:List Int},allI k cs=some xs→cs=xs.map (.int k)
  | [],xs,h=>by simp[allI]at h;subst h;rfl
  | c::cs,xs,h=>by
    cases c<;>simp only[allI,reduceCtorEq]at h
    rename_i k' n
    split at h
    · rename_i hk
      subst hk
      obtain⟨ys,hy,rfl⟩:=Option.map_eq_some_iff.1 h
      rw[allI_some hy];rfl
    · cases h
theorem vr_agI {σ:Sg} {cs:List V} {us:Array Value} (h:VRs σ cs us.toList) (h1:∀v∈us.toList,v.oneCell'=true):VR σ (agI cs) (.agg us):=by
  have hag:VR σ (.agg cs) (.agg us):=.agg h h1
  unfold agI
  split
  · rename_i k n r
    split
    · rename_i xs hx
      rw[allI_some hx]at h
      have he:=VRs_ints h
      have:us=(xs.map (Value.int k)).toArray:=by apply Array.toList_inj.1;simpa using he
      rw[this];exact .ints k _
    · exact hag
  · exact hag
theorem good_loadN {t:TypeId} {n:Nat} {x:Operand} {y:X} (ho:o.op=.load t x) (hc:cells? P t=some (some n)) (hv:VR σ (ρ y) (a.eval x)) (hs:Sim Own σ (nthB hp) w)
    (h:exec S ρ hp (.loadN n y) K):∃e,K e∧Done P Own σ hp w a o Q e:=by
  simp only[exec]at h
  cases hq:ρ y<;>simp only[hq]at h<;>try exact h.elim
  case rpi k xs o' =>
    rw[hq]at hv
    generalize hxv:a.eval x=xv at hv
    cases hv
    rename_i blk off hx
    obtain⟨hrun,-⟩:=stat_row (vs:=xs.map (Value.int k)) (o:=o') hc hs (fun j v hj=>by
      simp only[List.getElem?_map,Option.map_eq_some_iff]at hj
      obtain⟨y,hy,rfl⟩:=hj
      exact hx j y hy) (by simpa using h.1)
    rw[sub_map]at hrun
    exact⟨_,h.2,done_pure (v':=.agg _) (by simp[execOp,ho,hxv,Go.Instr.loadAt,Go.Instr.sureAddr,hrun]) (.ints k _)⟩
  case rpc cs o' =>
    rw[hq]at hv
    generalize hxv:a.eval x=xv at hv
    cases hv
    rename_i vs blk off hx hp' hvs
    obtain⟨hrun,h1⟩:=stat_row (vs:=vs) (o:=o') hc hs hx (by rw[←hvs.length];exact h.1)
    exact⟨_,h.2,done_pure (v':=.agg (sub vs o' n).toArray) (by simp[execOp,ho,hxv,Go.Instr.loadAt,Go.Instr.sureAddr,hrun]) (vr_agI (by simpa using hvs.sub o' n) (by simpa using h1))⟩
  rename_i b c
  rw[hq]at hv
  cases hB:nthB hp b<;>simp only[hB]at h<;>try exact h.elim
  · rename_i ro k xs
    obtain⟨l,us,hp1,hb,hrun,hr,h1⟩:=load_row (n:=n) hc hs hv hB rfl (by simpa[Blk.vs]using h.1)
    simp only[Blk.vs,sub_map]at hr
    have he:=VRs_ints hr
    refine⟨_,h.2,done_pure (v':=.agg us) (by simp[execOp,ho,hp1,Go.Instr.loadAt,Go.Instr.sureAddr,hrun]) ?_⟩
    have:us=((sub xs c n).map (Value.int k)).toArray:=by apply Array.toList_inj.1;simpa using he
    rw[this];exact .ints k _
  · rename_i ro cs
    obtain⟨l,us,hp1,hb,hrun,hr,h1⟩:=load_row (n:=n) hc hs hv hB rfl (by simpa[Blk.vs]using h.1)
    simp only[Blk.vs]at hr
    exact⟨_,h.2,done_pure (v':=.agg us) (by simp[execOp,ho,hp1,Go.Instr.loadAt,Go.Instr.sureAddr,hrun]) (vr_agI hr h1)⟩
end
end Am
/-
Each operation of the small language does what the model's operation does: stores, arithmetic.
-/
namespace Am
open Go (IntKind BinOp UnOp Value FuncId TypeId World Program Oper Op Operand Code Func ResultVar Addr Obj Act Exit Sem Result Next execOp)

theorem spl_get {α:Type} (l:List α) (o:Nat) (m:List α) (h:o+m.length≤l.length) (j:Nat):(spl l o m)[j]?=if o≤j∧j<o+m.length then m[j-o]? else l[j]?:=by
  have hl:(l.take o).length=o:=by simp;omega
  unfold spl
  by_cases h1:j<o
  · rw[List.getElem?_append_left (by omega),if_neg (by omega)];simp[h1]
  · rw[List.getElem?_append_right (by omega),hl]
    by_cases h2:j<o+m.length
    · rw[List.getElem?_append_left (by omega),if_pos (by omega)]
    · rw[List.getElem?_append_right (by omega),if_neg (by omega)]
      simp only[List.getElem?_drop]
      congr 1
      omega
theorem spl_length {α:Type} (l:List α) (o:Nat) (m:List α) (h:o+m.length≤l.length):(spl l o m).length=l.length:=by
  simp[spl];omega
theorem spl_map {α β:Type} (f:α→β) (l:List α) (o:Nat) (m:List α):(spl l o m).map f=spl (l.map f) o (m.map f):=by simp[spl]
theorem set_spl {α:Type} (l:List α) (o:Nat) (v:α) (h:o<l.length):l.set o v=spl l o [v]:=by
  apply List.ext_getElem?
  intro j
  rw[spl_get _ _ _ (by simp;omega),List.getElem?_set]
  simp only[List.length_singleton]
  by_cases e:o=j
  · subst e;simp[h]
  · rw[if_neg e,if_neg (by omega)]

def V.one:V→Prop
  | .agg _=>False
  | .ints _ _=>False
  | .tup _=>False
  | .undef=>False
  | _=>True
theorem one_of {σ:Sg} {x:V} {v:Value} (h:VR σ x v) (hx:x.one):v.oneCell'=true∧v.cells=#[v]:=by
  cases h<;>simp_all [Value.oneCell',Value.cells,V.one]

section
variable {P : Program} {Own : Nat → Nat → Prop} {σ : Sg} {hp : List Blk} {w : World} {a : Act} {o : Oper} {Q : Exit → Act → World → Prop} {S : FuncId → Summ} {ρ : X → V} {K : Ef → Prop}

/-- Cells of a block of one's own are written. -/
theorem post_set {b:Nat} {l:Loc} {B B':Blk} {c:Nat} {nv:List V} {news:List Value} {v:V} {v':Value} {cs:Array Value} {e:TypeId} {fr:Nat×Nat}
    (hs:Sim Own σ (nthB hp) w) (hb:σ b=some l) (hB:nthB hp b=B) (hwr:B.wr=true) (hrow:w.heap[l.blk]?=some (.cells cs e fr)) (h0:0<l.size)
    (hc:c+nv.length≤B.vs.length) (hB':B'.vs=spl B.vs c nv) (hn:VRs σ nv news) (h1:∀u∈news,u.oneCell'=true) (hv:VR σ v v') :
    Post Own σ (nthB hp) hp.length ⟨v,[(b,B')],[]⟩ w v' (w.setRow l.blk (laidA cs (l.off+c) news)) σ:=by
  subst hB
  have hbk:=hs.blk b l hb
  obtain⟨cs',e',fr',r1,r2,r3,r4⟩:=hbk.row (Blk.live_of_wr hwr) h0
  rw[hrow]at r1
  simp only[Option.some.injEq,Obj.cells.injEq]at r1
  obtain⟨rfl,rfl,rfl⟩:=r1
  have hnl:=hn.length
  have hlen:=hbk.len
  have hin:l.off+c+news.length≤cs.size:=by omega
  have hrow':=Go.setRow_heap w l.blk cs (laidA cs (l.off+c) news) e fr hrow
  refine⟨Sg.le_refl σ,fun _ _=>rfl,hv,by simp,by simpa using⟨l,hb⟩,by simpa using hwr,?_,?_,by simp,fun j j' l l' _ h=>by simp at h⟩
  · refine kept_setRow hrow (laidA_size _ _ _ hin) fun j hF=>?_
    rw[laidA_get _ _ _ hin]
    split
    · rename_i hj
      exact absurd ⟨(b,B'),by simp,l,hb,rfl,by omega,by omega⟩ hF
    · rfl
  · intro p hp' l' hl'
    simp only[List.mem_singleton]at hp'
    subst hp'
    rw[hb]at hl'
    obtain rfl:=Option.some.inj hl'
    refine⟨by rw[hB',spl_length _ _ _ hc];exact hlen,fun _ _=>⟨_,e,fr,hrow',by rw[laidA_size _ _ _ hin];exact r2,?_,fun _=>by rw[laidA_size _ _ _ hin];exact r4 hwr⟩⟩
    intro j x hx
    rw[hB',spl_get _ _ _ hc]at hx
    rw[laidA_get _ _ _ hin]
    split at hx
    · rename_i hj
      rw[if_pos (by omega),show l.off+j-(l.off+c)=j-c by omega]
      obtain⟨u,hu,hr⟩:=hn.get hx
      exact⟨u,hu,hr,h1 u (List.mem_of_getElem? hu)⟩
    · rename_i hj
      rw[if_neg (by omega)]
      exact r3 j x hx

/-- A store of so many cells. -/
theorem store_row {t:TypeId} {b c n:Nat} {v u:Value} {B B':Blk} {nv:List V} (hsz:size? P t=some n) (hs:Sim Own σ (nthB hp) w) (hv:VR σ (.ptr b c) v) (hB:nthB hp b=B) (hwr:B.wr=true)
    (hc:c+nv.length≤B.vs.length) (hB':B'.vs=spl B.vs c nv) (hn:VRs σ nv u.cells.toList) (h1:∀x∈u.cells.toList,x.oneCell'=true) (hnn:nv.length=n) (h0:0<B.vs.length) :
    ∃w',(Go.Instr.storeAt t v u).run P w=.ok () w'∧Post Own σ (nthB hp) hp.length ⟨.undef,[(b,B')],[]⟩ w Go.undef w' σ:=by
  cases hv
  rename_i l hb
  have hbk:=hs.blk b l hb
  rw[hB]at hbk
  have hlen:=hbk.len
  obtain⟨cs,e,fr,r1,r2,r3,r4⟩:=hbk.row (Blk.live_of_wr hwr) (by omega)
  obtain⟨i,hi,hi2,-⟩:=size_ok hsz
  have hcz:u.cells.size=n:=by have:=hn.length;simp at this;omega
  refine⟨_,?_,post_set hs hb hB hwr r1 (by omega) hc hB' hn h1 (.undef _)⟩
  have:=run_storeVar_fr P t l.blk (l.off+c) e fr u cs w (by simp[hi,hi2,hcz]) r1 (by omega) (fun j hj hj'=>(r4 hwr).2.not j (by omega)) h1
  simpa[Go.Instr.storeAt,Go.Instr.sureAddr]using this

theorem good_store {t:TypeId} {x y:Operand} {x' y':X} (ho:o.op=.store t x y) (hc:cells? P t=some none) (hx:VR σ (ρ x') (a.eval x)) (hy:VR σ (ρ y') (a.eval y)) (hs:Sim Own σ (nthB hp) w)
    (h:exec S ρ hp (.store x' y') K):∃e,K e∧Done P Own σ hp w a o Q e:=by
  simp only[exec]at h
  cases hq:ρ x'<;>simp only[hq]at h<;>try exact h.elim
  rename_i b c
  rw[hq]at hx
  have key:∀(B B':Blk) (d:V),nthB hp b=B→B.wr=true→c<B.vs.length→B'.vs=spl B.vs c [d]→VR σ d (a.eval y) →
      d.one→K ⟨.undef,[(b,B')],[]⟩→∃e,K e∧Done P Own σ hp w a o Q e:=by
    intro B B' d hB hwr hl hB' hd hone hk
    obtain⟨h1,h2⟩:=one_of hd hone
    obtain⟨w',hrun,hp'⟩:=store_row (n:=1) (t:=t) (u:=a.eval y) (nv:=[d]) (cells_ok hc).2 hs hx hB hwr (by simp;omega) hB' (by rw[h2];exact .cons hd .nil) (by rw[h2];simpa using h1) rfl (by omega)
    exact⟨_,hk,done_skip (by simp[execOp,ho,hrun]) hp'⟩
  cases hB:nthB hp b<;>simp only[hB]at h<;>try exact h.elim
  · rename_i ro k xs
    cases ro<;>simp only at h<;>try exact h.elim
    cases hqy:ρ y'<;>simp only[hqy]at h<;>try exact h.elim
    rename_i k' n
    obtain⟨⟨rfl,hl⟩,hk⟩:=h
    rw[hqy]at hy
    exact key _ _ (.int k n) hB rfl (by simpa[Blk.vs]using hl) (by rw[Blk.vs,set_spl _ _ _ hl,spl_map];rfl) hy trivial hk
  · rename_i ro cs
    cases ro<;>simp only at h<;>try exact h.elim
    cases hqy:ρ y'<;>simp only[hqy]at h<;>try exact h.elim
    all_goals
      rw[hqy]at hy
      exact key _ _ _ hB rfl (by simpa[Blk.vs]using h.1) (by simp only[Blk.vs];rw[upd_set,set_spl _ _ _ h.1]) hy trivial h.2

theorem good_storeN {t:TypeId} {n:Nat} {x y:Operand} {x' y':X} (ho:o.op=.store t x y) (hc:cells? P t=some (some n)) (hx:VR σ (ρ x') (a.eval x)) (hy:VR σ (ρ y') (a.eval y)) (hs:Sim Own σ (nthB hp) w)
    (h:exec S ρ hp (.storeN n x' y') K):∃e,K e∧Done P Own σ hp w a o Q e:=by
  simp only[exec]at h
  cases hq:ρ x'<;>simp only[hq]at h<;>try exact h.elim
  rename_i b c
  rw[hq]at hx
  have key:∀(B B':Blk) (nv:List V) (us:Array Value),nthB hp b=B→B.wr=true→c+nv.length≤B.vs.length→0<B.vs.length→B'.vs=spl B.vs c nv→a.eval y=.agg us→VRs σ nv us.toList →
      (∀u∈us.toList,u.oneCell'=true)→nv.length=n→K ⟨.undef,[(b,B')],[]⟩→∃e,K e∧Done P Own σ hp w a o Q e:=by
    intro B B' nv us hB hwr hl h0 hB' he hd hone hnn hk
    obtain⟨w',hrun,hp'⟩:=store_row (n:=n) (t:=t) (u:=a.eval y) (nv:=nv) (cells_ok hc).2 hs hx hB hwr hl hB' (by rw[he];exact hd) (by rw[he];exact hone) hnn h0
    exact⟨_,hk,done_skip (by simp[execOp,ho,hrun]) hp'⟩
  cases hB:nthB hp b<;>simp only[hB]at h<;>try exact h.elim
  · rename_i ro k xs
    cases ro<;>simp only at h<;>try exact h.elim
    cases hqy:ρ y'<;>simp only[hqy]at h<;>try exact h.elim
    rename_i k' ys
    obtain⟨⟨rfl,hl,hl2,h0⟩,hk⟩:=h
    rw[hqy]at hy
    generalize hyv:a.eval y=yv at hy
    cases hy
    exact key _ _ (ys.map (.int k)) _ hB rfl (by simp[Blk.vs];omega) (by simp[Blk.vs];omega) (by simp only[Blk.vs];rw[spl_map]) hyv (by simpa using VRs.ints σ k ys) (by simp;intro x _;rfl) (by simpa using hl) hk
  · rename_i ro cs
    cases ro<;>simp only at h<;>try exact h.elim
    cases hqy:ρ y'<;>simp only[hqy]at h<;>try exact h.elim
    · rename_i k' ys
      obtain⟨⟨hl,hl2,h0⟩,hk⟩:=h
      rw[hqy]at hy
      generalize hyv:a.eval y=yv at hy
      cases hy
      exact key _ _ (ys.map (.int k')) _ hB rfl (by simp[Blk.vs];omega) (by simp[Blk.vs];omega) rfl hyv (by simpa using VRs.ints σ k' ys) (by simp;intro x _;rfl) (by simpa using hl) hk
    · rename_i ds
      obtain⟨⟨hl,hl2,h0⟩,hk⟩:=h
      rw[hqy]at hy
      generalize hyv:a.eval y=yv at hy
      cases hy
      rename_i us h1 hds
      exact key _ _ ds _ hB rfl (by simp[Blk.vs];omega) (by simp[Blk.vs];omega) rfl hyv hds h1 hl hk
end
end Am
/-
Each operation of the small language does what the model's operation does: arithmetic, comparisons, addresses, parts.
-/
namespace Am
open Go (IntKind BinOp UnOp Value FuncId TypeId World Program Oper Op Operand Code Func ResultVar Addr Obj Act Exit Sem Result Next execOp)

theorem bytesOf_inj {s t:ByteArray}:(bytesOf s=bytesOf t)↔s.toList=t.toList:=by
  have h1:∀x:ByteArray,x.toList=x.data.toList:=fun x=>by
    exact Go.ByteArray.toList_eq x
  rw[h1,h1]
  constructor
  · intro h
    have:∀l m:List UInt8,l.map (fun b=>(b.toNat:Int))=m.map (fun b=>(b.toNat:Int))→l=m:=by
      intro l
      induction l with
      | nil=>intro m h;cases m<;>simp_all
      | cons a l ih =>
        intro m h
        cases m with
        | nil=>simp at h
        | cons b m =>
          simp only[List.map_cons,List.cons.injEq]at h
          have:a=b:=by apply UInt8.toNat_inj.1;omega
          rw[this,ih m h.2]
    exact this _ _ h
  · intro h;simp only[bytesOf,h]

section
variable {P : Program} {Own : Nat → Nat → Prop} {σ : Sg} {hp : List Blk} {w : World} {a : Act} {o : Oper} {Q : Exit → Act → World → Prop} {S : FuncId → Summ} {ρ : X → V} {K : Ef → Prop}

theorem good_binInt {op:BinOp} {t ty:TypeId} {x y:Operand} {k k':IntKind} {p q:Int} (ho:o.op=.binOp op t x y ty) (hx:a.eval x=.int k p) (hy:a.eval y=.int k' q)
    (h:bin op (.int k p) (.int k' q) (fun v=>K ⟨v,[],[]⟩)):∃e,K e∧Done P Own σ hp w a o Q e:=by
  have hg:∀w,(Go.eqGuard op t x y (.int k p) (.int k' q)).run P w=.ok () w:=by
    intro w
    unfold Go.eqGuard
    cases op<;>rfl
  have fin:∀(v:V) (v':Value),(Go.binOp op t (.int k p) (.int k' q)).run P w=.ok v' w→VR σ v v'→K ⟨v,[],[]⟩→∃e,K e∧Done P Own σ hp w a o Q e:=by
    intro v v' hr hv hk
    exact⟨_,hk,done_pure (v':=v') (by simp[execOp,ho,hx,hy,hg,hr]) hv⟩
  cases op<;>simp only[bin,intBin]at h
  case shl => 
    refine fin _ (.int k (iShl k p q)) ?_ (.int _ _) h.2
    have:¬q<0:=by omega
    simp[Go.binOp,Go.Op.shift,this,iShl]
  case shr =>
    refine fin _ (.int k (iShr k p q)) ?_ (.int _ _) h.2
    have:¬q<0:=by omega
    simp[Go.binOp,Go.Op.shift,this,iShr]
  all_goals obtain⟨rfl,h⟩:=h
  case quo=>exact fin _ (.int k _) (by simp[Go.binOp,Go.Op.intDiv,h.1]) (.int _ _) h.2
  case rem=>exact fin _ (.int k _) (by simp[Go.binOp,Go.Op.intDiv,h.1]) (.int _ _) h.2
  case eql=>exact fin _ (.bool (decide (p=q))) (by simp[Go.binOp,Go.Op.intCmp];by_cases e:p=q<;>simp[e]) (.bool _) h
  case neq=>exact fin _ (.bool (!decide (p=q))) (by simp[Go.binOp,Go.Op.intCmp];by_cases e:p=q<;>simp[e]) (.bool _) h
  case lss=>exact fin _ (.bool _) (by simp[Go.binOp,Go.Op.intCmp]) (.bool _) h
  case leq=>exact fin _ (.bool _) (by simp[Go.binOp,Go.Op.intCmp]) (.bool _) h
  case gtr=>exact fin _ (.bool _) (by simp[Go.binOp,Go.Op.intCmp]) (.bool _) h
  case geq=>exact fin _ (.bool _) (by simp[Go.binOp,Go.Op.intCmp]) (.bool _) h
  case add=>exact fin _ (.int k _) (by simp[Go.binOp,Go.Op.intArith]) (.int _ _) h
  case sub=>exact fin _ (.int k _) (by simp[Go.binOp,Go.Op.intArith]) (.int _ _) h
  case mul=>exact fin _ (.int k _) (by simp[Go.binOp,Go.Op.intArith]) (.int _ _) h
  case and=>exact fin _ (.int k (bAnd k p q)) (by simp[Go.binOp,Go.Op.intBits,bAnd]) (.int _ _) h
  case or=>exact fin _ (.int k (bOr k p q)) (by simp[Go.binOp,Go.Op.intBits,bOr]) (.int _ _) h
  case xor=>exact fin _ (.int k (bXor k p q)) (by simp[Go.binOp,Go.Op.intBits,bXor]) (.int _ _) h
  case andNot=>exact fin _ (.int k (bAndNot k p q)) (by simp[Go.binOp,Go.Op.intBits,bAndNot]) (.int _ _) h

theorem good_bin {op:BinOp} {t ty:TypeId} {x y:Operand} {x' y':X} (ho:o.op=.binOp op t x y ty)
    (hx:VR σ (ρ x') (a.eval x)) (hy:VR σ (ρ y') (a.eval y)) (h:exec S ρ hp (.bin op x' y') K):∃e,K e∧Done P Own σ hp w a o Q e:=by
  simp only[exec]at h
  generalize hX:ρ x'=X at h hx
  generalize hY:ρ y'=Y at h hy
  generalize hxv:a.eval x=xv at hx
  generalize hyv:a.eval y=yv at hy
  cases X<;>simp only[bin]at h<;>try exact h.elim
  cases Y<;>simp only at h<;>try exact h.elim
  cases hx;cases hy
  exact good_binInt ho hxv hyv h

theorem good_binB {op:BinOp} {t ty:TypeId} {x y:Operand} {x' y':X} (ho:o.op=.binOp op t x y ty) (hd:P.underlying t=some .bool)
    (hx:VR σ (ρ x') (a.eval x)) (hy:VR σ (ρ y') (a.eval y)) (h:exec S ρ hp (.binB op x' y') K):∃e,K e∧Done P Own σ hp w a o Q e:=by
  simp only[exec]at h
  generalize hX:ρ x'=X at h hx
  generalize hY:ρ y'=Y at h hy
  generalize hxv:a.eval x=xv at hx
  generalize hyv:a.eval y=yv at hy
  cases X<;>simp only[binB]at h<;>try exact h.elim
  cases Y<;>simp only at h<;>try exact h.elim
  rename_i p q
  cases hx;cases hy
  have hg:∀w,(Go.eqGuard op t x y (.bool p) (.bool q)).run P w=.ok () w:=fun w=>by unfold Go.eqGuard;cases op<;>rfl
  cases op<;>simp only at h<;>try exact h.elim
  · refine⟨_,h,done_pure (v':=.bool (decide (p=q))) ?_ (.bool _)⟩
    simp[execOp,ho,hxv,hyv,hg,Go.binOp,Go.run_equal_bool w t p q hd]
    cases p<;>cases q<;>rfl
  · refine⟨_,h,done_pure (v':=.bool (!decide (p=q))) ?_ (.bool _)⟩
    simp[execOp,ho,hxv,hyv,hg,Go.binOp,Go.run_equal_bool w t p q hd]
    cases p<;>cases q<;>rfl

theorem good_binS {op:BinOp} {t ty:TypeId} {x y:Operand} {x' y':X} (ho:o.op=.binOp op t x y ty)
    (hx:VR σ (ρ x') (a.eval x)) (hy:VR σ (ρ y') (a.eval y)) (h:exec S ρ hp (.binS op x' y') K):∃e,K e∧Done P Own σ hp w a o Q e:=by
  simp only[exec]at h
  generalize hX:ρ x'=X at h hx
  generalize hY:ρ y'=Y at h hy
  generalize hxv:a.eval x=xv at hx
  generalize hyv:a.eval y=yv at hy
  cases X<;>simp only[binS]at h<;>try exact h.elim
  cases Y<;>simp only at h<;>try exact h.elim
  rename_i p q
  cases hx;cases hy
  rename_i s u
  have hg:∀w,(Go.eqGuard op t x y (.string s) (.string u)).run P w=.ok () w:=fun w=>by unfold Go.eqGuard;cases op<;>rfl
  have he:decide (bytesOf s=bytesOf u)=(s.toList==u.toList):=by
    rw[Bool.eq_iff_iff];simp[bytesOf_inj]
  cases op<;>simp only at h<;>try exact h.elim
  · obtain⟨h1,h⟩:=h
    have hl:(s.size:Int)+u.size≤9223372036854775807:=by simp[bytesOf]at h1;omega
    have hcat:bytesOf s++bytesOf u=bytesOf (s++u):=by simp[bytesOf]
    refine⟨_,h,done_pure (v':=.string (s++u)) ?_ (by rw[hcat];exact .str _)⟩
    simp[execOp,ho,hxv,hyv,hg,Go.binOp,Go.Op.stringOp];omega
  · rw[he]at h
    refine⟨_,h,done_pure (v':=.bool _) ?_ (.bool _)⟩
    simp[execOp,ho,hxv,hyv,hg,Go.binOp,Go.Op.stringOp]
  · rw[he]at h
    refine⟨_,h,done_pure (v':=.bool _) ?_ (.bool _)⟩
    simp[execOp,ho,hxv,hyv,hg,Go.binOp,Go.Op.stringOp]

theorem run_equal_ptr {t e:TypeId} (hd:P.underlying t=some (.pointer e)) (p q:Option Addr) (h:p=none∨q=none):(Go.Op.equal t (.pointer p) (.pointer q)).run P w=.ok (decide (p.isNone=q.isNone)) w:=by
  unfold Go.Op.equal
  obtain⟨d,hd'⟩:∃d,Go.Op.maxDepth=d+1:=⟨9999,rfl⟩
  rw[hd']
  rcases h with rfl | rfl
  · cases q<;>simp[Go.Op.equalIn,under_ok hd]
  · cases p<;>simp[Go.Op.equalIn,under_ok hd]

theorem good_binP {op:BinOp} {t ty e:TypeId} {x y:Operand} {x' y':X} (ho:o.op=.binOp op t x y ty) (hd:P.underlying t=some (.pointer e))
    (hx:VR σ (ρ x') (a.eval x)) (hy:VR σ (ρ y') (a.eval y)) (h:exec S ρ hp (.binP op x' y') K):∃e,K e∧Done P Own σ hp w a o Q e:=by
  simp only[exec]at h
  generalize hX:ρ x'=X at h hx
  generalize hY:ρ y'=Y at h hy
  generalize hxv:a.eval x=xv at hx
  generalize hyv:a.eval y=yv at hy
  have hg:∀p q w,(Go.eqGuard op t x y (.pointer p) (.pointer q)).run P w=.ok () w:=fun p q w=>by unfold Go.eqGuard;cases op<;>rfl
  cases X<;>simp only[binP]at h<;>try exact h.elim
  all_goals
    cases Y<;>simp only at h<;>try exact h.elim
    all_goals
      cases hx;cases hy
      cases op<;>simp only at h<;>try exact h.elim
      all_goals
        refine⟨_,h,done_pure (v':=.bool _) ?_ (.bool _)⟩
        simp[execOp,ho,hxv,hyv,hg,Go.binOp,run_equal_ptr hd]

theorem good_un {op:UnOp} {t:TypeId} {x:Operand} {x':X} (ho:o.op=.unOp op t x) (hx:VR σ (ρ x') (a.eval x)) (h:exec S ρ hp (.un op x') K):∃e,K e∧Done P Own σ hp w a o Q e:=by
  simp only[exec]at h
  generalize hX:ρ x'=X at h hx
  generalize hxv:a.eval x=xv at hx
  cases op<;>cases X<;>simp only[un]at h<;>try exact h.elim
  · cases hx;exact⟨_,h,done_pure (v':=.int _ _) (by simp[execOp,ho,hxv,Go.Op.unary,Go.Op.intArith]) (.int _ _)⟩
  · cases hx;exact⟨_,h,done_pure (v':=.int _ _) (by simp[execOp,ho,hxv,Go.Op.unary,Go.Op.intBits,bXor]) (.int _ _)⟩
  · cases hx;exact⟨_,h,done_pure (v':=.bool _) (by simp[execOp,ho,hxv,Go.Op.unary]) (.bool _)⟩

theorem good_conv {s d:TypeId} {k ks:IntKind} {x:Operand} {x':X} (ho:o.op=.convert s d x) (hs:P.underlying s=some (.int ks)) (hd:P.underlying d=some (.int k)) (hx:VR σ (ρ x') (a.eval x))
    (h:exec S ρ hp (.conv k x') K):∃e,K e∧Done P Own σ hp w a o Q e:=by
  simp only[exec]at h
  generalize hX:ρ x'=X at h hx
  generalize hxv:a.eval x=xv at hx
  cases X<;>simp only at h<;>try exact h.elim
  cases hx
  exact⟨_,h,done_pure (v':=.int k _) (by simp[execOp,ho,hxv,Go.convert,under_ok hs,under_ok hd,Go.Conv.intToInt]) (.int _ _)⟩

theorem good_convStr {s d:TypeId} {x:Operand} {x':X} (ho:o.op=.convert s d x) (hs:P.underlying s=some .string) (hd:P.underlying d=some .string) (hx:VR σ (ρ x') (a.eval x))
    (h:exec S ρ hp (.movS x') K):∃e,K e∧Done P Own σ hp w a o Q e:=by
  simp only[exec]at h
  generalize hX:ρ x'=X at h hx
  generalize hxv:a.eval x=xv at hx
  cases X<;>simp only at h<;>try exact h.elim
  cases hx
  exact⟨_,h,done_pure (v':=.string _) (by simp[execOp,ho,hxv,Go.convert,under_ok hs,under_ok hd]) (.str _)⟩

theorem good_fldA {t:TypeId} {x:Operand} {x':X} {f:Nat} {fs:Array Go.Field} {fd:Go.Field} {n:Nat} (ho:o.op=.fieldAddr t x f) (ht:P.underlying t=some (.struct fs)) (hf:fs[f]?=some fd) (hn:size? P fd.type=some n) (h0:n≠0)
    (hx:VR σ (ρ x') (a.eval x)) (h:exec S ρ hp (.fldA fd.offset x') K):∃e,K e∧Done P Own σ hp w a o Q e:=by
  simp only[exec]at h
  generalize hX:ρ x'=X at h hx
  generalize hxv:a.eval x=xv at hx
  obtain⟨i,hi,hi2,hrun⟩:=size_ok hn
  cases X<;>simp only at h<;>try exact h.elim
  case rpi k xs c =>
    cases hx
    rename_i blk off hx
    refine⟨_,h,done_pure (v':=.pointer (some ⟨blk,off+(c+fd.offset),none⟩)) ?_ (.rpi hx)⟩
    simp[execOp,ho,hxv,Go.Instr.fieldAt,under_ok ht,hf,Go.Instr.sureAddr,Go.fieldPlace,hrun,h0,Addr_add,Nat.add_assoc]
  case rpc cs c =>
    cases hx
    rename_i vs blk off hx hp' hvs
    refine⟨_,h,done_pure (v':=.pointer (some ⟨blk,off+(c+fd.offset),none⟩)) ?_ (.rpc hp' hvs hx)⟩
    simp[execOp,ho,hxv,Go.Instr.fieldAt,under_ok ht,hf,Go.Instr.sureAddr,Go.fieldPlace,hrun,h0,Addr_add,Nat.add_assoc]
  rename_i b c
  cases hx
  rename_i l hb
  refine⟨_,h,done_pure (v':=.pointer (some ⟨l.blk,l.off+(c+fd.offset),none⟩)) ?_ (.ptr hb)⟩
  simp[execOp,ho,hxv,Go.Instr.fieldAt,under_ok ht,hf,Go.Instr.sureAddr,Go.fieldPlace,hrun,h0,Addr_add,Nat.add_assoc]

theorem good_idxA {t e:TypeId} {n sz:Nat} {x i:Operand} {x' i':X} (ho:o.op=.indexAddr t x i) (ht:P.underlying t=some (.array n e)) (hsz:size? P e=some sz)
    (hx:VR σ (ρ x') (a.eval x)) (hi:VR σ (ρ i') (a.eval i)) (h:exec S ρ hp (.idxA n sz x' i') K):∃e,K e∧Done P Own σ hp w a o Q e:=by
  simp only[exec]at h
  generalize hX:ρ x'=X at h hx
  generalize hxv:a.eval x=xv at hx
  generalize hI:ρ i'=I at h hi
  generalize hiv:a.eval i=iv at hi
  obtain⟨ii,hii,hi2,hrun⟩:=size_ok hsz
  cases X<;>simp only at h<;>try exact h.elim
  case rpi kk xs c =>
    cases I<;>simp only at h<;>try exact h.elim
    cases hx;cases hi
    rename_i k j blk off hx
    refine⟨_,h.2,done_pure (v':=.pointer (some ⟨blk,off+(c+j.toNat*sz),none⟩)) ?_ (.rpi hx)⟩
    simp[execOp,ho,hxv,hiv,Go.Instr.indexAt,Go.asIntOf,under_ok ht,Go.Instr.sureAddr,hrun,h.1,Addr_add,Nat.add_assoc]
  case rpc cs c =>
    cases I<;>simp only at h<;>try exact h.elim
    cases hx;cases hi
    rename_i k j vs blk off hx hp' hvs
    refine⟨_,h.2,done_pure (v':=.pointer (some ⟨blk,off+(c+j.toNat*sz),none⟩)) ?_ (.rpc hp' hvs hx)⟩
    simp[execOp,ho,hxv,hiv,Go.Instr.indexAt,Go.asIntOf,under_ok ht,Go.Instr.sureAddr,hrun,h.1,Addr_add,Nat.add_assoc]
  cases I<;>simp only at h<;>try exact h.elim
  cases hx;cases hi
  rename_i b c k j l hb
  refine⟨_,h.2,done_pure (v':=.pointer (some ⟨l.blk,l.off+(c+j.toNat*sz),none⟩)) ?_ (.ptr hb)⟩
  simp[execOp,ho,hxv,hiv,Go.Instr.indexAt,Go.asIntOf,under_ok ht,Go.Instr.sureAddr,hrun,h.1,Addr_add,Nat.add_assoc]

theorem good_idxS {t e:TypeId} {sz:Nat} {x i:Operand} {x' i':X} (ho:o.op=.indexAddr t x i) (ht:P.underlying t=some (.slice e)) (hsz:size? P e=some sz)
    (hx:VR σ (ρ x') (a.eval x)) (hi:VR σ (ρ i') (a.eval i)) (h:exec S ρ hp (.idxS sz x' i') K):∃e,K e∧Done P Own σ hp w a o Q e:=by
  simp only[exec]at h
  generalize hX:ρ x'=X at h hx
  generalize hxv:a.eval x=xv at hx
  generalize hI:ρ i'=I at h hi
  generalize hiv:a.eval i=iv at hi
  obtain⟨ii,hii,hi2,hrun⟩:=size_ok hsz
  cases X<;>simp only at h<;>try exact h.elim
  case rsl sz' len kk xs =>
    cases I<;>simp only at h<;>try exact h.elim
    rename_i k j
    obtain⟨⟨rfl,h1,h2⟩,h⟩:=h
    cases hi
    cases hx
    rename_i cap' ad blk off ha hl hn hx
    have had:=ha (by omega)
    subst had
    refine⟨_,h,done_pure (v':=.pointer (some ⟨blk,off+j.toNat*sz,none⟩)) ?_ (.rpi hx)⟩
    simp[execOp,ho,hxv,hiv,Go.Instr.indexAt,Go.asIntOf,under_ok ht,hrun,h1,h2,Addr_add,Nat.add_assoc]
  case rcs sz' len cs =>
    cases I<;>simp only at h<;>try exact h.elim
    rename_i k j
    obtain⟨⟨rfl,h1,h2⟩,h⟩:=h
    cases hi
    cases hx
    rename_i cap' vs ad blk off ha hx hl hp' hvs hn
    have had:=ha (by omega)
    subst had
    refine⟨_,h,done_pure (v':=.pointer (some ⟨blk,off+j.toNat*sz,none⟩)) ?_ (.rpc hp' hvs hx)⟩
    simp[execOp,ho,hxv,hiv,Go.Instr.indexAt,Go.asIntOf,under_ok ht,hrun,h1,h2,Addr_add,Nat.add_assoc]
  cases I<;>simp only at h<;>try exact h.elim
  rename_i b c sz' len cap k j
  obtain⟨⟨rfl,h1,h2⟩,h⟩:=h
  cases hi
  cases hx
  rename_i cap' ad l hb ha hbd hc hl
  have had:=ha (by omega)
  subst had
  refine⟨_,h,done_pure (v':=.pointer (some ⟨l.blk,l.off+(c+j.toNat*sz),none⟩)) ?_ (.ptr hb)⟩
  simp[execOp,ho,hxv,hiv,Go.Instr.indexAt,Go.asIntOf,under_ok ht,hrun,h1,h2,Addr_add,Nat.add_assoc]

theorem good_ext {x:Operand} {x':X} {i:Nat} (ho:o.op=.extract x i) (hx:VR σ (ρ x') (a.eval x)) (h:exec S ρ hp (.ext x' i) K):∃e,K e∧Done P Own σ hp w a o Q e:=by
  simp only[exec]at h
  generalize hX:ρ x'=X at h hx
  generalize hxv:a.eval x=xv at hx
  cases X<;>simp only at h<;>try exact h.elim
  cases hx
  rename_i cs vs hr
  obtain⟨v,hv,hvr⟩:=hr.get (nth_some h.1)
  have hv':vs[i]?=some v:=by simpa using hv
  exact⟨_,h.2,done_pure (v':=v) (by simp[execOp,ho,hxv,Go.Instr.extract,hv']) hvr⟩

theorem good_nck {x:Operand} {x':X} (ho:o.op=.nilCheck x) (hx:VR σ (ρ x') (a.eval x)) (h:exec S ρ hp (.nck x') K):∃e,K e∧Done P Own σ hp w a o Q e:=by
  simp only[exec]at h
  generalize hX:ρ x'=X at h hx
  generalize hxv:a.eval x=xv at hx
  cases X<;>simp only at h<;>try exact h.elim
  · cases hx
    rename_i l hb
    exact⟨_,h,done_pure (v':=.pointer _) (by simp[execOp,ho,hxv]) (.ptr hb)⟩
  · cases hx
    rename_i hr
    exact⟨_,h,done_pure (v':=.func _ _ _) (by simp[execOp,ho,hxv]) (.fn hr)⟩
  · cases hx
    rename_i hx
    exact⟨_,h,done_pure (v':=.pointer _) (by simp[execOp,ho,hxv]) (.rpi hx)⟩
  · cases hx
    rename_i hx hp' hvs
    exact⟨_,h,done_pure (v':=.pointer _) (by simp[execOp,ho,hxv]) (.rpc hp' hvs hx)⟩
end
end Am
/-
Each operation of the small language does what the model's operation does: slices, parts, lengths, texts, new slices.
-/
namespace Am
open Go (IntKind BinOp UnOp Value FuncId TypeId World Program Oper Op Operand Code Func ResultVar Addr Obj Act Exit Sem Result Next execOp)

section
variable {P : Program} {Own : Nat → Nat → Prop} {σ : Sg} {hp : List Blk} {w : World} {a : Act} {o : Oper} {Q : Exit → Act → World → Prop} {S : FuncId → Summ} {ρ : X → V} {K : Ef → Prop}

/-- An operand that may be missing. -/
def OR (σ:Sg) (ρ:X→V) (a:Act):Option X→Option Operand→Prop
  | none,none=>True
  | some y,some x=>VR σ (ρ y) (a.eval x)
  | _,_=>False

theorem bound_none {ev:X→V} {d hi:Nat} {F:Nat→Prop}:bound none ev d hi F=F d:=rfl
theorem bound_some {y:X} {x:Operand} {d hi hi':Nat} {F:Nat→Prop} (hh:hi≤hi') (hv:VR σ (ρ y) (a.eval x)) (h:bound (some y) ρ d hi F) :
    ∃n:Nat,n≤hi∧F n∧∀c,(Go.Instr.sliceBound (a.eval x) hi' c).run P w=.ok n w:=by
  simp only[bound]at h
  generalize hY:ρ y=Y at h hv
  generalize hxv:a.eval x=xv at hv
  cases Y<;>simp only at h<;>try exact h.elim
  cases hv
  rename_i k n
  refine⟨n.toNat,by omega,h.2,fun c=>?_⟩
  have:0≤n∧n≤hi':=by omega
  simp[Go.Instr.sliceBound,Go.asIntOf,this]

/-- The bounds of a slice expression; the abstract room may be less than there is. -/
theorem run_bounds {isSlice:Bool} {lo hi mx:Option X} {lo' hi' mx':Option Operand} {len cap cap':Nat} {F:Nat→Nat→Nat→Prop} (hl:len≤cap) (hc:cap≤cap') (hm:(mx.isSome&&hi.isNone)=false)
    (h1:OR σ ρ a lo lo') (h2:OR σ ρ a hi hi') (h3:OR σ ρ a mx mx')
    (h:bound mx ρ cap cap fun m=>bound hi ρ len m fun h=>bound lo ρ 0 h fun l=>F l h m) :
    ∃l h m m',l≤h∧h≤m∧m≤m'∧m≤cap∧m'≤cap'∧F l h m∧(Go.Instr.sliceBounds isSlice len cap' (lo'.map a.eval) (hi'.map a.eval) (mx'.map a.eval)).run P w=.ok (l,h,m') w:=by
  cases mx<;>cases mx'<;>simp only[OR]at h3<;>try exact h3.elim
  · simp only[bound_none]at h
    cases hi<;>cases hi'<;>simp only[OR]at h2<;>try exact h2.elim
    · simp only[bound_none]at h
      cases lo<;>cases lo'<;>simp only[OR]at h1<;>try exact h1.elim
      · simp only[bound_none]at h
        exact⟨0,len,cap,cap',by omega,hl,hc,by omega,by omega,h,by simp[Go.Instr.sliceBounds]⟩
      · obtain⟨n,e1,e2,e3⟩:=bound_some (P:=P) (w:=w) (Nat.le_refl len) h1 h
        exact⟨n,len,cap,cap',e1,hl,hc,by omega,by omega,e2,by simp[Go.Instr.sliceBounds,e3]⟩
    · obtain⟨m,d1,d2,d3⟩:=bound_some (P:=P) (w:=w) hc h2 h
      cases lo<;>cases lo'<;>simp only[OR]at h1<;>try exact h1.elim
      · simp only[bound_none]at d2
        exact⟨0,m,cap,cap',by omega,d1,hc,by omega,by omega,d2,by simp[Go.Instr.sliceBounds,d3]⟩
      · obtain⟨n,e1,e2,e3⟩:=bound_some (P:=P) (w:=w) (Nat.le_refl m) h1 d2
        exact⟨n,m,cap,cap',e1,d1,hc,by omega,by omega,e2,by simp[Go.Instr.sliceBounds,e3,d3]⟩
  · obtain⟨q,c1,c2,c3⟩:=bound_some (P:=P) (w:=w) hc h3 h
    cases hi<;>cases hi'<;>simp only[OR]at h2<;>try exact h2.elim
    · simp at hm
    · obtain⟨m,d1,d2,d3⟩:=bound_some (P:=P) (w:=w) (Nat.le_refl q) h2 c2
      cases lo<;>cases lo'<;>simp only[OR]at h1<;>try exact h1.elim
      · simp only[bound_none]at d2
        exact⟨0,m,q,q,by omega,d1,by omega,c1,by omega,d2,by simp[Go.Instr.sliceBounds,c3,d3]⟩
      · obtain⟨n,e1,e2,e3⟩:=bound_some (P:=P) (w:=w) (Nat.le_refl m) h1 d2
        exact⟨n,m,q,q,e1,d1,by omega,c1,by omega,e2,by simp[Go.Instr.sliceBounds,c3,d3,e3]⟩

theorem mul_part {l m' cap' sz c size:Nat} (h1:l≤m') (h2:m'≤cap') (h:c+cap'*sz≤size):c+l*sz+(m'-l)*sz≤size:=by
  have e:l*sz+(m'-l)*sz=m'*sz:=by rw[←Nat.add_mul];congr 1;omega
  have:m'*sz≤cap'*sz:=Nat.mul_le_mul_right sz h2
  omega

theorem pursR_mem:∀{l:List V},pursR l=true↔∀a∈l,purR a=true
  | []=>by simp[pursR]
  | a::l=>by simp[pursR,pursR_mem (l:=l)]
theorem pursR_sub {l:List V} (h:pursR l=true) (o n:Nat):pursR (sub l o n)=true :=
  pursR_mem.2 fun a ha=>pursR_mem.1 h a (List.mem_of_mem_drop (List.mem_of_mem_take ha))

theorem good_slcA {t e:TypeId} {n sz:Nat} {x:Operand} {x':X} {lo hi mx:Option X} {lo' hi' mx':Option Operand} (ho:o.op=.slice t x lo' hi' mx') (ht:P.underlying t=some (.array n e)) (hsz:size? P e=some sz)
    (hs:Sim Own σ (nthB hp) w) (hm:(mx.isSome&&hi.isNone)=false) (hx:VR σ (ρ x') (a.eval x)) (h1:OR σ ρ a lo lo') (h2:OR σ ρ a hi hi') (h3:OR σ ρ a mx mx')
    (h:exec S ρ hp (.slcA n sz x' lo hi mx) K):∃e,K e∧Done P Own σ hp w a o Q e:=by
  simp only[exec]at h
  generalize hX:ρ x'=X at h hx
  generalize hxv:a.eval x=xv at hx
  cases X<;>simp only at h<;>try exact h.elim
  case rpi kk xs c =>
    cases hx
    rename_i blk off hx
    obtain⟨hr,h⟩:=h
    obtain⟨ii,hii,hi2,hrun⟩:=size_ok hsz
    obtain⟨lv,hv,m,m',e1,e2,e3,e4,e5,hk,hbd⟩:=run_bounds (P:=P) (w:=w) (isSlice:=false) (F:=fun l h m=>K ⟨.rsl sz (h-l) kk (sub xs (c+l*sz) ((h-l)*sz)),[],[]⟩) (Nat.le_refl n) (Nat.le_refl n) hm h1 h2 h3 h
    refine⟨_,hk,done_pure (v':=.slice (some (if m'=lv then ⟨blk,off+c,none⟩else (⟨blk,off+c,none⟩:Addr).add (lv*sz))) (hv-lv) (m'-lv)) ?_ ?_⟩
    · simp[execOp,ho,hxv,Go.Instr.sliceAt,under_ok ht,Go.Instr.sureAddr,hrun,hbd]
    · have hle:c+lv*sz+(hv-lv)*sz≤xs.length:=by
        have:=mul_part (l:=lv) (m':=hv) (cap':=n) (sz:=sz) (c:=c) (size:=xs.length) (by omega) (by omega) hr
        exact this
      refine VR.rsl (blk:=blk) (off:=off+(c+lv*sz)) (sub_len' hle) (by omega) (fun hpos=>?_) (fun j x hj=>?_)
      · rw[if_neg (by omega),Addr_add,Nat.add_assoc]
      · rw[sub_get]at hj
        split at hj
        · have:=hx _ _ hj
          rwa [←Nat.add_assoc]at this
        · simp at hj
  rename_i b c
  cases hx
  rename_i l hb
  obtain⟨hr,h⟩:=h
  have hr:c+n*sz≤l.size:=by
    have:=(hs.blk b l hb).len
    have e:blen (nthB hp b)=(nthB hp b).vs.length:=by cases nthB hp b<;>simp[blen,Blk.vs]
    omega
  obtain⟨ii,hii,hi2,hrun⟩:=size_ok hsz
  obtain⟨lv,hv,m,m',e1,e2,e3,e4,e5,hk,hbd⟩:=run_bounds (P:=P) (w:=w) (isSlice:=false) (Nat.le_refl n) (Nat.le_refl n) hm h1 h2 h3 h
  refine⟨_,hk,done_pure (v':=.slice (some (if m'=lv then ⟨l.blk,l.off+c,none⟩else (⟨l.blk,l.off+c,none⟩:Addr).add (lv*sz))) (hv-lv) (m'-lv)) ?_ ?_⟩
  · simp[execOp,ho,hxv,Go.Instr.sliceAt,under_ok ht,Go.Instr.sureAddr,hrun,hbd]
  · refine .slice hb (by omega) (by omega) (mul_part (by omega) e5 hr) fun hpos=>?_
    rw[if_neg (by omega),Addr_add,Nat.add_assoc]

theorem good_slcS {t e:TypeId} {sz:Nat} {x:Operand} {x':X} {lo hi mx:Option X} {lo' hi' mx':Option Operand} (ho:o.op=.slice t x lo' hi' mx') (ht:P.underlying t=some (.slice e)) (hsz:size? P e=some sz)
    (hm:(mx.isSome&&hi.isNone)=false) (hx:VR σ (ρ x') (a.eval x)) (h1:OR σ ρ a lo lo') (h2:OR σ ρ a hi hi') (h3:OR σ ρ a mx mx')
    (h:exec S ρ hp (.slcS sz x' lo hi mx) K):∃e,K e∧Done P Own σ hp w a o Q e:=by
  simp only[exec]at h
  generalize hX:ρ x'=X at h hx
  generalize hxv:a.eval x=xv at hx
  obtain⟨ii,hii,hi2,hrun⟩:=size_ok hsz
  cases X<;>simp only at h<;>try exact h.elim
  case nils =>
    cases hx
    obtain⟨lv,hv,m,m',e1,e2,e3,e4,e5,hk,hbd⟩:=run_bounds (P:=P) (w:=w) (isSlice:=true) (F:=fun _ _ _=>K ⟨.nils,[],[]⟩) (Nat.le_refl 0) (Nat.le_refl 0) hm h1 h2 h3 h
    refine⟨_,hk,done_pure (v':=.slice none 0 0) ?_ .nils⟩
    have hz:lv=0∧hv=0∧m'=0:=by omega
    obtain⟨rfl,rfl,rfl⟩:=hz
    simp[execOp,ho,hxv,Go.Instr.sliceAt,Go.Instr.slice,under_ok ht,hrun,hbd]
  case rsl sz' len kk xs =>
    obtain⟨rfl,h⟩:=h
    cases hx
    rename_i cap' ad blk off ha hl hn hx
    obtain⟨lv,hv,m,m',e1,e2,e3,e4,e5,hk,hbd⟩:=run_bounds (P:=P) (w:=w) (isSlice:=true) (F:=fun l h m=>K ⟨.rsl sz (h-l) kk (sub xs (l*sz) ((h-l)*sz)),[],[]⟩) (Nat.le_refl len) hl hm h1 h2 h3 h
    refine⟨_,hk,done_pure (v':=.slice (if m'=lv then ad else ad.map (·.add (lv*sz))) (hv-lv) (m'-lv)) ?_ ?_⟩
    · simp[execOp,ho,hxv,Go.Instr.sliceAt,Go.Instr.slice,under_ok ht,hrun,hbd]
    · have hle:lv*sz+(hv-lv)*sz≤xs.length:=by
        have:=mul_part (l:=lv) (m':=hv) (cap':=len) (sz:=sz) (c:=0) (size:=xs.length) (by omega) (by omega) (by omega)
        omega
      refine VR.rsl (blk:=blk) (off:=off+lv*sz) (sub_len' hle) (by omega) (fun hpos=>?_) (fun j x hj=>?_)
      · rw[if_neg (by omega),ha (by omega)]
        simp[Addr_add]
      · rw[sub_get]at hj
        split at hj
        · have:=hx _ _ hj
          rwa [←Nat.add_assoc]at this
        · simp at hj
  case rcs sz' len cs =>
    obtain⟨rfl,h⟩:=h
    cases hx
    rename_i cap' vs ad blk off ha hx hl hp' hvs hn
    obtain⟨lv,hv,m,m',e1,e2,e3,e4,e5,hk,hbd⟩:=run_bounds (P:=P) (w:=w) (isSlice:=true) (F:=fun l h m=>K ⟨.rcs sz (h-l) (sub cs (l*sz) ((h-l)*sz)),[],[]⟩) (Nat.le_refl len) hl hm h1 h2 h3 h
    refine⟨_,hk,done_pure (v':=.slice (if m'=lv then ad else ad.map (·.add (lv*sz))) (hv-lv) (m'-lv)) ?_ ?_⟩
    · simp[execOp,ho,hxv,Go.Instr.sliceAt,Go.Instr.slice,under_ok ht,hrun,hbd]
    · have hle:lv*sz+(hv-lv)*sz≤cs.length:=by
        have:=mul_part (l:=lv) (m':=hv) (cap':=len) (sz:=sz) (c:=0) (size:=cs.length) (by omega) (by omega) (by omega)
        omega
      refine VR.rcs (blk:=blk) (off:=off+lv*sz) (sub_len' hle) (by omega) (fun hpos=>?_) (pursR_sub hp' _ _) (hvs.sub _ _) (fun j x hj=>?_)
      · rw[if_neg (by omega),ha (by omega)]
        simp[Addr_add]
      · rw[sub_get]at hj
        split at hj
        · have:=hx _ _ hj
          rwa [←Nat.add_assoc]at this
        · simp at hj
  case slice b c sz' len cap =>
    obtain⟨rfl,h⟩:=h
    cases hx
    rename_i cap' ad l hb ha hbd' hc hl
    obtain⟨lv,hv,m,m',e1,e2,e3,e4,e5,hk,hbd⟩:=run_bounds (P:=P) (w:=w) (isSlice:=true) hl hc hm h1 h2 h3 h
    refine⟨_,hk,done_pure (v':=.slice (if m'=lv then ad else ad.map (·.add (lv*sz))) (hv-lv) (m'-lv)) ?_ ?_⟩
    · simp[execOp,ho,hxv,Go.Instr.sliceAt,Go.Instr.slice,under_ok ht,hrun,hbd]
    · refine .slice hb (by omega) (by omega) (mul_part (by omega) e5 hbd') fun hpos=>?_
      rw[if_neg (by omega),ha (by omega)]
      simp[Addr_add,Nat.add_assoc]

theorem bytesOf_extract (s:ByteArray) (l h:Nat):bytesOf (s.extract l h)=sub (bytesOf s) l (h-l):=by
  simp only[bytesOf,sub,ByteArray.data_extract]
  simp[List.map_take,List.map_drop]

theorem good_slcStr {t:TypeId} {x:Operand} {x':X} {lo hi:Option X} {lo' hi' mx':Option Operand} (ho:o.op=.slice t x lo' hi' mx') (ht:P.underlying t=some .string)
    (hx:VR σ (ρ x') (a.eval x)) (h1:OR σ ρ a lo lo') (h2:OR σ ρ a hi hi') (h3:mx'=none)
    (h:exec S ρ hp (.slcStr x' lo hi) K):∃e,K e∧Done P Own σ hp w a o Q e:=by
  simp only[exec]at h
  subst h3
  generalize hX:ρ x'=X at h hx
  generalize hxv:a.eval x=xv at hx
  cases X<;>simp only at h<;>try exact h.elim
  cases hx
  rename_i bs
  have hlen:(bytesOf bs).length=bs.size:=by simp[bytesOf]
  obtain⟨lv,hv,m,m',e1,e2,e3,e4,e5,hk,hbd⟩:=run_bounds (P:=P) (w:=w) (isSlice:=false) (mx:=none) (mx':=none) (cap':=bs.size) (F:=fun l h _=>K ⟨.str (sub (bytesOf bs) l (h-l)),[],[]⟩) (Nat.le_refl (bytesOf bs).length) (by omega) rfl h1 h2 trivial (by simpa only[bound_none]using h)
  refine⟨_,hk,done_pure (v':=.string (bs.extract lv hv)) ?_ (by rw[←bytesOf_extract];exact .str _)⟩
  rw[hlen]at hbd
  simp only[Option.map_none]at hbd
  simp[execOp,ho,hxv,Go.Instr.sliceAt,Go.Instr.slice,under_ok ht,hbd]

/-- A part of a value of several cells. -/
theorem part_ok {t:TypeId} {off:Nat} {m:Option Nat} {X:V} {xs:Array Value} {F:V→Prop} (hc:cells? P t=some m) (hx:VR σ X (.agg xs)) (h:part X off m F) :
    ∃v v',F v∧VR σ v v'∧(Go.part t xs off).run P w=.ok v' w:=by
  have hcc:=cells_ok hc
  cases hx with
  | undef=>simp[part]at h
  | ints k ys =>
    cases m with
    | none =>
      simp only[part]at h
      have hg:((ys.map (Value.int k)).toArray)[off]?=some (.int k (getI ys off)):=by simp[h.1,getI]
      exact⟨_,.int k (getI ys off),h.2,.int _ _,by simp only[Go.part,Sem.run_bind,isAgg_ok hcc.1,Go.Result.andThen_ok,Bool.false_eq_true,if_false,hg];rfl⟩
    | some n =>
      simp only[part]at h
      obtain⟨i,hi,hi2,hrun⟩:=size_ok hcc.2
      refine⟨_,.agg ((sub ys off n).map (Value.int k)).toArray,h.2,.ints _ _,?_⟩
      have:((ys.map (Value.int k)).toArray).extract off (off+n)=((sub ys off n).map (Value.int k)).toArray:=by
        apply Array.toList_inj.1
        simp[sub,List.map_take,List.map_drop]
      simp only[Go.part,Sem.run_bind,isAgg_ok hcc.1,Go.Result.andThen_ok,if_true,hrun,this];rfl
  | agg hr h1 =>
    rename_i cs
    cases m with
    | none =>
      simp only[part]at h
      obtain⟨v,hv,hvr⟩:=hr.get (nth_some h.1)
      have hv':xs[off]?=some v:=by simpa using hv
      exact⟨_,v,h.2,hvr,by simp only[Go.part,Sem.run_bind,isAgg_ok hcc.1,Go.Result.andThen_ok,Bool.false_eq_true,if_false,hv'];rfl⟩
    | some n =>
      simp only[part]at h
      obtain⟨i,hi,hi2,hrun⟩:=size_ok hcc.2
      have he:(xs.extract off (off+n)).toList=(xs.toList.drop off).take n:=by simp
      refine⟨_,.agg (xs.extract off (off+n)),h.2,.agg ?_ ?_,?_⟩
      · rw[he];exact(hr.drop off).take n
      · rw[he];intro v hv;exact h1 v (List.mem_of_mem_drop (List.mem_of_mem_take hv))
      · simp only[Go.part,Sem.run_bind,isAgg_ok hcc.1,Go.Result.andThen_ok,if_true,hrun];rfl

theorem part_agg {X:V} {off:Nat} {m:Option Nat} {F:V→Prop} {v:Value} (hx:VR σ X v) (h:part X off m F):∃xs,v=.agg xs:=by
  cases hx<;>simp only[part]at h
  · exact⟨_,rfl⟩
  · exact⟨_,rfl⟩

theorem good_fld {t:TypeId} {x:Operand} {x':X} {f:Nat} {m:Option Nat} {fs:Array Go.Field} {fd:Go.Field} (ho:o.op=.field t x f) (ht:P.underlying t=some (.struct fs)) (hf:fs[f]?=some fd) (hm:cells? P fd.type=some m)
    (hx:VR σ (ρ x') (a.eval x)) (h:exec S ρ hp (.fld fd.offset m x') K):∃e,K e∧Done P Own σ hp w a o Q e:=by
  simp only[exec]at h
  generalize hX:ρ x'=X at h hx
  generalize hxv:a.eval x=xv at hx
  obtain⟨xs,rfl⟩:=part_agg hx h
  obtain⟨v,v',hk,hv,hrun⟩:=part_ok (P:=P) (w:=w) hm hx h
  exact⟨_,hk,done_pure (v':=v') (by simp[execOp,ho,hxv,Go.Instr.field,under_ok ht,hf,Go.asAgg,hrun]) hv⟩

theorem good_idxV {t e:TypeId} {n sz:Nat} {m:Option Nat} {x i:Operand} {x' i':X} (ho:o.op=.index t x i) (ht:P.underlying t=some (.array n e)) (hsz:size? P e=some sz) (hm:cells? P e=some m)
    (hx:VR σ (ρ x') (a.eval x)) (hi:VR σ (ρ i') (a.eval i)) (h:exec S ρ hp (.idxV n sz m x' i') K):∃e,K e∧Done P Own σ hp w a o Q e:=by
  simp only[exec]at h
  generalize hX:ρ x'=X at h hx
  generalize hxv:a.eval x=xv at hx
  generalize hI:ρ i'=I at h hi
  generalize hiv:a.eval i=iv at hi
  cases I<;>simp only at h<;>try exact h.elim
  cases hi
  obtain⟨h1,h⟩:=h
  obtain⟨xs,rfl⟩:=part_agg hx h
  obtain⟨ii,hii,hi2,hrun⟩:=size_ok hsz
  obtain⟨v,v',hk,hv,hp'⟩:=part_ok (P:=P) (w:=w) hm hx h
  exact⟨_,hk,done_pure (v':=v') (by simp[execOp,ho,hxv,hiv,Go.Instr.index,Go.asIntOf,under_ok ht,h1,hrun,hp']) hv⟩

theorem good_idxStr {t:TypeId} {x i:Operand} {x' i':X} (ho:o.op=.index t x i) (ht:P.underlying t=some .string)
    (hx:VR σ (ρ x') (a.eval x)) (hi:VR σ (ρ i') (a.eval i)) (h:exec S ρ hp (.idxStr x' i') K):∃e,K e∧Done P Own σ hp w a o Q e:=by
  simp only[exec]at h
  generalize hX:ρ x'=X at h hx
  generalize hxv:a.eval x=xv at hx
  generalize hI:ρ i'=I at h hi
  generalize hiv:a.eval i=iv at hi
  cases X<;>simp only at h<;>try exact h.elim
  cases I<;>simp only at h<;>try exact h.elim
  cases hi
  rename_i k j
  cases hx
  rename_i bs
  obtain⟨⟨h1,h2⟩,h⟩:=h
  have hlen:(bytesOf bs).length=bs.size:=by simp[bytesOf]
  have hlt:j.toNat<bs.size:=by omega
  refine⟨_,h,done_pure (v':=.int .u8 (bs[j.toNat]).toNat) ?_ ?_⟩
  · simp[execOp,ho,hxv,hiv,Go.Instr.index,Go.asIntOf,under_ok ht,h1,hlt]
  · have:getI (bytesOf bs) j.toNat=(bs[j.toNat]).toNat:=by
      have:j.toNat<bs.data.size:=hlt
      simp only[getI,bytesOf,List.getD,List.getElem?_map,Array.getElem?_toList,Array.getElem?_eq_getElem this];rfl
    rw[this];exact .int _ _

theorem good_lenA {t:TypeId} {n:Nat} {e:TypeId} {x:Operand} (ho:o.op=.call { callee:=.builtin .len,args:=#[x],argTypes:=#[t] }) (ht:P.underlying t=some (.array n e))
    (h:exec S ρ hp (.lenA n) K):∃e,K e∧Done P Own σ hp w a o Q e:=by
  simp only[exec]at h
  refine⟨_,h,done_pure (v':=.int .i64 n) ?_ (.int _ _)⟩
  simp[execOp,ho,Go.resolve,Go.invoke,Go.builtin,Go.Builtin.len_,under_ok ht,Go.goInt]

theorem good_lenS {t:TypeId} {x:Operand} {x':X} (ho:o.op=.call { callee:=.builtin .len,args:=#[x],argTypes:=#[t] }) (ht:P.underlying t=some .string)
    (hx:VR σ (ρ x') (a.eval x)) (h:exec S ρ hp (.lenS x') K):∃e,K e∧Done P Own σ hp w a o Q e:=by
  simp only[exec]at h
  generalize hX:ρ x'=X at h hx
  generalize hxv:a.eval x=xv at hx
  cases X<;>simp only at h<;>try exact h.elim
  cases hx
  rename_i bs
  have hlen:(bytesOf bs).length=bs.size:=by simp[bytesOf]
  refine⟨_,h,done_pure (v':=.int .i64 bs.size) ?_ (by rw[hlen];exact .int _ _)⟩
  simp[execOp,ho,hxv,Go.resolve,Go.invoke,Go.builtin,Go.Builtin.len_,under_ok ht,Go.goInt]

theorem good_len {t e:TypeId} {x:Operand} {x':X} (ho:o.op=.call { callee:=.builtin .len,args:=#[x],argTypes:=#[t] }) (ht:P.underlying t=some (.slice e))
    (hx:VR σ (ρ x') (a.eval x)) (h:exec S ρ hp (.len x') K):∃e,K e∧Done P Own σ hp w a o Q e:=by
  simp only[exec]at h
  generalize hX:ρ x'=X at h hx
  generalize hxv:a.eval x=xv at hx
  cases X<;>simp only at h<;>try exact h.elim
  · cases hx
    refine⟨_,h,done_pure (v':=.int .i64 _) ?_ (.int _ _)⟩
    simp[execOp,ho,hxv,Go.resolve,Go.invoke,Go.builtin,Go.Builtin.len_,under_ok ht,Go.goInt]
  · cases hx
    refine⟨_,h,done_pure (v':=.int .i64 0) ?_ (.int _ _)⟩
    simp[execOp,ho,hxv,Go.resolve,Go.invoke,Go.builtin,Go.Builtin.len_,under_ok ht,Go.goInt]
  · cases hx
    refine⟨_,h,done_pure (v':=.int .i64 _) ?_ (.int _ _)⟩
    simp[execOp,ho,hxv,Go.resolve,Go.invoke,Go.builtin,Go.Builtin.len_,under_ok ht,Go.goInt]
  · cases hx
    refine⟨_,h,done_pure (v':=.int .i64 _) ?_ (.int _ _)⟩
    simp[execOp,ho,hxv,Go.resolve,Go.invoke,Go.builtin,Go.Builtin.len_,under_ok ht,Go.goInt]

theorem good_max {ts:Array TypeId} {x y:Operand} {x' y':X} (ho:o.op=.call { callee:=.builtin .max,args:=#[x,y],argTypes:=ts })
    (hx:VR σ (ρ x') (a.eval x)) (hy:VR σ (ρ y') (a.eval y)) (h:exec S ρ hp (.mm true x' y') K):∃e,K e∧Done P Own σ hp w a o Q e:=by
  simp only[exec]at h
  generalize hX:ρ x'=X at h hx
  generalize hxv:a.eval x=xv at hx
  generalize hY:ρ y'=Y at h hy
  generalize hyv:a.eval y=yv at hy
  cases X<;>simp only at h<;>try exact h.elim
  cases Y<;>simp only at h<;>try exact h.elim
  cases hx;cases hy
  rename_i p k q
  obtain⟨-,h⟩:=h
  refine⟨_,h,done_pure (v':=.int _ (max p q)) ?_ (.int _ _)⟩
  have:(if p<q then q else p)=max p q:=by split<;>omega
  simp[execOp,ho,hxv,hyv,Go.resolve,Go.invoke,Go.builtin,Go.Builtin.max_,Go.Builtin.max2,this]

theorem good_min {ts:Array TypeId} {x y:Operand} {x' y':X} (ho:o.op=.call { callee:=.builtin .min,args:=#[x,y],argTypes:=ts })
    (hx:VR σ (ρ x') (a.eval x)) (hy:VR σ (ρ y') (a.eval y)) (h:exec S ρ hp (.mm false x' y') K):∃e,K e∧Done P Own σ hp w a o Q e:=by
  simp only[exec]at h
  generalize hX:ρ x'=X at h hx
  generalize hxv:a.eval x=xv at hx
  generalize hY:ρ y'=Y at h hy
  generalize hyv:a.eval y=yv at hy
  cases X<;>simp only at h<;>try exact h.elim
  cases Y<;>simp only at h<;>try exact h.elim
  cases hx;cases hy
  rename_i p k q
  obtain⟨-,h⟩:=h
  refine⟨_,h,done_pure (v':=.int _ (min p q)) ?_ (.int _ _)⟩
  have:(if q<p then q else p)=min p q:=by split<;>omega
  simp[execOp,ho,hxv,hyv,Go.resolve,Go.invoke,Go.builtin,Go.Builtin.min_,Go.Builtin.min2,this]
theorem good_min3 {ts:Array TypeId} {x y z:Operand} {x' y' z':X} (ho:o.op=.call { callee:=.builtin .min,args:=#[x,y,z],argTypes:=ts })
    (hx:VR σ (ρ x') (a.eval x)) (hy:VR σ (ρ y') (a.eval y)) (hz:VR σ (ρ z') (a.eval z)) (h:exec S ρ hp (.min3 x' y' z') K):∃e,K e∧Done P Own σ hp w a o Q e:=by
  simp only[exec]at h
  generalize hX:ρ x'=X at h hx
  generalize hxv:a.eval x=xv at hx
  generalize hY:ρ y'=Y at h hy
  generalize hyv:a.eval y=yv at hy
  generalize hZ:ρ z'=Z at h hz
  generalize hzv:a.eval z=zv at hz
  cases X<;>simp only at h<;>try exact h.elim
  cases Y<;>simp only at h<;>try exact h.elim
  cases Z<;>simp only at h<;>try exact h.elim
  cases hx;cases hy;cases hz
  rename_i p k q k2 r
  obtain⟨-,h⟩:=h
  refine⟨_,h,done_pure (v':=.int _ (min (min p q) r)) ?_ (.int _ _)⟩
  have e1:(if q<p then q else p)=min p q:=by split<;>omega
  have e2:(if r<min p q then r else min p q)=min (min p q) r:=by split<;>omega
  simp[execOp,ho,hxv,hyv,hzv,Go.resolve,Go.invoke,Go.builtin,Go.Builtin.min_,Go.Builtin.min2,e1,e2]
theorem look_next : Go.Extern.allNextRows.lookup "math/bits.Add64" = none := by kernel_rfl
theorem look_next0 : Go.Extern.allNextRows.lookup "" = none := by kernel_rfl
theorem look_gen : Go.Extern.allGenericRows.lookup "math/bits.Add64" = none := by kernel_rfl
theorem look_typed : Go.Extern.allTypedRows.lookup "math/bits.Add64" = none := by kernel_rfl
theorem look_all : Go.Extern.allRows.lookup "math/bits.Add64" = some Go.add64Entry := by kernel_rfl
theorem good_add64 {f:FuncId} {ts:Array TypeId} {x y z:Operand} {x' y' z':X} (ho:o.op=.call { callee:=.value (.func f),args:=#[x,y,z],argTypes:=ts }) (hf:isAdd P f=true)
    (hx:VR σ (ρ x') (a.eval x)) (hy:VR σ (ρ y') (a.eval y)) (hz:VR σ (ρ z') (a.eval z)) (h:exec S ρ hp (.add64 x' y' z') K):∃e,K e∧Done P Own σ hp w a o Q e:=by
  simp only[exec]at h
  generalize hX:ρ x'=X at h hx
  generalize hxv:a.eval x=xv at hx
  generalize hY:ρ y'=Y at h hy
  generalize hyv:a.eval y=yv at hy
  generalize hZ:ρ z'=Z at h hz
  generalize hzv:a.eval z=zv at hz
  cases X<;>simp only at h<;>try exact h.elim
  cases Y<;>simp only at h<;>try exact h.elim
  cases Z<;>simp only at h<;>try exact h.elim
  cases hx;cases hy;cases hz
  rename_i k p k' q k'' r
  obtain⟨⟨⟨rfl,rfl,rfl⟩,hp0,hq0,hr0,hr1⟩,h⟩:=h
  unfold isAdd at hf
  cases hfn:P.funcs[f]? with
  | none=>simp[hfn]at hf
  | some fn =>
  simp only[hfn,Bool.and_eq_true,Bool.or_eq_true,beq_iff_eq]at hf
  obtain⟨⟨hn,hb⟩,hor⟩:=hf
  have hnext:Go.Extern.findNext fn=none:=by
    unfold Go.Extern.findNext
    rcases hor with h0 | h0<;>simp only[hn,h0,look_next,look_next0]<;>rfl
  have hfind:Go.Extern.find fn=some Go.add64Entry:=by
    unfold Go.Extern.find
    simp only[hn,look_gen,look_typed,look_all]
    rfl
  have hrun:=Go.run_callFunc_extern hfn (by rw[hn];rfl) hb hnext hfind #[.int .u64 p,.int .u64 q,.int .u64 r] w
  rw[Go.run_add64 p q r hp0 hq0 hr0 hr1]at hrun
  refine⟨_,h,done_pure (v':=.tuple #[.int .u64 ((p+q+r)%18446744073709551616),.int .u64 ((p+q+r)/18446744073709551616)]) ?_ ?_⟩
  · rw[←hxv,←hyv,←hzv]at hrun
    simpa[execOp,ho,Go.resolve,Go.Deferred.ofValue,Act.eval,Go.invoke]using hrun
  · exact .tup (.cons (.int _ _) (.cons (.int _ _) .nil))
end
end Am
