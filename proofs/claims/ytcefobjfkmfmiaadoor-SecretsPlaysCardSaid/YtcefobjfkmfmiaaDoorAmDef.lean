/-
A small three-address language (values, memory blocks, operations, code), what its operations do (as propositions that 'simp only' works out), and how code of the model is read as it ('comp').
-/
import Derived.Calls
import Derived.Orders
import Derived.Laws.Rows
import Derived.Laws.AppendOwn
set_option linter.unusedSimpArgs false
set_option linter.unusedVariables false
set_option linter.unusedSectionVars false
namespace Am
open Go (IntKind BinOp UnOp Value FuncId TypeId World Program Oper Op Operand Code Func ResultVar)

inductive V where
  | undef
  | bool (b:Bool)
  | int (k:IntKind) (n:Int)
  | str (s:List Int)
  | ptr (b o:Nat)
  | nilp
  | slice (b o sz len cap:Nat)
  | nils
  | fn (f:FuncId) (caps:List V)
  | nilfn
  | mth (m:String) (t:TypeId)
  | iface (t:TypeId) (v:V)
  | nili
  | ints (k:IntKind) (xs:List Int)
  | agg (cs:List V)
  | tup (vs:List V)
  | rsl (sz len:Nat) (k:IntKind) (xs:List Int)
  | rcs (sz len:Nat) (cs:List V)
  | rpi (k:IntKind) (xs:List Int) (o:Nat)
  | rpc (cs:List V) (o:Nat)
  deriving Repr,Inhabited

inductive Blk where
  | dead
  | ints (ro:Bool) (k:IntKind) (xs:List Int)
  | cells (ro:Bool) (cs:List V)
  deriving Repr,Inhabited

inductive X where
  | t (n:Nat)
  | c (v:V)
  deriving Repr,Inhabited

inductive I where
  | mov (x:X)
  | movS (x:X)
  | pick (c a b:X)
  | alloc (z:V)
  | box (x:X)
  | build (z:V) (ps:List (Nat×Nat×X))
  | bsl (sz len:Nat) (z:V) (ps:List (Nat×Nat×X))
  | load (x:X)
  | loadN (n:Nat) (x:X)
  | store (x y:X)
  | storeN (n:Nat) (x y:X)
  | bin (o:BinOp) (x y:X)
  | binB (o:BinOp) (x y:X)
  | binS (o:BinOp) (x y:X)
  | binP (o:BinOp) (x y:X)
  | eqf (neg:Bool) (n:Nat) (x y:X)
  | un (o:UnOp) (x:X)
  | conv (k:IntKind) (x:X)
  | s2b (x:X)
  | b2s (x:X)
  | mks (sz bytes:Nat) (z:V) (l c:X)
  | slcA (n sz:Nat) (x:X) (lo hi mx:Option X)
  | slcS (sz:Nat) (x:X) (lo hi mx:Option X)
  | slcStr (x:X) (lo hi:Option X)
  | fldA (off:Nat) (x:X)
  | fld (off:Nat) (n:Option Nat) (x:X)
  | idxA (n sz:Nat) (x i:X)
  | idxS (sz:Nat) (x i:X)
  | idxV (n sz:Nat) (m:Option Nat) (x i:X)
  | ext (x:X) (i:Nat)
  | len (x:X)
  | lenS (x:X)
  | lenA (n:Nat)
  | app (sz bytes:Nat) (x y:X)
  | appZ (sz bytes:Nat) (z:V) (x l:X)
  | eqnS (neg:Bool) (x:X)
  | copy (sz:Nat) (x y:X)
  | mm (mx:Bool) (x y:X)
  | min3 (x y z:X)
  | add64 (x y z:X)
  | nck (x:X)
  | mark (x:X)
  | idxStr (x i:X)
  | mkif (t:TypeId) (x:X)
  | s2a (n:Nat) (x:X)
  | mkm (m:String) (x:X)
  | nckM (tab:List (String×TypeId)) (x:X)
  | inv (tab:List (TypeId×FuncId)) (r:X) (xs:List X)
  | call (f:FuncId) (xs:List X)
  | callM (f:FuncId) (xs:List X)
  deriving Repr,Inhabited

/-- A guarded operation: the guard's slot and the wanted Bool; where the result goes. -/
structure G where
  g:Option (Nat×Bool)
  d:Option Nat
  i:I
  deriving Repr,Inhabited

inductive C where
  | skip
  | seq (a b:C)
  | ops (l:List G)
  | opsC (l:List G) (chk:List (Nat×Nat))
  | alt (a b:C)
  | cond (x:X) (a b:C)
  | block (id:Nat) (a:C)
  | loop (kill:List Nat) (a:C)
  | exit (id:Nat)
  | ret
  deriving Repr,Inhabited

structure St where
  sl:List V
  hp:List Blk

structure Ef where
  v:V
  st:List (Nat×Blk)
  nw:List Blk

mutual
/-- A value that leads nowhere but to memory that stays as it is. -/
def purR:V→Bool
  | .bool _=>true
  | .int _ _=>true
  | .str _=>true
  | .nilp=>true
  | .nils=>true
  | .nilfn=>true
  | .nili=>true
  | .ints _ _=>true
  | .agg cs=>pursR cs
  | .tup cs=>pursR cs
  | .rsl _ _ _ _=>true
  | .rcs _ _ cs=>pursR cs
  | .rpi _ _ _=>true
  | .rpc cs _=>pursR cs
  | .iface _ v=>purR v
  | .fn _ cs=>pursR cs
  | _=>false
def pursR:List V→Bool
  | []=>true
  | a::r=>purR a&&pursR r
end
/-! ### Lists by number -/
def nth:List V→Nat→V
  | [],_=>.undef
  | a::_,0=>a
  | _::l,n+1=>nth l n
def upd:List V→Nat→V→List V
  | [],_,_=>[]
  | _::l,0,v=>v::l
  | a::l,n+1,v=>a::upd l n v
def nthB:List Blk→Nat→Blk
  | [],_=>.dead
  | a::_,0=>a
  | _::l,n+1=>nthB l n
def updB:List Blk→Nat→Blk→List Blk
  | [],_,_=>[]
  | _::l,0,v=>v::l
  | a::l,n+1,v=>a::updB l n v
/-- The part of a list from a place on, so many. -/
def sub {α:Type} (l:List α) (o n:Nat):List α:=(l.drop o).take n
/-- A list with another one laid over it from a place on. -/
def spl {α:Type} (l:List α) (o:Nat) (m:List α):List α:=l.take o++(m++l.drop (o+m.length))
def getI (xs:List Int) (i:Nat):Int:=xs.getD i 0

/-! ### Numbers -/
def bAnd (k:IntKind) (a b:Int):Int:=k.wrap ((BitVec.ofInt k.bits a &&& BitVec.ofInt k.bits b).toNat:Nat)
def bOr (k:IntKind) (a b:Int):Int:=k.wrap ((BitVec.ofInt k.bits a ||| BitVec.ofInt k.bits b).toNat:Nat)
def bXor (k:IntKind) (a b:Int):Int:=k.wrap ((BitVec.ofInt k.bits a ^^^ BitVec.ofInt k.bits b).toNat:Nat)
def bAndNot (k:IntKind) (a b:Int):Int:=k.wrap ((BitVec.ofInt k.bits a &&& ~~~ BitVec.ofInt k.bits b).toNat:Nat)
def iShl (k:IntKind) (a b:Int):Int:=k.wrap (a*2^(min b.toNat k.bits))
def iShr (k:IntKind) (a b:Int):Int:=a.fdiv (2^(min b.toNat k.bits))
/-- A cell of bytes as a byte of a string. -/
def byte (n:Int):Int:=((n.toNat%256:Nat):Int)

def intBin (o:BinOp) (k:IntKind) (a b:Int) (K:V→Prop):Prop :=
  match o with
  | .add=>K (.int k (k.wrap (a+b)))
  | .sub=>K (.int k (k.wrap (a-b)))
  | .mul=>K (.int k (k.wrap (a*b)))
  | .quo=>b≠0∧K (.int k (k.wrap (a.tdiv b)))
  | .rem=>b≠0∧K (.int k (a.tmod b))
  | .and=>K (.int k (bAnd k a b))
  | .or=>K (.int k (bOr k a b))
  | .xor=>K (.int k (bXor k a b))
  | .andNot=>K (.int k (bAndNot k a b))
  | .shl=>0≤b∧K (.int k (iShl k a b))
  | .shr=>0≤b∧K (.int k (iShr k a b))
  | .eql=>K (.bool (decide (a=b)))
  | .neq=>K (.bool (!decide (a=b)))
  | .lss=>K (.bool (decide (a<b)))
  | .leq=>K (.bool (decide (a≤b)))
  | .gtr=>K (.bool (decide (b<a)))
  | .geq=>K (.bool (decide (b≤a)))

def bin (o:BinOp) (x y:V) (K:V→Prop):Prop :=
  match x with
  | .int k a=>match y with
    | .int k' b=>match o with
      | .shl=>intBin .shl k a b K
      | .shr=>intBin .shr k a b K
      | o=>k=k'∧intBin o k a b K
    | _=>False
  | _=>False
def binB (o:BinOp) (x y:V) (K:V→Prop):Prop :=
  match x with
  | .bool a=>match y with
    | .bool b=>match o with
      | .eql=>K (.bool (decide (a=b)))
      | .neq=>K (.bool (!decide (a=b)))
      | _=>False
    | _=>False
  | _=>False
def binS (o:BinOp) (x y:V) (K:V→Prop):Prop :=
  match x with
  | .str a=>match y with
    | .str b=>match o with
      | .eql=>K (.bool (decide (a=b)))
      | .neq=>K (.bool (!decide (a=b)))
      | .add=>a.length+b.length≤9223372036854775807∧K (.str (a++b))
      | _=>False
    | _=>False
  | _=>False
def binP (o:BinOp) (x y:V) (K:V→Prop):Prop :=
  match x with
  | .nilp=>match y with
    | .nilp=>match o with
      | .eql=>K (.bool true)
      | .neq=>K (.bool false)
      | _=>False
    | .ptr _ _=>match o with
      | .eql=>K (.bool false)
      | .neq=>K (.bool true)
      | _=>False
    | .rpi _ _ _=>match o with
      | .eql=>K (.bool false)
      | .neq=>K (.bool true)
      | _=>False
    | .rpc _ _=>match o with
      | .eql=>K (.bool false)
      | .neq=>K (.bool true)
      | _=>False
    | _=>False
  | .rpi _ _ _=>match y with
    | .nilp=>match o with
      | .eql=>K (.bool false)
      | .neq=>K (.bool true)
      | _=>False
    | _=>False
  | .rpc _ _=>match y with
    | .nilp=>match o with
      | .eql=>K (.bool false)
      | .neq=>K (.bool true)
      | _=>False
    | _=>False
  | .ptr _ _=>match y with
    | .nilp=>match o with
      | .eql=>K (.bool false)
      | .neq=>K (.bool true)
      | _=>False
    | _=>False
  | _=>False

def un (o:UnOp) (x:V) (K:V→Prop):Prop :=
  match o,x with
  | .neg,.int k n=>K (.int k (k.wrap (0-n)))
  | .xor,.int k n=>K (.int k (bXor k (if k.signed then -1 else k.max) n))
  | .not,.bool b=>K (.bool (!b))
  | _,_=>False

/-! ### Values of several cells -/
def mkB:V→Option Blk
  | .agg cs=>some (.cells false cs)
  | .ints k xs=>some (.ints false k xs)
  | .undef=>none
  | .tup _=>none
  | v=>some (.cells false [v])
/-- So many of a zero value, one behind the other. -/
def repB (z:V) (n:Nat):Option Blk :=
  match z with
  | .int k x=>some (.ints false k (List.replicate n x))
  | .ints k xs=>some (.ints false k (List.replicate n xs).flatten)
  | .agg cs=>some (.cells false (List.replicate n cs).flatten)
  | .undef=>none
  | .tup _=>none
  | v=>some (.cells false (List.replicate n v))
/-- A literal's parts (place, how many cells, value) laid into its zero value. -/
def fill:V→List (Nat×Nat×V)→(V→Prop)→Prop
  | z,[],K=>K z
  | .ints k xs,(o,m,p)::r,K=>match p with
    | .int k' n=>(k=k'∧m=1∧o<xs.length)∧fill (.ints k (xs.set o n)) r K
    | .ints k' ys=>(k=k'∧ys.length=m∧o+m≤xs.length)∧fill (.ints k (spl xs o ys)) r K
    | _=>False
  | .agg cs,(o,m,p)::r,K=>match p with
    | .ints k' ys=>(ys.length=m∧o+m≤cs.length)∧fill (.agg (spl cs o (ys.map (.int k')))) r K
    | .agg ds=>(ds.length=m∧o+m≤cs.length)∧fill (.agg (spl cs o ds)) r K
    | .tup _=>False
    | .undef=>False
    | v=>(m=1∧o<cs.length)∧fill (.agg (upd cs o v)) r K
  | _,_::_,_=>False
/-- What a slice (or a string) holds, as a block's content. -/
def content (z:Nat) (hp:List Blk) (v:V) (K:Blk→Nat→Prop):Prop :=
  match v with
  | .slice b o sz len _=>match nthB hp b with
    | .ints _ k xs=>(z=sz∧o+len*sz≤xs.length)∧K (.ints true k (sub xs o (len*sz))) len
    | .cells _ cs=>(z=sz∧o+len*sz≤cs.length)∧K (.cells true (sub cs o (len*sz))) len
    | .dead=>False
  | .nils=>K (.cells true []) 0
  | .rsl sz len k xs=>z=sz∧K (.ints true k xs) len
  | .rcs sz len cs=>z=sz∧K (.cells true cs) len
  | .str s=>z=1∧K (.ints true .u8 s) s.length
  | _=>False
def bound (x:Option X) (ev:X→V) (d:Nat) (hi:Nat) (K:Nat→Prop):Prop :=
  match x with
  | none=>K d
  | some x=>match ev x with
    | .int _ n=>(0≤n∧n≤hi)∧K n.toNat
    | _=>False
def part (x:V) (off:Nat) (n:Option Nat) (K:V→Prop):Prop :=
  match x with
  | .ints k xs=>match n with
    | none=>off<xs.length∧K (.int k (getI xs off))
    | some n=>off+n≤xs.length∧K (.ints k (sub xs off n))
  | .agg cs=>match n with
    | none=>off<cs.length∧K (nth cs off)
    | some n=>off+n≤cs.length∧K (.agg (sub cs off n))
  | _=>False

def blen:Blk→Nat
  | .ints _ _ xs=>xs.length
  | .cells _ cs=>cs.length
  | .dead=>0

abbrev Summ:=List V→List Blk→(Ef→Prop)→Prop

def ev (sl:List V):X→V
  | .t n=>nth sl n
  | .c v=>v

def evs (ev:X→V):List X→List V
  | []=>[]
  | x::r=>ev x::evs ev r
def evp (ev:X→V):List (Nat×Nat×X)→List (Nat×Nat×V)
  | []=>[]
  | (o,m,x)::r=>(o,m,ev x)::evp ev r

/-- Appending so many elements that a block holds. -/
def appK (sz bytes:Nat) (hp:List Blk) (x:V) (B:Blk) (n:Nat) (K:Ef→Prop):Prop :=
  match x with
  | .nils=>(n*bytes≤140737488355328)∧match B with
    | .ints _ k ys=>K ⟨.slice hp.length 0 sz n n,[],[.ints false k ys]⟩
    | .cells _ []=>n=0∧K ⟨.nils,[],[]⟩
    | .cells _ cs=>K ⟨.slice hp.length 0 sz n n,[],[.cells false cs]⟩
    | .dead=>False
  | .slice b o sz' len _=>(sz=sz'∧(len+n)*bytes≤140737488355328)∧match nthB hp b with
    | .ints false k xs=>xs.length=o+len*sz∧match B with
      | .ints _ k' ys=>k=k'∧K ⟨.slice hp.length 0 sz (len+n) (len+n),[(b,.dead)],[.ints false k (xs.drop o++ys)]⟩
      | .cells _ []=>K ⟨.slice hp.length 0 sz (len+n) (len+n),[(b,.dead)],[.ints false k (xs.drop o)]⟩
      | _=>False
    | .cells false cs=>cs.length=o+len*sz∧match B with
      | .ints _ k ys=>K ⟨.slice hp.length 0 sz (len+n) (len+n),[(b,.dead)],[.cells false (cs.drop o++ys.map (.int k))]⟩
      | .cells _ ds=>K ⟨.slice hp.length 0 sz (len+n) (len+n),[(b,.dead)],[.cells false (cs.drop o++ds)]⟩
      | .dead=>False
    | _=>False
  | _=>False

/-- The function of a type in a table. -/
def row1:List (TypeId×FuncId)→TypeId→Option FuncId
  | [],_=>none
  | (u,f)::r,t=>if u=t then some f else row1 r t

/-- Cells that are numbers of one kind. -/
def allI (k:IntKind):List V→Option (List Int)
  | []=>some []
  | .int k' n::r=>if k'=k then (allI k r).map (n::·)else none
  | _::_=>none
/-- Cells as a value: numbers of one kind as such. -/
def agI (cs:List V):V:=match cs with
  | .int k _::_=>match allI k cs with
    | some xs=>.ints k xs
    | none=>.agg cs
  | _=>.agg cs
def exec (S:FuncId→Summ) (ev:X→V) (hp:List Blk) (i:I) (K:Ef→Prop):Prop :=
  match i with
  | .mov x=>K ⟨ev x,[],[]⟩
  | .movS x=>match ev x with
    | .str s=>K ⟨.str s,[],[]⟩
    | _=>False
  | .pick c a b=>match ev c with
    | .bool c=>(c=true→K ⟨ev a,[],[]⟩)∧(c=false→K ⟨ev b,[],[]⟩)
    | _=>False
  | .alloc z=>match mkB z with
    | some B=>K ⟨.ptr hp.length 0,[],[B]⟩
    | none=>False
  | .box x=>match mkB (ev x)with
    | some B=>K ⟨.ptr hp.length 0,[],[B]⟩
    | none=>False
  | .build z ps=>fill z (evp ev ps) fun v=>K ⟨v,[],[]⟩
  | .bsl sz len z ps=>fill z (evp ev ps) fun v=>match mkB v with
    | some B=>K ⟨.slice hp.length 0 sz len len,[],[B]⟩
    | none=>False
  | .load x=>match ev x with
    | .ptr b o=>match nthB hp b with
      | .ints _ k xs=>o<xs.length∧K ⟨.int k (getI xs o),[],[]⟩
      | .cells _ cs=>o<cs.length∧K ⟨nth cs o,[],[]⟩
      | .dead=>False
    | .rpi k xs o=>o<xs.length∧K ⟨.int k (getI xs o),[],[]⟩
    | .rpc cs o=>o<cs.length∧K ⟨nth cs o,[],[]⟩
    | _=>False
  | .loadN n x=>match ev x with
    | .ptr b o=>match nthB hp b with
      | .ints _ k xs=>o+n≤xs.length∧K ⟨.ints k (sub xs o n),[],[]⟩
      | .cells _ cs=>o+n≤cs.length∧K ⟨agI (sub cs o n),[],[]⟩
      | .dead=>False
    | .rpi k xs o=>o+n≤xs.length∧K ⟨.ints k (sub xs o n),[],[]⟩
    | .rpc cs o=>o+n≤cs.length∧K ⟨agI (sub cs o n),[],[]⟩
    | _=>False
  | .store x y=>match ev x with
    | .ptr b o=>match nthB hp b with
      | .ints false k xs=>match ev y with
        | .int k' n=>(k=k'∧o<xs.length)∧K ⟨.undef,[(b,.ints false k (xs.set o n))],[]⟩
        | _=>False
      | .cells false cs=>match ev y with
        | .agg _=>False
        | .ints _ _=>False
        | .tup _=>False
        | .undef=>False
        | v=>o<cs.length∧K ⟨.undef,[(b,.cells false (upd cs o v))],[]⟩
      | _=>False
    | _=>False
  | .storeN n x y=>match ev x with
    | .ptr b o=>match nthB hp b with
      | .ints false k xs=>match ev y with
        | .ints k' ys=>(k=k'∧ys.length=n∧o+n≤xs.length∧0<xs.length)∧K ⟨.undef,[(b,.ints false k (spl xs o ys))],[]⟩
        | _=>False
      | .cells false cs=>match ev y with
        | .ints k' ys=>(ys.length=n∧o+n≤cs.length∧0<cs.length)∧K ⟨.undef,[(b,.cells false (spl cs o (ys.map (.int k'))))],[]⟩
        | .agg ds=>(ds.length=n∧o+n≤cs.length∧0<cs.length)∧K ⟨.undef,[(b,.cells false (spl cs o ds))],[]⟩
        | _=>False
      | _=>False
    | _=>False
  | .bin o x y=>bin o (ev x) (ev y) fun v=>K ⟨v,[],[]⟩
  | .binB o x y=>binB o (ev x) (ev y) fun v=>K ⟨v,[],[]⟩
  | .binS o x y=>binS o (ev x) (ev y) fun v=>K ⟨v,[],[]⟩
  | .binP o x y=>binP o (ev x) (ev y) fun v=>K ⟨v,[],[]⟩
  | .eqf neg n x y=>match ev x with
    | .ints k xs=>match ev y with
      | .ints k' ys=>(k=k'∧xs.length=n∧ys.length=n)∧match neg with
        | true=>K ⟨.bool (!decide (xs=ys)),[],[]⟩
        | false=>K ⟨.bool (decide (xs=ys)),[],[]⟩
      | _=>False
    | _=>False
  | .un o x=>un o (ev x) fun v=>K ⟨v,[],[]⟩
  | .conv k x=>match ev x with
    | .int _ n=>K ⟨.int k (k.wrap n),[],[]⟩
    | _=>False
  | .s2b x=>match ev x with
    | .str s=>K ⟨.slice hp.length 0 1 s.length s.length,[],[.ints false .u8 s]⟩
    | _=>False
  | .b2s x=>match ev x with
    | .slice b o sz len _=>match nthB hp b with
      | .ints _ k xs=>(sz=1∧k=.u8∧o+len≤xs.length)∧K ⟨.str ((sub xs o len).map byte),[],[]⟩
      | _=>False
    | .rsl sz len k xs=>(sz=1∧k=.u8)∧K ⟨.str (xs.map byte),[],[]⟩
    | .nils=>K ⟨.str [],[],[]⟩
    | _=>False
  | .mks sz bytes z l c=>match ev l with
    | .int _ n=>match ev c with
      | .int _ m=>(0≤n∧n=m∧bytes*n≤140737488355328∧n≤9223372036854775807)∧match repB z n.toNat with
        | some B=>K ⟨.slice hp.length 0 sz n.toNat n.toNat,[],[B]⟩
        | none=>False
      | _=>False
    | _=>False
  | .slcA n sz x lo hi mx=>match ev x with
    | .ptr b o=>o+n*sz≤blen (nthB hp b)∧bound mx ev n n fun m=>bound hi ev n m fun h=>bound lo ev 0 h fun l =>
      K ⟨.slice b (o+l*sz) sz (h-l) (m-l),[],[]⟩
    | .rpi k xs o=>o+n*sz≤xs.length∧bound mx ev n n fun m=>bound hi ev n m fun h=>bound lo ev 0 h fun l =>
      K ⟨.rsl sz (h-l) k (sub xs (o+l*sz) ((h-l)*sz)),[],[]⟩
    | _=>False
  | .slcS sz x lo hi mx=>match ev x with
    | .slice b o sz' len cap=>sz=sz'∧bound mx ev cap cap fun m=>bound hi ev len m fun h=>bound lo ev 0 h fun l =>
      K ⟨.slice b (o+l*sz) sz (h-l) (m-l),[],[]⟩
    | .rsl sz' len k xs=>sz=sz'∧bound mx ev len len fun m=>bound hi ev len m fun h=>bound lo ev 0 h fun l =>
      K ⟨.rsl sz (h-l) k (sub xs (l*sz) ((h-l)*sz)),[],[]⟩
    | .rcs sz' len cs=>sz=sz'∧bound mx ev len len fun m=>bound hi ev len m fun h=>bound lo ev 0 h fun l =>
      K ⟨.rcs sz (h-l) (sub cs (l*sz) ((h-l)*sz)),[],[]⟩
    | .nils=>bound mx ev 0 0 fun m=>bound hi ev 0 m fun h=>bound lo ev 0 h fun _=>K ⟨.nils,[],[]⟩
    | _=>False
  | .slcStr x lo hi=>match ev x with
    | .str s=>bound hi ev s.length s.length fun h=>bound lo ev 0 h fun l=>K ⟨.str (sub s l (h-l)),[],[]⟩
    | _=>False
  | .fldA off x=>match ev x with
    | .ptr b o=>K ⟨.ptr b (o+off),[],[]⟩
    | .rpi k xs o=>K ⟨.rpi k xs (o+off),[],[]⟩
    | .rpc cs o=>K ⟨.rpc cs (o+off),[],[]⟩
    | _=>False
  | .fld off n x=>part (ev x) off n fun v=>K ⟨v,[],[]⟩
  | .idxA n sz x i=>match ev x with
    | .ptr b o=>match ev i with
      | .int _ j=>(0≤j∧j<n)∧K ⟨.ptr b (o+j.toNat*sz),[],[]⟩
      | _=>False
    | .rpi k xs o=>match ev i with
      | .int _ j=>(0≤j∧j<n)∧K ⟨.rpi k xs (o+j.toNat*sz),[],[]⟩
      | _=>False
    | .rpc cs o=>match ev i with
      | .int _ j=>(0≤j∧j<n)∧K ⟨.rpc cs (o+j.toNat*sz),[],[]⟩
      | _=>False
    | _=>False
  | .idxS sz x i=>match ev x with
    | .slice b o sz' len _=>match ev i with
      | .int _ j=>(sz=sz'∧0≤j∧j<len)∧K ⟨.ptr b (o+j.toNat*sz),[],[]⟩
      | _=>False
    | .rsl sz' len k xs=>match ev i with
      | .int _ j=>(sz=sz'∧0≤j∧j<len)∧K ⟨.rpi k xs (j.toNat*sz),[],[]⟩
      | _=>False
    | .rcs sz' len cs=>match ev i with
      | .int _ j=>(sz=sz'∧0≤j∧j<len)∧K ⟨.rpc cs (j.toNat*sz),[],[]⟩
      | _=>False
    | _=>False
  | .idxV n sz m x i=>match ev i with
    | .int _ j=>(0≤j∧j<n)∧part (ev x) (j.toNat*sz) m fun v=>K ⟨v,[],[]⟩
    | _=>False
  | .ext x i=>match ev x with
    | .tup vs=>i<vs.length∧K ⟨nth vs i,[],[]⟩
    | _=>False
  | .len x=>match ev x with
    | .slice _ _ _ n _=>K ⟨.int .i64 n,[],[]⟩
    | .rsl _ n _ _=>K ⟨.int .i64 n,[],[]⟩
    | .rcs _ n _=>K ⟨.int .i64 n,[],[]⟩
    | .nils=>K ⟨.int .i64 0,[],[]⟩
    | _=>False
  | .lenS x=>match ev x with
    | .str s=>K ⟨.int .i64 s.length,[],[]⟩
    | _=>False
  | .lenA n=>K ⟨.int .i64 n,[],[]⟩
  | .app sz bytes x y=>content sz hp (ev y) fun B n=>appK sz bytes hp (ev x) B n K
  | .appZ sz bytes z x l=>match ev l with
    | .int _ n=>(0≤n∧n<9223372036854775808∧n*bytes≤140737488355328)∧match repB z n.toNat with
      | some B=>appK sz bytes hp (ev x) B n.toNat K
      | none=>False
    | _=>False
  | .eqnS neg x=>match ev x with
    | .nils=>K ⟨.bool (!neg),[],[]⟩
    | .slice _ _ _ len _=>0<len∧K ⟨.bool neg,[],[]⟩
    | .rsl _ len _ _=>0<len∧K ⟨.bool neg,[],[]⟩
    | .rcs _ len _=>0<len∧K ⟨.bool neg,[],[]⟩
    | _=>False
  | .copy sz x y=>content sz hp (ev y) fun B n=>match ev x with
    | .nils=>K ⟨.int .i64 0,[],[]⟩
    | .slice b o sz' len _=>sz=sz'∧match nthB hp b with
      | .ints false k xs=>o+len*sz≤xs.length∧match B with
        | .ints _ k' ys=>k=k'∧K ⟨.int .i64 (min n len:Nat),[(b,.ints false k (spl xs o (ys.take (min n len*sz))))],[]⟩
        | .cells _ []=>K ⟨.int .i64 (min n len:Nat),[],[]⟩
        | _=>False
      | .cells false cs=>o+len*sz≤cs.length∧match B with
        | .ints _ k ys=>K ⟨.int .i64 (min n len:Nat),[(b,.cells false (spl cs o ((ys.map (.int k)).take (min n len*sz))))],[]⟩
        | .cells _ ds=>K ⟨.int .i64 (min n len:Nat),[(b,.cells false (spl cs o (ds.take (min n len*sz))))],[]⟩
        | .dead=>False
      | _=>False
    | _=>False
  | .mm mx x y=>match ev x with
    | .int k a=>match ev y with
      | .int k' b=>k=k'∧match mx with
        | true=>K ⟨.int k (max a b),[],[]⟩
        | false=>K ⟨.int k (min a b),[],[]⟩
      | _=>False
    | _=>False
  | .min3 x y z=>match ev x with
    | .int k a=>match ev y with
      | .int k' b=>match ev z with
        | .int k'' c=>(k=k'∧k=k'')∧K ⟨.int k (min (min a b) c),[],[]⟩
        | _=>False
      | _=>False
    | _=>False
  | .add64 x y z=>match ev x with
    | .int k a=>match ev y with
      | .int k' b=>match ev z with
        | .int k'' c=>((k=.u64∧k'=.u64∧k''=.u64)∧0≤a∧0≤b∧0≤c∧c≤1)∧K ⟨.tup [.int .u64 ((a+b+c)%18446744073709551616),.int .u64 ((a+b+c)/18446744073709551616)],[],[]⟩
        | _=>False
      | _=>False
    | _=>False
  | .nck x=>match ev x with
    | .ptr b o=>K ⟨.ptr b o,[],[]⟩
    | .rpi k xs o=>K ⟨.rpi k xs o,[],[]⟩
    | .rpc cs o=>K ⟨.rpc cs o,[],[]⟩
    | .fn f cs=>K ⟨.fn f cs,[],[]⟩
    | _=>False
  | .mark x=>match ev x with
    | .slice b o sz len cap=>match nthB hp b with
      | .ints false k xs=>(0<xs.length∧0<len)∧K ⟨.slice b o sz len cap,[(b,.ints false k xs)],[]⟩
      | _=>False
    | _=>False
  | .idxStr x i=>match ev x with
    | .str s=>match ev i with
      | .int _ j=>(0≤j∧j<s.length)∧K ⟨.int .u8 (getI s j.toNat),[],[]⟩
      | _=>False
    | _=>False
  | .mkif t x=>K ⟨.iface t (ev x),[],[]⟩
  | .s2a n x=>match ev x with
    | .slice b o sz len cap=>(0<n∧n≤len)∧K ⟨.ptr b o,[],[]⟩
    | .rsl sz len k xs=>(0<n∧n≤len)∧K ⟨.rpi k xs 0,[],[]⟩
    | _=>False
  | .mkm m x=>match ev x with
    | .iface t v=>K ⟨.mth m t,[],[]⟩
    | _=>False
  | .nckM tab x=>match ev x with
    | .mth m t=>(m,t)∈tab∧K ⟨.mth m t,[],[]⟩
    | _=>False
  | .inv tab r xs=>match ev r with
    | .iface t v=>match row1 tab t with
      | some f=>S f (v::evs ev xs) hp fun e=>e.st=[]∧K e
      | none=>False
    | _=>False
  | .call f xs=>S f (evs ev xs) hp fun e=>e.st=[]∧K e
  | .callM f xs=>S f (evs ev xs) hp K

def apS:List Blk→List (Nat×Blk)→List Blk
  | hp,[]=>hp
  | hp,(b,B)::r=>apS (updB hp b B) r
def apN (hp:List Blk):List Blk→List Blk
  | []=>hp
  | B::r=>hp++B::r
def put (sl:List V):Option Nat→V→List V
  | some d,v=>upd sl d v
  | none,_=>sl

def run (S:FuncId→Summ):List G→St→(St→Prop)→Prop
  | [],s,Q=>Q s
  | g::r,s,Q=>match g.g with
    | none=>exec S (ev s.sl) s.hp g.i fun e=>run S r ⟨put s.sl g.d e.v,apN (apS s.hp e.st) e.nw⟩ Q
    | some (t,want)=>match nth s.sl t with
      | .bool b=>(b=want→exec S (ev s.sl) s.hp g.i fun e=>run S r ⟨put s.sl g.d e.v,apN (apS s.hp e.st) e.nw⟩ Q) ∧
        (b=!want→run S r ⟨put s.sl g.d (.tup []),s.hp⟩ Q)
      | .tup []=>run S r ⟨put s.sl g.d (.tup []),s.hp⟩ Q
      | _=>False

inductive Ex where
  | normal
  | exit (id:Nat)
  | ret

def thenQ (f:St→Prop) (Q:Ex→St→Prop):Ex→St→Prop
  | .normal=>f
  | .exit i=>Q (.exit i)
  | .ret=>Q .ret
def blockQ (id:Nat) (Q:Ex→St→Prop):Ex→St→Prop
  | .normal=>Q .normal
  | .exit i=>if i=id then Q .normal else Q (.exit i)
  | .ret=>Q .ret
def kill:List Nat→List V→List V
  | [],sl=>sl
  | t::r,sl=>kill r (upd sl t .undef)
def blkOf:V→Option Nat
  | .ptr b _=>some b
  | .slice b _ _ _ _=>some b
  | .nils=>some 0
  | _=>none
/-- The two slots lead to unlike blocks. -/
def apartOk (sl:List V):List (Nat×Nat)→Prop
  | []=>True
  | (t,u)::r=>(match nth sl t with
    | .ptr b _=>match nth sl u with
      | .ptr c _=>b≠c
      | .slice c _ _ _ _=>b≠c
      | .nils=>True
      | _=>False
    | _=>False)∧apartOk sl r

/-- Where a number stands in a list. -/
def posOf:List Nat→Nat→Option Nat
  | [],_=>none
  | a::r,b=>match Nat.beq a b with
    | true=>some 0
    | false=>match posOf r b with
      | some n=>some (n+1)
      | none=>none
mutual
/-- A value, the blocks numbered anew: those of a list, in its order; what led to another one leads nowhere. -/
def gcV (keep:List Nat):V→V
  | .ptr b o=>match posOf keep b with
    | some c=>.ptr c o
    | none=>.undef
  | .slice b o sz len cap=>match posOf keep b with
    | some c=>.slice c o sz len cap
    | none=>.undef
  | .fn f cs=>.fn f (gcVs keep cs)
  | .iface t v=>.iface t (gcV keep v)
  | .agg cs=>.agg (gcVs keep cs)
  | .tup cs=>.tup (gcVs keep cs)
  | .undef=>.undef
  | .bool b=>.bool b
  | .int k n=>.int k n
  | .str s=>.str s
  | .nilp=>.nilp
  | .nils=>.nils
  | .nilfn=>.nilfn
  | .mth m t=>.mth m t
  | .nili=>.nili
  | .ints k xs=>.ints k xs
  | .rsl sz len k xs=>.rsl sz len k xs
  | .rcs sz len cs=>.rcs sz len cs
  | .rpi k xs o=>.rpi k xs o
  | .rpc cs o=>.rpc cs o
def gcVs (keep:List Nat):List V→List V
  | []=>[]
  | v::r=>gcV keep v::gcVs keep r
end
def gcB (keep:List Nat):Blk→Blk
  | .cells ro cs=>.cells ro (gcVs keep cs)
  | .ints ro k xs=>.ints ro k xs
  | .dead=>.dead
def gcH (keep:List Nat) (hp:List Blk):List Nat→List Blk
  | []=>[]
  | b::r=>gcB keep (nthB hp b)::gcH keep hp r
def gc (keep:List Nat) (s:St):St:=⟨gcVs keep s.sl,gcH keep s.hp keep⟩
/-- A state that says no more: the same one, or with blocks left out and numbered anew, the first so many as they are. -/
def Weak (m:Nat) (s s':St):Prop:=s'=s∨∃keep:List Nat,keep.take m=List.range m∧keep.Nodup∧(∀b∈keep,b<s.hp.length)∧s'=gc keep s

def awp (S:FuncId→Summ) (m:Nat):C→(Ex→St→Prop)→St→Prop
  | .skip,Q,s=>Q .normal s
  | .seq a b,Q,s=>awp S m a (thenQ (awp S m b Q) Q) s
  | .ops l,Q,s=>run S l s (Q .normal)
  | .opsC l chk,Q,s=>run S l s fun s'=>apartOk s'.sl chk∧Q .normal s'
  | .alt a b,Q,s=>awp S m a Q s∧awp S m b Q s
  | .cond x a b,Q,s=>match ev s.sl x with
    | .bool c=>(c=true→awp S m a Q s)∧(c=false→awp S m b Q s)
    | _=>False
  | .block id a,Q,s=>awp S m a (blockQ id Q) s
  | .loop d a,Q,s=>∃n:Nat,Nat.rec (motive:=fun _=>St→Prop) (fun _=>False) (fun _ ih s=>∃s',Weak m ⟨kill d s.sl,s.hp⟩ s'∧awp S m a (thenQ ih Q) s') n s
  | .exit id,Q,s=>Q (.exit id) s
  | .ret,Q,s=>Q .ret s

/-- A result: a slot, or what lies at a slot's address: so many cells (none: one). -/
inductive R where
  | t (n:Nat)
  | cell (n:Nat) (m:Option Nat)
  deriving Repr,Inhabited
def resOne (s:St) (r:R) (K:V→Prop):Prop :=
  match r with
  | .t n=>K (nth s.sl n)
  | .cell n m=>match nth s.sl n with
    | .ptr b o=>match nthB s.hp b with
      | .ints _ k xs=>match m with
        | none=>o<xs.length∧K (.int k (getI xs o))
        | some n=>o+n≤xs.length∧K (.ints k (sub xs o n))
      | .cells _ cs=>match m with
        | none=>o<cs.length∧K (nth cs o)
        | some n=>o+n≤cs.length∧K (.agg (sub cs o n))
      | .dead=>False
    | _=>False
def resAll (s:St):List R→(List V→Prop)→Prop
  | [],K=>K []
  | r::l,K=>resOne s r fun v=>resAll s l fun vs=>K (v::vs)
def res (s:St) (rs:List R) (K:V→Prop):Prop :=
  resAll s rs fun vs=>match vs with
    | [v]=>K v
    | vs=>K (.tup vs)
def retQ (rs:List R) (K:V→St→Prop):Ex→St→Prop
  | .normal,s=>res s rs fun v=>K v s
  | .ret,s=>res s rs fun v=>K v s
  | .exit _,_=>False

/-! ### From the model's code -/
def bytesOf (s:ByteArray):List Int:=s.data.toList.map fun b=>(b.toNat:Int)
def ofCell:Value→Option V
  | .bool b=>some (.bool b)
  | .int k n=>some (.int k n)
  | .string s=>some (.str (bytesOf s))
  | .pointer none=>some .nilp
  | .slice none 0 0=>some .nils
  | .nilFunc=>some .nilfn
  | .nilIface=>some .nili
  | _=>none
def allInts (k:IntKind):List Value→Option (List Int)
  | []=>some []
  | .int k' n::r=>if k'=k then (allInts k r).map (n::·)else none
  | _::_=>none
def ofCells:List Value→Option (List V)
  | []=>some []
  | v::r=>(ofCell v).bind fun a=>(ofCells r).map (a::·)
def ofAgg (l:List Value):Option V :=
  match l with
  | .int k n::r=>match allInts k r with
    | some xs=>some (.ints k (n::xs))
    | none=>(ofCells (.int k n::r)).map .agg
  | l=>(ofCells l).map .agg
def ofValue (v:Value):Option V :=
  match v with
  | .agg cs=>ofAgg cs.toList
  | .tuple ⟨[]⟩=>some (.tup [])
  | v=>ofCell v
def compX:Operand→Option X
  | .tmp t=>some (.t t)
  | .const v=>(ofValue v).map .c
  | .global g=>if g<4 then some (.c (.ptr g 0))else none
  | .func f=>some (.c (.fn f []))
def compXs:List Operand→Option (List X)
  | []=>some []
  | x::r=>(compX x).bind fun a=>(compXs r).map (a::·)
def compO:Option Operand→Option (Option X)
  | none=>some none
  | some x=>(compX x).map some
def size? (P:Program) (t:TypeId):Option Nat:=(P.info? t).map (·.size)
def bytes? (P:Program) (t:TypeId):Option Nat:=(P.info? t).map (·.bytes)
def zero? (P:Program) (t:TypeId):Option V:=(P.info? t).bind fun i=>i.zero.bind ofValue
def isAgg? (P:Program) (t:TypeId):Option Bool:=(P.underlying t).map fun d=>match d with | .struct _=>true | .array _ _=>true | _=>false
/-- Cells to be loaded from a place of a type: none: the value of one cell. -/
def cells? (P:Program) (t:TypeId):Option (Option Nat):=(isAgg? P t).bind fun a=>if a then (size? P t).map some else if size? P t=some 1 then some none else none
/-- The literal's parts: where each lies. -/
def compPs (place:Nat→Option (Nat×Nat)):List (Nat×Operand)→Option (List (Nat×Nat×X))
  | []=>some []
  | (i,x)::r=>(place i).bind fun o=>(compX x).bind fun a=>(compPs place r).map ((o.1,o.2,a)::·)
/-- How many cells a zero value has. -/
def vlen:V→Nat
  | .ints _ xs=>xs.length
  | .agg cs=>cs.length
  | _=>1
def isAggV:V→Bool
  | .ints _ _=>true
  | .agg _=>true
  | _=>false
def fieldPlaces (P:Program):List Go.Field→Option (List (Nat×Nat))
  | []=>some []
  | f::r=>(size? P f.type).bind fun n=>(fieldPlaces P r).map ((f.offset,n)::·)
def ofB:Blk→V
  | .ints _ k xs=>.ints k xs
  | .cells _ cs=>.agg cs
  | .dead=>.undef
def flatFields (g:TypeId→Option Nat):List Go.Field→Nat→Option Nat
  | [],off=>some off
  | f :: r, off => if f.name ≠ "_" ∧ f.offset = off then (g f.type).bind fun m => flatFields g r (off + m) else none
/-- How many numbers a value of a type is, where it is numbers alone. -/
def flatInts (P:Program):Nat→TypeId→Option Nat
  | 0,_=>none
  | d+1,t=>match P.underlying t with
    | some (.int _)=>if cells? P t=some none then some 1 else none
    | some (.array n e)=>(flatInts P d e).bind fun m=>if cells? P t=some (some (n*m))∧size? P e=some m then some (n*m)else none
    | some (.struct fs)=>if P.stoodInHeld t then none else (flatFields (flatInts P d) fs.toList 0).bind fun m=>if cells? P t=some (some m)then some m else none
    | _=>none
def enters (P:Program) (f:FuncId):Bool:=match P.funcs[f]? with
  | some fn => fn.name != "runtime.NumGoroutine" && fn.body.isSome
  | none=>false
def isAdd (P:Program) (f:FuncId):Bool:=match P.funcs[f]? with
  | some fn => fn.name == "math/bits.Add64" && fn.body.isNone && (fn.origin == "" || fn.origin == "math/bits.Add64")
  | none=>false
/-- The method of a type behind a pointer, where it is its own and takes the pointer. -/
def mrow (P:Program) (t:TypeId) (m:String):Option FuncId :=
  (P.info? t).bind fun i=>(i.methods.find? (·.name==m)).bind fun r=>if r.path.isEmpty then (match r.func,P.underlying t with
    | some (f,true),some (.pointer _)=>if enters P f then some f else none
    | _,_=>none)else none
def mtab (P:Program) (m:String):List (TypeId×FuncId):=(List.range P.types.size).filterMap fun t=>(mrow P t m).map fun f=>(t,f)
def ntab (P:Program) (s:TypeId):List (String×TypeId) :=
  (List.range P.types.size).flatMap fun t=>match P.info? t with
    | some i=>i.methods.toList.filterMap fun r=>if r.sig=s then (mrow P t r.name).map fun _=>(r.name,t)else none
    | none=>[]
def compCall (P:Program) (mf:List FuncId) (c:Go.Call):Option I :=
  match c.callee with
  | .value (.func f)=>if enters P f then (compXs c.args.toList).map fun xs=>if mf.contains f then .callM f xs else .call f xs else if isAdd P f then (match c.args.toList with
    | [x,y,z]=>(compX x).bind fun a=>(compX y).bind fun b=>(compX z).map fun c=>.add64 a b c
    | _=>none)else none
  | .invoke r m=>(compX r).bind fun r=>(compXs c.args.toList).map fun xs=>.inv (mtab P m) r xs
  | .builtin .len=>match c.args.toList,c.argTypes.toList with
    | [x],[t]=>(P.underlying t).bind fun d=>match d with
      | .array n _=>some (.lenA n)
      | .string=>(compX x).map .lenS
      | .slice _=>(compX x).map .len
      | _=>none
    | _,_=>none
  | .builtin .append=>match c.args.toList,c.argTypes.toList with
    | [x,y],[t,u]=>(P.underlying t).bind fun d=>(P.underlying u).bind fun du=>match d with
      | .slice e=>match du with
        | .slice _=>(size? P e).bind fun sz=>(bytes? P e).bind fun by_=>(zero? P e).bind fun z=>if vlen z=sz∧0<by_∧(mkB z).isSome then (compX x).bind fun a=>(compX y).map fun b=>.app sz by_ a b else none
        | .string=>(size? P e).bind fun sz=>(bytes? P e).bind fun by_=>(zero? P e).bind fun z=>if vlen z=sz∧0<by_∧(mkB z).isSome then (compX x).bind fun a=>(compX y).map fun b=>.app sz by_ a b else none
        | .int _=>(size? P e).bind fun sz=>(bytes? P e).bind fun by_=>(zero? P e).bind fun z=>if vlen z=sz∧0<by_∧(mkB z).isSome then (compX x).bind fun a=>(compX y).map fun b=>.appZ sz by_ z a b else none
        | _=>none
      | _=>none
    | _,_=>none
  | .builtin .copy=>match c.args.toList,c.argTypes.toList with
    | [x,y],[t,_]=>(P.underlying t).bind fun d=>match d with
      | .slice e=>(size? P e).bind fun sz=>(compX x).bind fun a=>(compX y).map fun b=>.copy sz a b
      | _=>none
    | _,_=>none
  | .builtin .max=>match c.args.toList with
    | [x,y]=>(compX x).bind fun a=>(compX y).map fun b=>.mm true a b
    | _=>none
  | .builtin .min=>match c.args.toList with
    | [x,y]=>(compX x).bind fun a=>(compX y).map fun b=>.mm false a b
    | [x,y,z]=>(compX x).bind fun a=>(compX y).bind fun b=>(compX z).map fun c=>.min3 a b c
    | _=>none
  | _=>none
def isU8 (P:Program) (e:TypeId):Bool:=match P.underlying e with
  | some (.int .u8)=>true
  | _=>false
def compI (P:Program) (mf:List FuncId) (o:Oper):Option I :=
  match o.op with
  | .move x=>(compX x).map .mov
  | .assign x=>(compX x).map .mov
  | .pick c a b=>(compX c).bind fun c=>(compX a).bind fun a=>(compX b).map fun b=>.pick c a b
  | .alloc t=>(zero? P t).map .alloc
  | .box _ x=>(compX x).map .box
  | .build t ps=>(P.underlying t).bind fun d=>(zero? P t).bind fun z=>if isAggV z then match d with
    | .struct fs=>(fieldPlaces P fs.toList).bind fun pl=>(compPs (fun i=>pl[i]?) ps.toList).map (.build z)
    | .array _ e=>(size? P e).bind fun sz=>(compPs (fun i=>some (i*sz,sz)) ps.toList).map (.build z)
    | _=>none
    else none
  | .buildSlice t n ps=>(P.underlying t).bind fun d=>match d with
    | .slice e=>(size? P e).bind fun sz=>(zero? P e).bind fun z=>if n*sz≤16777216∧vlen z=sz then (repB z n).bind fun B=>(compPs (fun i=>some (i*sz,sz)) ps.toList).map (.bsl sz n (ofB B))else none
    | _=>none
  | .load t a=>(cells? P t).bind fun m=>(compX a).map fun a=>match m with | none=>.load a | some n=>.loadN n a
  | .store t a v=>(cells? P t).bind fun m=>(compX a).bind fun a=>(compX v).map fun v=>match m with | none=>.store a v | some n=>.storeN n a v
  | .nilCheck x=>(compX x).map fun x=>match P.underlying o.type with
    | some (.func _ _ _)=>.nckM (ntab P o.type) x
    | _=>.nck x
  | .makeInterface t x=>(P.underlying t).bind fun d=>match d with
    | .interface _=>none
    | _=>(compX x).map (.mkif t)
  | .sliceToArrayPointer t x=>(P.underlying t).bind fun d=>match d with
    | .array n _=>(compX x).map (.s2a n)
    | _=>none
  | .makeFunc (.method m) first captured=>match first.toList,captured.toList with
    | [x],[]=>(compX x).map (.mkm m)
    | _,_=>none
  | .binOp op t x y _=>(P.underlying t).bind fun d=>(compX x).bind fun a=>(compX y).bind fun b=>match d with
    | .struct _=>if P.eqGuardType P.depth t=false then (flatInts P 8 t).bind fun n=>match op with | .eql=>some (.eqf false n a b) | .neq=>some (.eqf true n a b) | _=>none else none
    | .array _ _=>if P.eqGuardType P.depth t=false then (flatInts P 8 t).bind fun n=>match op with | .eql=>some (.eqf false n a b) | .neq=>some (.eqf true n a b) | _=>none else none
    | .int _=>some (.bin op a b)
    | .bool=>some (.binB op a b)
    | .string=>some (.binS op a b)
    | .pointer _=>some (.binP op a b)
    | .slice _=>match b with
      | .c .nils=>match op with | .eql=>some (.eqnS false a) | .neq=>some (.eqnS true a) | _=>none
      | _=>none
    | _=>none
  | .unOp op _ x=>(compX x).map (.un op)
  | .convert s d x=>(P.underlying s).bind fun ds=>(P.underlying d).bind fun dd=>(compX x).bind fun a=>match ds,dd with
    | .int _,.int k=>some (.conv k a)
    | .string,.string=>some (.movS a)
    | .string,.slice e=>if isU8 P e=true then some (.s2b a)else none
    | .slice e,.string=>if isU8 P e=true then some (.b2s a)else none
    | .slice _,.slice e=>if s=d∧isU8 P e=true then some (.mark a)else none
    | _,_=>none
  | .makeSlice t l c=>(P.underlying t).bind fun d=>match d with
    | .slice e=>(size? P e).bind fun sz=>(bytes? P e).bind fun by_=>(zero? P e).bind fun z=>if vlen z=sz then (compX l).bind fun l=>(compX c).map fun c=>.mks sz by_ z l c else none
    | _=>none
  | .slice t x lo hi mx=>(P.underlying t).bind fun d=>(compX x).bind fun x=>(compO lo).bind fun lo=>(compO hi).bind fun hi=>(compO mx).bind fun mx =>
    if mx.isSome&&hi.isNone then none else match d with
    | .array n e=>(size? P e).map fun sz=>.slcA n sz x lo hi mx
    | .slice e=>(size? P e).map fun sz=>.slcS sz x lo hi mx
    | .string=>if mx.isSome then none else some (.slcStr x lo hi)
    | _=>none
  | .fieldAddr t x f=>(P.underlying t).bind fun d=>match d with
    | .struct fs=>(fs[f]?).bind fun f=>(size? P f.type).bind fun n=>if n=0 then none else (compX x).map (.fldA f.offset)
    | _=>none
  | .field t x f=>(P.underlying t).bind fun d=>match d with
    | .struct fs=>(fs[f]?).bind fun f=>(cells? P f.type).bind fun m=>(compX x).map (.fld f.offset m)
    | _=>none
  | .indexAddr t x i=>(P.underlying t).bind fun d=>(compX x).bind fun x=>(compX i).bind fun i=>match d with
    | .array n e=>(size? P e).map fun sz=>.idxA n sz x i
    | .slice e=>(size? P e).map fun sz=>.idxS sz x i
    | _=>none
  | .index t x i=>(P.underlying t).bind fun d=>(compX x).bind fun x=>(compX i).bind fun i=>match d with
    | .array n e=>(size? P e).bind fun sz=>(cells? P e).map fun m=>.idxV n sz m x i
    | .string=>some (.idxStr x i)
    | _=>none
  | .extract x i=>(compX x).map fun x=>.ext x i
  | .call c=>compCall P mf c
  | _=>none
def compG (P:Program) (mf:List FuncId) (ops:Array Oper) (o:Oper):Option G :=
  (compI P mf o).bind fun i=>match o.guard with
    | none=>some ⟨none,o.dst,i⟩
    | some (j,w)=>((ops[j]?).bind (·.dst)).map fun t=>⟨some (t,w),o.dst,i⟩
def compGs (P:Program) (mf:List FuncId) (ops:Array Oper):List Oper→Option (List G)
  | []=>some []
  | o::r=>(compG P mf ops o).bind fun g=>(compGs P mf ops r).map (g::·)

/-! ### Regions whose order is open -/
def I.cls:I→Nat
  | .load _=>1
  | .loadN _ _=>1
  | .slcA _ _ _ _ _ _=>1
  | .call _ _=>2
  | .b2s _=>2
  | .store _ _=>3
  | .storeN _ _ _=>3
  | .app _ _ _ _=>3
  | .appZ _ _ _ _ _=>3
  | .copy _ _ _=>3
  | .mark _=>3
  | .callM _ _=>3
  | .inv _ _ _=>2
  | _=>0
def X.slots:X→List Nat
  | .t n=>[n]
  | .c _=>[]
def oslots:Option X→List Nat
  | none=>[]
  | some x=>x.slots
def I.slots:I→List Nat
  | .mov x=>x.slots
  | .movS x=>x.slots
  | .pick c a b=>c.slots++a.slots++b.slots
  | .alloc _=>[]
  | .box x=>x.slots
  | .build _ ps=>ps.flatMap (·.2.2.slots)
  | .bsl _ _ _ ps=>ps.flatMap (·.2.2.slots)
  | .load x=>x.slots
  | .loadN _ x=>x.slots
  | .store x y=>x.slots++y.slots
  | .storeN _ x y=>x.slots++y.slots
  | .bin _ x y=>x.slots++y.slots
  | .binB _ x y=>x.slots++y.slots
  | .binS _ x y=>x.slots++y.slots
  | .binP _ x y=>x.slots++y.slots
  | .eqf _ _ x y=>x.slots++y.slots
  | .un _ x=>x.slots
  | .conv _ x=>x.slots
  | .s2b x=>x.slots
  | .b2s x=>x.slots
  | .mks _ _ _ l c=>l.slots++c.slots
  | .slcA _ _ x lo hi mx=>x.slots++oslots lo++oslots hi++oslots mx
  | .slcS _ x lo hi mx=>x.slots++oslots lo++oslots hi++oslots mx
  | .slcStr x lo hi=>x.slots++oslots lo++oslots hi
  | .fldA _ x=>x.slots
  | .fld _ _ x=>x.slots
  | .idxA _ _ x i=>x.slots++i.slots
  | .idxS _ x i=>x.slots++i.slots
  | .idxV _ _ _ x i=>x.slots++i.slots
  | .ext x _=>x.slots
  | .len x=>x.slots
  | .lenS x=>x.slots
  | .lenA _=>[]
  | .app _ _ x y=>x.slots++y.slots
  | .appZ _ _ _ x l=>x.slots++l.slots
  | .eqnS _ x=>x.slots
  | .copy _ x y=>x.slots++y.slots
  | .mm _ x y=>x.slots++y.slots
  | .min3 x y z=>x.slots++y.slots++z.slots
  | .add64 x y z=>x.slots++y.slots++z.slots
  | .nck x=>x.slots
  | .mark x=>x.slots
  | .idxStr x i=>x.slots++i.slots
  | .mkif _ x=>x.slots
  | .s2a _ x=>x.slots
  | .mkm _ x=>x.slots
  | .nckM _ x=>x.slots
  | .inv _ r xs=>r.slots++xs.flatMap (·.slots)
  | .call _ xs=>xs.flatMap (·.slots)
  | .callM _ xs=>xs.flatMap (·.slots)
def G.slots (g:G):List Nat:=(match g.g with | none=>[] | some (t,_)=>[t])++g.i.slots
/-- The slot of a load's address, of a store's, of an appended slice. -/
def I.addr:I→Option Nat
  | .load (.t n)=>some n
  | .loadN _ (.t n)=>some n
  | .slcA _ _ (.t n) _ _ _=>some n
  | .store (.t n) _=>some n
  | .storeN _ (.t n) _=>some n
  | .app _ _ (.t n) _=>some n
  | .appZ _ _ _ (.t n) _=>some n
  | _=>none
def slotClash (g h:G):Bool :=
  (match g.d with | some d=>h.slots.contains d||h.d==some d | none=>false)||(match h.d with | some d=>g.slots.contains d | none=>false)
def clsClash (a b:Nat) (ad:Bool):Nat :=
  match a,b with
  | 1,3=>if ad then 2 else 1
  | 3,1=>if ad then 2 else 1
  | 2,3=>1
  | 3,2=>1
  | 3,3=>1
  | _,_=>0
/-- Must the one wait for the other one? 0: no; 1: yes; 2: no, where both lead to unlike blocks. -/
def clash (g h:G):Nat:=if slotClash g h then 1 else clsClash g.i.cls h.i.cls (g.i.addr.isSome&&h.i.addr.isSome)
/-- Which ones an operation waits for, as the bits of a number: out of the edges, closed. -/
def waits (ops:Array Oper):List Nat:=(Go.Region.before ops).toList
def direct (o:Oper):List Nat:=(o.after.toList.filter (Go.Region.binds .any)).map (·.on)
/-- That the table is sound: who is in it is an edge's, or an edge's one's. -/
def tabOk (tab:List Nat):List Oper→Nat→Bool
  | [],_=>true
  | o::r,j=>(direct o).all (fun e=>decide (e<j))&&(List.range j).all (fun i=>!(tab.getD j 0).testBit i||(direct o).any fun e=>e==i||(decide (i<e)&&(tab.getD e 0).testBit i))&&tabOk tab r (j+1)
/-- The pairs that are to be held apart; none: an operation does not wait for one that it must wait for. -/
def pairs (tab:List Nat) (gs:List G) (j:Nat) (h:G):List G→Nat→Option (List (Nat×Nat))
  | [],_=>some []
  | g::r,i=>if i≥j then some []else
    (pairs tab gs j h r (i+1)).bind fun l =>
      if (tab.getD j 0).testBit i then some l else match clash g h with
      | 0=>some l
      | 2=>match g.i.addr,h.i.addr with
        | some t,some u =>
          if (gs.drop i).all (fun x=>x.d != some t)&&(gs.drop j).all (fun x=>x.d != some u)then
            (if g.i.cls=1 then some ((t,u)::l)else some ((u,t)::l))else none
        | _,_=>none
      | _=>none
def allPairs (tab:List Nat) (gs:List G):List G→Nat→Option (List (Nat×Nat))
  | [],_=>some []
  | h::r,j=>(pairs tab gs j h gs 0).bind fun a=>(allPairs tab gs r (j+1)).map (a++·)
def drawChk (ops:Array Oper) (gs:List G):Option (List (Nat×Nat)) :=
  if tabOk (waits ops) ops.toList 0&&ops.toList.all (fun o=>!(o.op matches .select _ _))then allPairs (waits ops) gs gs 0 else none

/-- One of these, whichever. -/
def alts:List (Option C)→Option C
  | []=>none
  | [x]=>x
  | x::r=>x.bind fun a=>(alts r).map fun b=>.alt a b
/-- All orders in which a region's operations may come. -/
def orders (ops:Array Oper) (gs:List G):Nat→Array Bool→Option C
  | 0,lst=>if (Go.Region.ready .any ops lst).isEmpty then some .skip else none
  | n+1,lst=>match Go.Region.ready .any ops lst with
    | []=>some .skip
    | i::r=>alts ((i::r).map fun i=>(gs[i]?).bind fun g=>(orders ops gs n (lst.setIfInBounds i true)).map fun c=>.seq (.ops [g]) c)
/-- So many orders are gone through, not more operations. -/
def ordMax:Nat:=12

def comp (P:Program) (mf:List FuncId):Code→List (List Nat)→Option (C×List (List Nat))
  | .skip,h=>some (.skip,h)
  | .region _ ops draw,h=>(compGs P mf ops ops.toList).bind fun gs =>
    if draw then (match drawChk ops gs with
      | some c=>some (.opsC gs c,h)
      | none=>if ops.size≤ordMax then (orders ops gs ops.size (Array.replicate ops.size false)).map fun c=>(c,h)else none)else some (.ops gs,h)
  | .seq a b,h=>(comp P mf a h).bind fun (a,h)=>(comp P mf b h).map fun (b,h)=>(.seq a b,h)
  | .cond c a b,h=>(compX c).bind fun c=>(comp P mf a h).bind fun (a,h)=>(comp P mf b h).map fun (b,h)=>(.cond c a b,h)
  | .block id a,h=>(comp P mf a h).map fun (a,h)=>(.block id a,h)
  | .loop a,h=>match h with
    | k::h=>(comp P mf a h).map fun (a,h)=>(.loop k a,h)
    | []=>none
  | .exit id,h=>some (.exit id,h)
  | .ret,h=>some (.ret,h)
  | _,_=>none
def compR (P:Program):List ResultVar→Option (List R)
  | []=>some []
  | .tmp t::r=>(compR P r).map (.t t::·)
  | .cell a t::r=>(cells? P t).bind fun m=>(compR P r).map (.cell a m::·)
end Am
/-
How abstract values and blocks stand to the model's: relations, and what they bear.
-/
namespace Am
open Go (IntKind BinOp UnOp Value FuncId TypeId World Program Oper Op Operand Code Func ResultVar Addr Obj)

structure Loc where
  blk:Nat
  off:Nat
  size:Nat

/-- Where the blocks lie; which cells of other memory are known, and stay. -/
structure Sg where
  loc:Nat→Option Loc
  stat:Nat→Nat→Value→Prop
instance : CoeFun Sg (fun _ => Nat → Option Loc) := ⟨Sg.loc⟩

mutual
inductive VR (σ:Sg):V→Value→Prop
  | undef (v:Value):VR σ .undef v
  | bool (b:Bool):VR σ (.bool b) (.bool b)
  | int (k:IntKind) (n:Int):VR σ (.int k n) (.int k n)
  | str (s:ByteArray):VR σ (.str (bytesOf s)) (.string s)
  | ptr {b o:Nat} {l:Loc} (h:σ b=some l):VR σ (.ptr b o) (.pointer (some ⟨l.blk,l.off+o,none⟩))
  | nilp:VR σ .nilp (.pointer none)
  | slice {b o sz len cap cap':Nat} {a:Option Addr} {l:Loc} (h:σ b=some l) (hl:len≤cap) (hc:cap≤cap') (hb:o+cap'*sz≤l.size)
      (ha:0<cap'→a=some ⟨l.blk,l.off+o,none⟩):VR σ (.slice b o sz len cap) (.slice a len cap')
  | nils:VR σ .nils (.slice none 0 0)
  | fn {f:FuncId} {cs:List V} {vs:Array Value} (h:VRs σ cs vs.toList):VR σ (.fn f cs) (.func (.func f) #[] vs)
  | nilfn:VR σ .nilfn .nilFunc
  | mth {m:String} {t:TypeId} {v:Value}:VR σ (.mth m t) (.func (.method m) #[.iface t v] #[])
  | iface {t:TypeId} {a:V} {v:Value} (h:VR σ a v):VR σ (.iface t a) (.iface t v)
  | nili:VR σ .nili .nilIface
  | ints (k:IntKind) (xs:List Int):VR σ (.ints k xs) (.agg (xs.map (Value.int k)).toArray)
  | agg {cs:List V} {vs:Array Value} (h:VRs σ cs vs.toList) (h1:∀v∈vs.toList,v.oneCell'=true):VR σ (.agg cs) (.agg vs)
  | tup {cs:List V} {vs:Array Value} (h:VRs σ cs vs.toList):VR σ (.tup cs) (.tuple vs)
  | rsl {sz len cap:Nat} {k:IntKind} {xs:List Int} {a:Option Addr} {blk off:Nat} (hn:xs.length=len*sz) (hl:len≤cap) (ha:0<cap→a=some ⟨blk,off,none⟩)
      (hx:∀(j:Nat) x,xs[j]?=some x→σ.stat blk (off+j) (.int k x)):VR σ (.rsl sz len k xs) (.slice a len cap)
  | rcs {sz len cap:Nat} {cs:List V} {vs:List Value} {a:Option Addr} {blk off:Nat} (hn:cs.length=len*sz) (hl:len≤cap) (ha:0<cap→a=some ⟨blk,off,none⟩) (hp:pursR cs=true)
      (hv:VRs σ cs vs) (hx:∀(j:Nat) v,vs[j]?=some v→σ.stat blk (off+j) v):VR σ (.rcs sz len cs) (.slice a len cap)
  | rpi {k:IntKind} {xs:List Int} {o blk off:Nat} (hx:∀(j:Nat) x,xs[j]?=some x→σ.stat blk (off+j) (.int k x)):VR σ (.rpi k xs o) (.pointer (some ⟨blk,off+o,none⟩))
  | rpc {cs:List V} {vs:List Value} {o blk off:Nat} (hp:pursR cs=true) (hv:VRs σ cs vs) (hx:∀(j:Nat) v,vs[j]?=some v→σ.stat blk (off+j) v):VR σ (.rpc cs o) (.pointer (some ⟨blk,off+o,none⟩))
inductive VRs (σ:Sg):List V→List Value→Prop
  | nil:VRs σ [] []
  | cons {a:V} {v:Value} {l:List V} {m:List Value} (h:VR σ a v) (t:VRs σ l m):VRs σ (a::l) (v::m)
end

structure Sg.le (σ τ:Sg):Prop where
  loc:∀b l,σ b=some l→τ b=some l
  stat:τ.stat=σ.stat

mutual
theorem VR.mono {σ τ:Sg} (hs:Sg.le σ τ):∀{a:V} {v:Value},VR σ a v→VR τ a v
  | _,_,.undef v=>.undef v
  | _,_,.bool b=>.bool b
  | _,_,.int k n=>.int k n
  | _,_,.str s=>.str s
  | _,_,.ptr h=>.ptr (hs.loc _ _ h)
  | _,_,.nilp=>.nilp
  | _,_,.slice h hl hc hb ha=>.slice (hs.loc _ _ h) hl hc hb ha
  | _,_,.nils=>.nils
  | _,_,.fn h=>.fn (VRs.mono hs h)
  | _,_,.nilfn=>.nilfn
  | _,_,.mth=>.mth
  | _,_,.iface h=>.iface (VR.mono hs h)
  | _,_,.nili=>.nili
  | _,_,.ints k xs=>.ints k xs
  | _,_,.agg h h1=>.agg (VRs.mono hs h) h1
  | _,_,.tup h=>.tup (VRs.mono hs h)
  | _,_,.rsl hn hl ha hx=>.rsl hn hl ha (by rw[hs.stat];exact hx)
  | _,_,.rcs hn hl ha hp hv hx=>.rcs hn hl ha hp (VRs.mono hs hv) (by rw[hs.stat];exact hx)
  | _,_,.rpi hx=>.rpi (by rw[hs.stat];exact hx)
  | _,_,.rpc hp hv hx=>.rpc hp (VRs.mono hs hv) (by rw[hs.stat];exact hx)
theorem VRs.mono {σ τ:Sg} (hs:Sg.le σ τ):∀{l:List V} {m:List Value},VRs σ l m→VRs τ l m
  | _,_,.nil=>.nil
  | _,_,.cons h t=>.cons (VR.mono hs h) (VRs.mono hs t)
end

mutual
theorem VR.purR {σ τ:Sg} (hst:∀k j v,σ.stat k j v→τ.stat k j v):∀{a:V} {v:Value},VR σ a v→Am.purR a=true→VR τ a v
  | _,_,.undef v,h=>by simp[Am.purR]at h
  | _,_,.bool b,_=>.bool b
  | _,_,.int k n,_=>.int k n
  | _,_,.str s,_=>.str s
  | _,_,.ptr _,h=>by simp[Am.purR]at h
  | _,_,.nilp,_=>.nilp
  | _,_,.slice ..,h=>by simp[Am.purR]at h
  | _,_,.nils,_=>.nils
  | _,_,.fn h,hp=>.fn (VRs.purR hst h (by simpa[Am.purR]using hp))
  | _,_,.nilfn,_=>.nilfn
  | _,_,.mth,h=>by simp[Am.purR]at h
  | _,_,.iface h,hp=>.iface (VR.purR hst h (by simpa[Am.purR]using hp))
  | _,_,.nili,_=>.nili
  | _,_,.ints k xs,_=>.ints k xs
  | _,_,.agg h h1,hp=>.agg (VRs.purR hst h (by simpa[Am.purR]using hp)) h1
  | _,_,.tup h,hp=>.tup (VRs.purR hst h (by simpa[Am.purR]using hp))
  | _,_,.rsl hn hl ha hx,_=>.rsl hn hl ha fun j x h=>hst _ _ _ (hx j x h)
  | _,_,.rcs hn hl ha hp hv hx,_=>.rcs hn hl ha hp (VRs.purR hst hv hp) fun j x h=>hst _ _ _ (hx j x h)
  | _,_,.rpi hx,_=>.rpi fun j x h=>hst _ _ _ (hx j x h)
  | _,_,.rpc hp hv hx,_=>.rpc hp (VRs.purR hst hv hp) fun j x h=>hst _ _ _ (hx j x h)
theorem VRs.purR {σ τ:Sg} (hst:∀k j v,σ.stat k j v→τ.stat k j v):∀{l:List V} {m:List Value},VRs σ l m→pursR l=true→VRs τ l m
  | _,_,.nil,_=>.nil
  | _,_,.cons h t,hp=>by
    simp only[pursR,Bool.and_eq_true]at hp
    exact .cons (VR.purR hst h hp.1) (VRs.purR hst t hp.2)
end

theorem VRs.length {σ:Sg}:∀{l:List V} {m:List Value},VRs σ l m→l.length=m.length
  | _,_,.nil=>rfl
  | _,_,.cons _ t=>by simp[t.length]

theorem VRs.get {σ:Sg}:∀{l:List V} {m:List Value},VRs σ l m→∀{i:Nat} {a:V},l[i]?=some a→∃v,m[i]?=some v∧VR σ a v
  | _,_,.nil,_,_,h=>by simp at h
  | _,_,.cons h t,0,_,hi=>by simp at hi;subst hi;exact⟨_,by simp,h⟩
  | _,_,.cons h t,i+1,_,hi=>by
    simp at hi
    obtain⟨v,hv,hr⟩:=t.get hi
    exact⟨v,by simpa using hv,hr⟩

theorem VRs.of_get {σ:Sg}:∀{l:List V} {m:List Value},l.length=m.length→(∀(i:Nat) a v,l[i]?=some a→m[i]?=some v→VR σ a v)→VRs σ l m
  | [],[],_,_=>.nil
  | [],_::_,h,_=>by simp at h
  | _::_,[],h,_=>by simp at h
  | a::l,v::m,h,hg=>.cons (hg 0 a v (by simp) (by simp)) (VRs.of_get (by simpa using h) fun i a v ha hv=>hg (i+1) a v (by simpa using ha) (by simpa using hv))

theorem VRs.append {σ:Sg}:∀{l:List V} {m:List Value} {l':List V} {m':List Value},VRs σ l m→VRs σ l' m'→VRs σ (l++l') (m++m')
  | _,_,_,_,.nil,h=>h
  | _,_,_,_,.cons h t,h'=>.cons h (t.append h')
theorem VRs.take {σ:Sg}:∀{l:List V} {m:List Value} (n:Nat),VRs σ l m→VRs σ (l.take n) (m.take n)
  | _,_,0,_=>by simpa using VRs.nil
  | _,_,_+1,.nil=>by simpa using VRs.nil
  | _,_,n+1,.cons h t=>by simpa using VRs.cons h (t.take n)
theorem VRs.drop {σ:Sg}:∀{l:List V} {m:List Value} (n:Nat),VRs σ l m→VRs σ (l.drop n) (m.drop n)
  | _,_,0,h=>by simpa using h
  | _,_,_+1,.nil=>by simpa using VRs.nil
  | _,_,n+1,.cons h t=>by simpa using t.drop n
theorem VRs.ints (σ:Sg) (k:IntKind):∀xs:List Int,VRs σ (xs.map (V.int k)) (xs.map (Value.int k))
  | []=>.nil
  | x::xs=>.cons (.int k x) (VRs.ints σ k xs)

theorem nth_get:∀(l:List V) (i:Nat),nth l i=(l[i]?).getD .undef
  | [],i=>by simp[nth]
  | a::l,0=>by simp[nth]
  | a::l,i+1=>by simp[nth,nth_get l i]
theorem nth_some {l:List V} {i:Nat} (h:i<l.length):l[i]?=some (nth l i):=by rw[nth_get];simp[h]
theorem upd_set:∀(l:List V) (i:Nat) (v:V),upd l i v=l.set i v
  | [],i,v=>by simp[upd]
  | a::l,0,v=>by simp[upd]
  | a::l,i+1,v=>by simp[upd,upd_set l i v]
theorem nthB_get:∀(l:List Blk) (i:Nat),nthB l i=(l[i]?).getD .dead
  | [],i=>by simp[nthB]
  | a::l,0=>by simp[nthB]
  | a::l,i+1=>by simp[nthB,nthB_get l i]
theorem updB_set:∀(l:List Blk) (i:Nat) (v:Blk),updB l i v=l.set i v
  | [],i,v=>by simp[updB]
  | a::l,0,v=>by simp[updB]
  | a::l,i+1,v=>by simp[updB,updB_set l i v]

def Blk.vs:Blk→List V
  | .dead=>[]
  | .ints _ k xs=>xs.map (.int k)
  | .cells _ cs=>cs
def Blk.live:Blk→Bool
  | .dead=>false
  | _=>true
def Blk.wr:Blk→Bool
  | .ints false _ _=>true
  | .cells false _=>true
  | _=>false

theorem Blk.live_of_wr {B:Blk} (h:B.wr=true):B.live=true:=by
  cases B<;>simp_all [Blk.wr,Blk.live]

/-- No cell of a row of so many is frozen. -/
def Cool (n:Nat) (fr:Nat×Nat):Prop:=fr.1=fr.2∨n≤fr.1
theorem Cool.not {n:Nat} {fr:Nat×Nat} (h:Cool n fr) (j:Nat) (hj:j<n):¬(fr.1≤j∧j<fr.2):=by unfold Cool at h;omega
/-- A block as it lies in the world. -/
structure BOk (Own:Nat→Nat→Prop) (σ:Sg) (w:World) (l:Loc) (B:Blk):Prop where
  len:B.vs.length≤l.size
  row:B.live=true→0<l.size→∃c e fr,w.heap[l.blk]?=some (.cells c e fr)∧l.off+l.size≤c.size ∧
    (∀(j:Nat) a,B.vs[j]?=some a→∃v,c[l.off+j]?=some v∧VR σ a v∧v.oneCell'=true) ∧
    (B.wr=true→(∀j,j<l.size→Own l.blk (l.off+j))∧Cool c.size fr)

theorem BOk.mono {Own:Nat→Nat→Prop} {σ τ:Sg} {w:World} {l:Loc} {B:Blk} (hs:Sg.le σ τ) (h:BOk Own σ w l B):BOk Own τ w l B :=
  ⟨h.len,fun hl h0=>by
    obtain⟨c,e,fr,h1,h2,h3,h4⟩:=h.row hl h0
    exact⟨c,e,fr,h1,h2,fun j a ha=>by obtain⟨v,hv,hr,ho⟩:=h3 j a ha;exact⟨v,hv,hr.mono hs,ho⟩,h4⟩⟩

def Loc.disj (l m:Loc):Prop:=l.size=0∨m.size=0∨l.blk≠m.blk∨l.off+l.size≤m.off∨m.off+m.size≤l.off
def Loc.has (l:Loc) (k j:Nat):Prop:=l.blk=k∧l.off≤j∧j<l.off+l.size

structure Sim (Own:Nat→Nat→Prop) (σ:Sg) (H:Nat→Blk) (w:World):Prop where
  blk:∀b l,σ b=some l→BOk Own σ w l (H b)
  excl:∀b b' l l',b≠b'→σ b=some l→σ b'=some l'→(H b).wr=true→(H b').live=true→l.disj l'
  new:∀k j,w.heap.size≤k→Own k j
  stat:∀k j v,σ.stat k j v→(∃c e fr,w.heap[k]?=some (.cells c e fr)∧c[j]?=some v)∧v.oneCell'=true∧∀b l,σ b=some l→(H b).wr=true→¬l.has k j

/-- What may have turned: the cells of a set alone. -/
def SameBut (S:Nat→Prop) (o o':Option Obj):Prop :=
  o'=o∨(∃j,S j)∧∃c c' e fr fr',o=some (.cells c e fr)∧o'=some (.cells c' e fr')∧c'.size=c.size∧(Cool c.size fr→Cool c.size fr')∧∀j,¬S j→c'[j]?=c[j]?
structure Kept (F:Nat→Nat→Prop) (w w':World):Prop where
  os:w'.os=w.os
  tape:w'.tape=w.tape
  output:w'.output=w.output
  size:w.heap.size≤w'.heap.size
  blk:∀k,k<w.heap.size→SameBut (F k) w.heap[k]? w'.heap[k]?

theorem SameBut.trans {S:Nat→Prop} {a b c:Option Obj} (h:SameBut S a b) (h':SameBut S b c):SameBut S a c:=by
  rcases h with rfl | ⟨hS,x,y,e,fr,fr',rfl,rfl,hs,hc,hj⟩
  · exact h'
  · rcases h' with rfl | ⟨-,y',z,e',f1,f2,hy,rfl,hs',hc',hj'⟩
    · exact .inr ⟨hS,x,y,e,fr,fr',rfl,rfl,hs,hc,hj⟩
    · simp only[Option.some.injEq,Obj.cells.injEq]at hy
      obtain⟨rfl,rfl,rfl⟩:=hy
      exact .inr ⟨hS,x,z,e,fr,f2,rfl,rfl,hs'.trans hs,fun h=>by have:=hc' (by rw[hs];exact hc h);rwa [hs]at this,fun j h=>(hj' j h).trans (hj j h)⟩
theorem SameBut.mono {S T:Nat→Prop} (hST:∀j,S j→T j) {a b:Option Obj} (h:SameBut S a b):SameBut T a b:=by
  rcases h with rfl | ⟨⟨j0,hS⟩,x,y,e,fr,fr',rfl,rfl,hs,hc,hj⟩
  · exact .inl rfl
  · exact .inr ⟨⟨j0,hST _ hS⟩,x,y,e,fr,fr',rfl,rfl,hs,hc,fun j h=>hj j fun h'=>h (hST j h')⟩
theorem Kept.refl (F:Nat→Nat→Prop) (w:World):Kept F w w:=⟨rfl,rfl,rfl,Nat.le_refl _,fun _ _=>.inl rfl⟩
theorem Kept.mono {F G:Nat→Nat→Prop} (hFG:∀k j,F k j→G k j) {w w':World} (h:Kept F w w'):Kept G w w' :=
  ⟨h.os,h.tape,h.output,h.size,fun k hk=>(h.blk k hk).mono (hFG k)⟩
theorem Kept.trans {F:Nat→Nat→Prop} {a b c:World} (h:Kept F a b) (h':Kept F b c):Kept F a c :=
  ⟨h'.os.trans h.os,h'.tape.trans h.tape,h'.output.trans h.output,Nat.le_trans h.size h'.size,
    fun k hk=>(h.blk k hk).trans (h'.blk k (Nat.lt_of_lt_of_le hk h.size))⟩
theorem Kept.drew (F:Nat→Nat→Prop) (w:World):Kept F w { w with drawn:=w.drawn+1 }:=⟨rfl,rfl,rfl,Nat.le_refl _,fun _ _=>.inl rfl⟩
theorem Kept.alloc (F:Nat→Nat→Prop) (w:World) (o:Obj):Kept F w (w.alloc o) :=
  ⟨rfl,rfl,rfl,by simp,fun k hk=>.inl (Go.heap_alloc_old w o k hk)⟩

/-- A row that is kept but for some cells, seen at a place outside them. -/
theorem Kept.row {F:Nat→Nat→Prop} {w w':World} (h:Kept F w w') {k:Nat} {c:Array Value} {e:TypeId} {fr:Nat×Nat} (hk:w.heap[k]?=some (.cells c e fr)) :
    ∃c' fr',w'.heap[k]?=some (.cells c' e fr')∧c'.size=c.size∧(Cool c.size fr→Cool c.size fr')∧∀j,¬F k j→c'[j]?=c[j]?:=by
  have hlt:k<w.heap.size:=(Array.getElem?_eq_some_iff.1 hk).1
  rcases h.blk k hlt with h' | ⟨-,x,y,e',f,fr',hx,hy,hs,hc,hj⟩
  · exact⟨c,fr,by rw[h',hk],rfl,id,fun _ _=>rfl⟩
  · rw[hk]at hx
    simp only[Option.some.injEq,Obj.cells.injEq]at hx
    obtain⟨rfl,rfl,rfl⟩:=hx
    exact⟨y,fr',hy,hs,hc,hj⟩

/-- A block whose cells no footprint meets is as good as before. -/
theorem BOk.kept {Own F:Nat→Nat→Prop} {σ:Sg} {w w':World} {l:Loc} {B:Blk} (h:BOk Own σ w l B) (hk:Kept F w w')
    (hF:B.live=true→∀j,j<l.size→¬F l.blk (l.off+j)):BOk Own σ w' l B :=
  ⟨h.len,fun hl h0=>by
    obtain⟨c,e,fr,h1,h2,h3,h4⟩:=h.row hl h0
    obtain⟨c',fr',k1,k2,k4,k3⟩:=hk.row h1
    refine⟨c',e,fr',k1,by omega,fun j a ha=>?_,fun hw=>⟨(h4 hw).1,by rw[k2];exact k4 (h4 hw).2⟩⟩
    obtain⟨v,hv,hr⟩:=h3 j a ha
    refine⟨v,?_,hr⟩
    have hj:j<B.vs.length:=by
      rcases Nat.lt_or_ge j B.vs.length with h | h
      · exact h
      · simp[List.getElem?_eq_none h]at ha
    rw[k3 _ (hF hl j (Nat.lt_of_lt_of_le hj h.len)),hv]⟩
end Am
/-
What one operation leaves behind ('Post'), and that the relation between abstract and concrete memory goes on over it.
-/
namespace Am
open Go (IntKind BinOp UnOp Value FuncId TypeId World Program Oper Op Operand Code Func ResultVar Addr Obj)

def Sg.set (σ:Sg) (b:Nat) (l:Loc):Sg:=⟨fun c=>if c=b then some l else σ c,σ.stat⟩
theorem Sg.set_same (σ:Sg) (b:Nat) (l:Loc):σ.set b l b=some l:=by simp[Sg.set]
theorem Sg.set_ne (σ:Sg) {b c:Nat} (l:Loc) (h:c≠b):σ.set b l c=σ c:=by simp[Sg.set,h]
theorem Sg.le_set {σ:Sg} {b:Nat} (l:Loc) (h:σ b=none):Sg.le σ (σ.set b l):=⟨fun c m hc=>by
  by_cases e:c=b
  · subst e;rw[h]at hc;cases hc
  · rw[Sg.set_ne σ l e];exact hc,rfl⟩
theorem Sg.le_refl (σ:Sg):Sg.le σ σ:=⟨fun _ _ h=>h,rfl⟩

structure Post (Own:Nat→Nat→Prop) (σ:Sg) (H:Nat→Blk) (fresh:Nat) (e:Ef) (w:World) (v':Value) (w':World) (σ':Sg):Prop where
  ext:Sg.le σ σ'
  dom:∀b,(b<fresh∨fresh+e.nw.length≤b)→σ' b=σ b
  val:VR σ' e.v v'
  nodup:(e.st.map (·.1)).Nodup
  stdom:∀p∈e.st,∃l,σ p.1=some l
  stwr:∀p∈e.st,(H p.1).wr=true
  kept:Kept (fun k j=>∃p∈e.st,∃l,σ p.1=some l∧l.has k j) w w'
  stok:∀p∈e.st,∀l,σ p.1=some l→BOk Own σ' w' l p.2
  nwok:∀(j:Nat) B,e.nw[j]?=some B→∃l,σ' (fresh+j)=some l∧BOk Own σ' w' l B ∧
    (w.heap.size≤l.blk∨l.size=0∨∀i,l.off≤i→i<l.off+l.size→∃p∈e.st,p.2=.dead∧∃lp,σ p.1=some lp∧lp.has l.blk i)
  nwx:∀(j j':Nat) l l',j≠j'→j<e.nw.length→j'<e.nw.length→σ' (fresh+j)=some l→σ' (fresh+j')=some l'→l.disj l'

def lookS:List (Nat×Blk)→Nat→Option Blk
  | [],_=>none
  | (b,B)::r,c=>if c=b then some B else lookS r c
theorem lookS_mem:∀{l:List (Nat×Blk)} {c:Nat} {B:Blk},lookS l c=some B→(c,B)∈l
  | (b,B)::r,c,B',h=>by
    simp only[lookS]at h
    split at h
    · rename_i e;subst e;simp at h;subst h;simp
    · exact List.mem_cons_of_mem _ (lookS_mem h)
theorem lookS_none:∀{l:List (Nat×Blk)} {c:Nat},lookS l c=none→∀p∈l,p.1≠c
  | [],_,_=>by simp
  | (b,B)::r,c,h=>by
    simp only[lookS]at h
    split at h
    · simp at h
    · rename_i hne
      intro p hp
      simp only[List.mem_cons]at hp
      rcases hp with rfl | hp
      · exact fun e=>hne e.symm
      · exact lookS_none h p hp
theorem lookS_of_mem:∀{l:List (Nat×Blk)} {p:Nat×Blk},(l.map (·.1)).Nodup→p∈l→lookS l p.1=some p.2
  | (b,B)::r,p,hn,hp=>by
    simp only[List.map_cons,List.nodup_cons]at hn
    simp only[List.mem_cons]at hp
    rcases hp with rfl | hp
    · simp[lookS]
    · have:p.1≠b:=fun e=>hn.1 (by rw[←e];exact List.mem_map.2 ⟨p,hp,rfl⟩)
      simp[lookS,this,lookS_of_mem hn.2 hp]
/-- The memory behind an operation. -/
def upH (H:Nat→Blk) (fresh:Nat) (e:Ef):Nat→Blk:=fun b =>
  match lookS e.st b with
  | some B=>B
  | none=>if fresh≤b∧b<fresh+e.nw.length then (e.nw[b-fresh]?).getD .dead else H b

theorem sim_step {Own:Nat→Nat→Prop} {σ:Sg} {H:Nat→Blk} {fresh:Nat} {e:Ef} {w w':World} {v':Value} {σ':Sg}
    (hs:Sim Own σ H w) (hp:Post Own σ H fresh e w v' w' σ') (hfr:∀j,j<e.nw.length→σ (fresh+j)=none):Sim Own σ' (upH H fresh e) w':=by
  have stold:∀p∈e.st,¬(fresh≤p.1∧p.1<fresh+e.nw.length):=by
    intro p hm hc
    obtain⟨l,hl⟩:=hp.stdom p hm
    have:=hfr (p.1-fresh) (by omega)
    rw[show fresh+(p.1-fresh)=p.1 by omega,hl]at this
    cases this
  have old:∀b,lookS e.st b=none→¬(fresh≤b∧b<fresh+e.nw.length)→upH H fresh e b=H b:=by
    intro b h1 h2;simp[upH,h1,h2]
  have sig:∀b,¬(fresh≤b∧b<fresh+e.nw.length)→σ' b=σ b:=fun b hb=>hp.dom b (by omega)
  -- what is written or alive behind was so before
  have wrOld:∀b,¬(fresh≤b∧b<fresh+e.nw.length)→(upH H fresh e b).live=true→(H b).live=true:=by
    intro b hb hl
    cases hk:lookS e.st b with
    | none=>rwa [old b hk hb]at hl
    | some B=>exact Blk.live_of_wr (hp.stwr _ (lookS_mem hk))
  have wrOld':∀b,¬(fresh≤b∧b<fresh+e.nw.length)→(upH H fresh e b).wr=true→(H b).wr=true:=by
    intro b hb hl
    cases hk:lookS e.st b with
    | none=>rwa [old b hk hb]at hl
    | some B=>exact hp.stwr _ (lookS_mem hk)
  -- a new one against an old one
  have newOld:∀b b' l l',(fresh≤b∧b<fresh+e.nw.length)→¬(fresh≤b'∧b'<fresh+e.nw.length)→σ' b=some l→σ' b'=some l' →
      (upH H fresh e b').live=true→l.disj l':=by
    intro b b' l l' hb hb' hl hl' hlive
    have hj:b-fresh<e.nw.length:=by omega
    have hbe:fresh+(b-fresh)=b:=by omega
    obtain⟨m,hm,-,hm'⟩:=hp.nwok (b-fresh) _ (List.getElem?_eq_getElem hj)
    rw[hbe,hl]at hm
    obtain rfl:=Option.some.inj hm
    rw[sig b' hb']at hl'
    rcases hm' with h1 | h1 | h1
    · by_cases h0:l'.size=0
      · exact .inr (.inl h0)
      · obtain⟨c,ee,fr,hc,-⟩:=(hs.blk b' l' hl').row (wrOld b' hb' hlive) (by omega)
        have:=(Array.getElem?_eq_some_iff.1 hc).1
        exact .inr (.inr (.inl (by omega)))
    · exact .inl h1
    · have each:∀i,l.off≤i→i<l.off+l.size→¬l'.has l.blk i:=by
        intro i h2 h3 h4
        obtain⟨p,hpm,hpd,lp,hlp,h5⟩:=h1 i h2 h3
        have hne:p.1≠b':=by
          rintro rfl
          have:=lookS_of_mem hp.nodup hpm
          simp[upH,this,hpd,Blk.live]at hlive
        have:=hs.excl p.1 b' lp l' hne hlp hl' (hp.stwr p hpm) (wrOld b' hb' hlive)
        unfold Loc.disj at this
        unfold Loc.has at h4 h5
        omega
      unfold Loc.disj
      by_cases hbk:l.blk=l'.blk
      · by_cases hz:l.size=0
        · exact .inl hz
        · by_cases hz':l'.size=0
          · exact .inr (.inl hz')
          · by_cases hle:l.off≤l'.off
            · by_cases hlt:l'.off<l.off+l.size
              · exact absurd ⟨hbk.symm,Nat.le_refl _,by omega⟩ (each l'.off hle hlt)
              · omega
            · by_cases hlt:l.off<l'.off+l'.size
              · exact absurd ⟨hbk.symm,by omega,hlt⟩ (each l.off (Nat.le_refl _) (by omega))
              · omega
      · exact .inr (.inr (.inl hbk))
  have disjS:∀l l':Loc,l.disj l'→l'.disj l:=by intro l l' h;unfold Loc.disj at *;omega
  refine⟨fun b l hb=>?_,fun b b' l l' hne hb hb' h1 h2=>?_,fun k j hk=>hs.new k j (Nat.le_trans hp.kept.size hk),fun k j v hst=>?_⟩
  · by_cases hn:fresh≤b∧b<fresh+e.nw.length
    · have hnone:lookS e.st b=none:=by
        cases hk:lookS e.st b with
        | none=>rfl
        | some B=>exact absurd hn (stold _ (lookS_mem hk))
      have hj:b-fresh<e.nw.length:=by omega
      have hbe:fresh+(b-fresh)=b:=by omega
      obtain⟨m,hm,hm',-⟩:=hp.nwok (b-fresh) _ (List.getElem?_eq_getElem hj)
      rw[hbe,hb]at hm
      obtain rfl:=Option.some.inj hm
      have:upH H fresh e b=e.nw[b-fresh]:=by simp[upH,hnone,hn,hj]
      rwa [this]
    · rw[sig b hn]at hb
      cases hk:lookS e.st b with
      | some B =>
        have:=hp.stok _ (lookS_mem hk) l hb
        have e2:upH H fresh e b=B:=by simp[upH,hk]
        rwa [e2]
      | none =>
        rw[old b hk hn]
        refine BOk.mono hp.ext ((hs.blk b l hb).kept hp.kept ?_)
        rintro hlive j hj ⟨p,hpm,lp,hlp,h1,h2,h3⟩
        have:=hs.excl p.1 b lp l (lookS_none hk p hpm) hlp hb (hp.stwr p hpm) hlive
        unfold Loc.disj at this
        omega
  · by_cases hn:fresh≤b∧b<fresh+e.nw.length
    · by_cases hn':fresh≤b'∧b'<fresh+e.nw.length
      · refine hp.nwx (b-fresh) (b'-fresh) l l' (by omega) (by omega) (by omega) ?_ ?_
        · rw[show fresh+(b-fresh)=b by omega];exact hb
        · rw[show fresh+(b'-fresh)=b' by omega];exact hb'
      · exact newOld b b' l l' hn hn' hb hb' h2
    · by_cases hn':fresh≤b'∧b'<fresh+e.nw.length
      · exact disjS _ _ (newOld b' b l' l hn' hn hb' hb (Blk.live_of_wr h1))
      · exact hs.excl b b' l l' hne (by rw[←sig b hn];exact hb) (by rw[←sig b' hn'];exact hb') (wrOld' b hn h1) (wrOld b' hn' h2)
  · rw[hp.ext.stat]at hst
    obtain⟨⟨c,ee,fr,h1,h2⟩,h3,h4⟩:=hs.stat k j v hst
    obtain⟨c',fr',k1,k2,k4,k3⟩:=hp.kept.row h1
    have hlt:=(Array.getElem?_eq_some_iff.1 h1).1
    refine⟨⟨c',ee,fr',k1,by rw[k3 j (fun ⟨p,hpm,l,hl,hh⟩=>h4 p.1 l hl (hp.stwr p hpm) hh)];exact h2⟩,h3,fun b l hb hwr hh=>?_⟩
    by_cases hn:fresh≤b∧b<fresh+e.nw.length
    · have hj:b-fresh<e.nw.length:=by omega
      have hbe:fresh+(b-fresh)=b:=by omega
      obtain⟨m,hm,-,hm'⟩:=hp.nwok (b-fresh) _ (List.getElem?_eq_getElem hj)
      rw[hbe,hb]at hm
      obtain rfl:=Option.some.inj hm
      obtain⟨x1,x2,x3⟩:=hh
      rcases hm' with h | h | h
      · omega
      · omega
      · obtain⟨p,hpm,hpd,lp,hlp,h5⟩:=h j x2 x3
        rw[x1]at h5
        exact h4 p.1 lp hlp (hp.stwr p hpm) h5
    · rw[sig b hn]at hb
      exact h4 b l hb (wrOld' b hn hwr) hh

/-! ### The shapes of 'Post' -/
section
variable {Own : Nat → Nat → Prop} {σ : Sg} {H : Nat → Blk} {fresh : Nat} {w : World}

theorem post_pure {v:V} {v':Value} (h:VR σ v v'):Post Own σ H fresh ⟨v,[],[]⟩ w v' w σ :=
  ⟨Sg.le_refl σ,fun _ _=>rfl,h,by simp,by simp,by simp,Kept.refl _ _,by simp,by simp,fun j j' l l' _ h=>by simp at h⟩

theorem Own_row {c:Array Value} {e:TypeId} {fr:Nat×Nat} (hnew:∀k j,w.heap.size≤k→Own k j) {τ:Sg} {B:Blk} {l:Loc} {w':World}
    (hrow:w'.heap[l.blk]?=some (.cells c e fr)) (hoff:l.off=0) (hsz:l.size≤c.size) (hblk:w.heap.size≤l.blk) (hfr:Cool c.size fr)
    (hlen:B.vs.length≤l.size) (hv:VRs τ B.vs (c.toList.take B.vs.length)) (h1:∀v∈c.toList.take B.vs.length,v.oneCell'=true):BOk Own τ w' l B :=
  ⟨hlen,fun _ _=>⟨c,e,fr,hrow,by omega,fun j a ha=>by
    obtain⟨v,hv',hr⟩:=hv.get ha
    refine⟨v,?_,hr,h1 v (List.mem_of_getElem? hv')⟩
    rw[List.getElem?_take]at hv'
    split at hv'
    · simpa[hoff]using hv'
    · simp at hv',fun _=>⟨fun j _=>hnew _ _ hblk,hfr⟩⟩⟩

/-- One new block, laid behind all (with a draw ahead of it, or without). -/
theorem post_new {v:V} {v':Value} {B:Blk} {w1 w':World} {c:Array Value} {e:TypeId} {fr:Nat×Nat} {l:Loc} (hnew:∀k j,w.heap.size≤k→Own k j)
    (hfree:σ fresh=none) (hk:∀F,Kept F w w1)
    (hk':∀F,Kept F w1 w') (hrow:w'.heap[l.blk]?=some (.cells c e fr)) (hl:l.blk=w.heap.size) (hoff:l.off=0) (hsz:l.size≤c.size)
    (hfr:Cool c.size fr)
    (hlen:B.vs.length≤l.size) (hv:VRs σ B.vs (c.toList.take B.vs.length)) (h1:∀v∈c.toList.take B.vs.length,v.oneCell'=true)
    (hval:VR (σ.set fresh l) v v'):Post Own σ H fresh ⟨v,[],[B]⟩ w v' w' (σ.set fresh l):=by
  have hle:=Sg.le_set l hfree
  refine⟨hle,fun b hb=>Sg.set_ne σ l (by simp at hb;omega),hval,by simp,by simp,by simp,(hk _).trans (hk' _),by simp,?_,?_⟩
  · intro j B' hB
    have hj:j=0:=by
      rcases j with _ | j
      · rfl
      · simp at hB
    subst hj
    simp at hB
    subst hB
    exact⟨l,by simpa using Sg.set_same σ fresh l,Own_row hnew hrow hoff hsz (by omega) hfr hlen (hv.mono hle) h1,.inl (by omega)⟩
  · intro j j' l l' hne hj hj'
    simp at hj hj'
    omega
end
end Am
/-
The model's loads, stores and new rows over related memory.
-/
namespace Am
open Go

/-- A row's cells with others laid over them from a place on. -/
def laidA (c:Array Value) (o:Nat) (news:List Value):Array Value:=(spl c.toList o news).toArray
theorem laidA_get (c:Array Value) (o:Nat) (news:List Value) (h:o+news.length≤c.size) (j:Nat) :
    (laidA c o news)[j]?=if o≤j∧j<o+news.length then news[j-o]? else c[j]?:=by
  simp only[laidA,spl,List.getElem?_toArray]
  have hl:(c.toList.take o).length=o:=by simp;omega
  by_cases h1:j<o
  · rw[List.getElem?_append_left (by omega),if_neg (by omega)]
    simp[h1]
  · rw[List.getElem?_append_right (by omega),hl]
    by_cases h2:j<o+news.length
    · rw[List.getElem?_append_left (by omega),if_pos (by omega)]
    · rw[List.getElem?_append_right (by omega),if_neg (by omega)]
      simp only[List.getElem?_drop,Array.getElem?_toList]
      congr 1
      omega
theorem laidA_size (c:Array Value) (o:Nat) (news:List Value) (h:o+news.length≤c.size):(laidA c o news).size=c.size:=by
  simp[laidA,spl];omega

theorem run_storeCells_fr (P:Program) (g:Nat) (e:TypeId) (fr:Nat×Nat):∀(news:List Value) (o i:Nat) (cur:Array Value) (w:World),w.heap[g]?=some (.cells cur e fr) →
    o+i+news.length≤cur.size→(∀j,o+i≤j→j<o+i+news.length→¬(fr.1≤j∧j<fr.2))→(∀v∈news,v.oneCell'=true) →
    (storeCells ⟨g,o,none⟩ news i).run P w=.ok () (w.setRow g (laidA cur (o+i) news))
  | [],o,i,cur,w,hg,hl,_,_=>by
    have:laidA cur (o+i) []=cur:=by
      apply Array.ext_getElem?
      intro j
      rw[laidA_get _ _ _ (by simpa using hl)]
      simp
      intro h1 h2;omega
    rw[this]
    have hw:w.setRow g cur=w:=by
      have hlt:g<w.heap.size:=(Array.getElem?_eq_some_iff.1 hg).1
      have hv:w.heap[g]=.cells cur e fr:=(Array.getElem?_eq_some_iff.1 hg).2
      unfold World.setRow
      congr 1
      apply Array.ext_getElem?
      intro k
      rw[Array.getElem?_modify]
      split
      · rename_i hk;subst hk;rw[hg];rfl
      · rfl
    rw[hw];simp[storeCells]
  | v::r,o,i,cur,w,hg,hl,hf,h1=>by
    have ha:(⟨g,o,none⟩:Addr).add i=⟨g,o+i,none⟩:=by unfold Addr.add;split<;>simp_all
    simp only[List.length_cons]at hl hf
    have hcell:w.cell? ⟨g,o+i,none⟩=some cur[o+i]:=by
      rw[cell_of_row w g _ cur e fr hg];simp
    have hfz:w.frozen? ⟨g,o+i,none⟩=false:=by
      simp only[World.frozen?,hg]
      have:=hf (o+i) (Nat.le_refl _) (by omega)
      simpa using this
    simp only[storeCells,Sem.run_bind,ha]
    rw[run_store _ _ _ _ _ (h1 v (by simp))]
    simp only[hcell,hfz,Bool.false_eq_true,if_false,Result.andThen_ok]
    rw[setCell_eq_setRow w g (o+i) cur e fr v hg]
    have hg':=setRow_heap w g cur (cur.setIfInBounds (o+i) v) e fr hg
    rw[run_storeCells_fr P g e fr r o (i+1) (cur.setIfInBounds (o+i) v) _ hg' (by simp;omega) (fun j h2 h3=>hf j (by omega) (by omega)) (fun u hu=>h1 u (by simp[hu]))]
    congr 1
    have:laidA (cur.setIfInBounds (o+i) v) (o+(i+1)) r=laidA cur (o+i) (v::r):=by
      apply Array.ext_getElem?
      intro j
      rw[laidA_get _ _ _ (by simp;omega),laidA_get _ _ _ (by simp;omega)]
      simp only[List.length_cons]
      by_cases hj:o+(i+1)≤j∧j<o+(i+1)+r.length
      · rw[if_pos hj,if_pos (by omega),show j-(o+i)=(j-(o+(i+1)))+1 by omega];simp
      · rw[if_neg hj]
        by_cases hj2:j=o+i
        · subst hj2;rw[if_pos (by omega),Array.getElem?_setIfInBounds_self_of_lt (by omega)];simp
        · rw[if_neg (by omega),Array.getElem?_setIfInBounds_ne (by omega)]
    rw[this]
    unfold World.setRow
    congr 1
    apply Array.ext_getElem?
    intro k
    simp only[Array.getElem?_modify]
    split
    · rename_i hk;subst hk;rw[hg];rfl
    · rfl

/-- A store of a value into a variable's place. -/
theorem run_storeVar_fr (P:Program) (t:TypeId) (g o:Nat) (e:TypeId) (fr:Nat×Nat) (v:Value) (cur:Array Value) (w:World) (hs:(P.info? t).map (·.size)=some v.cells.size)
    (hg:w.heap[g]?=some (.cells cur e fr)) (hl:o+v.cells.size≤cur.size) (hf:∀j,o≤j→j<o+v.cells.size→¬(fr.1≤j∧j<fr.2)) (h1:∀u∈v.cells.toList,u.oneCell'=true) :
    (storeVar t ⟨g,o,none⟩ v).run P w=.ok () (w.setRow g (laidA cur o v.cells.toList)):=by
  cases hq:P.info? t with
  | none=>simp[hq]at hs
  | some i =>
    have hs':v.cells.size=i.size:=by simp[hq]at hs;omega
    have:=run_storeCells_fr P g e fr v.cells.toList o 0 cur w hg (by simpa using hl) (by simpa using hf) h1
    simp only[storeVar,Go.sizeOf,typeInfo,Sem.run_bind,run_program,hq,Result.andThen_ok,Sem.run_pure,hs',ne_eq,not_true,if_false]
    simpa using this

theorem kept_setRow {F:Nat→Nat→Prop} {w:World} {g:Nat} {cur cs:Array Value} {e:TypeId} {fr:Nat×Nat} (hg:w.heap[g]?=some (.cells cur e fr)) (hs:cs.size=cur.size)
    (hF:∀j,¬F g j→cs[j]?=cur[j]?):Kept F w (w.setRow g cs) :=
  ⟨rfl,rfl,rfl,by simp,fun k hk=>by
    by_cases h:k=g
    · subst h
      have hr:=setRow_heap w k cur cs e fr hg
      by_cases hS:∃j,F k j
      · exact .inr ⟨hS,cur,cs,e,fr,fr,hg,hr,hs,id,hF⟩
      · refine .inl ?_
        have:cs=cur:=Array.ext_getElem? fun j=>hF j fun h=>hS ⟨j,h⟩
        rw[hr,hg,this]
    · exact .inl (setRow_other w g k cs h)⟩

section
variable {Own : Nat → Nat → Prop} {σ : Sg} {H : Nat → Blk} {w : World}

/-- What lies at a block's place. -/
theorem Sim.at {b o:Nat} {l:Loc} {B:Blk} (hs:Sim Own σ H w) (hb:σ b=some l) (hB:H b=B) (ho:o<B.vs.length) :
    ∃c e fr,w.heap[l.blk]?=some (.cells c e fr)∧l.off+l.size≤c.size∧B.vs.length≤l.size∧∃v,c[l.off+o]?=some v∧VR σ (nth B.vs o) v∧v.oneCell'=true:=by
  subst hB
  have h:=hs.blk b l hb
  have hlive:(H b).live=true:=by
    cases hh:H b<;>simp_all [Blk.vs,Blk.live]
  obtain⟨c,e,fr,h1,h2,h3,-⟩:=h.row hlive (by have:=h.len;omega)
  obtain⟨v,hv⟩:=h3 o _ (nth_some ho)
  exact⟨c,e,fr,h1,h2,h.len,v,hv⟩

/-- Several cells of a block. -/
theorem Sim.row {b o n:Nat} {l:Loc} {B:Blk} (hs:Sim Own σ H w) (hb:σ b=some l) (hB:H b=B) (ho:o+n≤B.vs.length) (h0:0<l.size) (hlive:B.live=true) :
    ∃c e fr,w.heap[l.blk]?=some (.cells c e fr)∧l.off+l.size≤c.size∧B.vs.length≤l.size ∧
      ∃vs:List Value,vs=(c.toList.drop (l.off+o)).take n∧vs.length=n∧VRs σ (sub B.vs o n) vs∧(∀v∈vs,v.oneCell'=true)∧∀j v,vs[j]?=some v→w.cell? ⟨l.blk,l.off+o+j,none⟩=some v:=by
  subst hB
  have h:=hs.blk b l hb
  obtain⟨c,e,fr,h1,h2,h3,-⟩:=h.row hlive h0
  have hlen:=h.len
  have hl:((c.toList.drop (l.off+o)).take n).length=n:=by simp;omega
  have hget:∀(j:Nat) v,((c.toList.drop (l.off+o)).take n)[j]?=some v→c[l.off+o+j]?=some v∧j<n:=by
    intro j v hv
    rw[List.getElem?_take]at hv
    split at hv
    · rename_i hj;exact⟨by simpa[List.getElem?_drop]using hv,hj⟩
    · simp at hv
  refine⟨c,e,fr,h1,h2,hlen,_,rfl,hl,VRs.of_get (by rw[hl];simp[sub];omega) ?_,?_,?_⟩
  · intro i a v ha hv
    obtain⟨hc,hi⟩:=hget i v hv
    simp only[sub,List.getElem?_take,hi,if_true,List.getElem?_drop]at ha
    obtain⟨v',hv',hr,-⟩:=h3 _ a ha
    rw[show l.off+(o+i)=l.off+o+i by omega,hc]at hv'
    obtain rfl:=Option.some.inj hv'
    exact hr
  · intro v hm
    obtain⟨i,hi,rfl⟩:=List.mem_iff_getElem.1 hm
    obtain⟨hc,hi'⟩:=hget i _ (List.getElem?_eq_getElem hi)
    obtain⟨v',hv',-,ho'⟩:=h3 (o+i) _ (List.getElem?_eq_getElem (show o+i<(H b).vs.length by omega))
    rw[show l.off+(o+i)=l.off+o+i by omega,hc]at hv'
    obtain rfl:=Option.some.inj hv'
    exact ho'
  · intro j v hv
    rw[cell_of_row w _ _ c e fr h1]
    exact(hget j v hv).1
end

theorem Addr_add (g o j:Nat):(⟨g,o,none⟩:Addr).add j=⟨g,o+j,none⟩:=by unfold Addr.add;split<;>simp_all

/-- What a value's cells are as a new block. -/
theorem mkB_ok {σ:Sg} {a:V} {v:Value} {B:Blk} (h:VR σ a v) (hB:mkB a=some B) :
    B.wr=true∧B.vs.length=v.cells.size∧VRs σ B.vs v.cells.toList∧∀u∈v.cells.toList,u.oneCell'=true:=by
  cases h<;>simp only[mkB,Option.some.injEq,reduceCtorEq]at hB<;>subst hB<;>simp only[Blk.wr,Blk.vs,Value.cells,true_and]
  case ints k xs=>exact⟨by simp,by simpa using VRs.ints σ k xs,by simp;intro x _;rfl⟩
  case agg h h1=>exact⟨by simpa using h.length,h,h1⟩
  all_goals (refine⟨rfl,.cons (by first | (constructor;done) | (constructor<;>assumption)) .nil,?_⟩;simp[Value.oneCell'])
end Am
