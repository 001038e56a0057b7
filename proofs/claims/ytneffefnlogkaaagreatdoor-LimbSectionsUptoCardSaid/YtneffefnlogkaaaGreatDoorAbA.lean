/- The abstract machine: a run of a function's code over data without memory, and the proof that whatever this run says is what a call does (conditions: those of each lemma). -/
import GoSem.Machine.Frame
import Derived.Laws.AppendOwn
import Derived.Orders
import Derived.Laws.Slices
import Derived.Laws.Entries
import Derived.Laws.Concat
import Derived.Laws.StructEq
import Derived.Laws.Cells
import Derived.Lib.Strings
import Derived.Great.BuildSlice
set_option linter.unusedVariables false
set_option linter.unusedSimpArgs false
set_option maxRecDepth 4000
open List (all_eq_true nil_append eq_nil_of_length_eq_zero isEmpty_iff length_take length_drop map_toArray map_cons length_cons length_append size_toArray append_assoc take_left length_map getElem_mem)
namespace Go.Proofs.Ab
noncomputable section
open Go
inductive AV where
 | no
 | int (n:Int)
 | bool (b:Bool)
 | str (s:ByteArray)
 | sl (l:List AV)
 | agg (l:List AV)
instance:Inhabited AV:=⟨.no⟩
namespace AV
def i:AV->Int
 | .int n=>n
 | _=>0
def b:AV->Bool
 | .bool b=>b
 | _=>false
def s:AV->ByteArray
 | .str s=>s
 | _=>⟨#[]⟩
def l:AV->List AV
 | .sl l=>l
 | _=>[]
def fld:AV->Nat->AV
 | .agg l,j=>l.getD j .no
 | _,_ => .no
end AV
inductive LK where
 | int (k:IntKind)|bool|str|sl (e:Nat)|ptr|fn|nos|ifc|oth|mp (k e:Nat)
 deriving DecidableEq
def LK.flat:LK->Bool
 | .sl _=>false
 | .ptr=>false
 | .fn=>false
 | .nos=>false
 | .ifc=>false
 | .oth=>false
 | .mp _ _=>false
 | _=>true
structure TI where
 agg:Bool
 lv:List LK
 flds:List (Nat × Nat × Bool)
 elem:Nat
 bytes:Nat
 sl:Bool
 eqs:Bool
def TI.sz (t:TI):Nat:=t.lv.length
def TI.flat (t:TI):Bool:=t.lv.all LK.flat
inductive SV where
 | no
 | undef
 | int (k:IntKind) (n:Int)
 | bool (b:Bool)
 | str (s:ByteArray)
 | agg (l:List SV)
 | nil
 | ro (e:Nat) (l:List AV) (st:Bool)
 | fr (e:Nat) (l:List AV) (st:Bool)
 | own (t:Nat)
 | vw (t:Nat) (lo hi:Int)
 | ptr (t off:Nat)
 | el (t:Nat) (i:Int) (off:Nat)
 | rl (e:Nat) (l:List AV) (st:Bool) (i:Int) (off:Nat)
 | vp (ty:Nat) (l:List SV)
 | nos
 | nilp
 | nilfn
 | nili
 | sdp (t:Nat)
 | ap (t n:Nat)
 | ar (e n:Nat) (l:List AV)
 | ra (e n:Nat) (l:List AV) (st:Bool)
 | fn (f:Nat)
 | clo (g t:Nat)
 | cls (g:Nat) (ts:List Nat)
 | mp (t:Nat)
 | tup (l:List SV)
instance:Inhabited SV:=⟨.no⟩
inductive Obj where
 | row (e:Nat) (l:List AV) (st:Bool)
 | var (ty:Nat) (l:List SV)
 | sit (s:ByteArray) (pos:Nat)
 | mp (k e:LK) (l:List AV)
 | hole
structure St where
 slots:List SV
 objs:List (Nat × Obj)
 next:Nat
def oT:LK->AV->AV->Bool
 | .int _,a,b=>decide (a.i=b.i)
 | .bool,a,b=>a.b == b.b
 | .str,a,b=>decide (a.s=b.s)
 | _,_,_=>false
def iM (k:LK) (x:AV):List AV->Option AV
 | []=>none
 | a::r=>bif oT k x (a.fld 0) then some (a.fld 1) else iM k x r
def gL (k:LK) (x v:AV):List AV->List AV
 | []=>[.agg [x,v]]
 | a::r=>bif oT k x (a.fld 0) then .agg [x,v]::r else a::gL k x v r
def iN (k:LK) (x:AV) (l:List AV):AV:=(iM k x l).getD .no
def sM (k:LK) (x:AV) (l:List AV):Bool:=(iM k x l).isSome
def eta (st:Bool) (k:LK) (a:AV):SV:=
 match k with
 | .int k => .int k a.i
 | .bool => .bool a.b
 | .str => .str a.s
 | .sl e => .ro e a.l st
 | _ => .no
def lf (agg:Bool) (a:AV) (j:Nat):AV:=bif agg then a.fld j else a
def lq (st agg:Bool) (a:AV):Nat->List LK->List SV
 | _,[]=>[]
 | j,k::f=>eta st k (lf agg a j)::lq st agg a (j+1) f
def dG:SV->AV
 | .int _ n => .int n
 | .bool b => .bool b
 | .str s => .str s
 | .ro _ l _ => .sl l
 | .nil => .sl []
 | _ => .no
def bi (l:List AV) (i:Int):AV:=l.getD i.toNat .no
def eF (l:List AV) (i:Int) (a:AV):List AV:=l.set i.toNat a
def iF (l:List AV) (f j:Int):List AV:=(l.take j.toNat).drop f.toNat
def dP (s:ByteArray) (i:Int):Int:=if h:i.toNat<s.size then ((s[i.toNat]'h).toNat:Int) else 0
def eh (s:ByteArray):List AV:=s.data.toList.map fun b => .int b.toNat
def fI (l:List AV):ByteArray:=⟨(l.map fun a=>UInt8.ofNat a.i.toNat).toArray⟩
def lookup (k:Nat):List (Nat × Obj)->Option Obj
 | []=>none
 | (f,o)::r=>bif Nat.beq k f then some o else lookup k r
def fc:List SV->Nat->SV
 | [],_ => .no
 | x::_,0=>x
 | _::r,n+1=>fc r n
def hH:List SV->Nat->SV->List SV
 | [],_,_=>[]
 | _::r,0,v=>v::r
 | x::r,n+1,v=>x::hH r n v
def fB:Nat->Nat->List (Nat × SV)->List SV
 | 0,_,_=>[]
 | n+1,i,(j,v)::r=>bif Nat.beq i j then v::fB n (i+1) r else .no::fB n (i+1) ((j,v)::r)
 | n+1,i,[] => .no::fB n (i+1) []
def eA (n:Nat) (l:List (Nat × SV)):List SV:=fB n 0 l
namespace St
def get (s:St) (i:Nat):SV:=fc s.slots i
def put (s:St) (d:Option Nat) (v:SV):St:=
 match d with
 | some d=>⟨hH s.slots d v,s.objs,s.next⟩
 | none=>s
def obj (s:St) (k:Nat):Option Obj:=lookup k s.objs
def setObj (s:St) (k:Nat) (o:Obj):St:=⟨s.slots,s.objs.map fun p=>bif Nat.beq k p.1 then (p.1,o) else p,s.next⟩
def new (s:St) (o:Obj):St:=⟨s.slots,(s.next,o)::s.objs,s.next+1⟩
def newAt (s:St) (k:Nat) (o:Obj):St:=⟨s.slots,s.objs++[(k,o)],s.next⟩
end St
def tok:SV->Option Nat
 | .own t=>some t
 | .vw t _ _=>some t
 | .ptr t _=>some t
 | .el t _ _=>some t
 | .sdp t=>some t
 | .ap t _=>some t
 | .clo _ t=>some t
 | .cls _ f=>f.head?
 | .mp t=>some t
 | _=>none
def il (f:SV->SV):SV->SV
 | .agg l => .agg (l.map f)
 | x=>f x
def mD (f:SV->SV):SV->SV
 | .tup l => .tup (l.map (il f))
 | x=>il f x
def Obj.map (f:SV->SV):Obj->Obj
 | .var ty l => .var ty (l.map f)
 | o=>o
def St.map (s:St) (f:SV->SV):St:=⟨s.slots.map (mD f),s.objs.map fun p=>(p.1,p.2.map f),s.next⟩
def mB (t:Nat) (x:SV):Bool:=
 match x with
 | .cls _ f=>f.any fun k=>Nat.beq k t
 | x=>match tok x with
  | some k=>Nat.beq k t
  | none=>false
def kZ (t:Nat) (x:SV):SV:=bif mB t x then .no else x
def St.kill (s:St) (t:Nat):St:=s.map (kZ t)
def pR (t e:Nat) (l:List AV) (st:Bool) (x:SV):SV:=
 match x with
 | .own k=>bif Nat.beq k t then .ro e l st else .own k
 | .ap k n=>bif Nat.beq k t then .ra e n l st else .ap k n
 | x=>kZ t x
def St.drop (s:St) (t:Nat):St:=⟨s.slots,s.objs.filter fun p => !Nat.beq t p.1,s.next⟩
def St.xJ (s:St) (t:Nat):St:=
 match s.obj t with
 | some (.row e l st)=>(s.map (pR t e l st)).drop t
 | _=>s
structure Cfg (R:Type) where
 ty:Nat->Option TI
 call:Nat->List SV->(List SV->Option R)->Option R
 xJ:Nat->Bool
 cut:Nat->Option (List (Nat × List (Nat × Nat)))
 base:Nat
 mv:Nat->Bool
def GG:Value->SV
 | .int k n => .int k n
 | .bool b => .bool b
 | .string b => .str b
 | .slice none 0 0 => .nil
 | .pointer none => .nilp
 | .nilFunc => .nilfn
 | .nilIface => .nili
 | _ => .no
def ev (s:St):Operand->SV
 | .tmp t=>s.get t
 | .const (.int k n) => .int k n
 | .const (.bool b) => .bool b
 | .const (.string b) => .str b
 | .const (.slice none 0 0) => .nil
 | .const (.pointer none) => .nilp
 | .const .nilFunc => .nilfn
 | .const .nilIface => .nili
 | .const (.agg cs) => .agg (cs.toList.map GG)
 | .func f => .fn f
 | _ => .no
def B6 (op:BinOp) (k:IntKind) (x y:Int):Int:=
 match op with
 | .and=>k.wrap (BitVec.ofInt k.bits x &&& BitVec.ofInt k.bits y).toNat
 | .or=>k.wrap (BitVec.ofInt k.bits x ||| BitVec.ofInt k.bits y).toNat
 | .xor=>k.wrap (BitVec.ofInt k.bits x ^^^ BitVec.ofInt k.bits y).toNat
 | _=>k.wrap (BitVec.ofInt k.bits x &&& ~~~ BitVec.ofInt k.bits y).toNat
variable {R:Type}
def bo (b:Bool) (k:Option R):Option R:=bif b then k else none
def Aw (op:BinOp) (k:IntKind) (x y:Int) (κ:SV->Option R):Option R:=
 match op with
 | .add=>κ (.int k (k.wrap (x+y)))
 | .sub=>κ (.int k (k.wrap (x-y)))
 | .mul=>κ (.int k (k.wrap (x*y)))
 | .quo=>bo (y != 0) (κ (.int k (k.wrap (x.tdiv y))))
 | .rem=>bo (y != 0) (κ (.int k (x.tmod y)))
 | .and=>κ (.int k (B6 .and k x y))
 | .or=>κ (.int k (B6 .or k x y))
 | .xor=>κ (.int k (B6 .xor k x y))
 | .andNot=>κ (.int k (B6 .andNot k x y))
 | .eql=>κ (.bool (x == y))
 | .neq=>κ (.bool (x != y))
 | .lss=>κ (.bool (decide (x<y)))
 | .leq=>κ (.bool (decide (x<=y)))
 | .gtr=>κ (.bool (decide (x>y)))
 | .geq=>κ (.bool (decide (x>=y)))
 | _=>none
def Hi (op:BinOp) (k:IntKind) (x y:Int) (κ:SV->Option R):Option R:=
 match op with
 | .shl=>bo (decide (0<=y)) (κ (.int k (k.wrap (x*2 ^ (min y.toNat k.bits)))))
 | .shr=>bo (decide (0<=y)) (κ (.int k (x.fdiv (2 ^ (min y.toNat k.bits)))))
 | _=>none
def C4:BinOp->Bool
 | .shl=>true
 | .shr=>true
 | _=>false
def xu (op:BinOp) (x y:ByteArray) (κ:SV->Option R):Option R:=
 match op with
 | .add=>bo (decide (x.size+y.size<=9223372036854775807)) (κ (.str (x++y)))
 | .eql=>κ (.bool (decide (x=y)))
 | .neq=>κ (.bool (!decide (x=y)))
 | .lss=>κ (.bool (Op.bytesLess x.toList y.toList))
 | .leq=>κ (.bool (Op.bytesLess x.toList y.toList||decide (x=y)))
 | .gtr=>κ (.bool (!(Op.bytesLess x.toList y.toList||decide (x=y))))
 | .geq=>κ (.bool (!Op.bytesLess x.toList y.toList))
 | _=>none
def qh:LK->SV->SV->Option Bool
 | .int k,.int k1 a,.int k2 b=>bif decide (k=k1)&&decide (k=k2) then some (a == b) else none
 | .bool,.bool a,.bool b=>some (a == b)
 | .str,.str a,.str b=>some (decide (a=b))
 | _,_,_=>none
def dD:List LK->List SV->List SV->Option Bool
 | [],[],[]=>some true
 | k::f,x::xs,y::j=>match qh k x y,dD f xs j with
  | some a,some b=>some (a&&b)
  | _,_=>none
 | _,_,_=>none
def nk:Option TI->Nat
 | none=>0
 | some T=>bif T.agg then (bif T.eqs then 2 else 0) else bif decide (T.lv=[.bool]) then 1 else 0
def uu:Option TI->List LK
 | none=>[]
 | some T=>T.lv
def Ax (f:Nat) (lv:List LK) (op:BinOp) (x y:SV) (κ:SV->Option R):Option R:=
 match x,y with
 | .int k a,.int j b=>bif C4 op then Hi op k a b κ else bif decide (k=j) then Aw op k a b κ else none
 | .str a,.str b=>xu op a b κ
 | .bool a,.bool b=>bif Nat.beq f 1 then (match op with
  | .eql=>κ (.bool (a == b))
  | .neq=>κ (.bool (!(a == b)))
  | _=>none) else none
 | .agg a,.agg b=>bif Nat.beq f 2 then (match op,dD lv a b with
  | .eql,some c=>κ (.bool c)
  | .neq,some c=>κ (.bool (!c))
  | _,_=>none) else none
 | _,_=>none
noncomputable def B' (a b:Option R):Option R:=@ite _ (a=b) (Classical.propDecidable _) a none
theorem pv {a b:Option R} {r:R} (h:B' a b=some r):a=some r/\b=some r:=by
 unfold B' at h
 split at h
 ·rename_i e;exact ⟨h,e▸h⟩
 ·cases h
def ur (op:BinOp) (x y:SV):Bool:=
 match op,x,y with
 | .eql,.ro _ _ _,.nil=>true
 | .eql,.nil,.nil=>true
 | _,_,_=>false
noncomputable def GZ (q:Bool) (T:Option TI) (x:SV) (κ:SV->Option R):Option R:=
 bif q then none else match x,T with
 | .ro _ l _,some T=>bif T.sl then (bif decide ((0:Int)<(l.length:Int)) then κ (.bool false) else B' (κ (.bool true)) (κ (.bool false))) else none
 | .nil,some T=>bif T.sl then κ (.bool true) else none
 | _,_=>none
def Hu (op:UnOp) (x:SV) (κ:SV->Option R):Option R:=
 match op,x with
 | .neg,.int k n=>κ (.int k (k.wrap (0-n)))
 | .not,.bool b=>κ (.bool (!b))
 | _,_=>none
def sub (l:List SV) (j n:Nat):List SV:=(l.drop j).take n
def D8:List SV->Nat->List SV->List SV
 | l,_,[]=>l
 | l,j,v::vs=>D8 (hH l j v) (j+1) vs
def kv:LK->SV
 | .int k => .int k 0
 | .bool => .bool false
 | .str => .str ⟨#[]⟩
 | .sl _ => .nil
 | .ptr => .nilp
 | .fn => .nilfn
 | .ifc => .nili
 | .nos => .nos
 | .oth => .no
 | .mp _ _ => .no
def leaves:SV->List SV
 | .agg l=>l
 | x=>[x]
def whole (agg:Bool) (n:Nat) (l:List SV):Option SV:=
 bif Nat.beq l.length n then bif agg then some (.agg l) else match l with
  | [x]=>some x
  | _=>none else none
def known:SV->Bool
 | .no=>false
 | .undef=>false
 | .agg _=>false
 | .tup _=>false
 | .fr _ _ _=>false
 | .vp _ _=>false
 | .nos=>false
 | .sdp _=>false
 | .ap _ _=>false
 | .ar _ _ _=>false
 | .ra _ _ _ _=>false
 | _=>true
def stands:SV->Bool
 | .nos=>true
 | x=>known x
def fits:LK->SV->Bool
 | .int k,.int f _=>decide (k=f)
 | .bool,.bool _=>true
 | .str,.str _=>true
 | .sl _,.nil=>true
 | .sl e,.ro j _ _=>Nat.beq e j
 | _,_=>false
def fitAll:List LK->List SV->Bool
 | [],[]=>true
 | k::f,v::vs=>fits k v&&fitAll f vs
 | _,_=>false
def BB:SV->Bool
 | .ro _ _ st=>st
 | _=>true
def m0:List SV->Bool
 | []=>true
 | v::vs=>BB v&&m0 vs
def owns:List SV->List Nat
 | []=>[]
 | .own t::r=>t::owns r
 | _::r=>owns r
def gi:List Nat->St->St
 | [],s=>s
 | t::r,s=>gi r (s.xJ t)
def fG:List Nat->St->St
 | [],s=>s
 | t::r,s=>fG r ((s.kill t).drop t)
def fZ:List Nat->St->St
 | [],s=>s
 | t::r,s=>fZ r (s.setObj t .hole)
def lm (T:TI) (v:SV):Option (AV × Bool):=
 bif fitAll T.lv (leaves v) then bif T.agg then (match v with
   | .agg l=>some (.agg (l.map dG),m0 l)
   | _=>none)
  else (match v with
   | .agg _=>none
   | v=>some (dG v,BB v)) else none
def rowOf (T:TI):List SV->Option (List AV × Bool)
 | []=>some ([],true)
 | v::r=>match lm T v,rowOf T r with
  | some (a,x),some (l,y)=>some (a::l,x&&y)
  | _,_=>none
def mE (s:St):SV->Option Int
 | .str b=>some b.size
 | .nil=>some 0
 | .ro _ l _=>some l.length
 | .own t=>match s.obj t with
  | some (.row _ l _)=>some l.length
  | _=>none
 | .vw _ f j=>some (j-f)
 | _=>none
def zG (s:St):SV->Option (Nat × List AV × Bool)
 | .ro e l st=>some (e,l,st)
 | .own t=>match s.obj t with
  | some (.row e l st)=>some (e,l,st)
  | _=>none
 | .vw t f j=>match s.obj t with
  | some (.row e l st)=>some (e,iF l f j,st)
  | _=>none
 | _=>none
def pK (T:TI) (a:AV) (off:Nat) (vs:List SV):AV:=
 bif T.agg then .agg ((D8 (lq true true a 0 T.lv) off vs).map dG) else match vs with
  | [v]=>dG v
  | _ => .no
def ph (C:Cfg R) (T:TI):Option LK:=
 bif T.agg&&(T.flds.isEmpty && !(Nat.beq T.elem 0)) then (match C.ty T.elem with
  | some E=>match E.lv with
   | [k]=>bif !E.agg&&(k.flat&&(decide (T.lv=List.replicate T.sz k)&&decide (T.sz<=1000000))) then some k else none
   | _=>none
  | none=>none) else none
def loadAt (C:Cfg R) (s:St) (T:TI):SV->Option SV
 | .ptr t off=>match s.obj t with
  | some (.var _ f)=>bif (sub f off T.sz).all known then whole T.agg T.sz (sub f off T.sz) else none
  | _=>none
 | .el t i off=>match s.obj t with
  | some (.row e l st)=>match C.ty e with
   | some E=>whole T.agg T.sz (sub (lq st E.agg (bi l i) 0 E.lv) off T.sz)
   | none=>none
  | _=>none
 | .rl e l st i off=>match C.ty e with
  | some E=>whole T.agg T.sz (sub (lq st E.agg (bi l i) 0 E.lv) off T.sz)
  | none=>none
 | .ap t n=>match s.obj t with
  | some (.row e l _)=>match ph C T with
   | some _=>bif Nat.beq e T.elem&&Nat.beq n T.sz then some (.ar e n l) else none
   | none=>none
  | _=>none
 | _=>none
def gg (s:St):SV->Option SV
 | .ra e n l st=>some (.ra e n l st)
 | .own t=>match s.obj t with
  | some (.row e l _)=>some (.ro e l false)
  | _=>none
 | .vw t f j=>match s.obj t with
  | some (.row e l _)=>some (.ro e (iF l f j) false)
  | _=>none
 | .ptr _ _=>none
 | .el _ _ _=>none
 | .rl _ _ _ _ _=>none
 | .clo _ _=>none
 | .cls _ _=>none
 | .mp _=>none
 | x=>bif known x then some x else none
def gQ (s:St):List SV->Option (List SV)
 | []=>some []
 | x::r=>match gg s x,gQ s r with
  | some y,some l=>some (y::l)
  | _,_=>none
def mn (s:St):SV->Option SV
 | .own t=>match s.obj t with
  | some (.row e l st)=>some (.fr e l st)
  | _=>none
 | .no=>some .no
 | .nos=>some .nos
 | .vw _ _ _=>none
 | .ptr _ _=>none
 | .el _ _ _=>none
 | .rl _ _ _ _ _=>none
 | .clo _ _=>none
 | .cls _ _=>none
 | .mp _=>none
 | x=>bif known x then some x else none
def jg (s:St):List SV->Option (List SV)
 | []=>some []
 | x::r=>match mn s x,jg s r with
  | some y,some l=>some (y::l)
  | _,_=>none
def fE (s:St):SV->Option SV
 | .agg l=>match gQ s l with
  | some l=>some (.agg l)
  | none=>none
 | .ptr t 0=>match s.obj t with
  | some (.var ty f)=>match jg s f with
   | some l=>some (.vp ty l)
   | none=>none
  | _=>none
 | x=>gg s x
def eU (s:St):List SV->Option (List SV)
 | []=>some []
 | x::r=>match fE s x,eU s r with
  | some y,some l=>some (y::l)
  | _,_=>none
def given:List SV->List Nat
 | []=>[]
 | .ptr t _::r=>t::given r
 | _::r=>given r
def cy (s:St):List SV->List Nat
 | []=>[]
 | .ptr t _::r=>(match s.obj t with
  | some (.var _ f)=>owns f
  | _=>[])++cy s r
 | _::r=>cy s r
def iT (s:St):List SV->List Nat
 | []=>[]
 | .ptr t _::r=>t::(match s.obj t with
  | some (.var _ f)=>owns f
  | _=>[])++iT s r
 | _::r=>iT s r
def da (s:St):List SV->List SV × St
 | []=>([],s)
 | .fr e l st::r=>match da (s.new (.row e l st)) r with
  | (vs,s')=>(.own s.next::vs,s')
 | x::r=>match da s r with
  | (vs,s')=>(x::vs,s')
def eN (s:St) (v:SV):SV × St:=
 match v with
 | .agg l=>match da s l with
  | (vs,s')=>(.agg vs,s')
 | v=>match da s [v] with
  | ([u],s')=>(u,s')
  | (_,s')=>(.no,s')
def fD (s:St):List SV->List SV × St
 | []=>([],s)
 | x::r=>match eN s x with
  | (v,s1)=>match fD s1 r with
   | (vs,s2)=>(v::vs,s2)
def fk (s:St):List SV->List SV->Option St
 | [],[]=>some s
 | .ptr t _::r,.vp ty f::u=>match da s f with
  | (vs,s1)=>fk (s1.setObj t (.var ty vs)) r u
 | .ptr _ _::_,_=>none
 | _::r,u=>fk s r u
 | [],_::_=>none
def distinct:List Nat->Bool
 | []=>true
 | x::r => !(r.any (Nat.beq x))&&distinct r
def jr:List SV->List Nat
 | []=>[]
 | .own t::r=>t::jr r
 | .vw t _ _::r=>t::jr r
 | _::r=>jr r
def seen:List SV->List Nat
 | []=>[]
 | x::r=>jr (leaves x)++seen r
def e7:List SV->List Nat
 | []=>[]
 | x::r=>owns (leaves x)++e7 r
def rP:List SV->List Nat
 | []=>[]
 | .ap t _::r=>t::rP r
 | _::r=>rP r
def lW (C:Cfg R) (q:Bool) (j:List Nat) (s0:St) (d:Option Nat) (g:Nat) (vs ex:List SV) (κ:St->Option R):Option R:=
 let f:=cy s0 vs
 bif (q && !(j.isEmpty&&f.isEmpty)) || !distinct (iT s0 vs)||(seen vs).any (fun t=>(iT s0 vs).any (Nat.beq t)) then none else
 match eU s0 vs with
 | none=>none
 | some cs=>C.call g (cs++ex) fun res =>
  match res with
  | []=>none
  | v::back =>
   match fk (fZ (given vs) (fG f s0)) vs back with
   | none=>none
   | some s2=>match v with
    | .tup l=>match fD s2 l with
     | (m,s3)=>κ (s3.put d (.tup m))
    | v=>match eN s2 v with
     | (u,s3)=>κ (s3.put d u)
def pz (C:Cfg R) (q:Bool) (f:List Nat) (s0:St) (d:Option Nat) (g:Nat) (vs:List SV) (κ:St->Option R):Option R:=lW C q f s0 d g vs [] κ
def DQ (C:Cfg R) (s:St) (t:Nat):Option SV:=
 match s.obj t with
 | some (.var ty f)=>match C.ty ty with
  | some T=>match whole T.agg T.sz f with
   | some x=>match lm T x with
    | some (a,_)=>some (.rl ty [a] false 0 0)
    | none=>none
   | none=>none
  | none=>none
 | _=>none
def kW (C:Cfg R) (s:St) (g:Nat) (xs:List Operand):List Nat:=bif C.xJ g then e7 (xs.map (ev s))++rP (xs.map (ev s)) else []
def iG (C:Cfg R) (q:Bool) (s:St) (d:Option Nat) (g:Nat) (xs:List Operand) (κ:St->Option R):Option R:=
 let f:=kW C s g xs
 let s0:=gi f s
 pz C q f s0 d g (xs.map (ev s0)) κ
def Cf (C:Cfg R) (s:St) (d:Option Nat) (g:Nat) (xs:List Operand) (κ:St->Option R):Option R:=
 match xs.reverse with
 | y::r=>match ev s y with
  | .own t=>match s.obj t with
   | some (.row e l st)=>lW C false [] (fG [t] s) d g (r.reverse.map (ev (fG [t] s))) [.fr e l st] κ
   | _=>none
  | _=>iG C false s d g xs κ
 | []=>iG C false s d g xs κ
def zd (C:Cfg R) (q:Bool) (s:St) (d:Option Nat) (f:Operand) (g:Nat) (xs:List Operand) (κ:St->Option R):Option R:=
 bif q then none else
 let j:=kW C s g xs
 let s0:=gi j s
 match ev s0 f with
 | .clo m t=>bif Nat.beq m g then (bif C.xJ g then (bif (iT s0 (xs.map (ev s0))).any (Nat.beq t) then none else match DQ C s0 t with
   | some x=>lW C q j s0 d g (xs.map (ev s0)) [x] κ
   | none=>none) else pz C q j s0 d g (xs.map (ev s0)++[.ptr t 0]) κ) else none
 | .cls m u=>bif Nat.beq m g && !C.xJ g then pz C q j s0 d g (xs.map (ev s0)++u.map fun t => .ptr t 0) κ else none
 | _=>none
def zU:List SV->Option (List Nat)
 | []=>some []
 | .ptr t 0::r=>match zU r with
  | some l=>some (t::l)
  | none=>none
 | _::_=>none
def Dn (C:Cfg R) (t:Nat):Option (LK × LK):=
 match C.ty t with
 | some T=>bif T.agg then none else match T.lv with
  | [.mp k e]=>match C.ty k,C.ty e with
   | some K,some V=>bif K.agg||V.agg then none else match K.lv,V.lv with
    | [k],[e]=>bif k.flat&&e.flat then some (k,e) else none
    | _,_=>none
   | _,_=>none
  | _=>none
 | none=>none
def mA (T:TI):Bool := !T.agg&&decide (T.lv=[.str])
def Ah (T:TI):SV->Bool
 | .str _=>mA T
 | _=>T.sl
def dW (i n:Int) (k:Option R):Option R:=bo (decide (0<=i)&&decide (i<n)) k
def ij (a b n:Int) (k:Option R):Option R:=bo (decide (0<=a)&&(decide (a<=b)&&decide (b<=n))) k
def se:List (Nat × Nat × Bool)->List SV->List (Nat × SV)->Option (List SV)
 | _,f,[]=>some f
 | j,f,(i,v)::r=>match j[i]? with
  | some (off,n,_)=>bif Nat.beq (leaves v).length n&&(leaves v).all known then se j (D8 f off (leaves v)) r else none
  | none=>none
def room (n m bytes:Nat) (k:Option R):Option R:=bo (decide ((n+m)*bytes<=140737488355328)) k
def m5 (s:St) (e:Nat) (T:TI):SV->Option (List AV × Bool)
 | .nil=>some ([],true)
 | .str b=>bif decide (T.lv=[.int .u8]) then some (eh b,true) else none
 | y=>match zG s y with
  | some (f,l,st)=>bif Nat.beq e f then some (l,T.flat||st) else none
  | none=>none
def uG (C:Cfg R) (t u:Nat) (T:TI) (y:SV):Bool:=
 match y with
 | .str _ => !T.agg&&(match C.ty u with
  | some U=>mA U
  | none=>false)
 | _=>Nat.beq t u
def tQ (C:Cfg R) (q:Bool) (s:St) (d:Option Nat) (t u:Nat) (x y:SV) (κ:St->Option R):Option R:=
 match C.ty t with
 | none=>none
 | some S=>bif !S.sl then none else match C.ty S.elem with
  | none=>none
  | some T=>match m5 s S.elem T y with
   | none=>none
   | some (l',st') =>
    bif q then none else bif !uG C t u T y then none else match x with
    | .nil=>room 0 l'.length T.bytes (κ (((s.new (.row S.elem l' st'))).put d (.own s.next)))
    | .own t=>match s.obj t with
     | some (.row e l st)=>bif Nat.beq e S.elem then room l.length l'.length T.bytes (κ ((((s.kill t).drop t).new (.row e (l++l') (st&&st'))).put d (.own s.next))) else none
     | _=>none
    | _=>none
def bounds (s:St) (x:SV) (f j:Option Operand):Option (Int × Int):=
 match mE s x with
 | none=>none
 | some n =>
  match f,j with
  | none,none=>some (0,n)
  | some a,none=>match ev s a with
   | .int _ a=>some (a,n)
   | _=>none
  | none,some b=>match ev s b with
   | .int _ b=>some (0,b)
   | _=>none
  | some a,some b=>match ev s a,ev s b with
   | .int _ a,.int _ b=>some (a,b)
   | _,_=>none
def min2 (x y:Int):Int:=bif decide (y<x) then y else x
def max2 (x y:Int):Int:=bif decide (x<y) then y else x
def Ec:LK->AV
 | .int _ => .int 0
 | .bool => .bool false
 | .str => .str ⟨#[]⟩
 | .sl _ => .sl []
 | _ => .no
def px (a:AV):Bool:=decide (0<=a.i)&&decide (a.i<256)
def isByte (T:TI):Bool := !T.agg&&decide (T.lv=[.int .u8])
def zA (T:TI):Bool := !T.agg&&decide (T.lv=[.ptr]) && !Nat.beq T.elem 0
def iu (C:Cfg R) (s:St) (d:Option Nat) (x:SV) (ty:Nat) (κ:St->Option R):Option R:=
 match x with
 | .nil=>κ (s.put d .nilp)
 | .own t=>match s.obj t,C.ty ty with
  | some (.row _ _ _),some T=>bif zA T then κ (s.put d (.sdp t)) else none
  | _,_=>none
 | _=>none
def uU (C:Cfg R) (s:St) (d:Option Nat) (x n:SV) (f:List Nat) (κ:St->Option R):Option R:=
 match f with
 | [j,_]=>match x,n with
  | .nilp,.int k n=>bif decide (k = .i64) then bo (decide (n=0)) (κ (s.put d (.str ⟨#[]⟩))) else none
  | .sdp t,.int k n=>bif decide (k = .i64) then (match s.obj t with
   | some (.row e l _)=>match C.ty e,C.ty j with
    | some E,some T=>bif isByte E&&(zA T&&Nat.beq T.elem e) then bo (decide (n=l.length)) (bo (l.all px) (κ ((s.setObj t .hole).put d (.str (fI l))))) else none
    | _,_=>none
   | _=>none) else none
  | _,_=>none
 | _=>none
def dV (C:Cfg R) (q:Bool) (s:St) (d:Option Nat) (b:Builtin) (xs:List Operand) (f:List Nat) (ty:Nat) (κ:St->Option R):Option R:=
 match b,xs with
 | .len,[x]=>match f with
  | t::_=>match C.ty t,mE s (ev s x) with
   | some T,some n=>bif Ah T (ev s x) then κ (s.put d (.int .i64 n)) else none
   | _,_=>none
  | []=>none
 | .append,[x,y]=>match f with
  | [t,u]=>tQ C q s d t u (ev s x) (ev s y) κ
  | _=>none
 | .min,[x,y]=>match ev s x,ev s y with
  | .int k x,.int _ y=>κ (s.put d (.int k (min2 x y)))
  | _,_=>none
 | .max,[x,y]=>match ev s x,ev s y with
  | .int k x,.int _ y=>κ (s.put d (.int k (max2 x y)))
  | _,_=>none
 | .unsafeSliceData,[x]=>iu C s d (ev s x) ty κ
 | .unsafeString,[x,y]=>uU C s d (ev s x) (ev s y) f κ
 | _,_=>none
def lH (agg:Bool) (sz:Nat):Nat->List SV->Nat->Int->(SV->Option R)->Option R
 | 0,_,_,_,_=>none
 | n+1,l,j,i,κ=>bif i == (j:Int) then (match whole agg sz (l.take sz) with
  | some v=>κ v
  | none=>none) else lH agg sz n (l.drop sz) (j+1) i κ
def rY (C:Cfg R) (s:St) (d:Option Nat) (f t:Nat) (F T:TI) (x:SV) (κ:St->Option R):Option R:=
 match x with
 | .str b=>bif T.sl&&decide (F.lv=[.str]) then (match C.ty T.elem with
  | some E=>bif isByte E then room b.size 0 1 (κ ((s.new (.row T.elem (eh b) true)).put d (.own s.next))) else none
  | none=>none) else none
 | .own k=>match s.obj k with
  | some (.row e l st)=>match C.ty e with
   | some E=>bif F.sl&&(Nat.beq F.elem e&&isByte E) then
     bif decide (T.lv=[.str]) then κ (s.put d (.str (fI l))) else
     bif Nat.beq f t then bo (!l.isEmpty) (κ ((s.setObj k (.row e l st)).put d (.own k))) else none
    else none
   | none=>none
  | _=>none
 | .nil=>bif F.sl&&decide (T.lv=[.str]) then (match C.ty F.elem with
  | some E=>bif isByte E then κ (s.put d (.str ⟨#[]⟩)) else none
  | none=>none) else none
 | x=>match zG s x with
  | some (e,l,_)=>match C.ty e with
   | some E=>bif F.sl&&(Nat.beq F.elem e&&(isByte E&&decide (T.lv=[.str]))) then κ (s.put d (.str (fI l))) else none
   | none=>none
  | none=>none
def qz (C:Cfg R) (s:St) (d:Option Nat) (F T:TI) (x:SV) (κ:St->Option R):Option R:=
 match x with
 | .own k=>match s.obj k with
  | some (.row e l _)=>match C.ty e with
   | some E=>bif F.sl&&(Nat.beq F.elem e&&isByte E) then (bif decide (T.lv=[.str]) then κ (s.put d (.str (fI l))) else none) else none
   | none=>none
  | _=>none
 | _=>none
theorem sY {C:Cfg R} {s:St} {d:Option Nat} {F T:TI} {x:SV} {κ:St->Option R} {r:R} (h:qz C s d F T x κ=some r):∃ k e l st E,x = .own k/\s.obj k=some (.row e l st)/\C.ty e=some E/\(F.sl&&(Nat.beq F.elem e&&isByte E))=true/\decide (T.lv=[.str])=true/\κ (s.put d (.str (fI l)))=some r:=by
 unfold qz at h
 cases x with
 | own k =>
  simp only at h
  cases j:s.obj k with
  | none=>rw [j] at h;cases h
  | some z =>
   rw [j] at h
   cases z with
   | row e l st =>
    simp only at h
    cases m:C.ty e with
    | none=>rw [m] at h;cases h
    | some E =>
     rw [m] at h
     simp only at h
     cases f:(F.sl&&(Nat.beq F.elem e&&isByte E)) with
     | false=>rw [f] at h;cases h
     | true =>
      cases u:decide (T.lv=[.str]) with
      | false=>rw [f,u] at h;cases h
      | true =>
       rw [f,u] at h
       exact ⟨k,e,l,st,E,rfl,j,m,f,rfl,h⟩
   | _=>cases h
 | _=>cases h
theorem Ff {C:Cfg R} {s:St} {d:Option Nat} {F T:TI} {κ:St->Option R} {k e:Nat} {l:List AV} {st:Bool} {E:TI} (f:s.obj k=some (.row e l st)) (j:C.ty e=some E) (m:(F.sl&&(Nat.beq F.elem e&&isByte E))=true) (u:decide (T.lv=[.str])=true):qz C s d F T (.own k) κ=κ (s.put d (.str (fI l))):=by
 unfold qz
 simp only [f,j,m,u,cond_true]
theorem Bh {C:Cfg R} {s:St} {d:Option Nat} {f t:Nat} {F T:TI} {x:SV} {κ:St->Option R} {r:R} (h:qz C s d F T x κ=some r):rY C s d f t F T x κ=some r:=by
 obtain ⟨k,e,l,st,E,rfl,j,m,u,z,h⟩:=sY h
 unfold rY
 simp only [j,m,u,z,cond_true]
 exact h
theorem DF {C:Cfg R} {s:St} {d:Option Nat} {F T:TI} {x:SV} {κ:St->Option R} {r:R} (h:qz C s d F T x κ=some r):∃ u,∀ K':St->Option R,qz C s d F T x K'=K' (s.put d u):=by
 obtain ⟨k,e,l,st,E,rfl,f,j,m,z,h⟩:=sY h
 exact ⟨_,fun K'=>Ff f j m z⟩
theorem wD {C:Cfg R} {s s':St} {d:Option Nat} {F T:TI} {K K':St->Option R} {x:SV} (f:∀ k,x = .own k->s'.obj k=s.obj k) (j:∀ u,K (s.put d u)=K' (s'.put d u)):qz C s d F T x K=qz C s' d F T x K':=by
 unfold qz
 cases x <;> try rfl
 rename_i k
 simp only [f k rfl]
 cases s.obj k with
 | none=>rfl
 | some z =>
  cases z <;> try rfl
  rename_i e l st
  simp only
  cases C.ty e with
  | none=>rfl
  | some E =>
   simp only
   cases F.sl&&(Nat.beq F.elem e&&isByte E) with
   | false=>rfl
   | true=>cases decide (T.lv=[.str]) with
    | false=>rfl
    | true=>exact j _
def kn (C:Cfg R) (s:St) (d:Option Nat) (o:Obj) (f:Nat->SV) (κ:St->Option R):Option R:=
 bif Nat.beq C.base 0 then κ ((s.new o).put d (f s.next)) else
 bif (s.obj (C.base+d.getD 0)).isNone&&(Nat.blt (C.base+d.getD 0) s.next&&Nat.ble 64 C.base) then κ ((s.newAt (C.base+d.getD 0) o).put d (f (C.base+d.getD 0))) else none
def eL (C:Cfg R) (q:Bool) (o:Oper) (s:St) (κ:St->Option R):Option R:=
 match o.op with
 | .move x=>κ (s.put o.dst (ev s x))
 | .assign x=>κ (s.put o.dst (ev s x))
 | .pick c a b=>match ev s c with
  | .bool t=>bif t then κ (s.put o.dst (ev s a)) else κ (s.put o.dst (ev s b))
  | _=>none
 | .alloc t=>match C.ty t with
  | some T=>match ph C T with
   | some k=>kn C s o.dst (.row T.elem (List.replicate T.sz (Ec k)) true) (fun n => .ap n T.sz) κ
   | none=>bif (T.lv.map kv).all stands then kn C s o.dst (.var t (T.lv.map kv)) (fun n => .ptr n 0) κ else none
  | none=>none
 | .box t x=>match C.ty t with
  | some T=>bif (Nat.beq (leaves (ev s x)).length T.sz&&(leaves (ev s x)).all known) then κ ((s.new (.var t (leaves (ev s x)))).put o.dst (.ptr s.next 0)) else none
  | none=>none
 | .build t ps=>match C.ty t with
  | some T=>bif T.agg&&(T.flds.isEmpty && !(Nat.beq T.elem 0)) then (match C.ty T.elem with
    | some E=>match se ((List.range (T.sz / E.sz)).map fun i=>(i*E.sz,E.sz,E.agg)) (T.lv.map kv) (ps.toList.map fun p=>(p.1,ev s p.2)) with
     | some l=>κ (s.put o.dst (.agg l))
     | none=>none
    | none=>none) else match se T.flds (T.lv.map kv) (ps.toList.map fun p=>(p.1,ev s p.2)) with
   | some l=>bif T.agg && !T.flds.isEmpty then κ (s.put o.dst (.agg l)) else none
   | none=>none
  | none=>none
 | .buildSlice t n ps=>match C.ty t with
  | some S=>bif !S.sl then none else match C.ty S.elem with
   | some T =>
    let u:=ps.toList.flatMap fun p=>owns (leaves (ev s p.2))
    let s1:=gi u s
    bif q && !u.isEmpty then none else
    match rowOf T (ps.toList.map fun p=>ev s1 p.2) with
    | some (l,st)=>bif (Nat.beq l.length n&&decide ((ps.toList.map (·.1))=List.range n)&&decide (n*T.sz<=1000000)) then κ ((s1.new (.row S.elem l (T.flat||st))).put o.dst (.own s1.next)) else none
    | none=>none
   | none=>none
  | none=>none
 | .load t a=>match C.ty t with
  | some T=>match loadAt C s T (ev s a) with
   | some v=>κ (s.put o.dst v)
   | none=>none
  | none=>none
 | .store t a v=>match C.ty t with
  | some T=>match ev s a with
   | .ptr k off=>match s.obj k with
    | some (.var ty U)=>bif Nat.beq (leaves (ev s v)).length T.sz&&(leaves (ev s v)).all known&&decide (off+T.sz<=U.length) then κ ((s.setObj k (.var ty (D8 U off (leaves (ev s v))))).put o.dst .undef) else none
    | _=>none
   | .el _ _ _ =>
    let u:=owns (leaves (ev s v))
    let s1:=gi u s
    bif q && !u.isEmpty then none else
    match ev s1 a with
    | .el k i off=>match s1.obj k with
     | some (.row e l st)=>match C.ty e with
      | some E=>bif Nat.beq (leaves (ev s1 v)).length T.sz&&decide (off+T.sz<=E.sz)&&fitAll ((E.lv.drop off).take T.sz) (leaves (ev s1 v)) then κ ((s1.setObj k (.row e (eF l i (pK E (bi l i) off (leaves (ev s1 v)))) (E.flat||(st&&m0 (leaves (ev s1 v)))))).put o.dst .undef) else none
      | none=>none
     | _=>none
    | _=>none
   | .ap k n=>match s.obj k,ph C T with
    | some (.row e l st),some _=>bif Nat.beq e T.elem&&Nat.beq n T.sz then (match ev s v with
      | .ar z n' l'=>bif Nat.beq z e&&Nat.beq n' T.sz then κ ((s.setObj k (.row e l' true)).put o.dst .undef) else none
      | .agg vs=>bif fitAll T.lv vs then κ ((s.setObj k (.row e (vs.map dG) true)).put o.dst .undef) else none
      | _=>none) else none
    | _,_=>none
   | _=>none
  | none=>none
 | .nilCheck x=>match ev s x with
  | .ap t n=>κ (s.put o.dst (.ap t n))
  | .ra e n l st=>κ (s.put o.dst (.ra e n l st))
  | .ptr t off=>κ (s.put o.dst (.ptr t off))
  | .el t i off=>κ (s.put o.dst (.el t i off))
  | .rl e l st i off=>κ (s.put o.dst (.rl e l st i off))
  | _=>none
 | .makeFunc (.func g) first captured=>bif q then none else bif first.isEmpty then (match captured.toList with
  | []=>κ (s.put o.dst (.fn g))
  | [x]=>match ev s x with
   | .ptr t 0=>κ (s.put o.dst (.clo g t))
   | _=>none
  | l=>match zU (l.map (ev s)) with
   | some V=>κ (s.put o.dst (.cls g V))
   | none=>none) else none
 | .makeMap t none=>bif q then none else match Dn C t with
  | some (k,e)=>κ ((s.new (.mp k e [])).put o.dst (.mp s.next))
  | none=>none
 | .lookup t x i ok=>match Dn C t,ev s x with
  | some (k,e),.mp m=>match s.obj m with
   | some (.mp N z l)=>bif decide (k=N)&&decide (e=z)&&fits k (ev s i) then
     bif ok then κ (s.put o.dst (.tup [eta true e (iN k (dG (ev s i)) l),.bool (sM k (dG (ev s i)) l)]))
     else κ (s.put o.dst (eta true e (iN k (dG (ev s i)) l)))
    else none
   | _=>none
  | _,_=>none
 | .mapUpdate t x i v=>bif q then none else match Dn C t,ev s x with
  | some (k,e),.mp m=>match s.obj m with
   | some (.mp N z l)=>bif decide (k=N)&&decide (e=z)&&(fits k (ev s i)&&fits e (ev s v)) then
     κ ((s.setObj m (.mp k e (gL k (dG (ev s i)) (dG (ev s v)) l))).put o.dst .undef)
    else none
   | _=>none
  | _,_=>none
 | .binOp op t x y _=>bif ur op (ev s x) (ev s y) then GZ q (C.ty t) (ev s x) (fun v=>κ (s.put o.dst v)) else Ax (nk (C.ty t)) (uu (C.ty t)) op (ev s x) (ev s y) fun v=>κ (s.put o.dst v)
 | .unOp op _ x=>Hu op (ev s x) fun v=>κ (s.put o.dst v)
 | .convert f t x=>match C.ty f,C.ty t with
  | some F,some T=>bif !(!F.agg && !T.agg) then none else match ev s x,F.lv,T.lv with
   | .int _ n,[.int _],[.int k]=>κ (s.put o.dst (.int k (k.wrap n)))
   | .int _ n,[.int _],[.str]=>κ (s.put o.dst (.str (Utf8.encode n)))
   | .str b,[.str],[.str]=>κ (s.put o.dst (.str b))
   | v,_,_=>bif q then qz C s o.dst F T v κ else rY C s o.dst f t F T v κ
  | _,_=>none
 | .slice t x M O none=>match C.ty t,bounds s (ev s x) M O with
  | some T,some (a,b)=>bif !Ah T (ev s x) then none else match ev s x with
   | .str t=>ij a b t.size (κ (s.put o.dst (.str (t.extract a.toNat b.toNat))))
   | .ro e l st=>bif Nat.beq e T.elem&&(C.ty e).isSome then ij a b l.length (κ (s.put o.dst (.ro e (iF l a b) st))) else none
   | .own t=>match s.obj t with
    | some (.row e l _)=>bif Nat.beq e T.elem&&(C.ty e).isSome then ij a b l.length (κ (s.put o.dst (.vw t a b))) else none
    | _=>none
   | _=>none
  | _,_=>none
 | .fieldAddr st x f=>match C.ty st with
  | some T=>match T.flds[f]?,ev s x with
   | some (off,n,_),.ptr t A=>bif Nat.beq n 0 then none else κ (s.put o.dst (.ptr t (A+off)))
   | some (off,n,_),.el t i A=>bif Nat.beq n 0 then none else κ (s.put o.dst (.el t i (A+off)))
   | some (off,n,_),.rl e l st i A=>bif Nat.beq n 0 then none else κ (s.put o.dst (.rl e l st i (A+off)))
   | _,_=>none
  | none=>none
 | .field st x f=>match C.ty st with
  | some T=>match T.flds[f]?,ev s x with
   | some (off,n,g),.agg l=>match whole g n (sub l off n) with
    | some v=>bif Nat.beq l.length T.sz then κ (s.put o.dst v) else none
    | none=>none
   | _,_=>none
  | none=>none
 | .indexAddr t x i=>match C.ty t with
  | some S=>bif !S.sl then (match ph C S,ev s x,ev s i with
   | some _,.ap t n,.int _ i=>match s.obj t with
    | some (.row e l _)=>bif Nat.beq e S.elem&&Nat.beq n S.sz then dW i n (κ (s.put o.dst (.el t i 0))) else none
    | _=>none
   | some _,.ra e n l st,.int _ i=>bif Nat.beq e S.elem&&Nat.beq n S.sz then dW i n (κ (s.put o.dst (.rl e l st i 0))) else none
   | _,_,_=>none) else match C.ty S.elem,ev s i with
   | some T,.int _ i=>match ev s x with
    | .own t=>match s.obj t with
     | some (.row e l _)=>bif Nat.beq e S.elem && !(Nat.beq T.sz 0) then dW i l.length (κ (s.put o.dst (.el t i 0))) else none
     | _=>none
    | .vw t M O=>match s.obj t with
     | some (.row e _ _)=>bif Nat.beq e S.elem && !(Nat.beq T.sz 0) then dW i (O-M) (κ (s.put o.dst (.el t (M+i) 0))) else none
     | _=>none
    | .ro e l st=>bif Nat.beq e S.elem && !(Nat.beq T.sz 0) then dW i l.length (κ (s.put o.dst (.rl e l st i 0))) else none
    | _=>none
   | _,_=>none
  | none=>none
 | .index t x i=>match C.ty t,ev s x,ev s i with
  | some T,.str b,.int _ i=>bif mA T then dW i b.size (κ (s.put o.dst (.int .u8 (dP b i)))) else none
  | some T,.ar e n l,.int _ i=>match ph C T with
   | some k=>bif Nat.beq e T.elem&&Nat.beq n T.sz then dW i n (κ (s.put o.dst (eta true k (bi l i)))) else none
   | none=>none
  | some T,.agg l,.int _ i=>bif T.agg&&(T.flds.isEmpty && !(Nat.beq T.elem 0)) then (match C.ty T.elem with
   | some E=>bif !(Nat.beq E.sz 0)&&Nat.beq l.length T.sz then lH E.agg E.sz (l.length / E.sz) l 0 i (fun v=>κ (s.put o.dst v)) else none
   | none=>none) else none
  | _,_,_=>none
 | .extract x j=>match ev s x with
  | .tup l=>bif decide (j<l.length) then κ (s.put o.dst (fc l j)) else none
  | _=>none
 | .range t x=>match C.ty t,ev s x with
  | some T,.str b=>bif !mA T then none else κ ((s.new (.sit b 0)).put o.dst (.ptr s.next 0))
  | _,_=>none
 | .next x true=>bif q then none else match ev s x with
  | .ptr t 0=>match s.obj t with
   | some (.sit b p)=>bif decide (p<b.size) then
     κ ((s.setObj t (.sit b (p+(Utf8.decode b p).2))).put o.dst (.tup [.bool true,.int .i64 p,.int .i32 (Utf8.decode b p).1]))
    else κ (s.put o.dst (.tup [.bool false]))
   | _=>none
  | _=>none
 | .call c=>match c.callee with
  | .builtin b=>dV C q s o.dst b c.args.toList c.argTypes.toList o.type κ
  | .value f=>match ev s f with
   | .fn g=>bif C.mv g then (bif q then none else Cf C s o.dst g c.args.toList κ) else iG C q s o.dst g c.args.toList κ
   | .clo g _=>zd C q s o.dst f g c.args.toList κ
   | .cls g _=>zd C q s o.dst f g c.args.toList κ
   | _=>none
  | _=>none
 | _=>none
def xX (ops:Array Oper) (j:Nat):Option Nat:=(ops[j]?).bind (·.dst)
def dq (C:Cfg R) (q:Bool) (all:Array Oper) (o:Oper) (s:St) (κ:St->Option R):Option R:=
 match o.guard with
 | none=>eL C q o s κ
 | some (j,want) =>
  match xX all j with
  | none=>none
  | some d=>match s.get d with
   | .undef=>κ (s.put o.dst .undef)
   | .bool t=>bif want
    then bif t then eL C q o (s.put (some d) (.bool true)) κ else κ ((s.put (some d) (.bool false)).put o.dst .undef)
    else bif t then κ ((s.put (some d) (.bool true)).put o.dst .undef) else eL C q o (s.put (some d) (.bool false)) κ
   | _=>none
def e9 (C:Cfg R) (q:Bool) (all:Array Oper):List Oper->St->(St->Option R)->Option R
 | [],s,κ=>κ s
 | o::r,s,κ=>dq C q all o s fun s'=>e9 C q all r s' κ
def qs (f:List (Nat × Nat)) (t n:Nat):List (Nat × Nat):=bif f.any (fun p=>Nat.beq p.1 t) then f else f++[(t,n)]
def pins:List (Nat × Obj)->List (Nat × Nat)
 | []=>[]
 | (t,_)::r=>bif Nat.ble 64 t then pins r else (t,t)::pins r
def FY (i:Nat):Nat->List Nat->List (Nat × Nat)->List (Nat × Nat)
 | _,[],f=>f
 | j,t::r,f=>FY i (j+1) r (qs f t (64*(i+1)+j))
def sO (i:Nat):Nat->List SV->List (Nat × Nat)->List (Nat × Nat)
 | _,[],f=>f
 | j,v::r,f=>sO i (j+1) r (match v with
  | .own t=>qs f t (64*(i+1)+j)
  | .vw t _ _=>qs f t (64*(i+1)+j)
  | .ap t _=>qs f t (64*(i+1)+j)
  | .clo _ t=>qs f t (64*(i+1)+62)
  | .cls _ m=>FY i 40 m f
  | .mp t=>qs f t (64*(i+1)+61)
  | .ptr t _=>qs f t (64*(i+1)+63)
  | _=>f)
def H2 (s:St) (i:Nat) (v:SV) (f:List (Nat × Nat)):List (Nat × Nat):=
 match v with
 | .agg l=>sO i 0 l f
 | .ptr t _=>match s.obj t with
  | some (.var _ j)=>sO i 0 j (sO i 0 [v] f)
  | _=>sO i 0 [v] f
 | v=>sO i 0 [v] f
def uE (s:St):List (Nat × List (Nat × Nat))->List (Nat × Nat)->List (Nat × Nat)
 | [],f=>f
 | (i,_)::r,f=>uE s r (H2 s i (s.get i) f)
def iI (k:Nat):List (Nat × Nat)->Option Nat
 | []=>none
 | (a,b)::r=>bif Nat.beq a k then some b else iI k r
def zk (f:List (Nat × Nat)):List Nat->Option (List Nat)
 | []=>some []
 | t::r=>match iI t f,zk f r with
  | some u,some l=>some (u::l)
  | _,_=>none
def zY (f:List (Nat × Nat)):SV->SV
 | .own t=>match iI t f with|some u => .own u|none => .no
 | .vw t a b=>match iI t f with|some u => .vw u a b|none => .no
 | .ptr t o=>match iI t f with|some u => .ptr u o|none => .no
 | .ap t n=>match iI t f with|some u => .ap u n|none => .no
 | .clo g t=>match iI t f with|some u => .clo g u|none => .no
 | .cls g j=>match zk f j with|some m => .cls g m|none => .no
 | .mp t=>match iI t f with|some u => .mp u|none => .no
 | .el _ _ _ => .no
 | .rl _ _ _ _ _ => .no
 | .sdp _ => .no
 | x=>x
def qF (objs:List (Nat × Obj)) (f:List (Nat × Nat)):List (Nat × Nat)->List (Nat × Obj)
 | []=>[]
 | (a,b)::r=>match lookup a objs with
  | some o=>(b,o.map (zY f))::qF objs f r
  | none=>qF objs f r
def Dp (i:Nat) (j m:Nat) (s:St):St:=
 match m with
 | 0=>s
 | 1=>match s.get i with
  | .ptr t _=>match s.obj t with
   | some (.var _ f)=>gi (owns [fc f j]) s
   | _=>s
  | .ap t _=>gi [t] s
  | v=>gi (owns [fc (leaves v) j]) s
 | e+2=>match s.get i with
  | .ptr t _=>match s.obj t with
   | some (.var ty f)=>match fc f j with
    | .nil=>(s.new (.row e [] true)).setObj t (.var ty (hH f j (.own s.next)))
    | _=>s
   | _=>s
  | .nil=>(s.new (.row e [] true)).put (some i) (.own s.next)
  | .agg l=>match fc l j with
   | .nil=>(s.new (.row e [] true)).put (some i) (.agg (hH l j (.own s.next)))
   | _=>s
  | _=>s
def Dq (i:Nat):List (Nat × Nat)->St->St
 | [],s=>s
 | (j,m)::r,s=>Dq i r (Dp i j m s)
def zM:List (Nat × List (Nat × Nat))->St->St
 | [],s=>s
 | (i,l)::r,s=>zM r (Dq i l s)
def qf (s:St) (f:List (Nat × Nat)) (p:Nat × List (Nat × Nat)):Nat × SV:=(p.1,mD (zY f) (s.get p.1))
def below (n:Nat):List (Nat × Nat)->Bool
 | []=>true
 | (_,b)::r=>decide (b<n)&&below n r
def pinned:List (Nat × Nat)->Bool
 | []=>true
 | (a,b)::r=>(Nat.ble 64 b||Nat.beq a b)&&pinned r
def ez:Nat:=100000
def vl (h:List (Nat × List (Nat × Nat))) (s:St):Option St:=
 let s1:=zM h s
 let f:=uE s1 h (pins s1.objs)
 bif distinct (f.map (·.1))&&distinct (f.map (·.2))&&(below ez f&&pinned f) then some ⟨eA s1.slots.length (h.map (qf s1 f)),qF s1.objs f f,ez⟩ else none
def E4 (s:St) (c:Operand) (b:Bool):St:=
 match c with
 | .tmp t=>s.put (some t) (.bool b)
 | _=>s
def eZ (ops:List Oper):List Nat:=
 ops.foldl (fun acc o=>acc++[o.after.toList.foldl (fun m e=>bif Region.binds .any e then m ||| 2 ^ e.on ||| acc.getD e.on 0 else m) 0]) []
def cls (lt:Bool) (o:Oper):Nat:=
 match o.op with
 | .move _ | .assign _ | .pick .. | .nilCheck _ | .unOp .. | .fieldAddr .. | .field .. | .index .. | .extract .. | .binOp .. | .build .. => 0
 | .load .. | .indexAddr .. | .slice .. | .convert .. => 1
 | .alloc _ | .box .. | .buildSlice .. | .range .. => 2
 | .call c=>match c.callee with
  | .builtin .len=>1
  | .builtin .unsafeSliceData=>1
  | .builtin .min=>0
  | .builtin .max=>0
  | .value _=>bif lt then 2 else 3
  | _=>3
 | _=>3
def looks (ops:List Oper) (o:Oper):List Nat:=
 (o.op.operands.toList.filterMap fun | .tmp t=>some t|_=>none) ++
 (match o.guard with
  | some (g,_)=>((ops[g]?).bind (·.dst)).toList
  | none=>[])
def guards (ops:List Oper) (o:Oper):List Nat:=
 match o.guard with
 | some (g,_)=>((ops[g]?).bind (·.dst)).toList
 | none=>[]
def apart (lt:Bool) (ops:List Oper) (a b:Oper):Bool:=
 (Nat.beq (cls lt a) 0||Nat.beq (cls lt b) 0||(Nat.ble (cls lt a) 1&&Nat.ble (cls lt b) 2)||(Nat.ble (cls lt a) 2&&Nat.ble (cls lt b) 1)) &&
 (match a.dst with
  | some d => !((looks ops b).any (Nat.beq d)) && !(b.dst.toList.any (Nat.beq d))
  | none=>true) &&
 (match b.dst with
  | some d => !((looks ops a).any (Nat.beq d))
  | none=>true)
def mf (lt:Bool) (ops:List Oper) (o:Oper) (m:Nat):Nat->List Oper->Bool
 | _,[]=>true
 | j,x::r=>(m.testBit j||apart lt ops x o)&&mf lt ops o m (j+1) r
def mb (lt:Bool) (ops:List Oper):Nat->List Oper->List Nat->Bool
 | _,[],_=>true
 | i,o::r,m::f=>decide (m<2 ^ i)&&(mf lt ops o m 0 (ops.take i)&&mb lt ops (i+1) r f)
 | _,_::_,[]=>false
def jC (lt:Bool) (ops:List Oper):Bool:=mb lt ops 0 ops (eZ ops)
def Hs (T:List Nat) (j:Nat):Bool:=T.any fun t=>Nat.beq t j
def mQ (f T:List Nat) (i:Nat):Bool:=
 (List.range i).all (fun j=>Hs T j||(f.getD i 0).testBit j)&&(List.range f.length).all (fun j=>Nat.ble j i||(Hs T j||(f.getD j 0).testBit i))
def jm (C:Cfg R) (all:Array Oper) (f T:List Nat):List Nat->St->(St->Option R)->Option R
 | [],s,κ=>κ s
 | i::r,s,κ=>match all[i]? with
  | some o=>dq C (!mQ f T i) all o s fun s'=>jm C all f T r s' κ
  | none=>jm C all f T r s κ
def kX:List SV->Bool
 | []=>false
 | .vp _ _::_=>true
 | _::r=>kX r
def nH (C:Cfg R):Cfg R:=⟨C.ty,fun g xs κ=>bif kX xs then none else C.call g xs κ,C.xJ,C.cut,C.base,C.mv⟩
def po (C:Cfg R) (b:Nat):Cfg R:=⟨C.ty,C.call,C.xJ,C.cut,b,C.mv⟩
def gG (o:Oper):Bool:=match o.op with | .alloc _=>true|_=>false
def mz (o:Oper):Bool:=match o.op with
 | .call c=>match c.callee with | .value _=>true|_=>false
 | _=>false
def Ep (ops:List Oper) (a b:Oper):Bool:=
 (match a.dst with
  | some d => !((looks ops b).any (Nat.beq d)) && !(b.dst.toList.any (Nat.beq d))
  | none=>true) &&
 (match b.dst with
  | some d => !((looks ops a).any (Nat.beq d))
  | none=>true)
def xF (ops:List Oper) (f:List Nat) (i:Nat):Bool:=Nat.beq (f.getD i 0) 0&&(match ops[i]? with|some o=>gG o|none=>false)
def wv (ops:List Oper) (f:List Nat):List Nat:=(List.range ops.length).filter (xF ops f)++(List.range ops.length).filter (fun i => !xF ops f i)
def yu (lt:Bool) (ops:List Oper) (f:List Nat) (j i:Nat):Bool:=
 !Nat.beq j i&&(!(f.getD j 0).testBit i&&((f.getD i 0).testBit j||match ops[j]?,ops[i]? with
  | some x,some y=>apart lt ops x y||(gG x&&mz y&&Ep ops x y)
  | _,_=>false))
def o8 (lt:Bool) (ops:List Oper) (f:List Nat):List Nat->Bool
 | []=>true
 | j::r=>r.all (yu lt ops f j)&&o8 lt ops f r
def bounded:Nat->List Nat->Bool
 | _,[]=>true
 | i,m::f=>decide (m<2 ^ i)&&bounded (i+1) f
def me (lt:Bool) (ops:List Oper):Bool:=bounded 0 (eZ ops)&&o8 lt ops (eZ ops) (wv ops (eZ ops))
def HK (o:Oper):Bool:=(match o.op with | .move _=>true|_=>false)&&o.guard.isNone
def vv (ops:Array Oper) (i:Nat):Bool:=
 match ops[i]? with
 | some f=>HK f&&(List.range ops.size).all fun j=>Nat.beq j i||(match ops[j]? with
  | some m=>(m.after.toList.any fun e=>Region.binds .any e&&Nat.beq e.on i)||Ep ops.toList f m
  | none=>true)
 | none=>false
def sP (ops:Array Oper):Bool:=ops.toList.all fun o=>match o.op with | .select .. => false|_=>true
def w5 (ops:Array Oper) (f:List Nat):List Nat:=bif sP ops then (List.range ops.size).filter fun i=>Nat.beq (f.getD i 1) 0&&vv ops i else []
def lP (ops:Array Oper):List Nat->St->St
 | [],s=>s
 | i::r,s=>lP ops r (match ops[i]? with
  | some o=>(match o.op with
   | .move x=>s.put o.dst (ev s x)
   | _=>s)
  | none=>s)
def mN (T ord:List Nat):List Nat:=ord.filter fun i => !Hs T i
def vY (s:St):St:=⟨s.slots,s.objs,s.next+(s.slots.length+1)⟩
def Ha (C:Cfg R) (ops:Array Oper) (f T:List Nat) (s:St) (κ:St->Option R):Option R:=
 bif jC false ops.toList then jm C ops f T (mN T (List.range ops.size)) s κ else
 bif jC true ops.toList then jm (nH C) ops f T (mN T (List.range ops.size)) s κ else
 bif me false ops.toList then jm (po C s.next) ops f T (mN T (wv ops.toList f)) (vY s) κ else
 bo (me true ops.toList) (jm (po (nH C) s.next) ops f T (mN T (wv ops.toList f)) (vY s) κ)
def Bo (C:Cfg R) (ops:Array Oper) (d:Bool) (s:St) (κ:St->Option R):Option R:=
 bif d then Ha C ops (eZ ops.toList) (w5 ops (eZ ops.toList)) (lP ops (w5 ops (eZ ops.toList)) s) κ else e9 C false ops ops.toList s κ
def yk (C:Cfg R):Nat × Nat->Bool
 | (_,e+2)=>(C.ty e).isSome
 | _=>true
def vk (C:Cfg R) (h:List (Nat × List (Nat × Nat))):Bool:=h.all fun p=>p.2.all (yk C)
mutual
def HE:AV->AV->Bool
 | .no,.no=>true
 | .int a,.int b=>decide (a=b)
 | .bool a,.bool b=>a == b
 | .str a,.str b=>decide (a=b)
 | .sl a,.sl b=>jE a b
 | .agg a,.agg b=>jE a b
 | _,_=>false
def jE:List AV->List AV->Bool
 | [],[]=>true
 | x::l,y::m=>HE x y&&jE l m
 | _,_=>false
end
mutual
def Hq:SV->SV->Bool
 | .no,.no=>true
 | .undef,.undef=>true
 | .int j a,.int k b=>decide (j=k)&&decide (a=b)
 | .bool a,.bool b=>a == b
 | .str a,.str b=>decide (a=b)
 | .agg a,.agg b=>lp a b
 | .tup a,.tup b=>lp a b
 | .nil,.nil=>true
 | .ro e l st,.ro z l' st'=>Nat.beq e z&&(jE l l'&&(st == st'))
 | .fr e l st,.fr z l' st'=>Nat.beq e z&&(jE l l'&&(st == st'))
 | .own t,.own u=>Nat.beq t u
 | .vw t a b,.vw u c d=>Nat.beq t u&&(decide (a=c)&&decide (b=d))
 | .ptr t a,.ptr u b=>Nat.beq t u&&Nat.beq a b
 | .vp t a,.vp u b=>Nat.beq t u&&lp a b
 | .nos,.nos=>true
 | .nilp,.nilp=>true
 | .nilfn,.nilfn=>true
 | .nili,.nili=>true
 | .ap t n,.ap u m=>Nat.beq t u&&Nat.beq n m
 | .ar e n l,.ar z n' l'=>Nat.beq e z&&(Nat.beq n n'&&jE l l')
 | .fn f,.fn g=>Nat.beq f g
 | .clo f t,.clo g u=>Nat.beq f g&&Nat.beq t u
 | .mp t,.mp u=>Nat.beq t u
 | _,_=>false
def lp:List SV->List SV->Bool
 | [],[]=>true
 | x::l,y::m=>Hq x y&&lp l m
 | _,_=>false
end
def Hp:Obj->Obj->Bool
 | .row e l st,.row f l' st'=>Nat.beq e f&&(jE l l'&&(st == st'))
 | .var t a,.var u b=>Nat.beq t u&&lp a b
 | .sit s p,.sit s' j=>decide (s=s')&&Nat.beq p j
 | .mp k e l,.mp m f l'=>decide (k=m)&&(decide (e=f)&&jE l l')
 | .hole,.hole=>true
 | _,_=>false
def vt:List (Nat × Obj)->List (Nat × Obj)->Bool
 | [],[]=>true
 | (a,x)::l,(b,y)::m=>Nat.beq a b&&(Hp x y&&vt l m)
 | _,_=>false
def CC (s t:St):Bool:=lp s.slots t.slots&&(vt s.objs t.objs&&Nat.beq s.next t.next)
def nP (C:Cfg R) (ops:Array Oper) (l:List Nat) (s:St) (κ:St->Option R):Option R:=e9 C false ops (l.filterMap (ops[·]?)) s κ
def G' (ops:Array Oper) (listed:Array Bool):List Nat:=
 (List.range ops.size).filter fun i => !listed.getD i true&&((ops[i]?).map (·.after.all fun e => !Region.binds .any e||listed.getD e.on false)).getD false
def Ch (ops:Array Oper):Bool:=
 Nat.beq ops.size 4&&(decide (G' ops #[false,false,false,false]=[0])&&(decide (G' ops #[true,false,false,false]=[1,2]) &&
 (decide (G' ops #[true,true,false,false]=[2])&&(decide (G' ops #[true,false,true,false]=[1])&&(decide (G' ops #[true,true,true,false]=[3]) &&
 decide (G' ops #[true,true,true,true]=[]))))))
def rF (C:Cfg R):Code->St->(St->Option R)->Option R
 | .region id ops d,s,κ=>match C.cut id with
  | some _=>none
  | none=>Bo C ops d s κ
 | .seq a b,s,κ=>rF C a s fun s1=>rF C b s1 κ
 | .skip,s,κ=>κ s
 | _,_,_=>none
def Ho (C:Cfg R) (c:Operand) (a b:Code) (s:St) (κ:St->Option R):Option R:=
 match ev s c with
 | .bool t=>bif t then rF C a s κ else rF C b s κ
 | _=>none
def mL:Nat->List Item->Option (List Item)
 | 0,_=>none
 | n+1,todo=>match todo with
  | .code .skip::k=>mL n k
  | .inBlock _::k=>mL n k
  | .inScope _::k=>mL n k
  | .code (.seq a b)::k=>mL n (.code a :: .code b::k)
  | .inLoop a::k=>mL n (.code a :: .inLoop a::k)
  | .code (.exit id)::k=>match exitTo id k with
   | some f=>mL n f
   | none=>none
  | .code (.region id ops d)::k=>some (.code (.region id ops d)::k)
  | _=>none
def C7 (C:Cfg R) (J:List Item->St->Option R) (p:List Item) (t1 t2:St):Option R:=
 match p with
 | .code (.region id _ _)::_=>match C.cut id with
  | some h=>bo (vk C h) (match vl h t1,vl h t2 with
   | some j,some f=>bo (CC j f) (J p f)
   | _,_=>none)
  | none=>none
 | _=>none
def Hk (C:Cfg R) (J:List Item->St->Option R) (n:Nat) (ops:Array Oper) (k:List Item) (s:St):Option R:=
 match k with
 | .code (.cond c a b)::k2=>match mL n k2 with
  | some p=>nP C ops [0] s fun s0=>nP C ops [1,2,3] s0 fun s1=>nP C ops [2,1,3] s0 fun s2=>Ho C c a b s1 fun t1=>Ho C c a b s2 fun t2=>C7 C J p t1 t2
  | none=>none
 | _=>none
def u9 (C:Cfg R) (J:List Item->St->Option R) (ret:St->Option R):Nat->List Item->St->Option R
 | 0,_,_=>none
 | n+1,todo,s =>
  match todo with
  | []=>ret s
  | .code .ret::_=>ret s
  | .code .skip::k=>u9 C J ret n k s
  | .code (.label _)::k=>u9 C J ret n k s
  | .inBlock _::k=>u9 C J ret n k s
  | .inScope _::k=>u9 C J ret n k s
  | .code (.seq a b)::k=>u9 C J ret n (.code a :: .code b::k) s
  | .code (.cond c a b)::k=>match ev s c with
   | .bool t=>bif t then u9 C J ret n (.code a::k) (E4 s c true) else u9 C J ret n (.code b::k) (E4 s c false)
   | _=>none
  | .code (.block id a)::k=>u9 C J ret n (.code a :: .inBlock id::k) s
  | .code (.loop a)::k=>u9 C J ret n (.code a :: .inLoop a::k) s
  | .inLoop a::k=>u9 C J ret n (.code a :: .inLoop a::k) s
  | .code (.scope a)::k=>u9 C J ret n (.code a :: .inScope a::k) s
  | .code (.exit id)::k=>match exitTo id k with
   | some f=>u9 C J ret n f s
   | none=>none
  | .code (.goto l)::k=>match gotoIn l k with
   | some f=>u9 C J ret n f s
   | none=>none
  | .code (.region id ops d)::k=>match C.cut id with
   | some h=>bo (vk C h) (match vl h s with
    | some s'=>J (.code (.region id ops d)::k) s'
    | none=>none)
   | none=>bif d&&(!jC true ops.toList&&Ch ops) then Hk C J n ops k s else Bo C ops d s fun s'=>u9 C J ret n k s'
  | _=>none
def start (C:Cfg R) (J:List Item->St->Option R) (ret:St->Option R) (n:Nat):List Item->St->Option R
 | .code (.region _ ops d)::k,s=>Bo C ops d s fun s'=>u9 C J ret n k s'
 | _,_=>none
def goto (C:Cfg R) (ret:St->Option R) (n:Nat):Nat->List Item->St->Option R
 | 0,_,_=>none
 | f+1,todo,s=>start C (goto C ret n f) ret n todo s
def place (id:Nat):Code->List Item->Option (List Item)
 | .region i ops d,k=>bif Nat.beq i id then some (.code (.region i ops d)::k) else none
 | .seq a b,k=>match place id a (.code b::k) with
  | some r=>some r
  | none=>place id b k
 | .cond _ a b,k=>match place id a k with
  | some r=>some r
  | none=>place id b k
 | .block i a,k=>place id a (.inBlock i::k)
 | .loop a,k=>place id a (.inLoop a::k)
 | .scope a,k=>place id a (.inScope a::k)
 | _,_=>none
def placeOf (f:Func) (id:Nat):List Item:=((f.body).bind (place id · [])).getD []
def mw:Nat->List (Nat × Obj)
 | 0=>[]
 | n+1=>(n,.hole)::mw n
def vars:List SV->Nat
 | []=>0
 | .vp _ _::r=>vars r+1
 | _::r=>vars r
def fM (s:St):Nat->List SV->List SV × St
 | _,[]=>([],s)
 | k,.vp ty j::r=>match da s j with
  | (vs,s1)=>match fM (s1.setObj k (.var ty vs)) (k+1) r with
   | (f,s2)=>(.ptr k 0::f,s2)
 | k,x::r=>match eN s x with
  | (v,s1)=>match fM s1 k r with
   | (f,s2)=>(v::f,s2)
def entry (f:Func) (args:List SV):St:=
 match fM ⟨[],mw (vars args),64⟩ 0 args with
 | (j,s)=>⟨j++List.replicate (f.ntmps-j.length) .undef,s.objs,s.next⟩
def Fh (C:Cfg R) (s:St):ResultVar->Option SV
 | .tmp t=>some (s.get t)
 | .cell a t=>match C.ty t with
  | some T=>match s.get a with
   | .ptr k off=>loadAt C s T (.ptr k off)
   | .ap k n=>loadAt C s T (.ap k n)
   | _=>none
  | none=>none
def DS (C:Cfg R) (s:St):List ResultVar->Option (List SV)
 | []=>some []
 | x::r=>match Fh C s x,DS C s r with
  | some v,some l=>some (v::l)
  | _,_=>none
def js (s:St) (x:SV):Option SV:=
 match x with
 | .ar e n l=>some (.ar e n l)
 | .own t=>match s.obj t with
  | some (.row e l true)=>some (.fr e l true)
  | _=>none
 | .vw _ _ _=>none
 | .ptr _ _=>none
 | .el _ _ _=>none
 | .rl _ _ _ _ _=>none
 | .clo _ _=>none
 | .cls _ _=>none
 | .mp _=>none
 | x=>bif known x&&BB x then some x else none
def gU (s:St):List SV->Option (List SV)
 | []=>some []
 | .no::r=>match gU s r with
  | some l=>some (.no::l)
  | none=>none
 | .nos::r=>match gU s r with
  | some l=>some (.nos::l)
  | none=>none
 | .own t::r=>match s.obj t with
  | some .hole=>(match gU s r with
   | some l=>some (.no::l)
   | none=>none)
  | _=>(match js s (.own t),gU s r with
   | some y,some l=>some (y::l)
   | _,_=>none)
 | x::r=>match js s x,gU s r with
  | some y,some l=>some (y::l)
  | _,_=>none
def tp (s:St):List SV->Option (List SV)
 | []=>some []
 | x::r=>match js s x,tp s r with
  | some y,some l=>some (y::l)
  | _,_=>none
def tu (s:St):SV->Option SV
 | .agg l=>match tp s l with
  | some l=>some (.agg l)
  | none=>none
 | x=>js s x
def qR (s:St):List SV->Option (List SV)
 | []=>some []
 | x::r=>match tu s x,qR s r with
  | some y,some l=>some (y::l)
  | _,_=>none
def jA (s:St):List Nat->Option (List SV)
 | []=>some []
 | k::r=>match s.obj k,jA s r with
  | some (.var ty f),some l=>match gU s f with
   | some f=>some (.vp ty f::l)
   | none=>none
  | _,_=>none
def lG (s:St):List Nat->List Nat
 | []=>[]
 | k::r=>(match s.obj k with
  | some (.var _ f)=>owns f
  | _=>[])++lG s r
def rD (C:Cfg R) (f:List ResultVar) (ps:List Nat) (κ:List SV->Option R) (s:St):Option R:=
 match DS C s f,jA s ps with
 | some vs,some back=>bif distinct (e7 vs++lG s ps) then (match qR s vs with
  | some [v]=>κ (v::back)
  | some j=>κ (.tup j::back)
  | none=>none) else none
 | _,_=>none
def cA (C:Cfg R) (f:Func) (n fuel:Nat) (args:List SV) (κ:List SV->Option R):Option R:=
 let ret:=rD C f.results.toList (List.range (vars args)) κ
 match f.body with
 | some c=>bo (decide (vars args<=64)) (u9 C (goto C ret n fuel) ret n [.code c] (entry f args))
 | none=>none
end
end Go.Proofs.Ab
namespace Go.Proofs.Ab
open Go
def PW {α β:Type} (R : α -> β->Prop):List α -> List β->Prop
 | [],[]=>True
 | x::xs,v::vs=>R x v/\PW R xs vs
 | _,_=>False
namespace PW
variable {α β γ:Type} {R R' : α -> β->Prop}
theorem len:∀ {l:List α} {m:List β},PW R l m->l.length=m.length
 | [],[],_=>rfl
 | _::_,_::_,h=>by simp [len h.2]
 | [],_::_,h=>h.elim
 | _::_,[],h=>h.elim
theorem imp (f:∀ x v,R x v->R' x v):∀ {l:List α} {m:List β},PW R l m->PW R' l m
 | [],[],_=>trivial
 | _::_,_::_,h=>⟨f _ _ h.1,imp f h.2⟩
 | [],_::_,h=>h.elim
 | _::_,[],h=>h.elim
theorem imp_mem:∀ {l:List α} {m:List β},(∀ x∈l,∀ v,R x v->R' x v)->PW R l m->PW R' l m
 | [],[],_,_=>trivial
 | x::_,_::_,f,h=>⟨f x (by simp) _ h.1,imp_mem (fun y hy=>f y (by simp [hy])) h.2⟩
 | [],_::_,_,h=>h.elim
 | _::_,[],_,h=>h.elim
theorem get:∀ {l:List α} {m:List β},PW R l m->∀ {i:Nat} {x v},l[i]? = some x->m[i]? = some v->R x v
 | [],[],_,i,x,v,f,_=>by simp at f
 | _::_,_::_,h,0,x,v,f,j=>by simp at f j;subst f;subst j;exact h.1
 | _::_,_::_,h,i+1,x,v,f,j=>get h.2 (i:=i) (by simpa using f) (by simpa using j)
 | [],_::_,h,_,_,_,_,_=>h.elim
 | _::_,[],h,_,_,_,_,_=>h.elim
theorem yq:∀ {l:List α} {m:List β},l.length=m.length->(∀ (i:Nat) x v,l[i]? = some x->m[i]? = some v->R x v)->PW R l m
 | [],[],_,_=>trivial
 | x::l,v::m,f,h=>⟨h 0 x v rfl rfl,yq (by simpa using f) fun i y u hy hu=>h (i+1) y u (by simpa using hy) (by simpa using hu)⟩
 | [],_::_,f,_=>by simp at f
 | _::_,[],f,_=>by simp at f
theorem append:∀ {l:List α} {m:List β} {l':List α} {m':List β},PW R l m->PW R l' m'->PW R (l++l') (m++m')
 | [],[],_,_,_,f=>f
 | _::_,_::_,_,_,h,f=>⟨h.1,append h.2 f⟩
 | [],_::_,_,_,h,_=>h.elim
 | _::_,[],_,_,h,_=>h.elim
theorem drop:∀ {l:List α} {m:List β} (n:Nat),PW R l m->PW R (l.drop n) (m.drop n)
 | [],[],n,_=>by simp [PW]
 | _::_,_::_,0,h=>h
 | _::_,_::_,n+1,h=>by simpa using drop n h.2
 | [],_::_,_,h=>h.elim
 | _::_,[],_,h=>h.elim
theorem take:∀ {l:List α} {m:List β} (n:Nat),PW R l m->PW R (l.take n) (m.take n)
 | [],[],n,_=>by simp [PW]
 | _::_,_::_,0,h=>trivial
 | _::_,_::_,n+1,h=>⟨h.1,take n h.2⟩
 | [],_::_,_,h=>h.elim
 | _::_,[],_,h=>h.elim
theorem map {f : α -> γ} {R' : γ -> β->Prop} (j:∀ x v,R x v->R' (f x) v):∀ {l:List α} {m:List β},PW R l m->PW R' (l.map f) m
 | [],[],_=>trivial
 | _::_,_::_,h=>⟨j _ _ h.1,map j h.2⟩
 | [],_::_,h=>h.elim
 | _::_,[],h=>h.elim
theorem zK {f : α -> γ} {R' : γ -> β->Prop}:∀ {l:List α} {m:List β},(∀ x∈l,∀ v,R x v->R' (f x) v)->PW R l m->PW R' (l.map f) m
 | [],[],_,_=>trivial
 | x::_,_::_,j,h=>⟨j x (by simp) _ h.1,zK (fun y hy=>j y (by simp [hy])) h.2⟩
 | [],_::_,_,h=>h.elim
 | _::_,[],_,h=>h.elim
end PW
inductive ej (T:Nat->Option TI) (w:World) (Q:Nat->Prop):LK->Value->AV->Prop
 | int (k:IntKind) (a:AV):ej T w Q (.int k) (.int k a.i) a
 | bool (a:AV):ej T w Q .bool (.bool a.b) a
 | str (a:AV):ej T w Q .str (.string a.s) a
 | slnil (e:Nat) (a:AV):a.l=[]->ej T w Q (.sl e) (.slice none 0 0) a
 | sl (e:Nat) (E:TI) (ad:Addr) (n c:Nat) (a:AV) (cs:List Value):T e=some E->n=a.l.length->n<=c->c<=maxLen->cs.length=n*E.sz ->
   (∀ (j:Nat) v,cs[j]? = some v->Q ad.block/\w.cell? (ad.add j)=some v) ->
   (∀ (i j:Nat) k,i<n->E.lv[j]? = some k->∀ v,cs[i*E.sz+j]? = some v->ej T w Q k v (lf E.agg (a.l.getD i .no) j)) ->
   ej T w Q (.sl e) (.slice (some ad) n c) a
section
variable {T:Nat->Option TI} {w w':World} {Q Q':Nat->Prop}
theorem jb {w w':World} {a:Addr} (h:w'.heap[a.block]? = w.heap[a.block]?):w'.cell? a=w.cell? a:=World.cell?_of_block h
theorem eK (a:Addr) (n:Nat):(a.add n).block=a.block:=by unfold Addr.add;split <;> rfl
theorem add_add (a:Addr) (m n:Nat):(a.add m).add n=a.add (m+n):=by
 unfold Addr.add
 by_cases f:m=0
 ·subst f;simp
 ·by_cases j:n=0
  ·subst j;simp [f]
  ·rw [if_neg f,if_neg j,if_neg (by omega)];simp [Nat.add_assoc]
theorem add_plain (g o n:Nat):(⟨g,o,none⟩:Addr).add n=⟨g,o+n,none⟩:=by
 unfold Addr.add;split
 ·rename_i h;subst h;rfl
 ·rfl
theorem ej.mono (A:∀ b,Q b->Q' b) (hw:∀ b,Q b->w'.heap[b]? = w.heap[b]?) {k:LK} {v:Value} {a:AV} (h:ej T w Q k v a):ej T w' Q' k v a:=by
 induction h with
 | int k a=>exact .int k a
 | bool a=>exact .bool a
 | str a=>exact .str a
 | slnil e a h=>exact .slnil e a h
 | sl e E u n c a cs M N m f O U _ V =>
  refine .sl e E u n c a cs M N m f O (fun j v W => ?_) V
  obtain ⟨z,X⟩:=U j v W
  exact ⟨A _ z,(jb (w:=w) (w':=w') (a:=u.add j) (by rw [eK];exact hw _ z)).trans X⟩
theorem ej.flat {k:LK} (f:k.flat=true) {v:Value} {a:AV} (h:ej T w Q k v a):ej T w' Q' k v a:=by
 cases h with
 | int k a=>exact .int k a
 | bool a=>exact .bool a
 | str a=>exact .str a
 | slnil e a h=>simp [LK.flat] at f
 | sl=>simp [LK.flat] at f
theorem ej.one {k:LK} {v:Value} {a:AV} (h:ej T w Q k v a):v.oneCell'=true:=by cases h <;> rfl
def RC (T:Nat->Option TI) (w:World) (Q:Nat->Prop) (E:TI) (l:List AV) (cs:List Value):Prop:=
 ∀ (i j:Nat) k,i<l.length->E.lv[j]? = some k->∀ v,cs[i*E.sz+j]? = some v->ej T w Q k v (lf E.agg (l.getD i .no) j)
theorem RC.mono {E:TI} {l:List AV} {cs:List Value} (f:∀ b,Q b->Q' b) (hw:∀ b,Q b->w'.heap[b]? = w.heap[b]?) (h:RC T w Q E l cs):RC T w' Q' E l cs:=
 fun i j k m u v z=>(h i j k m u v z).mono f hw
theorem RC.flat {E:TI} {l:List AV} {cs:List Value} (f:E.flat=true) (h:RC T w Q E l cs):RC T w' Q' E l cs:=
 fun i j k u m v z=>(h i j k u m v z).flat (by
  unfold TI.flat at f;rw [all_eq_true] at f;exact f k (List.mem_of_getElem? m))
end
def fx (w:World) (arr:Bool) (e size:Nat) (v:Value) (n:Nat) (xs:List Value):Prop:=
 xs.length=n*size /\
 ((v = .slice none 0 0/\n=0) ∨
  ∃ g cap f q j,v = .slice (some ⟨g,0,none⟩) n cap/\(arr=false->q=e)/\w.heap[g]? = some (.cells f q j)/\(j=(0,0)∨j=(f.size,f.size+1))/\n<=cap/\cap<=maxLen/\f.size=cap*size/\f.toList.take (n*size)=xs)
theorem sX (w:World) (arr:Bool) (e size:Nat):fx w arr e size (.slice none 0 0) 0 []:=⟨by simp,.inl ⟨rfl,rfl⟩⟩
theorem fx.dc {w:World} {arr:Bool} {e size n:Nat} {v:Value} {xs:List Value} (h:fx w arr e size v n xs) {b:Nat} (f:v.ownBlock=some b):b<w.heap.size:=by
 rcases h.2 with ⟨rfl,_⟩|⟨g,cap,j,q,u,rfl,_,m,_⟩
 ·cases f
 ·simp only [Value.ownBlock,Option.some.injEq] at f;subst f
  exact (Array.getElem?_eq_some_iff.1 m).1
theorem GI {f:Array Value} {j:Nat × Nat} (h:j=(0,0)∨j=(f.size,f.size+1)) {i:Nat} (m:i<f.size):(decide (j.1<=i)&&decide (i<j.2))=false:=by
 rcases h with rfl|rfl <;> simp <;> omega
structure Bl where
 v:Value
 b:Nat
 sz:Nat
 arr:Bool
structure Cx where
 T:Nat->Option TI
 w:World
 Rt:Nat->Prop
 Ra:Nat->Prop
 β:Nat->Bl
 D:Nat->Prop
def Cx.Q (c:Cx) (st:Bool) (b:Nat):Prop:=if st=true then c.Rt b else c.Ra b
def SL (c:Cx):SV->Value->Prop
 | .no,_=>True
 | .nos,_=>True
 | .undef,v=>v=undef
 | .int k n,v=>v = .int k n
 | .bool b,v=>v = .bool b
 | .str s,v=>v = .string s
 | .nil,v=>v = .slice none 0 0
 | .ro e l st,v=>ej c.T c.w (c.Q st) (.sl e) v (.sl l)
 | .own t,v=>c.D t/\v=(c.β t).v/\v.oneCell'=true/\(c.β t).arr=false
 | .vw t m z,v=>c.D t/\0<=m/\m<=z/\(((c.β t).v = .slice none 0 0/\z=0/\v = .slice none 0 0) ∨
   ∃ g n cap A,(c.β t).v = .slice (some ⟨g,0,none⟩) n cap/\z<=n/\v = .slice (some A) (z-m).toNat (cap-m.toNat)/\(m<z->A=⟨g,m.toNat*(c.β t).sz,none⟩))
 | .ptr t off,v=>c.D t/\v = .pointer (some ⟨(c.β t).b,off,none⟩)
 | .el t i off,v=>c.D t/\0<=i/\∃ g n cap,(c.β t).v = .slice (some ⟨g,0,none⟩) n cap/\i<n/\v = .pointer (some ⟨g,i.toNat*(c.β t).sz+off,none⟩)
 | .rl e l st i off,v=>∃ E p,c.T e=some E/\v = .pointer (some p)/\∀ (j:Nat) k,E.lv[off+j]? = some k->∃ u,c.Q st p.block/\c.w.cell? (p.add j)=some u/\ej c.T c.w (c.Q st) k u (lf E.agg (bi l i) (off+j))
 | .ra e n l st,v=>l.length=n/\∃ E p,c.T e=some E/\v = .pointer (some p)/\∀ (i j:Nat) k,i<l.length->E.lv[j]? = some k->∃ u,c.Q st p.block/\c.w.cell? (p.add (i*E.sz+j))=some u/\ej c.T c.w (c.Q st) k u (lf E.agg (l.getD i .no) j)
 | .nilp,v=>v = .pointer none
 | .nilfn,v=>v = .nilFunc
 | .nili,v=>v = .nilIface
 | .sdp t,v=>c.D t/\∃ p,v = .pointer p/\(∀ g n cap,(c.β t).v = .slice (some ⟨g,0,none⟩) n cap->n≠0->p=some ⟨g,0,none⟩)/\(c.β t).arr=false
 | .ap t n,v=>c.D t/\∃ g cap,(c.β t).v = .slice (some ⟨g,0,none⟩) n cap/\v = .pointer (some ⟨g,0,none⟩)
 | .ar e n l,v=>l.length=n/\∃ E cs,c.T e=some E/\E.flat=true/\v = .agg cs/\cs.size=l.length*E.sz/\RC c.T c.w (fun _=>False) E l cs.toList
 | .fn f,v=>v = .func (.func f) #[] #[]
 | .clo g t,v=>c.D t/\v = .func (.func g) #[] #[.pointer (some ⟨(c.β t).b,0,none⟩)]
 | .cls g M,v=>(∀ t∈M,c.D t)/\v = .func (.func g) #[] (M.map fun t => .pointer (some ⟨(c.β t).b,0,none⟩)).toArray
 | .mp t,v=>c.D t/\v = .map (some (c.β t).b)
 | _,_=>False
def FV:LK->Value->AV->Prop
 | .int k,v,a=>v = .int k a.i
 | .bool,v,a=>v = .bool a.b
 | .str,v,a=>v = .string a.s
 | _,_,_=>False
def lS (c:Cx) (b:Nat) (x:SV) (v:Value):Prop:=
 match x with
 | .nos=>v = .pointer none∨v = .pointer (some ⟨b,0,none⟩)
 | x=>SL c x v
def S1 (c:Cx) (x:SV) (v:Value):Prop:=
 match x with
 | .agg l=>∃ cs:Array Value,v = .agg cs/\PW (SL c) l cs.toList
 | x=>SL c x v
def S2 (c:Cx) (x:SV) (v:Value):Prop:=
 match x with
 | .tup l=>∃ vs:Array Value,v = .tuple vs/\PW (S1 c) l vs.toList
 | x=>S1 c x v
def OR (c:Cx) (bl:Bl):Obj->Prop
 | .row e l st=>∃ E cs,c.T e=some E/\bl.sz=E.sz/\fx c.w bl.arr e E.sz bl.v l.length cs/\RC c.T c.w (c.Q st) E l cs
 | .var ty j=>∃ (cs:Array Value) (_:Unit),c.w.heap[bl.b]? = some (.cells cs ty (0,0))/\PW (lS c bl.b) j cs.toList
 | .sit s p=>c.w.heap[bl.b]? = some (.stringIter s p)
 | .mp k e l=>∃ es clock,c.w.heap[bl.b]? = some (.map es clock)/\PW (fun a (f:MapEntry)=>FV k f.key (a.fld 0)/\FV e f.val (a.fld 1)) l es.toList
 | .hole=>True
def cu (bl:Bl):Obj->List Nat
 | .row _ _ _=>bl.v.ownBlock.toList
 | .hole=>[]
 | _=>[bl.b]
structure Cx.Le (c c':Cx):Prop where
 T:c'.T=c.T
 Q:∀ st b,c.Q st b->c'.Q st b
 w:∀ st b,c.Q st b->c'.w.heap[b]? = c.w.heap[b]?
 D:∀ t,c.D t->c'.D t
 β:∀ t,c.D t->c'.β t=c.β t
theorem SL.le {c c':Cx} (h:c.Le c'):∀ {x:SV} {v:Value},SL c x v->SL c' x v:=by
 intro x v f
 cases x <;> simp only [SL] at f ⊢ <;> try exact f
 case ro e l st=>rw [h.T];exact f.mono (h.Q st) (h.w st)
 case own t=>exact ⟨h.D t f.1,by rw [h.β t f.1];exact f.2⟩
 case vw t lo X=>exact ⟨h.D t f.1,by rw [h.β t f.1];exact f.2⟩
 case ptr t off=>exact ⟨h.D t f.1,by rw [h.β t f.1];exact f.2⟩
 case clo g t=>exact ⟨h.D t f.1,by rw [h.β t f.1];exact f.2⟩
 case mp t=>exact ⟨h.D t f.1,by rw [h.β t f.1];exact f.2⟩
 case cls g ts=>exact ⟨fun t N=>h.D t (f.1 t N),by rw [List.map_congr_left fun t N=>by rw [h.β t (f.1 t N)]];exact f.2⟩
 case el t i off=>exact ⟨h.D t f.1,by rw [h.β t f.1];exact f.2⟩
 case sdp t=>exact ⟨h.D t f.1,by rw [h.β t f.1];exact f.2⟩
 case ap t n=>exact ⟨h.D t f.1,by rw [h.β t f.1];exact f.2⟩
 case ar e n l =>
  obtain ⟨O,E,cs,z,A,M,Y,h5⟩:=f
  exact ⟨O,E,cs,by rw [h.T];exact z,A,M,Y,by rw [h.T];exact h5.mono (fun _ m=>m) (fun _ m=>m.elim)⟩
 case rl e l st i off =>
  obtain ⟨E,p,z,A,M⟩:=f
  refine ⟨E,p,by rw [h.T];exact z,A,fun j k U => ?_⟩
  obtain ⟨u,m,V,W⟩:=M j k U
  exact ⟨u,h.Q st _ m,(jb (w:=c.w) (w':=c'.w) (a:=p.add j) (by rw [eK];exact h.w st _ m)).trans V,by rw [h.T];exact W.mono (h.Q st) (h.w st)⟩
 case ra e n l st =>
  obtain ⟨O,E,p,z,A,M⟩:=f
  refine ⟨O,E,p,by rw [h.T];exact z,A,fun i j k X U => ?_⟩
  obtain ⟨u,m,V,W⟩:=M i j k X U
  exact ⟨u,h.Q st _ m,(jb (w:=c.w) (w':=c'.w) (a:=p.add (i*E.sz+j)) (by rw [eK];exact h.w st _ m)).trans V,by rw [h.T];exact W.mono (h.Q st) (h.w st)⟩
theorem lS.le {c c':Cx} (h:c.Le c') {b:Nat} {x:SV} {v:Value} (f:lS c b x v):lS c' b x v:=by
 unfold lS at f ⊢
 split
 ·exact f
 ·rename_i j;split at f
  ·exact absurd rfl (by assumption)
  ·exact f.le h
theorem S1.le {c c':Cx} (h:c.Le c') {x:SV} {v:Value} (f:S1 c x v):S1 c' x v:=by
 unfold S1 at f ⊢
 split
 ·obtain ⟨cs,j,m⟩:=f;exact ⟨cs,j,m.imp fun _ _=>SL.le h⟩
 ·rename_i u;split at f
  ·exact absurd rfl (u _)
  ·exact f.le h
theorem S2.le {c c':Cx} (h:c.Le c') {x:SV} {v:Value} (f:S2 c x v):S2 c' x v:=by
 unfold S2 at f ⊢
 split
 ·obtain ⟨cs,j,m⟩:=f;exact ⟨cs,j,m.imp fun _ _=>S1.le h⟩
 ·rename_i u;split at f
  ·exact absurd rfl (u _)
  ·exact f.le h
theorem jH {w w':World} {arr:Bool} {e size n:Nat} {v:Value} {xs:List Value} (h:fx w arr e size v n xs) (m:∀ b,v.ownBlock=some b->w'.heap[b]? = w.heap[b]?):fx w' arr e size v n xs:=by
 obtain ⟨u,f⟩:=h
 refine ⟨u,?_⟩
 rcases f with f|⟨g,cap,j,q,z,rfl,A,M,r⟩
 ·exact .inl f
 ·exact .inr ⟨g,cap,j,q,z,rfl,A,(m g (by simp [Value.ownBlock])).trans M,r⟩
theorem OR.le {c c':Cx} (h:c.Le c') {bl:Bl} {o:Obj} (m:OR c bl o) (u:∀ b∈cu bl o,c'.w.heap[b]? = c.w.heap[b]?):OR c' bl o:=by
 cases o with
 | row e l st =>
  obtain ⟨E,cs,f,j,A,M⟩:=m
  exact ⟨E,cs,by rw [h.T];exact f,j,jH A (fun b z=>u b (by simp [cu,z])),by rw [h.T];exact M.mono (h.Q st) (h.w st)⟩
 | var ty O =>
  obtain ⟨cs,q,f,j⟩:=m
  exact ⟨cs,q,(u _ (by simp [cu])).trans f,j.imp fun _ _=>lS.le h⟩
 | sit s p=>exact (u _ (by simp [cu])).trans m
 | mp k e l =>
  obtain ⟨es,N,f,j⟩:=m
  exact ⟨es,N,(u _ (by simp [cu])).trans f,j⟩
 | hole=>trivial
structure Env where
 T:Nat->Option TI
 w0:World
 W0:Nat->Prop
 Rt0:Nat->Prop
 Ra0:Nat->Prop
 pb:Nat->Nat
structure Fr (W0:Nat->Prop) (w0 w:World):Prop where
 os:w.os=w0.os
 tape:w.tape=w0.tape
 output:w.output=w0.output
 size:w0.heap.size<=w.heap.size
 block:∀ b,b<w0.heap.size->¬ W0 b->w.heap[b]? = w0.heap[b]?
theorem Fr.refl (W0:Nat->Prop) (w:World):Fr W0 w w:=⟨rfl,rfl,rfl,Nat.le_refl _,fun _ _ _=>rfl⟩
def bI (E:Env) (s:St) (w:World) (β:Nat->Bl) (Rt Ra:Nat->Prop):Cx:=⟨E.T,w,Rt,Ra,β,fun t=>∃ o,s.obj t=some o⟩
structure RelO (E:Env) (s:St) (w:World) (β:Nat->Bl) (Rt Ra:Nat->Prop):Prop where
 objs:∀ t o,s.obj t=some o->OR (bI E s w β Rt Ra) (β t) o
 lt:∀ t o,s.obj t=some o->t<s.next
 dc:∀ t o,s.obj t=some o->∀ b∈cu (β t) o,b<w.heap.size/\¬ Ra b/\(E.w0.heap.size<=b∨E.W0 b)
 apart:∀ t o t' o',s.obj t=some o->s.obj t'=some o'->t≠t'->∀ b∈cu (β t) o,b ∉ cu (β t') o'
 sub:∀ b,Rt b->Ra b
 rlt:∀ b,Ra b->b<w.heap.size
 fr:Fr E.W0 E.w0 w
 rt0:∀ b,E.Rt0 b->Rt b
 ra0:∀ b,E.Ra0 b->Ra b
 rt:∀ b,Rt b->E.Rt0 b∨E.w0.heap.size<=b∨E.W0 b
 nx:64<=s.next
 pin:∀ t o,s.obj t=some o->t<64->(β t).b=E.pb t
structure Rel (E:Env) (s:St) (a:Act) (w:World) (β:Nat->Bl) (Rt Ra:Nat->Prop):Prop extends RelO E s w β Rt Ra where
 len:s.slots.length=a.tmps.size
 defers:a.defers=[]
 slots:∀ i,S2 (bI E s w β Rt Ra) (s.get i) (a.tmps.getD i undef)
theorem sj (l:List SV) (d:Nat) (v:SV) (i:Nat):fc (hH l d v) i=if i=d/\d<l.length then v else fc l i:=by
 induction l generalizing d i with
 | nil=>simp [hH,fc]
 | cons x r f =>
  cases d with
  | zero=>cases i <;> simp [hH,fc]
  | succ d=>cases i with
   | zero=>simp [hH,fc]
   | succ i=>simp [hH,fc,f]
theorem wa (l:List SV) (d:Nat) (v:SV):(hH l d v).length=l.length:=by
 induction l generalizing d with
 | nil=>rfl
 | cons x r f=>cases d <;> simp [hH,f]
theorem ue {l:List SV} {i:Nat} (h:¬ i<l.length):fc l i = .no:=by
 induction l generalizing i with
 | nil=>rfl
 | cons x r f=>cases i with
  | zero=>simp at h
  | succ i=>exact f (by simpa using h)
theorem ud (l:List SV) (i:Nat):fc l i=l.getD i .no:=by
 induction l generalizing i with
 | nil=>simp [fc]
 | cons x r f=>cases i <;> simp [fc,f]
theorem CJ (a:Array Value) (d:Nat) (v:Value) (i:Nat):(a.setIfInBounds d v).getD i undef=if i=d/\d<a.size then v else a.getD i undef:=by
 simp only [Array.getD_eq_getD_getElem?,Array.getElem?_setIfInBounds]
 by_cases h:d=i
 ·subst h
  by_cases f:d<a.size
  ·simp [f]
  ·simp [f]
 ·have:¬ i=d:=fun e=>h e.symm
  simp [h,this]
theorem hG (s:St) (d:Option Nat) (v:SV) (t:Nat):(s.put d v).obj t=s.obj t:=by cases d <;> rfl
theorem Gq (E:Env) (s:St) (d:Option Nat) (v:SV) (w:World) (β:Nat->Bl) (Rt Ra:Nat->Prop):bI E (s.put d v) w β Rt Ra=bI E s w β Rt Ra:=by
 simp [bI,hG]
theorem Rel.put {E:Env} {s:St} {a:Act} {w:World} {β:Nat->Bl} {Rt Ra:Nat->Prop} (h:Rel E s a w β Rt Ra) (d:Option Nat) {x:SV} {v:Value} (m:S2 (bI E s w β Rt Ra) x v):Rel E (s.put d x) (a.put d v) w β Rt Ra:=by
 have e:=Gq E s d x w β Rt Ra
 cases d with
 | none=>exact h
 | some d =>
  refine ⟨⟨fun t o f => ?_,fun t o f=>h.lt t o (by simpa [hG] using f),fun t o f=>h.dc t o (by simpa [hG] using f),fun t o u z f j=>h.apart t o u z (by simpa [hG] using f) (by simpa [hG] using j),h.sub,h.rlt,h.fr,h.rt0,h.ra0,h.rt,h.nx,fun t o f=>h.pin t o (by simpa [hG] using f)⟩,by simp [St.put,Act.put,wa,h.len],by simpa [Act.put] using h.defers,fun i => ?_⟩
  ·rw [e];exact h.objs t o (by simpa [hG] using f)
  ·rw [e]
   simp only [St.put,St.get,Act.put,sj,CJ,h.len]
   split
   ·exact m
   ·exact h.slots i
section
variable {E:Env} {s:St} {w w':World} {β:Nat->Bl} {Rt Ra:Nat->Prop}
theorem Ez (c:Cx) (f:∀ b,c.Rt b->c.Ra b) (st:Bool) (b:Nat) (h:c.Q st b):c.Ra b:=by
 unfold Cx.Q at h;split at h
 ·exact f b h
 ·exact h
theorem RelO.world (h:RelO E s w β Rt Ra) (u:∀ b,Ra b->w'.heap[b]? = w.heap[b]?) (z:∀ t o,s.obj t=some o->∀ b∈cu (β t) o,w'.heap[b]? = w.heap[b]?)
  (m:w.heap.size<=w'.heap.size) (A:Fr E.W0 E.w0 w'):RelO E s w' β Rt Ra/\(bI E s w β Rt Ra).Le (bI E s w' β Rt Ra):=by
 have le:(bI E s w β Rt Ra).Le (bI E s w' β Rt Ra):=⟨rfl,fun _ _ h=>h,fun st b M=>u b (Ez _ h.sub st b M),fun _ h=>h,fun _ _=>rfl⟩
 exact ⟨⟨fun t o f=>(h.objs t o f).le le (z t o f),h.lt,fun t o f b j=>⟨Nat.lt_of_lt_of_le (h.dc t o f b j).1 m,(h.dc t o f b j).2⟩,h.apart,h.sub,fun b j=>Nat.lt_of_lt_of_le (h.rlt b j) m,A,h.rt0,h.ra0,h.rt,h.nx,h.pin⟩,le⟩
def fj (β:Nat->Bl) (t:Nat) (bl:Bl):Nat->Bl:=fun k=>if k=t then bl else β k
theorem fJ (s:St) (o:Obj) (t:Nat):(s.new o).obj t=if t=s.next then some o else s.obj t:=by
 simp only [St.new,St.obj,lookup]
 by_cases h:t=s.next
 ·subst h;simp
 ·simp [h]
  cases f:Nat.beq t s.next with
  | true=>exact absurd (Nat.eq_of_beq_eq_true f) h
  | false=>rfl
structure IsNew (s s':St) (k:Nat) (o:Obj):Prop where
 obj:∀ t,s'.obj t=if t=k then some o else s.obj t
 none:s.obj k=none
 lt:k<s'.next
 le:s.next<=s'.next
 pin:64<=k
 slots:s'.slots=s.slots
theorem im (t k:Nat) (o:Obj):∀ (l:List (Nat × Obj)),lookup t (l++[(k,o)])=match lookup t l with|some x=>some x|none=>if t=k then some o else none
 | []=>by
  simp only [nil_append,lookup]
  by_cases h:t=k
  ·subst h;simp
  ·cases f:Nat.beq t k with
   | true=>exact absurd (Nat.eq_of_beq_eq_true f) h
   | false=>simp [h]
 | (a,b)::r=>by
  simp only [List.cons_append,lookup]
  cases Nat.beq t a with
  | true=>rfl
  | false=>exact im t k o r
theorem Bb (s:St) (k:Nat) (o:Obj) (j:s.obj k=none) (t:Nat):(s.newAt k o).obj t=if t=k then some o else s.obj t:=by
 show lookup t (s.objs++[(k,o)])=_
 rw [im]
 by_cases h:t=k
 ·subst h
  have f:lookup t s.objs=none:=j
  rw [f];simp
 ·rw [if_neg h,if_neg h]
  show _=lookup t s.objs
  cases lookup t s.objs <;> rfl
theorem C3 {s:St} {k:Nat} {o:Obj} (f:s.obj k=none) (j:k<s.next) (m:64<=k):IsNew s (s.newAt k o) k o:=⟨Bb s k o f,f,j,Nat.le_refl _,m,rfl⟩
theorem RelO.zy (h:RelO E s w β Rt Ra) (o:Obj):IsNew s (s.new o) s.next o:=⟨fJ s o,by
 cases e:s.obj s.next with
 | none=>rfl
 | some x=>exact absurd (h.lt _ x e) (Nat.lt_irrefl _),Nat.lt_succ_self _,Nat.le_succ _,h.nx,rfl⟩
theorem RelO.FI (h:RelO E s w β Rt Ra) {s':St} {k:Nat} {o:Obj} (m:IsNew s s' k o) (bl:Bl) (hb:∀ b∈cu bl o,b<w.heap.size/\¬ Ra b/\(E.w0.heap.size<=b∨E.W0 b))
  (ha:∀ b∈cu bl o,∀ t f,s.obj t=some f->b ∉ cu (β t) f) (ho:(bI E s w β Rt Ra).Le (bI E s' w (fj β k bl) Rt Ra)->OR (bI E s' w (fj β k bl) Rt Ra) bl o) :
  RelO E s' w (fj β k bl) Rt Ra/\(bI E s w β Rt Ra).Le (bI E s' w (fj β k bl) Rt Ra):=by
 have A:∀ t f,s.obj t=some f->t≠k:=fun t f j e=>by subst e;rw [m.none] at j;cases j
 have le:(bI E s w β Rt Ra).Le (bI E s' w (fj β k bl) Rt Ra):=by
  refine ⟨rfl,fun _ _ h=>h,fun _ _ _=>rfl,fun t ⟨f,u⟩ => ?_,fun t ⟨f,u⟩ => ?_⟩
  ·show ∃ o,s'.obj t=some o
   rw [m.obj,if_neg (A t f u)];exact ⟨f,u⟩
  ·exact if_neg (A t f u)
 have own:fj β k bl k=bl:=if_pos rfl
 have oth:∀ t f,s.obj t=some f->fj β k bl t = β t:=fun t f j=>if_neg (A t f j)
 refine ⟨⟨fun t f j => ?_,fun t f j => ?_,fun t f j => ?_,fun t O U V M z hn => ?_,h.sub,h.rlt,h.fr,h.rt0,h.ra0,h.rt,Nat.le_trans h.nx m.le,fun t f j W => ?_⟩,le⟩
 ·rw [m.obj] at j
  split at j
  ·rename_i e;subst e;cases j;rw [own];exact ho le
  ·rw [oth t f j];exact (h.objs t f j).le le (fun _ _=>rfl)
 ·rw [m.obj] at j
  split at j
  ·rename_i e;subst e;exact m.lt
  ·exact Nat.lt_of_lt_of_le (h.lt t f j) m.le
 ·rw [m.obj] at j
  split at j
  ·rename_i e;subst e;cases j;rw [own];exact hb
  ·rw [oth t f j];exact h.dc t f j
 ·rw [m.obj] at M z
  split at M
  ·rename_i e;subst e;cases M
   split at z
   ·rename_i X;exact absurd X.symm hn
   ·rw [own,oth U V z];exact fun b N=>ha b N U V z
  ·split at z
   ·rename_i X;subst X;cases z
    rw [own,oth t O M];exact fun b N Y=>ha b Y t O M N
   ·rw [oth t O M,oth U V z];exact h.apart t O U V M z hn
 ·have:=m.pin
  rw [m.obj,if_neg (by omega)] at j
  rw [oth t f j];exact h.pin t f j W
theorem RelO.add (h:RelO E s w β Rt Ra) (o:Obj) (bl:Bl) (j:∀ b∈cu bl o,b<w.heap.size/\¬ Ra b/\(E.w0.heap.size<=b∨E.W0 b))
  (m:∀ b∈cu bl o,∀ t f,s.obj t=some f->b ∉ cu (β t) f) (u:(bI E s w β Rt Ra).Le (bI E (s.new o) w (fj β s.next bl) Rt Ra)->OR (bI E (s.new o) w (fj β s.next bl) Rt Ra) bl o) :
  RelO E (s.new o) w (fj β s.next bl) Rt Ra/\(bI E s w β Rt Ra).Le (bI E (s.new o) w (fj β s.next bl) Rt Ra):=h.FI (h.zy o) bl j m u
theorem yh (t:Nat) (objs:List (Nat × Obj)) (g:Obj->Obj):lookup t (objs.map fun p=>(p.1,g p.2))=(lookup t objs).map g:=by
 induction objs with
 | nil=>rfl
 | cons p r f=>simp only [List.map,lookup];cases Nat.beq t p.1 <;> simp [f]
theorem dX (s:St) (t:Nat) (o:Obj) (k:Nat):(s.setObj t o).obj k=if k=t then (s.obj t).map (fun _=>o) else s.obj k:=by
 simp only [St.setObj,St.obj]
 generalize s.objs=objs
 induction objs with
 | nil=>simp [lookup]
 | cons p r j =>
  obtain ⟨a,b⟩:=p
  simp only [List.map]
  cases h:Nat.beq t a with
  | true =>
   have:=Nat.eq_of_beq_eq_true h;subst this
   simp only [cond_true,lookup]
   by_cases f:k=t
   ·subst f;simp
   ·have:Nat.beq k t=false:=by cases m:Nat.beq k t with|true=>exact absurd (Nat.eq_of_beq_eq_true m) f|false=>rfl
    simp only [this,cond_false,j,if_neg f]
  | false =>
   simp only [cond_false,lookup,h]
   by_cases f:k=t
   ·subst f;simp [h,j]
   ·cases m:Nat.beq k a <;> simp [j,f]
theorem uz (s:St) (f:SV->SV) (t:Nat):(s.map f).obj t=(s.obj t).map (Obj.map f):=yh t s.objs (Obj.map f)
theorem pI (s:St) (t k:Nat):(s.drop t).obj k=if k=t then none else s.obj k:=by
 simp only [St.drop,St.obj]
 generalize s.objs=objs
 induction objs with
 | nil=>simp [lookup]
 | cons p r j =>
  obtain ⟨a,b⟩:=p
  simp only [List.filter]
  cases h:Nat.beq t a with
  | true =>
   have:=Nat.eq_of_beq_eq_true h;subst this
   simp only [Bool.not_true,j,lookup]
   by_cases f:k=t
   ·subst f;simp
   ·have:Nat.beq k t=false:=by cases m:Nat.beq k t with|true=>exact absurd (Nat.eq_of_beq_eq_true m) f|false=>rfl
    simp [this,f]
  | false =>
   simp only [Bool.not_false,lookup]
   by_cases f:k=t
   ·subst f;simp [h,j]
   ·cases m:Nat.beq k a <;> simp [j,f]
theorem RelO.hole (h:RelO E s w β Rt Ra) (t:Nat):RelO E (s.setObj t .hole) w β Rt Ra/\(bI E s w β Rt Ra).Le (bI E (s.setObj t .hole) w β Rt Ra):=by
 have le:(bI E s w β Rt Ra).Le (bI E (s.setObj t .hole) w β Rt Ra):=by
  refine ⟨rfl,fun _ _ h=>h,fun _ _ _=>rfl,fun k ⟨m,j⟩ => ?_,fun _ _=>rfl⟩
  show ∃ o,(s.setObj _ _).obj k=some o
  rw [dX];split
  ·rename_i e;subst e;exact ⟨_,by rw [j];rfl⟩
  ·exact ⟨m,j⟩
 have key:∀ k o,(s.setObj t .hole).obj k=some o->(k=t/\o = .hole/\∃ m,s.obj t=some m)∨(k≠t/\s.obj k=some o):=by
  intro k o f
  rw [dX] at f;split at f
  ·rename_i e;cases N:s.obj t with
   | none=>rw [N] at f;simp at f
   | some m=>rw [N] at f;simp at f;exact .inl ⟨e,f.symm,m,rfl⟩
  ·rename_i e;exact .inr ⟨e,f⟩
 refine ⟨⟨fun k o f => ?_,fun k o f => ?_,fun k o f => ?_,fun k O U V A M W => ?_,h.sub,h.rlt,h.fr,h.rt0,h.ra0,h.rt,h.nx,fun k o f u => ?_⟩,le⟩
 ·rcases key k o f with ⟨_,rfl,_⟩|⟨_,f⟩
  ·trivial
  ·exact (h.objs k o f).le le (fun _ _=>rfl)
 ·rcases key k o f with ⟨rfl,_,m,j⟩|⟨_,f⟩
  ·exact h.lt k m j
  ·exact h.lt k o f
 ·rcases key k o f with ⟨_,rfl,_⟩|⟨_,f⟩
  ·intro b z;simp [cu] at z
  ·exact h.dc k o f
 ·rcases key k O A with ⟨_,rfl,_⟩|⟨_,A⟩
  ·intro b z;simp [cu] at z
  ·rcases key U V M with ⟨_,rfl,_⟩|⟨_,M⟩
   ·intro b z;simp [cu]
   ·exact h.apart k O U V A M W
 ·rcases key k o f with ⟨rfl,_,m,j⟩|⟨_,f⟩
  ·exact h.pin k m j u
  ·exact h.pin k o f u
theorem RelO.set (h:RelO E s w β Rt Ra) (t:Nat) (o:Obj) (O:s.obj t=some .hole) (Y:∀ b∈cu (β t) o,b<w.heap.size/\¬ Ra b/\(E.w0.heap.size<=b∨E.W0 b))
  (V:∀ b∈cu (β t) o,∀ k A,s.obj k=some A->b ∉ cu (β k) A) (ho:(bI E s w β Rt Ra).Le (bI E (s.setObj t o) w β Rt Ra)->OR (bI E (s.setObj t o) w β Rt Ra) (β t) o) :
  RelO E (s.setObj t o) w β Rt Ra/\(bI E s w β Rt Ra).Le (bI E (s.setObj t o) w β Rt Ra):=by
 have le:(bI E s w β Rt Ra).Le (bI E (s.setObj t o) w β Rt Ra):=by
  refine ⟨rfl,fun _ _ h=>h,fun _ _ _=>rfl,fun k ⟨A,u⟩ => ?_,fun _ _=>rfl⟩
  show ∃ o,(s.setObj _ _).obj k=some o
  rw [dX];split
  ·rename_i e;subst e;exact ⟨_,by rw [u];rfl⟩
  ·exact ⟨A,u⟩
 have key:∀ k j,(s.setObj t o).obj k=some j->(k=t/\j=o)∨(k≠t/\s.obj k=some j):=by
  intro k j f
  rw [dX] at f;split at f
  ·rename_i e;rw [O] at f;simp at f;exact .inl ⟨e,f.symm⟩
  ·rename_i e;exact .inr ⟨e,f⟩
 refine ⟨⟨fun k j f => ?_,fun k j f => ?_,fun k j f => ?_,fun k j M N h1 W X => ?_,h.sub,h.rlt,h.fr,h.rt0,h.ra0,h.rt,h.nx,fun k j f z => ?_⟩,le⟩
 ·rcases key k j f with ⟨rfl,rfl⟩|⟨_,f⟩
  ·exact ho le
  ·exact (h.objs k j f).le le (fun _ _=>rfl)
 ·rcases key k j f with ⟨rfl,rfl⟩|⟨_,f⟩
  ·exact h.lt k _ O
  ·exact h.lt k j f
 ·rcases key k j f with ⟨rfl,rfl⟩|⟨_,f⟩
  ·exact Y
  ·exact h.dc k j f
 ·rcases key k j h1 with ⟨rfl,rfl⟩|⟨_,g1⟩
  ·rcases key M N W with ⟨rfl,rfl⟩|⟨_,g2⟩
   ·exact absurd rfl X
   ·exact fun b m=>V b m M N g2
  ·rcases key M N W with ⟨rfl,rfl⟩|⟨_,g2⟩
   ·exact fun b m U=>V b U k j g1 m
   ·exact h.apart k j M N g1 g2 X
 ·rcases key k j f with ⟨rfl,rfl⟩|⟨_,f⟩
  ·exact h.pin k _ O z
  ·exact h.pin k j f z
theorem dR {c:Cx} {x:SV} {v:Value} (h:SL c x v):S1 c x v:=by
 unfold S1;split
 ·exact h.elim
 ·exact h
theorem dC {c:Cx} {x:SV} {v:Value} (h:S1 c x v):S2 c x v:=by
 unfold S2;split
 ·exact (show False from h).elim
 ·exact h
theorem gS (x:SV):(∃ l,x = .agg l)∨∀ l,x ≠ .agg l:=by
 cases x <;> first|exact .inl ⟨_,rfl⟩|exact .inr fun _ h=>by cases h
theorem za {c:Cx} {x:SV} {v:Value} (f:∀ l,x ≠ .agg l) (h:S1 c x v):SL c x v:=by
 unfold S1 at h;split at h
 ·exact absurd rfl (f _)
 ·exact h
theorem v7 {f:SV->SV} {x:SV} (j:∀ l,x ≠ .agg l):il f x=f x:=by
 unfold il;split
 ·exact absurd rfl (j _)
 ·rfl
theorem BV {c c':Cx} {f:SV->SV} (j:∀ x v,SL c x v->SL c' (f x) v) {x:SV} {v:Value} (h:S1 c x v):S1 c' (il f x) v:=by
 rcases gS x with ⟨l,rfl⟩|m
 ·obtain ⟨cs,u,z⟩:=h;exact ⟨cs,u,z.map j⟩
 ·rw [v7 m];exact dR (j _ _ (za m h))
theorem qt (x:SV):(∃ l,x = .tup l)∨∀ l,x ≠ .tup l:=by
 cases x <;> first|exact .inl ⟨_,rfl⟩|exact .inr fun _ h=>by cases h
theorem ye {f:SV->SV} {x:SV} (j:∀ l,x ≠ .tup l):mD f x=il f x:=by
 unfold mD;split
 ·exact absurd rfl (j _)
 ·rfl
theorem zb {c:Cx} {x:SV} {v:Value} (f:∀ l,x ≠ .tup l) (h:S2 c x v):S1 c x v:=by
 unfold S2 at h;split at h
 ·exact absurd rfl (f _)
 ·exact h
theorem BW {c c':Cx} {f:SV->SV} (j:∀ x v,SL c x v->SL c' (f x) v) {x:SV} {v:Value} (h:S2 c x v):S2 c' (mD f x) v:=by
 rcases qt x with ⟨l,rfl⟩|m
 ·obtain ⟨vs,u,z⟩:=h;exact ⟨vs,u,PW.map (f:=il f) (fun _ _ h=>BV j h) z⟩
 ·rw [ye m];exact dC (BV j (zb m h))
theorem CK (f:SV->SV) (l:List SV) (i:Nat) (h:i<l.length):fc (l.map f) i=f (fc l i):=by
 induction l generalizing i with
 | nil=>simp at h
 | cons x r j=>cases i with
  | zero=>rfl
  | succ i=>exact j i (by simpa using h)
theorem tv {c c':Cx} {f:SV->SV} (m:∀ x v,SL c x v->SL c' (f x) v) {s:St} {a:Act} (h:∀ i,S2 c (s.get i) (a.tmps.getD i undef)) (i:Nat):S2 c' ((s.map f).get i) (a.tmps.getD i undef):=by
 by_cases j:i<s.slots.length
 ·simp only [St.get,St.map,CK _ _ _ j];exact BW m (h i)
 ·simp only [St.get,St.map];rw [ue (by simpa using j)];trivial
theorem fH {c c':Cx} (le:c.Le c') {s:St} {a:Act} (h:∀ i,S2 c (s.get i) (a.tmps.getD i undef)) (i:Nat):S2 c' (s.get i) (a.tmps.getD i undef):=(h i).le le
structure Cx.LeBut (c c':Cx) (t:Nat):Prop where
 T:c'.T=c.T
 Q:∀ st b,c.Q st b->c'.Q st b
 w:∀ st b,c.Q st b->c'.w.heap[b]? = c.w.heap[b]?
 D:∀ k,c.D k->k≠t->c'.D k
 β:∀ k,c.D k->k≠t->c'.β k=c.β k
theorem eW {t k:Nat} {x:SV} (h:mB t x=false) (f:tok x=some k):k≠t:=by
 unfold mB at h;split at h
 ·rename_i j
  cases j with
  | nil=>cases f
  | cons u m =>
   simp only [tok,List.head?_cons,Option.some.injEq] at f;subst f
   simp only [List.any_cons,Bool.or_eq_false_iff] at h
   intro e;subst e;simp at h
 rw [f] at h
 intro e;subst e;simp at h
theorem SL.De {c c':Cx} {t:Nat} (h:c.LeBut c' t) {x:SV} (A:mB t x=false) {v:Value} (f:SL c x v):SL c' x v:=by
 cases x <;> simp only [SL] at f ⊢ <;> try exact f
 case ro e l st=>rw [h.T];exact f.mono (h.Q st) (h.w st)
 case own k=>have m:=eW A rfl;exact ⟨h.D k f.1 m,by rw [h.β k f.1 m];exact f.2⟩
 case vw k lo Y=>have m:=eW A rfl;exact ⟨h.D k f.1 m,by rw [h.β k f.1 m];exact f.2⟩
 case clo g k=>have m:=eW A rfl;exact ⟨h.D k f.1 m,by rw [h.β k f.1 m];exact f.2⟩
 case mp k=>have m:=eW A rfl;exact ⟨h.D k f.1 m,by rw [h.β k f.1 m];exact f.2⟩
 case cls g ts =>
  have m:∀ k∈ts,k≠t:=fun k z e=>by
   subst e
   simp only [mB,List.any_eq_false] at A
   exact A k z (Nat.beq_refl k)
  exact ⟨fun k z=>h.D k (f.1 k z) (m k z),by rw [List.map_congr_left fun k z=>by rw [h.β k (f.1 k z) (m k z)]];exact f.2⟩
 case ptr k off=>have m:=eW A rfl;exact ⟨h.D k f.1 m,by rw [h.β k f.1 m];exact f.2⟩
 case el k i off=>have m:=eW A rfl;exact ⟨h.D k f.1 m,by rw [h.β k f.1 m];exact f.2⟩
 case sdp k=>have m:=eW A rfl;exact ⟨h.D k f.1 m,by rw [h.β k f.1 m];exact f.2⟩
 case ap k n=>have m:=eW A rfl;exact ⟨h.D k f.1 m,by rw [h.β k f.1 m];exact f.2⟩
 case ar e n l =>
  obtain ⟨V,E,cs,N,O,U,h4,h5⟩:=f
  exact ⟨V,E,cs,by rw [h.T];exact N,O,U,h4,by rw [h.T];exact h5.mono (fun _ M=>M) (fun _ M=>M.elim)⟩
 case rl e l st i off =>
  obtain ⟨E,p,N,O,U⟩:=f
  refine ⟨E,p,by rw [h.T];exact N,O,fun j k z => ?_⟩
  obtain ⟨u,M,W,X⟩:=U j k z
  exact ⟨u,h.Q st _ M,(jb (w:=c.w) (w':=c'.w) (a:=p.add j) (by rw [eK];exact h.w st _ M)).trans W,by rw [h.T];exact X.mono (h.Q st) (h.w st)⟩
 case ra e n l st =>
  obtain ⟨V,E,p,N,O,U⟩:=f
  refine ⟨V,E,p,by rw [h.T];exact N,O,fun i j k Y z => ?_⟩
  obtain ⟨u,M,W,X⟩:=U i j k Y z
  exact ⟨u,h.Q st _ M,(jb (w:=c.w) (w':=c'.w) (a:=p.add (i*E.sz+j)) (by rw [eK];exact h.w st _ M)).trans W,by rw [h.T];exact X.mono (h.Q st) (h.w st)⟩
theorem SL.kill {c c':Cx} {t:Nat} (h:c.LeBut c' t) (x:SV) (v:Value) (f:SL c x v):SL c' (kZ t x) v:=by
 unfold kZ
 cases j:mB t x with
 | true=>trivial
 | false=>exact f.De h j
theorem Em {c c':Cx} {b:Nat} {f:SV->SV} (hf:∀ x v,SL c x v->SL c' (f x) v) (hn:f .nos = .nos) (hi:∀ x,f x = .nos->x = .nos) (x:SV) (v:Value) (hx:lS c b x v):lS c' b (f x) v:=by
 by_cases e:x = .nos
 ·subst e;rw [hn];exact hx
 ·have h1 : SL c x v := by unfold lS at hx; split at hx
                           ·exact absurd rfl e
                           ·exact hx
  unfold lS;split
  ·rename_i e2;exact absurd (hi x e2) e
  ·exact hf x v h1
theorem A3 (t:Nat):kZ t .nos = .nos:=rfl
theorem la (t:Nat) (x:SV) (h:kZ t x = .nos):x = .nos:=by
 unfold kZ at h;cases f:mB t x with
 | true=>rw [f] at h;simp at h
 | false=>rw [f] at h;exact h
theorem OR.map {c c':Cx} {f:SV->SV} (N:∀ x v,SL c x v->SL c' (f x) v) (O:f .nos = .nos) (U:∀ x,f x = .nos->x = .nos) (M:c'.T=c.T) (V:∀ st b,c.Q st b->c'.Q st b) (hw:∀ st b,c.Q st b->c'.w.heap[b]? = c.w.heap[b]?)
  {bl:Bl} {o:Obj} (u:OR c bl o) (z:∀ b∈cu bl o,c'.w.heap[b]? = c.w.heap[b]?):OR c' bl (o.map f):=by
 cases o with
 | row e l st =>
  obtain ⟨E,cs,j,m,W,X⟩:=u
  exact ⟨E,cs,by rw [M];exact j,m,jH W (fun b A=>z b (by simp [cu,A])),by rw [M];exact X.mono (V st) (hw st)⟩
 | var ty ls =>
  obtain ⟨cs,q,j,m⟩:=u
  exact ⟨cs,q,(z _ (by simp [cu])).trans j,m.map (Em N O U)⟩
 | sit s p=>exact (z _ (by simp [cu])).trans u
 | mp k e l =>
  obtain ⟨es,Y,j,m⟩:=u
  exact ⟨es,Y,(z _ (by simp [cu])).trans j,m⟩
 | hole=>trivial
theorem gE (bl:Bl) (o:Obj) (f:SV->SV):cu bl (o.map f)=cu bl o:=by cases o <;> rfl
theorem eX {s:St} {f:SV->SV} {t k:Nat} {o:Obj} (h:((s.map f).drop t).obj k=some o):k≠t/\∃ j,s.obj k=some j/\o=j.map f:=by
 rw [pI] at h;split at h
 ·cases h
 ·rename_i u;rw [uz] at h
  cases m:s.obj k with
  | none=>rw [m] at h;cases h
  | some j=>rw [m] at h;cases h;exact ⟨u,j,rfl,rfl⟩
theorem RelO.Dj (h:RelO E s w β Rt Ra) (t:Nat) (f:SV->SV) {Rt' Ra':Nat->Prop}
  (hf:∀ x v,SL (bI E s w β Rt Ra) x v->SL (bI E ((s.map f).drop t) w β Rt' Ra') (f x) v) (U:f .nos = .nos) (hi:∀ x,f x = .nos->x = .nos)
  (M:∀ b,Rt b->Rt' b) (N:∀ b,Ra b->Ra' b) (A:∀ b,Rt' b->Ra' b) (V:∀ b,Ra' b->b<w.heap.size)
  (W:∀ k o,s.obj k=some o->k≠t->∀ b∈cu (β k) o,¬ Ra' b) (X:∀ b,Rt' b->E.Rt0 b∨E.w0.heap.size<=b∨E.W0 b):RelO E ((s.map f).drop t) w β Rt' Ra':=by
 refine ⟨fun k o u => ?_,fun k o u => ?_,fun k o u => ?_,fun k o1 k' o2 M N Y => ?_,A,V,h.fr,fun b z=>M b (h.rt0 b z),fun b z=>N b (h.ra0 b z),X,h.nx,fun k o u hl => ?_⟩
 ·obtain ⟨_,m,j,rfl⟩:=eX u
  refine (h.objs k m j).map hf U hi rfl (fun st b O => ?_) (fun _ _ _=>rfl) (fun _ _=>rfl)
  unfold Cx.Q at O ⊢;split at O
  ·rename_i e;rw [if_pos e];exact M b O
  ·rename_i e;rw [if_neg e];exact N b O
 ·obtain ⟨_,m,j,rfl⟩:=eX u;exact h.lt k m j
 ·obtain ⟨U,m,j,rfl⟩:=eX u;rw [gE]
  exact fun b z=>⟨(h.dc k m j b z).1,W k m j U b z,(h.dc k m j b z).2.2⟩
 ·obtain ⟨_,ad,ae,rfl⟩:=eX M;obtain ⟨_,ap,ar,rfl⟩:=eX N
  rw [gE,gE];exact h.apart k ad k' ap ae ar Y
 ·obtain ⟨_,m,j,rfl⟩:=eX u;exact h.pin k m j hl
theorem qg (f:SV->SV) (t:Nat):(bI E s w β Rt Ra).LeBut (bI E ((s.map f).drop t) w β Rt Ra) t:=by
 refine ⟨rfl,fun _ _ h=>h,fun _ _ _=>rfl,fun k ⟨o,j⟩ m => ?_,fun _ _ _=>rfl⟩
 show ∃ o,((s.map f).drop t).obj k=some o
 rw [pI,if_neg m,uz,j];exact ⟨_,rfl⟩
theorem Rel.Dj {a:Act} (h:Rel E s a w β Rt Ra) (t:Nat):Rel E ((s.kill t).drop t) a w β Rt Ra:=by
 have j:=SL.kill (qg (E:=E) (s:=s) (w:=w) (β := β) (Rt:=Rt) (Ra:=Ra) (kZ t) t)
 refine ⟨h.toRelO.Dj t (kZ t) j (A3 t) (la t) (fun _ h=>h) (fun _ h=>h) h.sub h.rlt (fun k o m _ b u=>(h.dc k o m b u).2.1) h.rt,by simp [St.kill,St.map,St.drop,h.len],h.defers,?_⟩
 exact tv (s:=s) (f:=kZ t) j h.slots
theorem Rel.xJ {a:Act} (h:Rel E s a w β Rt Ra) (t:Nat):∃ Rt' Ra',Rel E (s.xJ t) a w β Rt' Ra':=by
 unfold St.xJ
 cases ho:s.obj t with
 | none=>exact ⟨Rt,Ra,h⟩
 | some o =>
  cases o with
  | var ty ls=>exact ⟨Rt,Ra,h⟩
  | sit b p=>exact ⟨Rt,Ra,h⟩
  | mp k e l=>exact ⟨Rt,Ra,h⟩
  | hole=>exact ⟨Rt,Ra,h⟩
  | row e l st =>
   have hb:=h.dc t _ ho
   obtain ⟨T,cs,hT,be,U,Y⟩:=h.objs t _ ho
   let X:Nat->Prop:=fun b=>b∈cu (β t) (.row e l st)
   have hQ:∀ st' b,(bI E s w β Rt Ra).Q st' b->(bI E ((s.map (pR t e l st)).drop t) w β (fun b=>Rt b∨X b) (fun b=>Ra b∨X b)).Q st' b:=by
    intro st' b hq;unfold Cx.Q at hq ⊢;split at hq
    ·rename_i e;rw [if_pos e];exact .inl hq
    ·rename_i e;rw [if_neg e];exact .inl hq
   have lb:(bI E s w β Rt Ra).LeBut (bI E ((s.map (pR t e l st)).drop t) w β (fun b=>Rt b∨X b) (fun b=>Ra b∨X b)) t:=
    ⟨rfl,hQ,fun _ _ _=>rfl,(qg (E:=E) (s:=s) (w:=w) (β := β) (Rt:=Rt) (Ra:=Ra) (pR t e l st) t).D,fun _ _ _=>rfl⟩
   have ax:SL (bI E ((s.map (pR t e l st)).drop t) w β (fun b=>Rt b∨X b) (fun b=>Ra b∨X b)) (.ro e l st) (β t).v:=by
    show ej _ _ _ _ _ _
    obtain ⟨hlen,N⟩:=U
    rcases N with ⟨N,hn⟩|⟨g,cap,W,q,fz,N,_,hg,_,ad,ae,a1,z⟩
    ·rw [N];exact .slnil e _ (eq_nil_of_length_eq_zero hn)
    ·rw [N]
     refine .sl e T ⟨g,0,none⟩ _ cap (.sl l) cs hT rfl ad ae hlen (fun j v V=>⟨?_,?_⟩) (fun i j k hi A v V=>(Y i j k hi A v V).mono (hQ st) (fun _ _=>rfl))
     ·have hX:X g:=by show g∈cu (β t) (.row e l st);simp [cu,N,Value.ownBlock]
      unfold Cx.Q;split
      ·exact .inr hX
      ·exact .inr hX
     ·rw [add_plain]
      show w.cell? ⟨g,0+j,none⟩=some v
      rw [Nat.zero_add,cell_of_row w g j W q fz hg]
      rw [<- z] at V
      rw [List.getElem?_take] at V
      split at V
      ·simpa using V
      ·cases V
   have hf:∀ x v,SL (bI E s w β Rt Ra) x v->SL (bI E ((s.map (pR t e l st)).drop t) w β (fun b=>Rt b∨X b) (fun b=>Ra b∨X b)) (pR t e l st x) v:=by
    intro x v M
    unfold pR;split
    ·rename_i k
     cases A:Nat.beq k t with
     | true=>have:=Nat.eq_of_beq_eq_true A;subst this;simp only [cond_true];rw [M.2.1];exact ax
     | false=>simp only [cond_false];exact M.De lb (by unfold mB tok;exact A)
    ·rename_i k n
     cases A:Nat.beq k t with
     | false=>simp only [cond_false];exact M.De lb (by unfold mB tok;exact A)
     | true =>
      have:=Nat.eq_of_beq_eq_true A;subst this;simp only [cond_true]
      obtain ⟨_,g,cap,e1,e2⟩:_/\∃ g cap,(β k).v=_/\v=_:=M
      obtain ⟨hlen,N⟩:=U
      rcases N with ⟨N,hn⟩|⟨g',bb,W,q,fz,N,_,hg,_,ad,ae,a1,z⟩
      ·have O:(β k).v = .slice none 0 0:=N
       rw [e1] at O;cases O
      ·have O:(β k).v=_:=N
       rw [e1] at O;cases O
       have hX:X g:=by show g∈cu (β k) (.row e l st);simp [cu,e1,Value.ownBlock]
       refine ⟨rfl,T,⟨g,0,none⟩,hT,e2,fun i j kk hi ap => ?_⟩
       have V:j<T.sz:=(List.getElem?_eq_some_iff.mp ap).1
       have a6:i*T.sz+j<cs.length:=by
        rw [hlen]
        have:(i+1)*T.sz<=l.length*T.sz:=Nat.mul_le_mul_right _ hi
        rw [Nat.add_mul,Nat.one_mul] at this;omega
       have m:cs[i*T.sz+j]? = some cs[i*T.sz+j]:=List.getElem?_eq_getElem a6
       refine ⟨cs[i*T.sz+j],?_,?_,(Y i j kk hi ap _ m).mono (hQ st) (fun _ _=>rfl)⟩
       ·unfold Cx.Q;split
        ·exact .inr hX
        ·exact .inr hX
       ·rw [add_plain,Nat.zero_add]
        show w.cell? ⟨g,i*T.sz+j,none⟩=some _
        rw [cell_of_row w g _ W q fz hg]
        generalize cs[i*T.sz+j]=u at m
        rw [<- z,List.getElem?_take] at m
        split at m
        ·simpa using m
        ·cases m
    ·exact M.kill lb
   have a7:pR t e l st .nos = .nos:=rfl
   have a8:∀ x,pR t e l st x = .nos->x = .nos:=by
    intro x M;unfold pR at M;split at M
    ·rename_i k;cases A:Nat.beq k t <;> rw [A] at M <;> simp at M
    ·rename_i k n;cases A:Nat.beq k t <;> rw [A] at M <;> simp at M
    ·exact la t x M
   refine ⟨fun b=>Rt b∨X b,fun b=>Ra b∨X b,⟨h.toRelO.Dj t _ hf a7 a8 (fun _ h => .inl h) (fun _ h => .inl h) (fun b hb=>hb.imp (h.sub b) id) ?_ ?_ ?_,by simp [St.map,St.drop,h.len],h.defers,tv (s:=s) hf h.slots⟩⟩
   ·rintro b (f|f)
    ·exact h.rlt b f
    ·exact (hb b f).1
   ·rintro k o A hn b ar (f|f)
    ·exact (h.dc k o A b ar).2.1 f
    ·exact h.apart k o t _ A ho hn b ar f
   ·rintro b (f|f)
    ·exact h.rt b f
    ·exact .inr ((hb b f).2.2)
def dj (E:Env) (s:St) (a:Act) (w:World):Prop:=∃ β Rt Ra,Rel E s a w β Rt Ra
theorem dj.gi {a:Act}:∀ (f:List Nat) {s:St},dj E s a w->dj E (gi f s) a w
 | [],_,h=>h
 | t::r,_,⟨β,Rt,Ra,h⟩=>let ⟨Rt',Ra',h'⟩:=h.xJ t;dj.gi r ⟨β,Rt',Ra',h'⟩
end
end Go.Proofs.Ab
namespace Go.Proofs.Ab
open Go
variable {R:Type}
def jQ:TypeDesc->Bool
 | .struct _=>true
 | .array _ _=>true
 | _=>false
def zeroV:LK->Value->Prop
 | .int k,v=>v = .int k 0
 | .bool,v=>v = .bool false
 | .str,v=>v = .string ⟨#[]⟩
 | .sl _,v=>v = .slice none 0 0
 | .ptr,v=>v = .pointer none
 | .fn,v=>v = .nilFunc
 | .nos,v=>v = .pointer none
 | .ifc,v=>v = .nilIface
 | .oth,_=>True
 | .mp _ _,_=>True
def gp:SV->Value->Prop
 | .int k n,v=>v = .int k n
 | .bool b,v=>v = .bool b
 | .str s,v=>v = .string s
 | _,_=>True
def ua (P:Program) (sz:Nat) (p:Nat × Nat × Bool) (F:Field):Prop:=
 F.offset=p.1/\p.1+p.2.1<=sz/\∃ (i:TypeInfo) (d:TypeDesc),P.info? F.type=some i/\i.size=p.2.1/\P.underlying F.type=some d/\jQ d=p.2.2
structure TyOk (P:Program) (t:Nat) (ti:TI):Prop where
 agg:∃ d,P.underlying t=some d/\jQ d=ti.agg
 info:∃ i z,P.info? t=some i/\i.size=ti.sz/\i.bytes=ti.bytes/\i.zero=some z/\PW zeroV ti.lv z.cells.toList/\((∃ cs,z = .agg cs) ↔ ti.agg=true)
 pos:0<ti.sz
 bpos:0<ti.bytes
 slice:ti.sl=true->P.underlying t=some (.slice ti.elem)
 int:∀ k,ti.agg=false->ti.lv=[.int k]->P.underlying t=some (.int k)
 bool:ti.agg=false->ti.lv=[.bool]->P.underlying t=some .bool
 str:ti.agg=false->ti.lv=[.str]->P.underlying t=some .string
 map:∀ k e,ti.agg=false->ti.lv=[.mp k e]->P.underlying t=some (.map k e)
 ptr:ti.agg=false->ti.lv=[.ptr]->ti.elem≠0->P.underlying t=some (.pointer ti.elem)
 arr:ti.agg=true->ti.flds=[]->ti.elem≠0->∃ (n:Nat) (i:TypeInfo),P.underlying t=some (.array n ti.elem)/\P.info? ti.elem=some i/\n*i.size=ti.sz
 struct:ti.flds≠[]->∃ fs:Array Field,P.underlying t=some (.struct fs)/\PW (ua P ti.sz) ti.flds fs.toList
 eqs:ti.eqs=true->P.eqGuardType P.depth t=false/\∀ (w:World) (l m:List SV) (xs ys:Array Value) b,PW gp l xs.toList->PW gp m ys.toList->dD ti.lv l m=some b->(Op.equalIn 10000 t (.agg xs) (.agg ys)).run P w = .ok b w
structure Ok (P:Program) (T:Nat->Option TI):Prop where
 ty:∀ t ti,T t=some ti->TyOk P t ti
 mixed:P.follows .mixedOrders=true
section
variable {P:Program} {o:Oper} {a:Act} {w w':World} {next:Act->World->Prop} {Q:Exit->Act->World->Prop}
theorem eI {v:Value} (f:(execOp a.eval o).run P w = .ok (.value v) w') (j:next (a.put o.dst v) w'):o.wp P a w next Q:=by
 unfold Oper.wp;rw [f];exact j
theorem wp_skip {v:Value} (f:v=undef) (j:(execOp a.eval o).run P w = .ok .skip w') (m:next (a.put o.dst v) w'):o.wp P a w next Q:=by
 unfold Oper.wp;rw [j];subst f;exact m
theorem gq {t:Nat} {f:TI} (h:TyOk P t f) (w:World):(isAgg t).run P w = .ok f.agg w:=by
 obtain ⟨d,j,m⟩:=h.agg
 unfold isAgg
 simp only [Sem.run_bind,run_underlying j,Result.andThen_ok]
 rw [<- m]
 cases d <;> rfl
theorem jK {t:Nat} {d:TypeDesc} (h:P.underlying t=some d) (w:World):(isAgg t).run P w = .ok (jQ d) w:=by
 unfold isAgg
 simp only [Sem.run_bind,run_underlying h,Result.andThen_ok]
 cases d <;> rfl
theorem mY {t:Nat} {i:TypeInfo} (h:P.info? t=some i) (w:World):(sizeOf t).run P w = .ok i.size w:=by
 simp [sizeOf,typeInfo,h]
theorem fA {t:Nat} {f:TI} (h:TyOk P t f) (w:World):(sizeOf t).run P w = .ok f.sz w:=by
 obtain ⟨i,z,j,m,_⟩:=h.info
 rw [mY j,m]
end
section
variable {E:Env} {s:St} {a:Act} {w:World} {β:Nat->Bl} {Rt Ra:Nat->Prop}
theorem EO (c:Cx) (v:Value):SL c (GG v) v:=by
 unfold GG
 split
 all_goals first|rfl|trivial
theorem CE (c:Cx):∀ (l:List Value),PW (SL c) (l.map GG) l
 | []=>trivial
 | v::l=>⟨EO c v,CE c l⟩
theorem ck (h:Rel E s a w β Rt Ra) (x:Operand):S2 (bI E s w β Rt Ra) (ev s x) (a.eval x):=by
 unfold ev
 split
 ·exact h.slots _
 all_goals first|rfl|trivial|exact ⟨_,rfl,CE _ _⟩
end
theorem rV (x y:ByteArray):(x.toList == y.toList)=decide (x=y):=by
 rw [Bool.eq_iff_iff]
 simp only [beq_iff_eq,decide_eq_true_eq]
 constructor
 ·intro h
  rw [Lib.toList_data,Lib.toList_data] at h
  exact ByteArray.ext (Array.ext' h)
 ·intro h;rw [h]
theorem fg {c:Cx} {k:IntKind} {n:Int} {v:Value} (h:S2 c (.int k n) v):v = .int k n:=h
theorem o3 {c:Cx} {b:Bool} {v:Value} (h:S2 c (.bool b) v):v = .bool b:=h
theorem jy {c:Cx} {b:ByteArray} {v:Value} (h:S2 c (.str b) v):v = .string b:=h
theorem jx {c:Cx} {l:List SV} {v:Value} (h:S2 c (.agg l) v):∃ cs:Array Value,v = .agg cs/\PW (SL c) l cs.toList:=h
theorem Gi {c:Cx} {l:List SV} {v:Value} (h:S2 c (.tup l) v):∃ vs:Array Value,v = .tuple vs/\PW (S1 c) l vs.toList:=h
theorem c9 {b:Bool} {k:Option R} {r:R} (h:bo b k=some r):b=true/\k=some r:=by
 cases b
 ·cases h
 ·exact ⟨rfl,h⟩
theorem xt {P:Program} {op:BinOp} {k:IntKind} {x y:Int} {κ:SV->Option R} {r:R} (h:Aw op k x y κ=some r) (j:C4 op=false) (c:Cx) (w:World) (t:Nat) :
  ∃ z v,κ z=some r/\(binOp op t (.int k x) (.int k y)).run P w = .ok v w/\S2 c z v:=by
 cases op <;> first|(simp [C4] at j;done)|simp only [Aw] at h
 case quo =>
  obtain ⟨f,h⟩:=c9 h
  have hy:y≠0:=by simpa using f
  exact ⟨_,_,h,by simp [binOp,Op.intDiv,hy],rfl⟩
 case rem =>
  obtain ⟨f,h⟩:=c9 h
  have hy:y≠0:=by simpa using f
  exact ⟨_,_,h,by simp [binOp,Op.intDiv,hy],rfl⟩
 all_goals exact ⟨_,_,h,by simp [binOp,Op.intArith,Op.intBits,Op.intCmp,B6],rfl⟩
theorem Bw {P:Program} {op:BinOp} {k k':IntKind} {x y:Int} {κ:SV->Option R} {r:R} (h:Hi op k x y κ=some r) (c:Cx) (w:World) (t:Nat) :
  ∃ z v,κ z=some r/\(binOp op t (.int k x) (.int k' y)).run P w = .ok v w/\S2 c z v:=by
 cases op <;> first|(simp [Hi] at h;done)|simp only [Hi] at h
 all_goals
  obtain ⟨h0,h⟩:=c9 h
  have hy : ¬ y < 0 := by have : 0 <= y := by simpa using h0
                          omega
  exact ⟨_,_,h,by simp [binOp,Op.shift,hy],rfl⟩
theorem xv {P:Program} {op:BinOp} {x y:ByteArray} {κ:SV->Option R} {r:R} (h:xu op x y κ=some r) (c:Cx) (w:World) (t:Nat) :
  ∃ z v,κ z=some r/\(binOp op t (.string x) (.string y)).run P w = .ok v w/\S2 c z v:=by
 cases op <;> first|(simp [xu] at h;done)|simp only [xu] at h
 case add =>
  obtain ⟨f,h⟩:=c9 h
  have hy:x.size+y.size<=9223372036854775807:=by simpa using f
  exact ⟨_,_,h,by simp only [binOp];exact run_string_add_sum w x y hy,rfl⟩
 all_goals exact ⟨_,_,h,by simp [binOp,Op.stringOp,rV],rfl⟩
theorem iO {c:Cx} {l:List SV} {cs:List Value} (h:PW (SL c) l cs):PW gp l cs:=by
 refine h.imp fun x v f => ?_
 cases x <;> first|exact f|trivial
theorem xw {P:Program} {T:Nat->Option TI} (hP:Ok P T) {op:BinOp} {t:Nat} {x y:SV} {κ:SV->Option R} {r:R} (h:Ax (nk (T t)) (uu (T t)) op x y κ=some r) {c:Cx} {v u:Value} (U:S2 c x v) (hu:S2 c y u) (w:World) (M N:Operand) :
  ∃ z q,κ z=some r/\(do eqGuard op t M N v u;binOp op t v u:Sem Value).run P w = .ok q w/\S2 c z q:=by
 unfold Ax at h
 split at h
 ·rename_i k n k' m
  obtain rfl:=fg U;obtain rfl:=fg hu
  have g:(eqGuard op t M N (.int k n) (.int k' m)).run P w = .ok () w:=by unfold eqGuard;cases op <;> rfl
  simp only [Sem.run_bind,g,Result.andThen_ok]
  cases X:C4 op with
  | true=>rw [X] at h;exact Bw h c w t
  | false =>
   rw [X] at h;simp only [cond_false] at h
   by_cases f:k=k'
   ·subst f;simp only [decide_true,cond_true] at h;exact xt h X c w t
   ·simp [f] at h
 ·rename_i n m
  obtain rfl:=jy U;obtain rfl:=jy hu
  have g:(eqGuard op t M N (.string n) (.string m)).run P w = .ok () w:=by unfold eqGuard;cases op <;> rfl
  simp only [Sem.run_bind,g,Result.andThen_ok]
  exact xv h c w t
 ·rename_i n m
  obtain rfl:=o3 U;obtain rfl:=o3 hu
  cases f:Nat.beq (nk (T t)) 1 with
  | false=>rw [f] at h;cases h
  | true =>
   rw [f] at h;simp only [cond_true] at h
   have hu:P.underlying t=some .bool:=by
    have f:=Nat.eq_of_beq_eq_true f
    unfold nk at f
    split at f
    ·cases f
    ·rename_i j V
     cases A:j.agg with
     | true=>rw [A] at f;simp only [cond_true] at f;cases he:j.eqs <;> rw [he] at f <;> cases f
     | false =>
      rw [A] at f;simp only [cond_false] at f
      by_cases W:j.lv=[.bool]
      ·exact (hP.ty t j V).bool A W
      ·simp [W] at f
   have g:(eqGuard op t M N (.bool n) (.bool m)).run P w = .ok () w:=by unfold eqGuard;cases op <;> rfl
   simp only [Sem.run_bind,g,Result.andThen_ok]
   have e:(Op.equal t (.bool n) (.bool m)).run P w = .ok (n == m) w:=by
    unfold Op.equal;rw [show Op.maxDepth=9999+1 from rfl];exact run_equalIn_bool' w 9999 t n m hu
   split at h
   ·exact ⟨_,_,h,by simp [binOp,e],rfl⟩
   ·exact ⟨_,_,h,by simp [binOp,e],rfl⟩
   ·cases h
 ·rename_i l m
  obtain ⟨xs,rfl,hx⟩:=jx U;obtain ⟨Y,rfl,hy⟩:=jx hu
  cases f:Nat.beq (nk (T t)) 2 with
  | false=>rw [f] at h;cases h
  | true =>
   rw [f] at h;simp only [cond_true] at h
   have f:=Nat.eq_of_beq_eq_true f
   unfold nk at f
   split at f
   ·cases f
   ·rename_i j V
    cases A:j.agg with
    | false=>rw [A] at f;simp only [cond_false] at f;by_cases W:j.lv=[.bool] <;> simp [W] at f
    | true =>
     cases hq:j.eqs with
     | false=>rw [A,hq] at f;cases f
     | true =>
      obtain ⟨hg,O⟩:=(hP.ty t j V).eqs hq
      rw [V] at h;simp only [uu] at h
      have g:=run_eqGuard_agg (P:=P) (w:=w) op t M N xs Y hg
      simp only [Sem.run_bind,g,Result.andThen_ok]
      split at h
      ·rename_i b hb
       refine ⟨_,_,h,?_,rfl⟩
       rw [run_eql_struct,O w l m xs Y b (iO hx) (iO hy) hb];rfl
      ·rename_i b hb
       refine ⟨_,_,h,?_,rfl⟩
       rw [run_neq_struct,O w l m xs Y b (iO hx) (iO hy) hb];rfl
      ·cases h
 ·cases h
theorem BF {P:Program} {op:UnOp} {x:SV} {κ:SV->Option R} {r:R} (h:Hu op x κ=some r) {c:Cx} {v:Value} (f:S2 c x v) (w:World) :
  ∃ z q,κ z=some r/\(Op.unary op v).run P w = .ok q w/\S2 c z q:=by
 unfold Hu at h
 split at h
 ·obtain rfl:=fg f;exact ⟨_,_,h,by simp [Op.unary,Op.intArith],rfl⟩
 ·obtain rfl:=o3 f;exact ⟨_,_,h,by simp [Op.unary],rfl⟩
 ·cases h
theorem xn {c:Cx} {l:List SV} {cs:List Value} (h:PW (SL c) l cs) (j n:Nat):PW (SL c) (sub l j n) ((cs.drop j).take n):=(h.drop j).take n
theorem iS {c:Cx} {g:Bool} {n:Nat} {l:List SV} {x:SV} (h:whole g n l=some x) {cs:List Value} (f:PW (SL c) l cs):cs.length=n/\((g=true/\S1 c x (.agg cs.toArray))∨(g=false/\∃ v,cs=[v]/\S1 c x v)):=by
 unfold whole at h
 cases j:Nat.beq l.length n with
 | false=>rw [j] at h;cases h
 | true =>
  rw [j] at h;simp only [cond_true] at h
  refine ⟨f.len.symm.trans (Nat.eq_of_beq_eq_true j),?_⟩
  cases g with
  | true=>simp only [cond_true] at h;cases h;exact .inl ⟨rfl,cs.toArray,rfl,by simpa using f⟩
  | false =>
   simp only [cond_false] at h
   split at h
   ·cases h
    cases cs with
    | nil=>exact f.elim
    | cons v r=>cases r with
     | nil=>exact .inr ⟨rfl,v,rfl,dR f.1⟩
     | cons _ _=>exact f.2.elim
   ·cases h
theorem lc {P:Program} {t:Nat} {m:TI} (u:TyOk P t m) {c:Cx} {l:List SV} {x:SV} (h:whole m.agg m.sz l=some x) {cs:List Value} (N:PW (SL c) l cs) {w:World} {p:Addr} (A:∀ (j:Nat) v,cs[j]? = some v->w.cell? (p.add j)=some v) :
  ∃ v,(Instr.loadAt t (.pointer (some p))).run P w = .ok v w/\S1 c x v:=by
 obtain ⟨hlen,f⟩:=iS h N
 rcases f with ⟨z,f⟩|⟨z,v,rfl,f⟩
 ·refine ⟨_,?_,f⟩
  have:=run_loadCells_list (P:=P) w p cs A
  simp [Instr.loadAt,Instr.sureAddr,loadVar,gq u,z,fA u,<- hlen,this]
 ·refine ⟨v,?_,f⟩
  have M:=A 0 v rfl
  have e:p.add 0=p:=rfl
  rw [e] at M
  simp [Instr.loadAt,Instr.sureAddr,loadVar,gq u,z,M]
theorem sd {c:Cx} {st:Bool} {k:LK} {v:Value} {a:AV} (h:ej c.T c.w (c.Q st) k v a):SL c (eta st k a) v:=by
 cases h with
 | int k a=>rfl
 | bool a=>rfl
 | str a=>rfl
 | slnil e a h=>exact .slnil e _ h
 | sl e E u n m a cs z A j f M N O=>exact .sl e E u n m _ cs z A j f M N O
theorem mi (st agg:Bool) (a:AV):∀ (f:List LK) (j q:Nat),(lq st agg a j f)[q]? = (f[q]?).map fun k=>eta st k (lf agg a (j+q))
 | [],j,q=>by simp [lq]
 | k::f,j,0=>by simp [lq]
 | k::f,j,q+1=>by simp only [lq,List.getElem?_cons_succ,mi st agg a f (j+1) q];rw [show j+1+q=j+(q+1) by omega]
theorem mj (st agg:Bool) (a:AV):∀ (f:List LK) (j:Nat),(lq st agg a j f).length=f.length
 | [],_=>rfl
 | k::f,j=>by simp [lq,mj st agg a f (j+1)]
end Go.Proofs.Ab
namespace Go.Proofs.Ab
open Go
variable {R:Type}
def eG (P:Program) (E:Env) (o:Oper) (a:Act) (w:World) (κ:St->Option R) (r:R):Prop:=
 ∀ (next:Act->World->Prop) (Q:Exit->Act->World->Prop),(∀ s' a' w',κ s'=some r->dj E s' a' w'->next a' w')->o.wp P a w next Q
section
variable {P:Program} {E:Env} {o:Oper} {s:St} {a:Act} {w:World} {β:Nat->Bl} {Rt Ra:Nat->Prop} {κ:St->Option R} {r:R}
theorem eM (h:Rel E s a w β Rt Ra) {x:SV} {v:Value} (f:S2 (bI E s w β Rt Ra) x v) (j:(execOp a.eval o).run P w = .ok (.value v) w) (m:κ (s.put o.dst x)=some r):eG P E o a w κ r:=
 fun _ _ u=>eI j (u _ _ _ m ⟨β,Rt,Ra,h.put o.dst f⟩)
theorem fP (h:Rel E s a w β Rt Ra) {x:SV} {v:Value} (f:S1 (bI E s w β Rt Ra) x v) (j:(execOp a.eval o).run P w = .ok (.value v) w) (m:κ (s.put o.dst x)=some r):eG P E o a w κ r:=
 eM h (dC f) j m
theorem cq (h:Rel E s a w β Rt Ra) {x:SV} {v:Value} (f:SL (bI E s w β Rt Ra) x v) (j:(execOp a.eval o).run P w = .ok (.value v) w) (m:κ (s.put o.dst x)=some r):eG P E o a w κ r:=
 eM h (dC (dR f)) j m
theorem sn (h:Rel E s a w β Rt Ra) {x:Operand} (f:o.op = .move x∨o.op = .assign x) (j:κ (s.put o.dst (ev s x))=some r):eG P E o a w κ r:=
 eM h (ck h x) (by rcases f with f|f <;> (unfold execOp;rw [f];rfl)) j
theorem AY {C:Cfg R} {q:Bool} (h:Rel E s a w β Rt Ra) {c x y:Operand} (j:o.op = .pick c x y) (f:eL C q o s κ=some r):eG P E o a w κ r:=by
 unfold eL at f;rw [j] at f;simp only at f
 have m:=ck h c
 split at f
 ·rename_i t u
  rw [u] at m
  have e:a.eval c = .bool t:=m
  cases t with
  | true=>exact eM h (ck h x) (by unfold execOp;rw [j];simp [e,asBool]) f
  | false=>exact eM h (ck h y) (by unfold execOp;rw [j];simp [e,asBool]) f
 ·cases f
theorem rz {C:Cfg R} {q:Bool} (h:Rel E s a w β Rt Ra) {x:Operand} (z:o.op = .nilCheck x) (f:eL C q o s κ=some r):eG P E o a w κ r:=by
 unfold eL at f;rw [z] at f;simp only at f
 have j:=ck h x
 split at f
 ·rename_i t n m;rw [m] at j
  obtain ⟨A,g,cap,u,e⟩:_/\∃ g cap,_/\a.eval x = .pointer (some _):=j
  exact cq h (x := .ap t n) ⟨A,g,cap,u,rfl⟩ (by unfold execOp;rw [z];simp [e]) f
 ·rename_i el n l st m;rw [m] at j
  obtain ⟨N,T,p,u,e,M⟩:_/\∃ T p,_/\a.eval x = .pointer (some p)/\_:=j
  exact cq h (x := .ra el n l st) ⟨N,T,p,u,rfl,M⟩ (by unfold execOp;rw [z];simp [e]) f
 ·rename_i t off m;rw [m] at j
  obtain ⟨A,e⟩:_/\a.eval x = .pointer (some _):=j
  exact cq h (x := .ptr t off) ⟨A,rfl⟩ (by unfold execOp;rw [z];simp [e]) f
 ·rename_i t i off m;rw [m] at j
  obtain ⟨A,N,g,n,cap,u,M,e⟩:_/\_/\∃ g n cap,_/\_/\a.eval x = .pointer (some _):=j
  exact cq h (x := .el t i off) ⟨A,N,g,n,cap,u,M,rfl⟩ (by unfold execOp;rw [z];simp [e]) f
 ·rename_i el l st i off m;rw [m] at j
  obtain ⟨T,p,u,e,M⟩:∃ T p,_/\a.eval x = .pointer (some p)/\_:=j
  exact cq h (x := .rl el l st i off) ⟨T,p,u,rfl,M⟩ (by unfold execOp;rw [z];simp [e]) f
 ·cases f
theorem xQ {C:Cfg R} {q:Bool} (hP:Ok P C.ty) (h:Rel E s a w β Rt Ra) {op:BinOp} {t:Nat} {x y:Operand} {u:Nat} (Y:o.op = .binOp op t x y u) (f:eL C q o s κ=some r):eG P E o a w κ r:=by
 unfold eL at f;rw [Y] at f;simp only at f
 cases O:ur op (ev s x) (ev s y) with
 | false =>
  rw [O] at f;simp only [cond_false] at f
  obtain ⟨z,v,hz,U,hv⟩:=xw hP f (ck h x) (ck h y) w x y
  exact eM h hv (by unfold execOp;rw [Y];simp only [Sem.run_bind] at U ⊢;rw [U];rfl) hz
 | true =>
  rw [O] at f;simp only [cond_true] at f
  have M:=ck h x
  have hy:=ck h y
  have go:∀ (T:TI) (b:Bool) (A:Option Addr) (n c:Nat),C.ty t=some T->T.sl=true->op = .eql->a.eval y = .slice none 0 0->a.eval x = .slice A n c->b=A.isNone->κ (s.put o.dst (.bool b))=some r->eG P E o a w κ r:=fun T b A n c N j ae hy ex hb f=>by
   subst ae
   have hu:=(hP.ty t T N).slice j
   have g:(eqGuard .eql t x y (.slice A n c) (.slice none 0 0)).run P w = .ok () w:=by unfold eqGuard;rfl
   have U:(do eqGuard .eql t x y (.slice A n c) (.slice none 0 0);binOp .eql t (.slice A n c) (.slice none 0 0):Sem Value).run P w = .ok (.bool b) w:=by
    simp only [Sem.run_bind,g,Result.andThen_ok]
    have e:∀ d:Nat,(Op.equalIn (d+1) t (.slice A n c) (.slice none 0 0)).run P w = .ok A.isNone w:=fun d=>by
     cases A <;> simp [Op.equalIn,run_underlying hu]
    have V:(Op.equal t (.slice A n c) (.slice none 0 0)).run P w = .ok A.isNone w:=e 9999
    rw [hb]
    show ((do let b <- Op.equal t (.slice A n c) (.slice none 0 0);pure (.bool b):Sem Value)).run P w=_
    simp only [Sem.run_bind,V,Result.andThen_ok];rfl
   refine eM h (x := .bool b) (v := .bool b) rfl ?_ f
   unfold execOp;rw [Y];simp only [Sem.run_bind] at U ⊢
   rw [ex,hy,U];rfl
  unfold ur at O
  split at O
  ·rename_i e l st W V
   rw [W] at M;rw [V] at hy
   have M:ej E.T w _ (.sl e) (a.eval x) (.sl l):=M
   unfold GZ at f;rw [W] at f
   cases q with
   | true=>cases f
   | false =>
    simp only [cond_false] at f
    split at f
    ·rename_i T m N
     cases m
     cases j:T.sl with
     | false=>rw [j] at f;cases f
     | true =>
      rw [j] at f;simp only [cond_true] at f
      generalize X:a.eval x=vx at M
      cases M with
      | slnil _ _ m =>
       have m:l=[]:=m
       rw [m,decide_eq_false (by decide),cond_false] at f
       exact go T true none 0 0 N j rfl hy X rfl (pv f).1
      | sl _ _ ad n c _ _ =>
       refine go T false (some ad) n c N j rfl hy X rfl ?_
       cases hd:decide ((0:Int)<(l.length:Int)) with
       | true=>rw [hd] at f;exact f
       | false=>rw [hd] at f;exact (pv f).2
    ·rename_i m _;cases m
    ·cases f
  ·rename_i W V
   rw [W] at M;rw [V] at hy
   unfold GZ at f;rw [W] at f
   cases q with
   | true=>cases f
   | false =>
    simp only [cond_false] at f
    split at f
    ·rename_i m _;cases m
    ·rename_i T _ N
     cases j:T.sl with
     | false=>rw [j] at f;cases f
     | true =>
      rw [j] at f;simp only [cond_true] at f
      exact go T true none 0 0 N j rfl hy M rfl f
    ·cases f
  ·cases O
theorem AZ {C:Cfg R} {q:Bool} (h:Rel E s a w β Rt Ra) {op:UnOp} {t:Nat} {x:Operand} (j:o.op = .unOp op t x) (f:eL C q o s κ=some r):eG P E o a w κ r:=by
 unfold eL at f;rw [j] at f;simp only at f
 obtain ⟨z,v,m,u,A⟩:=BF (P:=P) f (ck h x) w
 exact eM h A (by unfold execOp;rw [j];simp only [Sem.run_bind,u];rfl) m
theorem ug {C:Cfg R} {q:Bool} (A:Ok P C.ty) (h:Rel E s a w β Rt Ra) {f t:Nat} {x:Operand} (ho:o.op = .convert f t x)
  (m:∀ F T,C.ty f=some F->C.ty t=some T->F.agg=false->T.agg=false->rY C s o.dst f t F T (ev s x) κ=some r->eG P E o a w κ r) (j:eL C q o s κ=some r):eG P E o a w κ r:=by
 unfold eL at j;rw [ho] at j;simp only at j
 have M:=ck h x
 split at j
 ·rename_i F T N O
  cases hA:(!F.agg && !T.agg) with
  | false=>rw [hA] at j;cases j
  | true =>
   rw [hA] at j;simp only [Bool.not_true,cond_false] at j
   obtain ⟨u,z⟩:F.agg=false/\T.agg=false:=by simpa using hA
   split at j
   ·rename_i k n k1 k2 U V W;rw [U] at M;obtain e:=fg M
    have X:=(A.ty f F N).int k1 u V
    have Y:=(A.ty t T O).int k2 z W
    exact cq h (x := .int k2 (k2.wrap n)) rfl (by unfold execOp;rw [ho];simp [e,convert,run_underlying X,run_underlying Y,Conv.intToInt]) j
   ·rename_i k n k1 U V W;rw [U] at M;obtain e:=fg M
    have X:=(A.ty f F N).int k1 u V
    have Y:=(A.ty t T O).str z W
    exact cq h (x := .str (Utf8.encode n)) rfl (by unfold execOp;rw [ho];simp [e,convert,run_underlying X,run_underlying Y,Conv.intToString]) j
   ·rename_i b U V W;rw [U] at M;obtain e:=jy M
    have X:=(A.ty f F N).str u V
    have Y:=(A.ty t T O).str z W
    exact cq h (x := .str b) rfl (by unfold execOp;rw [ho];simp [e,convert,run_underlying X,run_underlying Y]) j
   ·cases q
    ·exact m F T N O u z j
    ·exact m F T N O u z (Bh j)
 ·cases j
theorem xH {u:TI} {t:Nat} (N:TyOk P t u) {f:Nat} {p:Nat × Nat × Bool} (m:u.flds[f]? = some p):∃ (j:Array Field) (F:Field),P.underlying t=some (.struct j)/\j[f]? = some F/\ua P u.sz p F:=by
 obtain ⟨j,O,A⟩:=N.struct (by intro e;rw [e] at m;simp at m)
 have z:f<j.toList.length:=by rw [<- A.len];exact (List.getElem?_eq_some_iff.mp m).1
 have M:j.toList[f]? = some j.toList[f]:=List.getElem?_eq_getElem z
 exact ⟨j,_,O,by rw [<- Array.getElem?_toList];exact M,A.get m M⟩
theorem xS {C:Cfg R} {q:Bool} (hP:Ok P C.ty) (h:Rel E s a w β Rt Ra) {st:Nat} {x:Operand} {f:Nat} (Y:o.op = .field st x f) (j:eL C q o s κ=some r):eG P E o a w κ r:=by
 unfold eL at j;rw [Y] at j;simp only at j
 have hc:=ck h x
 split at j
 ·rename_i T hT
  split at j
  ·rename_i off n g l hf hl
   rw [hl] at hc
   obtain ⟨cs,e,U⟩:=jx hc
   split at j
   ·rename_i v hv
    cases hb:Nat.beq l.length T.sz with
    | false=>rw [hb] at j;cases j
    | true =>
     rw [hb] at j;simp only [cond_true] at j
     obtain ⟨fs,F,hu,hF,N,h2,i,d,h3,V,h5,O⟩:=xH (hP.ty st T hT) hf
     obtain ⟨hlen,M⟩:=iS hv (xn U off n)
     have z:(execOp a.eval o).run P w=((part F.type cs F.offset).run P w).andThen fun v w => .ok (.value v) w:=by
      unfold execOp;rw [Y];simp [Instr.field,run_underlying hu,hF,e,asAgg]
     rcases M with ⟨W,M⟩|⟨W,u,X,M⟩
     ·refine fP h M ?_ j
      rw [z]
      have m:(part F.type cs F.offset).run P w = .ok (.agg ((cs.toList.drop off).take n).toArray) w:=by
       simp only at N h2 V O
       simp only [part,Sem.run_bind,jK h5,O,W,Result.andThen_ok,if_true,mY h3,V,N,Sem.run_pure]
       congr 2
       apply Array.ext'
       simp [List.take_drop,Nat.add_comm]
      rw [m];rfl
     ·refine fP h M ?_ j
      rw [z]
      have m:(part F.type cs F.offset).run P w = .ok u w:=by
       simp only at N h2 V O
       have A:cs[off]? = some u:=by
        have:((cs.toList.drop off).take n)[0]? = some u:=by rw [X];rfl
        rw [List.getElem?_take] at this
        split at this
        ·simpa using this
        ·cases this
       simp [part,jK h5,O,W,N,A]
      rw [m];rfl
   ·cases j
  ·cases j
 ·cases j
theorem pV {C:Cfg R} {q:Bool} (hP:Ok P C.ty) (h:Rel E s a w β Rt Ra) {st:Nat} {x:Operand} {f:Nat} (ho:o.op = .fieldAddr st x f) (z:eL C q o s κ=some r):eG P E o a w κ r:=by
 unfold eL at z;rw [ho] at z;simp only at z
 have O:=ck h x
 split at z
 ·rename_i T hT
  have M:∀ (off n:Nat) (g:Bool) (p:Addr),T.flds[f]? = some (off,n,g)->Nat.beq n 0=false->a.eval x = .pointer (some p)->(execOp a.eval o).run P w = .ok (.value (.pointer (some (p.add off)))) w:=by
   intro off n g p N A e
   obtain ⟨fs,F,hu,hF,W,h2,i,d,X,h4,h5,h6⟩:=xH (hP.ty st T hT) N
   simp only at W h4
   have Y:¬ n=0:=fun e=>by subst e;cases A
   unfold execOp;rw [ho]
   simp [Instr.fieldAt,run_underlying hu,hF,e,Instr.sureAddr,fieldPlace,mY X,h4,Y,W]
  split at z
  ·rename_i off n g t U N V;rw [V] at O
   obtain ⟨hd,e⟩:_/\a.eval x = .pointer (some _):=O
   cases A:Nat.beq n 0 with
   | true=>rw [A] at z;cases z
   | false =>
    rw [A] at z
    refine cq h (x := .ptr t (U+off)) ⟨hd,?_⟩ (M off n g _ N A e) z
    rw [add_plain]
  ·rename_i off n g t i U N V;rw [V] at O
   obtain ⟨hd,h0,gb,m,cap,e1,e2,e⟩:_/\_/\∃ g n cap,_/\_/\a.eval x = .pointer (some _):=O
   cases A:Nat.beq n 0 with
   | true=>rw [A] at z;cases z
   | false =>
    rw [A] at z
    refine cq h (x := .el t i (U+off)) ⟨hd,h0,gb,m,cap,e1,e2,?_⟩ (M off n g _ N A e) z
    rw [add_plain,Nat.add_assoc]
  ·rename_i off n g el l ad i U N V;rw [V] at O
   obtain ⟨T',p,e1,e,e2⟩:∃ T p,_/\a.eval x = .pointer (some p)/\_:=O
   cases A:Nat.beq n 0 with
   | true=>rw [A] at z;cases z
   | false =>
    rw [A] at z
    refine cq h (x := .rl el l ad i (U+off)) ⟨T',_,e1,rfl,fun j k hj => ?_⟩ (M off n g _ N A e) z
    rw [Nat.add_assoc] at hj
    obtain ⟨u,W,h2,X⟩:=e2 (off+j) k hj
    exact ⟨u,by rw [eK];exact W,by rw [add_add];exact h2,by rw [Nat.add_assoc];exact X⟩
  ·cases z
 ·cases z
theorem Gm {b:ByteArray} {i:Int} (j:0<=i) (m:i<b.size):∃ u:UInt8,b[i.toNat]? = some u/\(u.toNat:Int)=dP b i:=by
 have f:i.toNat<b.size:=by omega
 exact ⟨b[i.toNat],by simp [f],by unfold dP;rw [dif_pos f]⟩
theorem e8 {i n:Int} {k:Option R} (h:dW i n k=some r):0<=i/\i<n/\k=some r:=by
 obtain ⟨f,j⟩:=c9 h
 simp at f
 exact ⟨f.1,f.2,j⟩
theorem kf {x y n:Int} {k:Option R} (h:ij x y n k=some r):0<=x/\x<=y/\y<=n/\k=some r:=by
 obtain ⟨f,j⟩:=c9 h
 simp at f
 exact ⟨f.1,f.2.1,f.2.2,j⟩
theorem gH {T:Nat->Option TI} (j:Ok P T) {t:Nat} {f:TI} (m:T t=some f) (h:mA f=true):P.underlying t=some .string:=by
 unfold mA at h;simp at h
 exact (j.ty t f m).str h.1 h.2
theorem gf {C:Cfg R} {T:TI} {k:LK} (h:ph C T=some k):T.agg=true/\T.flds=[]/\T.elem≠0/\∃ D,C.ty T.elem=some D/\D.lv=[k]/\D.agg=false/\k.flat=true/\T.lv=List.replicate T.sz k/\T.sz<=1000000:=by
 unfold ph at h
 cases f:(T.agg&&(T.flds.isEmpty && !(Nat.beq T.elem 0))) with
 | false=>rw [f] at h;cases h
 | true =>
  rw [f] at h;simp only [cond_true] at h
  simp only [Bool.and_eq_true,Bool.not_eq_true'] at f
  split at h
  ·rename_i D u
   split at h
   ·rename_i m z
    cases j:(!D.agg&&(m.flat&&(decide (T.lv=List.replicate T.sz m)&&decide (T.sz<=1000000)))) with
    | false=>rw [j] at h;cases h
    | true =>
     rw [j] at h;simp only [cond_true,Option.some.injEq] at h;subst h
     simp only [Bool.and_eq_true,Bool.not_eq_true',decide_eq_true_eq] at j
     exact ⟨f.1,List.isEmpty_iff.1 f.2.1,fun e=>by rw [e] at f;simp at f,D,u,z,j.1,j.2.1,j.2.2.1,j.2.2.2⟩
   ·cases h
  ·cases h
theorem oA {agg:Bool} {sz:Nat} {i:Int} {κ:SV->Option R}:∀ {n:Nat} {l:List SV} {j:Nat},lH agg sz n l j i κ=some r->∃ m,i=((j+m:Nat):Int)/\m<n/\∃ v,whole agg sz (sub l (m*sz) sz)=some v/\κ v=some r
 | 0,_,_,h=>by cases h
 | n+1,l,j,h=>by
  unfold lH at h
  by_cases e:i=(j:Int)
  ·subst e
   simp only [BEq.rfl,cond_true] at h
   split at h
   ·rename_i v f
    exact ⟨0,by simp,by omega,v,by simpa [sub] using f,h⟩
   ·cases h
  ·have:(i == (j:Int))=false:=by simpa using e
   rw [this] at h
   obtain ⟨m,u,M,v,z,A⟩:=oA h
   refine ⟨m+1,by rw [u];congr 1;omega,by omega,v,?_,A⟩
   rw [<- z];unfold sub;rw [List.drop_drop];congr 3;rw [Nat.add_mul];omega
theorem jd {T:Nat->Option TI} (j:Ok P T) {t:Nat} {f:TI} (m:T t=some f) (u:f.agg=true) (A:f.flds=[]) (M:f.elem≠0) {D:TI} (N:T f.elem=some D):∃ n:Nat,P.underlying t=some (.array n f.elem)/\n*D.sz=f.sz:=by
 obtain ⟨n,i,g1,g2,g3⟩:=(j.ty t f m).arr u A M
 obtain ⟨O,z,k1,k2,_⟩:=(j.ty _ D N).info
 rw [g2] at k1;cases k1
 exact ⟨n,g1,by rw [<- k2];exact g3⟩
theorem CD {c:Cx} {st:Bool} {k:LK} {v:Value} {a:AV} {Q:Nat->Prop} (f:k.flat=true) (h:ej c.T c.w Q k v a):SL c (eta st k a) v:=by
 cases h with
 | int k a=>rfl
 | bool a=>rfl
 | str a=>rfl
 | slnil e a h=>simp [LK.flat] at f
 | sl=>simp [LK.flat] at f
theorem xT {C:Cfg R} {q:Bool} (N:Ok P C.ty) (hE:E.T=C.ty) (h:Rel E s a w β Rt Ra) {t:Nat} {x i:Operand} (ho:o.op = .index t x i) (f:eL C q o s κ=some r):eG P E o a w κ r:=by
 unfold eL at f;rw [ho] at f;simp only at f
 have A:=ck h x;have hi:=ck h i
 split at f
 ·rename_i T b k n hT e1 e2
  rw [e1] at A;rw [e2] at hi
  have ex:=jy A;have ei:=fg hi
  cases z:mA T with
  | false=>rw [z] at f;cases f
  | true =>
   rw [z] at f
   obtain ⟨h0,h1,f⟩:=e8 f
   obtain ⟨u,ae,ap⟩:=Gm h0 h1
   refine cq h (x := .int .u8 (dP b n)) rfl ?_ f
   unfold execOp;rw [ho]
   simp [Instr.index,ex,ei,asIntOf,run_underlying (gH N hT z),h0,ae,ap]
 ·rename_i T e m l k n hT e1 e2
  rw [e1] at A;rw [e2] at hi
  have ei:=fg hi
  split at f
  ·rename_i k' ar
   obtain ⟨a1,a2,a3,D,M,a4,a5,a6,a7⟩:=gf ar
   cases z:(Nat.beq e T.elem&&Nat.beq m T.sz) with
   | false=>rw [z] at f;cases f
   | true =>
    rw [z] at f;simp only [cond_true] at f
    simp only [Bool.and_eq_true] at z
    have he:=Nat.eq_of_beq_eq_true z.1;have hl:=Nat.eq_of_beq_eq_true z.2
    subst he
    obtain ⟨h0,h1,f⟩:=e8 f
    obtain ⟨b0,D',cs,b1,b2,b3,b4,b5⟩:l.length=m/\∃ D' cs,E.T _=some D'/\D'.flat=true/\a.eval x = .agg cs/\cs.size=_/\RC E.T w _ D' l cs.toList:=A
    rw [hE,M] at b1;cases b1
    have X:D.sz=1:=by unfold TI.sz;rw [a4];rfl
    obtain ⟨len,hu,hm⟩:=jd N hT a1 a2 a3 M
    rw [X,Nat.mul_one] at hm b4
    have ad:n.toNat<cs.size:=by omega
    have U:=b5 n.toNat 0 k' (by omega) (by rw [a4];rfl) cs[n.toNat] (by rw [X];simp [ad])
    refine cq h (x:=eta true k' (bi l n)) (v:=cs[n.toNat]) ?_ ?_ f
    ·rw [a5] at U
     exact CD a6 U
    ·unfold execOp;rw [ho]
     have hn:n<(len:Int):=by omega
     have j:(part T.elem cs (n.toNat*1)).run P w = .ok cs[n.toNat] w:=by
      simp [part,gq (N.ty _ D M),a5,ad]
     simp only [Sem.run_bind,Instr.index,b3,ei,asIntOf,run_underlying hu,Result.andThen_ok,Sem.run_pure]
     simp only [h0,hn,and_self,if_true,Sem.run_bind,fA (N.ty _ D M),X,Result.andThen_ok,j]
  ·cases f
 ·rename_i T l k n hT e1 e2
  rw [e1] at A;rw [e2] at hi
  have ei:=fg hi
  obtain ⟨cs,e,ax⟩:=jx A
  cases z:(T.agg&&(T.flds.isEmpty && !(Nat.beq T.elem 0))) with
  | false=>rw [z] at f;cases f
  | true =>
   rw [z] at f;simp only [cond_true] at f
   simp only [Bool.and_eq_true,Bool.not_eq_true'] at z
   split at f
   ·rename_i D M
    cases O:(!(Nat.beq D.sz 0)&&Nat.beq l.length T.sz) with
    | false=>rw [O] at f;cases f
    | true =>
     rw [O] at f;simp only [cond_true] at f
     simp only [Bool.and_eq_true,Bool.not_eq_true'] at O
     have hl:=Nat.eq_of_beq_eq_true O.2
     obtain ⟨m,h1,h2,v,hv,f⟩:=oA f
     obtain ⟨len,hu,hlen⟩:=jd N hT z.1 (List.isEmpty_iff.1 z.2.1) (fun e=>by rw [e] at z;simp at z) M
     obtain ⟨bk,A⟩:=iS hv (xn ax (m*D.sz) D.sz)
     have V:0<D.sz:=(N.ty _ D M).pos
     have bs:m<len:=by
      rw [hl,<- hlen,Nat.mul_div_cancel _ V] at h2;exact h2
     have W:(execOp a.eval o).run P w=((part T.elem cs (m*D.sz)).run P w).andThen fun v w => .ok (.value v) w:=by
      unfold execOp;rw [ho]
      have a8:0<=n:=by omega
      have hn:n<(len:Int):=by omega
      have bb:n.toNat=m:=by omega
      simp only [Sem.run_bind,Instr.index,e,ei,asIntOf,run_underlying hu,Result.andThen_ok,Sem.run_pure]
      simp only [a8,hn,and_self,if_true,Sem.run_bind,fA (N.ty _ D M),Result.andThen_ok,bb]
     rcases A with ⟨hg,A⟩|⟨hg,u,be,A⟩
     ·refine fP h A ?_ f
      rw [W]
      have j:(part T.elem cs (m*D.sz)).run P w = .ok (.agg ((cs.toList.drop (m*D.sz)).take D.sz).toArray) w:=by
       simp only [part,Sem.run_bind,gq (N.ty _ D M),hg,Result.andThen_ok,if_true,fA (N.ty _ D M),Sem.run_pure]
       congr 2
       apply Array.ext'
       simp [List.take_drop,Nat.add_comm]
      rw [j];rfl
     ·refine fP h A ?_ f
      rw [W]
      have j:(part T.elem cs (m*D.sz)).run P w = .ok u w:=by
       have Y:cs[m*D.sz]? = some u:=by
        have:((cs.toList.drop (m*D.sz)).take D.sz)[0]? = some u:=by rw [be];rfl
        rw [List.getElem?_take,if_pos V] at this
        simpa using this
       simp [part,gq (N.ty _ D M),hg,Y]
      rw [j];rfl
   ·cases f
 ·cases f
theorem uh {C:Cfg R} {q:Bool} (h:Rel E s a w β Rt Ra) {x:Operand} {j:Nat} (z:o.op = .extract x j) (f:eL C q o s κ=some r):eG P E o a w κ r:=by
 unfold eL at f;rw [z] at f;simp only at f
 have A:=ck h x
 split at f
 ·rename_i l e
  rw [e] at A
  obtain ⟨vs,ev,M⟩:=Gi A
  by_cases m:j<l.length
  ·simp only [m,decide_true,cond_true] at f
   have u:j<vs.toList.length:=by rw [<- M.len];exact m
   have g:vs.toList[j]? = some vs.toList[j]:=List.getElem?_eq_getElem u
   have g1:l[j]? = some l[j]:=List.getElem?_eq_getElem m
   have:=M.get g1 g
   refine fP h (x:=fc l j) (v:=vs.toList[j]) (by rw [ud,List.getD_eq_getElem?_getD,g1];exact this) ?_ f
   have g2:vs[j]? = some vs.toList[j]:=by rw [<- Array.getElem?_toList];exact g
   unfold execOp;rw [z]
   simp only [ev,Instr.extract,g2,Sem.run_bind];rfl
  ·simp [m] at f
 ·cases f
end
end Go.Proofs.Ab
namespace Go.Proofs.Ab
open Go
variable {R:Type}
section
variable {P:Program} {E:Env} {o:Oper} {s:St} {a:Act} {w:World} {β:Nat->Bl} {Rt Ra:Nat->Prop} {κ:St->Option R} {r:R}
theorem xY {i n j m:Nat} (f:i<n) (u:j<m):i*m+j<n*m:=by
 have:(i+1)*m<=n*m:=Nat.mul_le_mul_right m f
 rw [Nat.add_mul] at this
 omega
theorem EI {c:Cx} {st:Bool} {T:TI} {l:List AV} {cs:List Value} (m:RC c.T c.w (c.Q st) T l cs) (hlen:cs.length=l.length*T.sz) {i:Nat} (z:i<l.length) :
  PW (SL c) (lq st T.agg (l.getD i .no) 0 T.lv) ((cs.drop (i*T.sz)).take T.sz):=by
 refine PW.yq ?_ fun q x v f j => ?_
 ·rw [mj,length_take,length_drop,hlen]
  have:(i+1)*T.sz<=l.length*T.sz:=Nat.mul_le_mul_right _ z
  rw [Nat.add_mul] at this
  show T.sz=_
  omega
 ·rw [mi,Nat.zero_add] at f
  rw [List.getElem?_take] at j
  cases u:T.lv[q]? with
  | none=>rw [u] at f;cases f
  | some k =>
   rw [u] at f;simp only [Option.map_some] at f;cases f
   split at j
   ·rw [List.getElem?_drop] at j
    exact sd (m i q k z u v j)
   ·cases j
theorem gm {w:World} {arr:Bool} {e size n:Nat} {g n' cap:Nat} {xs:List Value} (h:fx w arr e size (.slice (some ⟨g,0,none⟩) n' cap) n xs) (j:Nat) (v:Value) (u:xs[j]? = some v):w.cell? ⟨g,j,none⟩=some v:=by
 obtain ⟨hlen,m⟩:=h
 rcases m with ⟨m,_⟩|⟨W,A,z,q,M,m,_,N,_,O,U,V,f⟩
 ·cases m
 ·cases m
  rw [cell_of_row w g j z q M N]
  rw [<- f,List.getElem?_take] at u
  split at u
  ·simpa using u
  ·cases u
theorem fK {w:World} {arr:Bool} {e size n:Nat} {v:Value} {xs:List Value} (h:fx w arr e size v n xs):(v = .slice none 0 0/\n=0)∨∃ g cap,v = .slice (some ⟨g,0,none⟩) n cap/\n<=cap/\cap<=maxLen:=by
 rcases h.2 with ⟨f,u⟩|⟨g,cap,z,q,A,f,_,_,_,j,m,_⟩
 ·exact .inl ⟨f,u⟩
 ·exact .inr ⟨g,cap,f,j,m⟩
theorem jW {c:Cx} {b:Nat} {x:SV} {v:Value} (f:known x=true) (h:lS c b x v):SL c x v:=by
 unfold lS at h;split at h
 ·cases f
 ·exact h
theorem rN {c:Cx} {b:Nat} {x:SV} {v:Value} (f:known x=true) (h:SL c x v):lS c b x v:=by
 unfold lS;split
 ·cases f
 ·exact h
theorem AW {C:Cfg R} {q:Bool} (hP:Ok P C.ty) (hE:E.T=C.ty) (h:Rel E s a w β Rt Ra) {t:Nat} {x:Operand} (ho:o.op = .load t x) (O:eL C q o s κ=some r):eG P E o a w κ r:=by
 unfold eL at O;rw [ho] at O;simp only at O
 have Y:=ck h x
 split at O
 ·rename_i T hT
  have ht:=hP.ty t T hT
  have fin:∀ (l:List SV) (y:SV) (cs:List Value) (p:Addr),whole T.agg T.sz l=some y->PW (SL (bI E s w β Rt Ra)) l cs->(∀ (j:Nat) v,cs[j]? = some v->w.cell? (p.add j)=some v)->a.eval x = .pointer (some p)->κ (s.put o.dst y)=some r->eG P E o a w κ r:=by
   intro l y cs p hw f ad e O
   obtain ⟨v,hr,N⟩:=lc ht hw f ad
   exact fP h N (by unfold execOp;rw [ho];simp only [Sem.run_bind,e,hr];rfl) O
  split at O
  ·rename_i y f
   unfold loadAt at f
   split at f
   ·rename_i k off ek;rw [ek] at Y
    obtain ⟨hd,e⟩:_/\a.eval x = .pointer (some _):=Y
    split at f
    ·rename_i ty ls W
     obtain ⟨cs,qq,hg,ae⟩:=h.objs k _ W
     cases ap:(sub ls off T.sz).all known with
     | false=>rw [ap] at f;cases f
     | true =>
      rw [ap] at f;simp only [cond_true] at f
      have bb:PW (SL (bI E s w β Rt Ra)) (sub ls off T.sz) ((cs.toList.drop off).take T.sz):=
       PW.imp_mem (fun z hz v N=>jW (List.all_eq_true.mp ap z hz) N) ((ae.drop off).take T.sz)
      refine fin _ _ _ ⟨(β k).b,off,none⟩ f bb (fun j v A => ?_) e O
      rw [add_plain,cell_of_row w _ _ cs _ (0,0) hg]
      rw [List.getElem?_take] at A
      split at A
      ·rw [List.getElem?_drop] at A;simpa using A
      ·cases A
    ·cases f
   ·rename_i k i off ek;rw [ek] at Y
    obtain ⟨hd,h0,g,n,cap,e1,e2,e⟩:_/\_/\∃ g n cap,(β k).v=_/\_/\a.eval x = .pointer (some _):=Y
    split at f
    ·rename_i el l st W
     obtain ⟨X,cs,U,be,m,ax⟩:=h.objs k _ W
     have M:C.ty el=some X:=by rw [<- hE];exact U
     rw [M] at f;simp only at f
     rw [e1] at m
     have hn:n=l.length:=by
      rcases fK m with ⟨N,_⟩|⟨_,_,N,_⟩
      ·cases N
      ·cases N;rfl
     have hi:i.toNat<l.length:=by omega
     have ae:=EI (c:=bI E s w β Rt Ra) ax m.1 hi
     refine fin _ _ _ ⟨g,i.toNat*(β k).sz+off,none⟩ f (xn ae off T.sz) (fun j v A => ?_) e O
     rw [add_plain]
     rw [List.getElem?_take] at A
     split at A
     ·rw [List.getElem?_drop,List.getElem?_take] at A
      split at A
      ·rw [List.getElem?_drop] at A
       have:=gm m _ v A
       rw [be,Nat.add_assoc]
       exact this
      ·cases A
     ·cases A
    ·cases f
   ·rename_i el l st i off ek;rw [ek] at Y
    obtain ⟨X,p,U,e,e2⟩:∃ T p,_/\a.eval x = .pointer (some p)/\_:=Y
    have M:C.ty el=some X:=by rw [<- hE];exact U
    rw [M] at f;simp only at f
    have hlen:(sub (lq st X.agg (bi l i) 0 X.lv) off T.sz).length=T.sz:=by
     unfold whole at f
     cases hb:Nat.beq (sub (lq st X.agg (bi l i) 0 X.lv) off T.sz).length T.sz with
     | false=>rw [hb] at f;cases f
     | true=>exact Nat.eq_of_beq_eq_true hb
    have hle:∀ j,j<T.sz->∃ k,X.lv[off+j]? = some k:=by
     intro j A
     unfold sub at hlen
     rw [length_take,length_drop,mj] at hlen
     have:off+j<X.lv.length:=by omega
     exact ⟨_,List.getElem?_eq_getElem this⟩
    refine fin _ _ ((List.range T.sz).map fun j=>(w.cell? (p.add j)).getD undef) p f (PW.yq (by rw [hlen];simp) fun j y v hy N => ?_) (fun j v A => ?_) e O
    ·have A:j<T.sz:=by rw [<- hlen];exact (List.getElem?_eq_some_iff.mp hy).1
     obtain ⟨k,V⟩:=hle j A
     obtain ⟨u,h1,h2,h3⟩:=e2 j k V
     have bS:v=u:=by
      rw [List.getElem?_map,List.getElem?_range A] at N
      simp only [Option.map_some,Option.some.injEq] at N
      rw [<- N];show (w.cell? (p.add j)).getD undef=u
      have a8:w.cell? (p.add j)=some u:=h2
      rw [a8];rfl
     subst bS
     unfold sub at hy
     rw [List.getElem?_take,if_pos A,List.getElem?_drop,mi,V,Nat.zero_add] at hy
     simp only [Option.map_some,Option.some.injEq] at hy
     subst hy
     exact sd h3
    ·have bk:j<T.sz:=by
      have:=(List.getElem?_eq_some_iff.mp A).1
      simpa using this
     obtain ⟨k,V⟩:=hle j bk
     obtain ⟨u,h1,h2,h3⟩:=e2 j k V
     rw [List.getElem?_map,List.getElem?_range bk] at A
     simp only [Option.map_some,Option.some.injEq] at A
     have a8:w.cell? (p.add j)=some u:=h2
     rw [a8] at A ⊢
     exact congrArg some A
   ·rename_i k n ek;rw [ek] at Y
    obtain ⟨hd,g,cap,e1,e⟩:_/\∃ g cap,(β k).v=_/\a.eval x = .pointer (some _):=Y
    split at f
    ·rename_i el l st W
     split at f
     ·rename_i kk V
      obtain ⟨a1,a2,a3,D,hD,a4,a5,a6,a7⟩:=gf V
      cases hb:(Nat.beq el T.elem&&Nat.beq n T.sz) with
      | false=>rw [hb] at f;cases f
      | true =>
       rw [hb] at f;simp only [cond_true,Option.some.injEq] at f;subst f
       simp only [Bool.and_eq_true] at hb
       have he:=Nat.eq_of_beq_eq_true hb.1;have bV:=Nat.eq_of_beq_eq_true hb.2
       subst he
       obtain ⟨X,cs,U,be,m,ax⟩:=h.objs k _ W
       have M:C.ty T.elem=some X:=by rw [<- hE];exact U
       rw [hD] at M;cases M
       rw [e1] at m
       have hlen:=m.1
       have bs:n=l.length:=by
        rcases fK m with ⟨N,_⟩|⟨_,_,N,_⟩
        ·cases N
        ·cases N;rfl
       have bx:D.sz=1:=by unfold TI.sz;rw [a4];rfl
       have bP:D.flat=true:=by unfold TI.flat;rw [a4];simp [a6]
       refine cq h (x := .ar T.elem n l) (v := .agg cs.toArray) ⟨bs.symm,D,cs.toArray,U,bP,rfl,by simp [hlen],?_⟩ ?_ O
       ·exact RC.flat bP (by simpa using ax)
       ·have:=run_loadCells_list (P:=P) w ⟨g,0,none⟩ cs (fun j v A=>by rw [add_plain,Nat.zero_add];exact gm m j v A)
        rw [hlen,bx,Nat.mul_one,<- bs,bV] at this
        unfold execOp;rw [ho]
        simp [e,Instr.loadAt,Instr.sureAddr,loadVar,gq ht,a1,fA ht,this]
     ·cases f
    ·cases f
   ·cases f
  ·cases O
 ·cases O
theorem pW {C:Cfg R} {q:Bool} (hP:Ok P C.ty) (hE:E.T=C.ty) (h:Rel E s a w β Rt Ra) {t:Nat} {x i:Operand} (ho:o.op = .indexAddr t x i) (f:eL C q o s κ=some r):eG P E o a w κ r:=by
 unfold eL at f;rw [ho] at f;simp only at f
 have hc:=ck h x;have hi:=ck h i
 split at f
 ·rename_i S hS
  cases ar:S.sl with
  | false =>
   rw [ar] at f;simp only [Bool.not_false,cond_true] at f
   split at f
   ·rename_i kk k m ki n ax ek ei
    obtain ⟨a1,a2,a3,D,hD,a4,a5,a6,a7⟩:=gf ax
    rw [ek] at hc;rw [ei] at hi
    have e3:=fg hi
    obtain ⟨hd,g,cap,e1,e⟩:_/\∃ g cap,(β k).v=_/\a.eval x = .pointer (some _):=hc
    split at f
    ·rename_i el l st W
     cases z:(Nat.beq el S.elem&&Nat.beq m S.sz) with
     | false=>rw [z] at f;cases f
     | true =>
      rw [z] at f;simp only [cond_true] at f
      simp only [Bool.and_eq_true] at z
      have he:=Nat.eq_of_beq_eq_true z.1;have bk:=Nat.eq_of_beq_eq_true z.2
      subst he
      obtain ⟨V,h1,f⟩:=e8 f
      obtain ⟨U,cs,M,X,N,bb⟩:=h.objs k _ W
      have O:C.ty S.elem=some U:=by rw [<- hE];exact M
      rw [hD] at O;cases O
      obtain ⟨len,hu,hlen⟩:=jd hP hS a1 a2 a3 hD
      have A:D.sz=1:=by unfold TI.sz;rw [a4];rfl
      rw [A,Nat.mul_one] at hlen
      rw [e1] at N
      have hm:m=l.length:=by
       rcases fK N with ⟨hv,_⟩|⟨_,_,hv,_⟩
       ·cases hv
       ·cases hv;rfl
      refine cq h (x := .el k n 0) (v := .pointer (some ⟨g,n.toNat*1,none⟩)) ⟨hd,V,g,m,cap,e1,by omega,by show _=Value.pointer (some ⟨g,n.toNat*(β k).sz+0,none⟩);rw [X,A,Nat.add_zero]⟩ ?_ f
      have hn:n<(len:Int):=by omega
      unfold execOp;rw [ho]
      simp [Instr.indexAt,e3,asIntOf,run_underlying hu,e,Instr.sureAddr,V,hn,fA (hP.ty _ D hD),A,add_plain]
    ·cases f
   ·rename_i kk el m l st ki n ax ek ei
    obtain ⟨a1,a2,a3,D,hD,a4,a5,a6,a7⟩:=gf ax
    rw [ek] at hc;rw [ei] at hi
    have e3:=fg hi
    obtain ⟨b0,D',p,b1,e,b2⟩:l.length=m/\∃ E p,_/\a.eval x = .pointer (some p)/\_:=hc
    cases z:(Nat.beq el S.elem&&Nat.beq m S.sz) with
    | false=>rw [z] at f;cases f
    | true =>
     rw [z] at f;simp only [cond_true] at f
     simp only [Bool.and_eq_true] at z
     have he:=Nat.eq_of_beq_eq_true z.1;have bk:=Nat.eq_of_beq_eq_true z.2
     subst he
     obtain ⟨V,h1,f⟩:=e8 f
     have O:C.ty S.elem=some D':=by rw [<- hE];exact b1
     rw [hD] at O;cases O
     obtain ⟨len,hu,hlen⟩:=jd hP hS a1 a2 a3 hD
     have A:D.sz=1:=by unfold TI.sz;rw [a4];rfl
     rw [A,Nat.mul_one] at hlen
     refine cq h (x := .rl S.elem l st n 0) (v := .pointer (some (p.add (n.toNat*1)))) ⟨D,p.add (n.toNat*1),b1,rfl,fun j k hj => ?_⟩ ?_ f
     ·obtain ⟨u,q1,q2,q3⟩:=b2 n.toNat j k (by omega) (by rw [Nat.zero_add] at hj;exact hj)
      exact ⟨u,by rw [eK];exact q1,by rw [add_add];rw [A] at q2;exact q2,by rw [Nat.zero_add];exact q3⟩
     ·have hn:n<(len:Int):=by omega
      unfold execOp;rw [ho]
      simp [Instr.indexAt,e3,asIntOf,run_underlying hu,e,Instr.sureAddr,V,hn,fA (hP.ty _ D hD),A]
   ·cases f
  | true =>
   rw [ar] at f;simp only [Bool.not_true,cond_false] at f
   have hu:=(hP.ty t S hS).slice ar
   split at f
   ·rename_i T ki n hT ei
    rw [ei] at hi
    have e3:=fg hi
    have Y:∀ (ad:Addr) (len cap:Nat),a.eval x = .slice (some ad) len cap->0<=n->n<len->(execOp a.eval o).run P w = .ok (.value (.pointer (some (ad.add (n.toNat*T.sz))))) w:=by
     intro ad len cap e V h1
     unfold execOp;rw [ho]
     simp [Instr.indexAt,e3,asIntOf,run_underlying hu,e,V,h1,fA (hP.ty _ T hT)]
    split at f
    ·rename_i k ek;rw [ek] at hc
     obtain ⟨hd,e,_⟩:_/\a.eval x=_/\_:=hc
     split at f
     ·rename_i el l st W
      cases z:(Nat.beq el S.elem && !(Nat.beq T.sz 0)) with
      | false=>rw [z] at f;cases f
      | true =>
       rw [z] at f;simp only [cond_true] at f
       have ae:el=S.elem:=by simp at z;exact z.1
       obtain ⟨V,h1,f⟩:=e8 f
       obtain ⟨U,cs,M,X,N,bb⟩:=h.objs k _ W
       have ap:U=T:=by
        have:C.ty el=some U:=by rw [<- hE];exact M
        rw [ae,hT] at this;cases this;rfl
       subst ap
       rcases fK N with ⟨_,hn⟩|⟨g,cap,hv,b3,b4⟩
       ·omega
       ·refine cq h (x := .el k n 0) ⟨hd,V,g,_,cap,hv,h1,rfl⟩ ?_ f
        rw [Y ⟨g,0,none⟩ l.length cap (e.trans hv) V h1,add_plain,Nat.zero_add,Nat.add_zero,<- X];rfl
     ·cases f
    ·rename_i k lo b5 ek;rw [ek] at hc
     obtain ⟨hd,l0,l1,hv⟩:_/\_/\_/\(_∨_):=hc
     split at f
     ·rename_i el l st W
      cases z:(Nat.beq el S.elem && !(Nat.beq T.sz 0)) with
      | false=>rw [z] at f;cases f
      | true =>
       rw [z] at f;simp only [cond_true] at f
       have ae:el=S.elem:=by simp at z;exact z.1
       obtain ⟨V,h1,f⟩:=e8 f
       obtain ⟨U,cs,M,X,N,bb⟩:=h.objs k _ W
       have ap:U=T:=by
        have:C.ty el=some U:=by rw [<- hE];exact M
        rw [ae,hT] at this;cases this;rfl
       subst ap
       rcases hv with ⟨_,hh,_⟩|⟨g,m,cap,ad,e1,e2,e4,e5⟩
       ·omega
       ·have bs:=e5 (by omega)
        refine cq h (x := .el k (lo+n) 0) ⟨hd,by omega,g,_,cap,e1,by omega,rfl⟩ ?_ f
        rw [Y ad _ _ e4 V (by omega),bs,add_plain,Nat.add_zero]
        show Result.ok (Next.value (.pointer (some ⟨g,lo.toNat*(β k).sz+n.toNat*U.sz,none⟩))) w=Result.ok (Next.value (.pointer (some ⟨g,(lo+n).toNat*(β k).sz,none⟩))) w
        rw [show (lo+n).toNat=lo.toNat+n.toNat by omega,Nat.add_mul,X]
     ·cases f
    ·rename_i el l st ek;rw [ek] at hc
     cases z:(Nat.beq el S.elem && !(Nat.beq T.sz 0)) with
     | false=>rw [z] at f;cases f
     | true =>
      rw [z] at f;simp only [cond_true] at f
      have ae:el=S.elem:=by simp at z;exact z.1
      obtain ⟨V,h1,f⟩:=e8 f
      have hr:ej E.T w ((bI E s w β Rt Ra).Q st) (.sl el) (a.eval x) (.sl l):=hc
      generalize bx:a.eval x=v at hr
      cases hr with
      | slnil _ _ hl=>simp only [AV.l] at hl;subst hl;simp at h1;omega
      | sl _ U ad m c _ cs M h2 b' bV h3 h4 h5 =>
       have ap:U=T:=by
        have:C.ty el=some U:=by rw [<- hE];exact M
        rw [ae,hT] at this;cases this;rfl
       subst ap
       simp only [AV.l] at h2;subst h2
       refine cq h (x := .rl el l st n 0) ⟨U,_,M,rfl,fun j k hj => ?_⟩ (Y ad _ _ bx V h1) f
       rw [Nat.zero_add] at hj ⊢
       have bP:j<U.sz:=(List.getElem?_eq_some_iff.mp hj).1
       have bS:n.toNat*U.sz+j<cs.length:=by rw [h3];exact xY (by omega) bP
       have be:cs[n.toNat*U.sz+j]? = some cs[n.toNat*U.sz+j]:=List.getElem?_eq_getElem bS
       obtain ⟨hq,a8⟩:=h4 _ _ be
       exact ⟨_,by rw [eK];exact hq,by rw [add_add];exact a8,h5 n.toNat j k (by omega) hj _ be⟩
    ·cases f
   ·cases f
 ·cases f
end
end Go.Proofs.Ab
namespace Go.Proofs.Ab
open Go
variable {R:Type}
section
variable {P:Program} {E:Env} {o:Oper} {s:St} {a:Act} {w:World} {β:Nat->Bl} {Rt Ra:Nat->Prop} {κ:St->Option R} {r:R}
def oZ (a:Act) (x:Option Operand) (y d:Int):Prop:=(x=none/\y=d)∨∃ z k,x=some z/\a.eval z = .int k y
theorem ir {P:Program} {w:World} {b:Bool} {len cap:Nat} {A M:Option Operand} {x y:Int} (m:oZ a A x 0) (f:oZ a M y len) (N:0<=x) (O:x<=y) (U:y<=cap) (_h3:len<=cap) :
  (Instr.sliceBounds b len cap (A.map a.eval) (M.map a.eval) none).run P w = .ok (x.toNat,y.toNat,cap) w:=by
 have hy:(y.toNat:Int)=y:=Int.toNat_of_nonneg (by omega)
 have j:0<=y:=by omega
 rcases m with ⟨rfl,rfl⟩|⟨z,k,rfl,e⟩
 ·rcases f with ⟨rfl,rfl⟩|⟨V,W,rfl,u⟩
  ·simp [Instr.sliceBounds]
  ·simp [Instr.sliceBounds,u,run_sliceBound,j,U]
 ·rcases f with ⟨rfl,rfl⟩|⟨V,W,rfl,u⟩
  ·simp [Instr.sliceBounds,e,run_sliceBound,N,O]
  ·simp [Instr.sliceBounds,e,u,run_sliceBound,N,O,j,U,hy]
theorem AA (h:Rel E s a w β Rt Ra) {x:SV} {u z:Option Operand} {p:Int × Int} (f:bounds s x u z=some p):∃ n,mE s x=some n/\oZ a u p.1 0/\oZ a z p.2 n:=by
 unfold bounds at f
 split at f
 ·cases f
 ·rename_i n N
  refine ⟨n,N,?_⟩
  split at f
  ·cases f;exact ⟨.inl ⟨rfl,rfl⟩,.inl ⟨rfl,rfl⟩⟩
  ·rename_i j
   split at f
   ·rename_i k m e;cases f
    have:=ck h j;rw [e] at this
    exact ⟨.inr ⟨_,k,rfl,this⟩,.inl ⟨rfl,rfl⟩⟩
   ·cases f
  ·rename_i j
   split at f
   ·rename_i k m e;cases f
    have:=ck h j;rw [e] at this
    exact ⟨.inl ⟨rfl,rfl⟩,.inr ⟨_,k,rfl,this⟩⟩
   ·cases f
  ·rename_i j O
   split at f
   ·rename_i k m U m' e V;cases f
    have A:=ck h j;rw [e] at A
    have M:=ck h O;rw [V] at M
    exact ⟨.inr ⟨_,k,rfl,A⟩,.inr ⟨_,U,rfl,M⟩⟩
   ·cases f
theorem vB (l:List AV) (j m:Int) (i:Nat) (u:0<=j) (f:i<(iF l j m).length):(iF l j m).getD i .no=l.getD (j.toNat+i) .no:=by
 unfold iF at f ⊢
 rw [List.getD_eq_getElem?_getD,List.getD_eq_getElem?_getD,List.getElem?_drop,List.getElem?_take]
 rw [length_drop,length_take] at f
 rw [if_pos (by omega)]
theorem uw (l:List AV) (f j:Int) (m:0<=f) (u:f<=j) (z:j<=l.length):(iF l f j).length=(j-f).toNat:=by
 unfold iF;rw [length_drop,length_take];omega
theorem ej.cut {T:Nat->Option TI} {Q:Nat->Prop} {el:Nat} {l:List AV} {x y:Int} (U:0<=x) (Y:x<=y) (h2:y<=l.length) {u:Addr} {n c:Nat} {D:TI} (z:T el=some D) (h:ej T w Q (.sl el) (.slice (some u) n c) (.sl l)) :
  ej T w Q (.sl el) (.slice (if c=x.toNat then some u else some (u.add (x.toNat*D.sz))) (y.toNat-x.toNat) (c-x.toNat)) (.sl (iF l x y)):=by
 cases h with
 | sl _ T' _ _ _ _ cs m A V M h3 h4 W =>
  rw [z] at m;cases m
  simp only [AV.l] at A W
  have hlen:=uw l x y U Y h2
  have N:y.toNat-x.toNat=(iF l x y).length:=by rw [hlen];omega
  by_cases X:c=x.toNat
  ·rw [if_pos X]
   have O:(iF l x y).length=0:=by rw [hlen];omega
   refine .sl el D u _ _ _ [] z N (by omega) (by omega) (by rw [N,O];simp) (fun j v f=>by simp at f) (fun i j k hi=>by omega)
  ·rw [if_neg X]
   refine .sl el D _ _ _ _ ((cs.take (y.toNat*D.sz)).drop (x.toNat*D.sz)) z N (by omega) (by omega) ?_ (fun j v f => ?_) (fun i j k hi hk v f => ?_)
   ·rw [length_drop,length_take,h3]
    have:y.toNat*D.sz<=n*D.sz:=Nat.mul_le_mul_right _ (by omega)
    rw [Nat.min_eq_left this,Nat.sub_mul]
   ·rw [List.getElem?_drop,List.getElem?_take] at f
    split at f
    ·obtain ⟨q1,q2⟩:=h4 _ _ f
     exact ⟨by rw [eK];exact q1,by rw [add_add];exact q2⟩
    ·cases f
   ·rw [List.getElem?_drop,List.getElem?_take] at f
    split at f
    ·simp only [AV.l]
     rw [vB l x y i U (by omega)]
     refine W (x.toNat+i) j k (by omega) hk v ?_
     rw [Nat.add_mul,Nat.add_assoc];exact f
    ·cases f
theorem xV {C:Cfg R} {q:Bool} (X:Ok P C.ty) (hE:E.T=C.ty) (h:Rel E s a w β Rt Ra) {t:Nat} {x:Operand} {lo hi:Option Operand} (ho:o.op = .slice t x lo hi none) (f:eL C q o s κ=some r):eG P E o a w κ r:=by
 unfold eL at f;rw [ho] at f;simp only at f
 have hc:=ck h x
 split at f
 ·rename_i T A W hT hb
  obtain ⟨n,O,N,u⟩:=AA h hb
  simp only at N u
  cases z:Ah T (ev s x) with
  | false=>rw [z] at f;cases f
  | true =>
   rw [z] at f;simp only [Bool.not_true,cond_false] at f
   split at f
   ·rename_i bs e
    rw [e] at hc z O
    have ex:=jy hc
    have hu:=gH X hT z
    obtain ⟨g0,g1,g2,f⟩:=kf f
    simp only [mE,Option.some.injEq] at O;subst O
    refine cq h (x := .str (bs.extract A.toNat W.toNat)) rfl ?_ f
    have hr:=ir (P:=P) (w:=w) (b:=false) (len:=bs.size) (cap:=bs.size) N u g0 g1 g2 (Nat.le_refl _)
    unfold execOp;rw [ho]
    simp [Instr.sliceAt,Instr.slice,run_underlying hu,ex,hr]
   ·rename_i el l st e
    rw [e] at hc z O
    have hu:=(X.ty t T hT).slice z
    cases j:(Nat.beq el T.elem&&(C.ty el).isSome) with
    | false=>rw [j] at f;cases f
    | true =>
     rw [j] at f;simp only [cond_true] at f
     rw [Bool.and_eq_true] at j
     have Y:=Nat.eq_of_beq_eq_true j.1;subst Y
     obtain ⟨D,hD⟩:=Option.isSome_iff_exists.mp j.2
     obtain ⟨g0,g1,g2,f⟩:=kf f
     simp only [mE,Option.some.injEq] at O;subst O
     have hr:ej E.T w ((bI E s w β Rt Ra).Q st) (.sl T.elem) (a.eval x) (.sl l):=hc
     generalize ax:a.eval x=v at hr
     have a8:=hr
     cases hr with
     | slnil _ _ hl =>
      simp only [AV.l] at hl;subst hl
      simp only [List.length_nil] at g2 u
      have ae:A=0:=by omega
      have ap:W=0:=by omega
      subst ae;subst ap
      refine cq h (x := .ro T.elem (iF [] 0 0) st) (v := .slice none 0 0) (.slnil _ _ rfl) ?_ f
      have M:=ir (P:=P) (w:=w) (b:=true) (len:=0) (cap:=0) N u g0 g1 g2 (Nat.le_refl _)
      unfold execOp;rw [ho]
      simp [Instr.sliceAt,Instr.slice,run_underlying hu,ax,M,fA (X.ty _ D hD)]
     | sl _ U ad m c _ cs V h2 bb b2 h3 h4 h5 =>
      simp only [AV.l] at h2;subst h2
      have be:C.ty T.elem=some U:=by rw [<- hE];exact V
      have M:=ir (P:=P) (w:=w) (b:=true) (len:=l.length) (cap:=c) N u g0 g1 (by omega) bb
      refine cq h (x := .ro T.elem (iF l A W) st) (a8.cut g0 g1 g2 V) ?_ f
      unfold execOp;rw [ho]
      simp only [Instr.sliceAt,Instr.slice,Sem.run_bind,run_underlying hu,ax,Option.map_none,M,Result.andThen_ok,fA (X.ty _ U be),Sem.run_pure,Option.map_some]
   ·rename_i k e
    rw [e] at hc z O
    have hu:=(X.ty t T hT).slice z
    obtain ⟨hd,a1,_⟩:_/\a.eval x=_/\_:=hc
    split at f
    ·rename_i el l st a6
     cases j:(Nat.beq el T.elem&&(C.ty el).isSome) with
     | false=>rw [j] at f;cases f
     | true =>
      rw [j] at f;simp only [cond_true] at f
      rw [Bool.and_eq_true] at j
      have Y:=Nat.eq_of_beq_eq_true j.1;subst Y
      obtain ⟨D,hD⟩:=Option.isSome_iff_exists.mp j.2
      obtain ⟨g0,g1,g2,f⟩:=kf f
      simp only [mE,a6,Option.some.injEq] at O;subst O
      obtain ⟨U,cs,V,bk,a7,b3⟩:=h.objs k _ a6
      have bx:U=D:=by
       have:C.ty T.elem=some U:=by rw [<- hE];exact V
       rw [hD] at this;cases this;rfl
      subst bx
      rcases fK a7 with ⟨hv,bP⟩|⟨g,cap,hv,bS,b4⟩
      ·rw [bP] at g2 u
       have ae:A=0:=by omega
       have ap:W=0:=by omega
       subst ae;subst ap
       refine cq h (x := .vw k 0 0) (v := .slice none 0 0) ⟨hd,by omega,by omega,.inl ⟨hv,rfl,rfl⟩⟩ ?_ f
       have M:=ir (P:=P) (w:=w) (b:=true) (len:=0) (cap:=0) N u g0 g1 g2 (Nat.le_refl _)
       unfold execOp;rw [ho]
       have ar:a.eval x = .slice none 0 0:=a1.trans hv
       simp [Instr.sliceAt,Instr.slice,run_underlying hu,ar,M,fA (X.ty _ U hD)]
      ·have M:=ir (P:=P) (w:=w) (b:=true) (len:=l.length) (cap:=cap) N u g0 g1 (by omega) bS
       refine cq h (x := .vw k A W) (v := .slice (some (if cap=A.toNat then ⟨g,0,none⟩ else ⟨g,0+A.toNat*U.sz,none⟩)) (W.toNat-A.toNat) (cap-A.toNat)) ⟨hd,by omega,by omega,.inr ⟨g,l.length,cap,(if cap=A.toNat then ⟨g,0,none⟩ else ⟨g,0+A.toNat*U.sz,none⟩),hv,g2,?_,fun b5 => ?_⟩⟩ ?_ f
       ·rw [show (W-A).toNat=W.toNat-A.toNat by omega]
       ·rw [if_neg (by omega),Nat.zero_add];show _=(⟨g,A.toNat*(β k).sz,none⟩:Addr);rw [bk]
       ·unfold execOp;rw [ho]
        have ar:a.eval x = .slice (some ⟨g,0,none⟩) l.length cap:=a1.trans hv
        simp only [Instr.sliceAt,Instr.slice,Sem.run_bind,run_underlying hu,ar,Option.map_none,M,Result.andThen_ok,fA (X.ty _ U hD),Sem.run_pure,Option.map_some,add_plain]
        by_cases bV:cap=A.toNat <;> simp [bV]
    ·cases f
   ·cases f
 ·cases f
theorem fU {c:Call} {b:Builtin} (f:o.op = .call c) (j:c.callee = .builtin b):(execOp a.eval o).run P w=(builtin b c.argTypes o.type (c.args.map fun | .const _=>true|_=>false) (c.args.map a.eval)).run P w:=by
 unfold execOp;rw [f]
 simp only [resolve,j,Sem.run_bind,Sem.run_pure,Result.andThen_ok,invoke]
 rfl
theorem vc {c:Call} {x:Operand} (h:c.args.toList=[x]):c.args = #[x]:=by
 apply Array.ext';simpa using h
theorem lU {c:Call} {x y:Operand} (h:c.args.toList=[x,y]):c.args = #[x,y]:=by
 apply Array.ext';simpa using h
theorem CO {C:Cfg R} {q:Bool} (A:Ok P C.ty) (h:Rel E s a w β Rt Ra) {c:Call} (ho:o.op = .call c) (hb:c.callee = .builtin .len) {x:Operand} (hx:c.args.toList=[x]) (u:dV C q s o.dst .len c.args.toList c.argTypes.toList o.type κ=some r):eG P E o a w κ r:=by
 rw [hx] at u;unfold dV at u;simp only at u
 have O:=ck h x
 split at u
 ·rename_i t rest ht
  have j:c.argTypes[0]? = some t:=by
   rw [<- Array.getElem?_toList,ht];rfl
  split at u
  ·rename_i T n M z
   cases f:Ah T (ev s x) with
   | false=>rw [f] at u;cases u
   | true =>
    rw [f] at u;simp only [cond_true] at u
    refine cq h (x := .int .i64 n) (v := .int .i64 n) rfl ?_ u
    have go:∀ v,a.eval x=v->(Builtin.len_ c.argTypes o.type #[v]).run P w = .ok (.int .i64 n) w->(execOp a.eval o).run P w = .ok (.value (.int .i64 n)) w:=by
     intro v e V
     rw [fU ho hb,vc hx]
     simp only [builtin,map_toArray,map_cons,List.map_nil,e,Sem.run_bind,V];rfl
    generalize ap:ev s x=sx at O z f
    cases sx <;> simp only [mE] at z <;> try (cases z;done)
    case str b =>
     have ex:=jy O
     cases z
     refine go _ ex ?_
     simp [Builtin.len_,j,run_underlying (gH A M f),goInt]
    case nil =>
     cases z
     have ex:a.eval x = .slice none 0 0:=O
     refine go _ ex ?_
     simp [Builtin.len_,j,run_underlying ((A.ty t T M).slice f),goInt]
    case ro el l st =>
     cases z
     have V:ej E.T w ((bI E s w β Rt Ra).Q st) (.sl el) (a.eval x) (.sl l):=O
     generalize N:a.eval x=v at V
     cases V with
     | slnil _ _ hl =>
      simp only [AV.l] at hl;subst hl
      refine go _ N ?_
      simp [Builtin.len_,j,run_underlying ((A.ty t T M).slice f),goInt]
     | sl _ T' ad m cp _ cs W h2 ar ae h3 h4 h5 =>
      simp only [AV.l] at h2;subst h2
      refine go _ N ?_
      simp [Builtin.len_,j,run_underlying ((A.ty t T M).slice f),goInt]
    case own k =>
     obtain ⟨hd,ex,_⟩:_/\a.eval x=_/\_:=O
     split at z
     ·rename_i el l st X
      cases z
      obtain ⟨T',cs,W,ax,U,a1⟩:=h.objs k _ X
      rcases fK U with ⟨N,Y⟩|⟨g,cap,N,a6,a7⟩
      ·refine go _ (ex.trans N) ?_
       simp [Builtin.len_,j,run_underlying ((A.ty t T M).slice f),goInt,Y]
      ·refine go _ (ex.trans N) ?_
       simp [Builtin.len_,j,run_underlying ((A.ty t T M).slice f),goInt]
     ·cases z
    case vw k lo hi =>
     cases z
     obtain ⟨hd,l0,l1,N⟩:_/\_/\_/\(_∨_):=O
     rcases N with ⟨_,hh,ex⟩|⟨g,m,cap,ad,e1,e2,ex,e5⟩
     ·refine go _ ex ?_
      have:hi-lo=0:=by omega
      simp [Builtin.len_,j,run_underlying ((A.ty t T M).slice f),goInt,this]
     ·refine go _ ex ?_
      have:((hi-lo).toNat:Int)=hi-lo:=by omega
      simp only [Builtin.len_,j,List.getElem?_toArray,List.getElem?_cons_zero,Sem.run_bind,run_underlying ((A.ty t T M).slice f),Result.andThen_ok,goInt,this,Sem.run_pure]
  ·cases u
 ·cases u
theorem CQ {C:Cfg R} {q:Bool} (h:Rel E s a w β Rt Ra) {c:Call} (M:o.op = .call c) (N:c.callee = .builtin .min) {x y:Operand} (u:c.args.toList=[x,y]) (f:dV C q s o.dst .min c.args.toList c.argTypes.toList o.type κ=some r):eG P E o a w κ r:=by
 rw [u] at f;unfold dV at f;simp only at f
 have z:=ck h x;have A:=ck h y
 split at f
 ·rename_i k m W n e O
  rw [e] at z;rw [O] at A
  have U:=fg z;have V:=fg A
  refine cq h (x := .int k (min2 m n)) (v := .int k (min2 m n)) rfl ?_ f
  rw [fU M N,lU u]
  simp only [builtin,map_toArray,map_cons,List.map_nil,U,V,Builtin.min_,List.foldlM_cons,List.foldlM_nil,Builtin.min2,min2]
  by_cases j:n<m <;> simp [j]
 ·cases f
theorem CP {C:Cfg R} {q:Bool} (h:Rel E s a w β Rt Ra) {c:Call} (M:o.op = .call c) (N:c.callee = .builtin .max) {x y:Operand} (u:c.args.toList=[x,y]) (f:dV C q s o.dst .max c.args.toList c.argTypes.toList o.type κ=some r):eG P E o a w κ r:=by
 rw [u] at f;unfold dV at f;simp only at f
 have z:=ck h x;have A:=ck h y
 split at f
 ·rename_i k m W n e O
  rw [e] at z;rw [O] at A
  have U:=fg z;have V:=fg A
  refine cq h (x := .int k (max2 m n)) (v := .int k (max2 m n)) rfl ?_ f
  rw [fU M N,lU u]
  simp only [builtin,map_toArray,map_cons,List.map_nil,U,V,Builtin.max_,List.foldlM_cons,List.foldlM_nil,Builtin.max2,max2]
  by_cases j:m<n <;> simp [j]
 ·cases f
end
end Go.Proofs.Ab
namespace Go.Proofs.Ab
open Go
variable {R:Type}
theorem Fr.trans {W0 X:Nat->Prop} {w0 w w':World} (h:Fr W0 w0 w) (f:Fr X w w') (z:∀ b,X b->w0.heap.size<=b∨W0 b):Fr W0 w0 w':=
 ⟨f.os.trans h.os,f.tape.trans h.tape,f.output.trans h.output,Nat.le_trans h.size f.size,fun b m u=>by
  have j:¬ X b:=fun j=>(z b j).elim (fun e=>by omega) u
  exact (f.block b (Nat.lt_of_lt_of_le m h.size) j).trans (h.block b m u)⟩
abbrev kV:World->World->Prop:=Fr fun _=>False
theorem fQ (w:World) (ob:Go.Obj):kV w (w.alloc ob):=⟨rfl,rfl,rfl,by simp,fun b f _=>heap_alloc_old w ob b f⟩
section
variable {E:Env} {s:St} {a:Act} {w w':World} {β:Nat->Bl} {Rt Ra:Nat->Prop}
theorem Rel.world {X:Nat->Prop} (h:Rel E s a w β Rt Ra) (j:Fr X w w') (m:∀ b,X b->¬ Ra b/\(E.w0.heap.size<=b∨E.W0 b)/\∀ t o,s.obj t=some o->b ∉ cu (β t) o):Rel E s a w' β Rt Ra:=by
 have z:=h.toRelO.world (w':=w') (fun b f=>j.block b (h.rlt b f) (fun u=>(m b u).1 f)) (fun t o A b f=>j.block b (h.dc t o A b f).1 (fun u=>(m b u).2.2 t o A f)) j.size (h.fr.trans j fun b f=>(m b f).2.1)
 exact ⟨z.1,h.len,h.defers,fH z.2 h.slots⟩
theorem Rel.jO (h:Rel E s a w β Rt Ra) (f:kV w w'):Rel E s a w' β Rt Ra:=h.world f fun _ j=>j.elim
theorem Rel.newAt (h:Rel E s a w β Rt Ra) (N:kV w w') {s':St} {k:Nat} {o:Obj} (m:IsNew s s' k o) (bl:Bl) (j:∀ b∈cu bl o,w.heap.size<=b/\b<w'.heap.size)
  (O:(bI E s w' β Rt Ra).Le (bI E s' w' (fj β k bl) Rt Ra)->OR (bI E s' w' (fj β k bl) Rt Ra) bl o) :
  Rel E s' a w' (fj β k bl) Rt Ra:=by
 have A:=h.jO N
 have M:=A.toRelO.FI m bl (fun b f=>⟨(j b f).2,fun U=>by have:=h.rlt b U;have:=(j b f).1;omega,.inl (Nat.le_trans h.fr.size (j b f).1)⟩) (fun b f t V u z=>by have:=(h.dc t V u b z).1;have:=(j b f).1;omega) O
 exact ⟨M.1,by rw [m.slots];exact h.len,h.defers,fun i=>by
  have:=fH M.2 A.slots i
  unfold St.get at this ⊢;rw [m.slots];exact this⟩
theorem Rel.new (h:Rel E s a w β Rt Ra) (f:kV w w') (o:Obj) (bl:Bl) (j:∀ b∈cu bl o,w.heap.size<=b/\b<w'.heap.size)
  (m:(bI E s w' β Rt Ra).Le (bI E (s.new o) w' (fj β s.next bl) Rt Ra)->OR (bI E (s.new o) w' (fj β s.next bl) Rt Ra) bl o) :
  Rel E (s.new o) a w' (fj β s.next bl) Rt Ra:=h.newAt f (h.zy o) bl j m
theorem kG {c:Cx} {x:SV} {v:Value} (f:known x=true) (h:SL c x v):v.oneCell'=true:=by
 cases x <;> simp only [known] at f <;> try (cases f;done)
 case int=>cases h;rfl
 case bool=>cases h;rfl
 case str=>cases h;rfl
 case nil=>cases h;rfl
 case ro=>exact ej.one h
 case own=>exact h.2.2.1
 case vw t lo hi =>
  obtain ⟨_,_,_,j⟩:=h
  rcases j with ⟨_,_,rfl⟩|⟨_,_,_,_,_,_,rfl,_⟩ <;> rfl
 case ptr=>obtain ⟨_,rfl⟩:=h;rfl
 case clo=>obtain ⟨_,rfl⟩:=h;rfl
 case cls=>obtain ⟨_,rfl⟩:=h;rfl
 case mp=>obtain ⟨_,rfl⟩:=h;rfl
 case el=>obtain ⟨_,_,_,_,_,_,_,rfl⟩:=h;rfl
 case rl=>obtain ⟨_,_,_,rfl,_⟩:=h;rfl
 case nilp=>cases h;rfl
 case nilfn=>cases h;rfl
 case nili=>cases h;rfl
 case fn=>cases h;rfl
theorem rX {v:Value} (h:v.oneCell'=true):v.cells = #[v]:=by cases v <;> first|rfl|cases h
theorem ia {c:Cx} {x:SV} {v:Value} (h:S2 c x v) (m:(leaves x).all known=true):PW (SL c) (leaves x) v.cells.toList:=by
 rcases gS x with ⟨l,rfl⟩|u
 ·obtain ⟨cs,rfl,j⟩:=jx h;exact j
 ·have A:leaves x=[x]:=by cases x <;> first|rfl|exact absurd rfl (u _)
  rw [A] at m ⊢
  have f:known x=true:=by simpa using m
  have M:∀ l,x ≠ .tup l:=by intro l e;subst e;cases f
  have z:=za u (zb M h)
  rw [rX (kG f z)]
  exact ⟨z,trivial⟩
theorem Rel.wo (h:Rel E s a w β Rt Ra) {s':St} {k:Nat} (ty:Nat) (A:List SV) (M:IsNew s s' k (.var ty A)) (cs:Array Value) (d:Option Nat) (N:∀ c',(bI E s w β Rt Ra).Le c'->PW (lS c' w.heap.size) A cs.toList) :
  dj E (s'.put d (.ptr k 0)) (a.put d (.pointer (some ⟨w.heap.size,0,none⟩))) (w.alloc (.cells cs ty)):=by
 have m:=fQ w (.cells cs ty)
 have f:=(h.toRelO.world (w':=w.alloc (.cells cs ty)) (fun b j=>m.block b (h.rlt b j) id) (fun t o O b j=>m.block b (h.dc t o O b j).1 id) m.size (h.fr.trans m fun _ j=>j.elim)).2
 have U:=h.newAt m M ⟨undef,w.heap.size,0,false⟩ (fun b j=>by simp [cu] at j;subst j;simp) (fun le=>⟨cs,(),heap_alloc_new w _,N _ ⟨le.T.trans f.T,fun st b u=>le.Q st b (f.Q st b u),fun st b u=>(le.w st b (f.Q st b u)).trans (f.w st b u),fun t z=>le.D t (f.D t z),fun t z=>(le.β t (f.D t z)).trans (f.β t z)⟩⟩)
 refine ⟨_,_,_,U.put d (x := .ptr k 0) (dC (dR ⟨⟨_,by rw [M.obj,if_pos rfl]⟩,?_⟩))⟩
 show _=Value.pointer (some ⟨(fj β k ⟨undef,w.heap.size,0,false⟩ k).b,0,none⟩)
 unfold fj;rw [if_pos rfl]
theorem Rel.newVar (h:Rel E s a w β Rt Ra) (ty:Nat) (f:List SV) (cs:Array Value) (d:Option Nat) (j:∀ c',(bI E s w β Rt Ra).Le c'->PW (lS c' w.heap.size) f cs.toList) :
  dj E ((s.new (.var ty f)).put d (.ptr s.next 0)) (a.put d (.pointer (some ⟨w.heap.size,0,none⟩))) (w.alloc (.cells cs ty)):=h.wo ty f (h.zy _) cs d j
theorem qo {R:Type} {C:Cfg R} {d:Option Nat} {o:Obj} {f:Nat->SV} {κ:St->Option R} {r:R} (h:Rel E s a w β Rt Ra) (j:kn C s d o f κ=some r):∃ s' k,IsNew s s' k o/\κ (s'.put d (f k))=some r:=by
 unfold kn at j
 cases u:Nat.beq C.base 0 with
 | true=>rw [u,cond_true] at j;exact ⟨_,_,h.zy o,j⟩
 | false =>
  rw [u,cond_false] at j
  cases m:((s.obj (C.base+d.getD 0)).isNone&&(Nat.blt (C.base+d.getD 0) s.next&&Nat.ble 64 C.base)) with
  | false=>rw [m] at j;cases j
  | true =>
   rw [m,cond_true] at j
   simp only [Bool.and_eq_true,Option.isNone_iff_eq_none,Nat.blt_eq,Nat.ble_eq] at m
   exact ⟨_,_,C3 m.1 m.2.1 (by omega),j⟩
end
section
variable {P:Program} {E:Env} {o:Oper} {s:St} {a:Act} {w:World} {β:Nat->Bl} {Rt Ra:Nat->Prop} {κ:St->Option R} {r:R}
theorem Ee {c:Cx} {b:Nat} {k:LK} {v:Value} (h:zeroV k v) (f:stands (kv k)=true):lS c b (kv k) v:=by
 cases k <;> first|(exact h)|(exact .inl h)|(cases f)
theorem Am {c:Cx} {k:LK} {v:Value} (h:zeroV k v):SL c (kv k) v:=by
 cases k <;> first|exact h|trivial
theorem BG {T:Nat->Option TI} {w:World} {Q:Nat->Prop} {k:LK} {v:Value} (f:k.flat=true) (h:zeroV k v):ej T w Q k v (Ec k):=by
 cases k <;> first|(simp [LK.flat] at f;done)|(simp only [zeroV] at h;subst h)
 ·exact .int _ (.int 0)
 ·exact .bool (.bool false)
 ·exact .str (.str ⟨#[]⟩)
theorem pS {n i:Nat} (a:AV) (h:i<n):(List.replicate n a).getD i .no=a:=by
 rw [List.getD_eq_getElem?_getD,List.getElem?_replicate,if_pos h];rfl
theorem xP {C:Cfg R} {q:Bool} (hP:Ok P C.ty) (hE:E.T=C.ty) (h:Rel E s a w β Rt Ra) {t:Nat} (U:o.op = .alloc t) (m:eL C q o s κ=some r):eG P E o a w κ r:=by
 unfold eL at m;rw [U] at m;simp only at m
 split at m
 ·rename_i T hT
  split at m
  ·rename_i k V
   obtain ⟨a1,a2,a3,D,hD,a4,a5,a6,a7,a8⟩:=gf V
   obtain ⟨i,z,W,X,Y,hz,hzero,_⟩:=(hP.ty t T hT).info
   have f:D.sz=1:=by unfold TI.sz;rw [a4];rfl
   have M:z.cells.toList.length=T.sz:=by rw [<- hzero.len];rfl
   have hg:=fQ w (.cells z.cells t)
   let v:Value := .slice (some ⟨w.heap.size,0,none⟩) T.sz T.sz
   obtain ⟨s',n,O,m⟩:=qo h m
   have h2:=h.newAt hg O ⟨v,0,1,true⟩ (fun b hb=>by simp [cu,v,Value.ownBlock] at hb;subst hb;simp) (fun le=>⟨D,z.cells.toList,by show E.T T.elem=some D;rw [hE];exact hD,f.symm,⟨by rw [M,f];simp,.inr ⟨w.heap.size,T.sz,z.cells,t,(0,0),by simp [v],by simp,heap_alloc_new w _,.inl rfl,by simp,by have:maxLen=9223372036854775807:=rfl;omega,by rw [f];simpa using M,?_⟩⟩,?_⟩)
   ·intro next Q hn
    refine eI (v := .pointer (some ⟨w.heap.size,0,none⟩)) (w':=w.alloc (.cells z.cells t)) ?_ (hn _ _ _ m ?_)
    ·unfold execOp;rw [U]
     simp [Instr.alloc,zeroValue,typeInfo,W,hz,newVar,newRow]
    ·refine ⟨_,_,_,h2.put o.dst (x := .ap n T.sz) (dC (dR ⟨⟨_,by rw [O.obj,if_pos rfl]⟩,w.heap.size,T.sz,?_,rfl⟩))⟩
     show (fj β n ⟨v,0,1,true⟩ n).v=v
     unfold fj;rw [if_pos rfl]
   ·rw [f];simp only [List.length_replicate,Nat.mul_one];rw [<- M,List.take_length]
   ·intro i j k' N A u hu
    rw [a4] at A
    cases j with
    | succ j=>simp at A
    | zero =>
     simp only [List.getElem?_cons_zero,Option.some.injEq] at A;subst A
     simp only [List.length_replicate] at N
     rw [pS _ N,a5]
     refine BG a6 (hzero.get (i:=i) (x:=k) (by rw [a7];simp [N]) ?_)
     rw [f] at hu;simpa using hu
  cases O:(T.lv.map kv).all stands with
  | false=>rw [O] at m;cases m
  | true =>
   rw [O] at m;simp only [cond_true] at m
   obtain ⟨i,z,W,X,Y,hz,hzero,_⟩:=(hP.ty t T hT).info
   obtain ⟨s',n,ad,m⟩:=qo h m
   intro next Q hn
   refine eI (v := .pointer (some ⟨w.heap.size,0,none⟩)) (w':=w.alloc (.cells z.cells t)) ?_ (hn _ _ _ m (h.wo t _ ad z.cells o.dst fun c' _ => ?_))
   ·unfold execOp;rw [U]
    simp [Instr.alloc,zeroValue,typeInfo,W,hz,newVar,newRow]
   ·refine PW.zK ?_ hzero
    intro k ae v hv
    exact Ee hv (List.all_eq_true.mp O _ (List.mem_map_of_mem ae))
 ·cases m
theorem CN {C:Cfg R} {q:Bool} (h:Rel E s a w β Rt Ra) {t:Nat} {x:Operand} (z:o.op = .box t x) (f:eL C q o s κ=some r):eG P E o a w κ r:=by
 unfold eL at f;rw [z] at f;simp only at f
 split at f
 ·rename_i T N
  cases m:(Nat.beq (leaves (ev s x)).length T.sz&&(leaves (ev s x)).all known) with
  | false=>rw [m] at f;cases f
  | true =>
   rw [m] at f;simp only [cond_true] at f
   have j:(leaves (ev s x)).all known=true:=by rw [Bool.and_eq_true] at m;exact m.2
   have u:=ia (ck h x) j
   intro next Q A
   refine eI (v := .pointer (some ⟨w.heap.size,0,none⟩)) (w':=w.alloc (.cells (a.eval x).cells t)) ?_ (A _ _ _ f (h.newVar t _ (a.eval x).cells o.dst fun c' le => ?_))
   ·unfold execOp;rw [z]
    simp [Instr.box,newVar,newRow]
   ·exact PW.imp_mem (fun y hy v M=>rN (List.all_eq_true.mp j y hy) (M.le le)) u
 ·cases f
def gw {α : Type}:List α -> Nat->List α -> List α
 | l,_,[]=>l
 | l,j,v::vs=>gw (l.set j v) (j+1) vs
theorem Fq (l:List SV) (j:Nat) (v:SV):hH l j v=l.set j v:=by
 induction l generalizing j with
 | nil=>rfl
 | cons x r f=>cases j <;> simp [hH,f]
theorem uY (l:List SV) (j:Nat) (vs:List SV):D8 l j vs=gw l j vs:=by
 induction vs generalizing l j with
 | nil=>rfl
 | cons v vs f=>simp only [D8,gw,f,Fq]
theorem PW.set {α β:Type} {S : α -> β->Prop}:∀ {l:List α} {m:List β} (j:Nat) {x : α} {v : β},PW S l m->S x v->PW S (l.set j x) (m.set j v)
 | [],[],_,_,_,h,_=>h
 | _::_,_::_,0,_,_,h,f=>⟨f,h.2⟩
 | _::_,_::_,j+1,_,_,h,f=>⟨h.1,PW.set j h.2 f⟩
 | [],_::_,_,_,_,h,_=>h.elim
 | _::_,[],_,_,_,h,_=>h.elim
theorem PW.gw {α β:Type} {S : α -> β->Prop}:∀ {vs:List α} {f:List β} {l:List α} {m:List β} (j:Nat),PW S l m->PW S vs f->PW S (gw l j vs) (gw m j f)
 | [],[],_,_,_,h,_=>h
 | _::_,_::_,_,_,j,h,u=>PW.gw (j+1) (h.set j u.1) u.2
 | [],_::_,_,_,_,_,h=>h.elim
 | _::_,[],_,_,_,_,h=>h.elim
theorem iB {α : Type} (l:List α) (j:Nat) (vs:List α):(gw l j vs).length=l.length:=by
 induction vs generalizing l j with
 | nil=>rfl
 | cons v vs f=>simp [gw,f]
theorem iA {α : Type} (l:List α) (j:Nat) (vs:List α) (q:Nat):(gw l j vs)[q]? = if j<=q/\q<j+vs.length/\q<l.length then vs[q-j]? else l[q]? := by
 induction vs generalizing l j with
 | nil=>simp [gw];intro f u;omega
 | cons v vs z =>
  simp only [gw,z,List.length_set,length_cons]
  by_cases f:j+1<=q/\q<j+1+vs.length/\q<l.length
  ·rw [if_pos f,if_pos ⟨by omega,by omega,f.2.2⟩]
   rw [show q-j=(q-(j+1))+1 by omega,List.getElem?_cons_succ]
  ·rw [if_neg f]
   by_cases u:q=j
   ·subst u
    by_cases m:q<l.length
    ·rw [if_pos ⟨by omega,by omega,m⟩];simp [m]
    ·rw [if_neg (by omega)];simp [m]
   ·rw [List.getElem?_set_ne (by omega)]
    rw [if_neg (by omega)]
theorem si (off:Nat):∀ (vs:List Value) (k:Nat) (cells:Array Value),((vs.zipIdx k).foldl (fun cs p=>cs.setIfInBounds (off+p.2) p.1) cells).toList=gw cells.toList (off+k) vs
 | [],_,_=>rfl
 | v::vs,k,cells=>by
  simp only [List.zipIdx_cons,List.foldl_cons,gw]
  rw [si off vs (k+1)]
  simp [Array.toList_setIfInBounds,Nat.add_assoc]
theorem np (off:Nat) (v:Array Value) (cells:Array Value):(v.zipIdx.foldl (fun cs (p:Value × Nat)=>cs.setIfInBounds (off+p.2) p.1) cells).toList=gw cells.toList off v.toList:=by
 rw [<- Array.foldl_toList,Array.toList_zipIdx]
 exact si off v.toList 0 cells
theorem lu {c:Cx} {fl:List (Nat × Nat × Bool)} {places:Nat->Option (Nat × Nat)} {N:Nat} (A:∀ (f off n:Nat) (g:Bool),fl[f]? = some (off,n,g)->places f=some (off,n)/\off+n<=N) :
  ∀ (ps:List (Nat × SV)) (vs:List (Nat × Value)) (M:List SV) (cells:Array Value) (out:List SV),se fl M ps=some out->PW (fun (p:Nat × SV) (v:Nat × Value)=>p.1=v.1/\S2 c p.2 v.2) ps vs->PW (SL c) M cells.toList->cells.size=N ->
   ∃ m,Instr.fill places cells vs=some m/\PW (SL c) out m.toList
 | [],[],M,cells,out,h,_,W,_=>by simp only [se,Option.some.injEq] at h;subst h;exact ⟨cells,rfl,W⟩
 | (i,x)::ps,(j,v)::vs,M,cells,out,h,u,W,hN=>by
  obtain ⟨⟨rfl,hx⟩,u⟩:=u
  unfold se at h
  split at h
  ·rename_i off n g hf
   cases O:(Nat.beq (leaves x).length n&&(leaves x).all known) with
   | false=>rw [O] at h;cases h
   | true =>
    rw [O] at h;simp only [cond_true] at h
    rw [Bool.and_eq_true] at O
    have hlen:=Nat.eq_of_beq_eq_true O.1
    have U:=ia hx O.2
    obtain ⟨V,ae⟩:=A _ _ _ _ hf
    have X:v.cells.size=n:=by rw [<- hlen,U.len];simp
    have Y:PW (SL c) (D8 M off (leaves x)) (v.cells.zipIdx.foldl (fun cs (p:Value × Nat)=>cs.setIfInBounds (off+p.2) p.1) cells).toList:=by
     rw [np,uY];exact W.gw off U
    have ad:(v.cells.zipIdx.foldl (fun cs (p:Value × Nat)=>cs.setIfInBounds (off+p.2) p.1) cells).size=N:=by
     rw [<- Array.length_toList,np,iB];simpa using hN
    obtain ⟨m,h1,h2⟩:=lu A ps vs _ _ out h u Y ad
    refine ⟨m,?_,h2⟩
    unfold Instr.fill
    have z:places i=some (off,n):=V
    simp only [z]
    rw [if_neg (by simp only [X,ne_eq,not_true_eq_false,decide_false,Bool.false_or,gt_iff_lt,decide_eq_true_eq];omega)]
    exact h1
  ·cases h
 | [],_::_,_,_,_,_,u,_,_=>u.elim
 | _::_,[],_,_,_,_,u,_,_=>u.elim
theorem kw {α γ j:Type} {S : γ->j->Prop} (f : α -> γ) (g : α -> j) (h:∀ x,S (f x) (g x)):∀ (l:List α),PW S (l.map f) (l.map g)
 | []=>trivial
 | x::l=>⟨h x,kw f g h l⟩
theorem xR {C:Cfg R} {q:Bool} (V:Ok P C.ty) (h:Rel E s a w β Rt Ra) {t:Nat} {ps:Array (Nat × Operand)} (ho:o.op = .build t ps) (m:eL C q o s κ=some r):eG P E o a w κ r:=by
 unfold eL at m;rw [ho] at m;simp only at m
 split at m
 ·rename_i T hT
  by_cases W:(T.agg&&(T.flds.isEmpty && !(Nat.beq T.elem 0)))=true
  ·simp only [W,cond_true] at m
   split at m
   ·rename_i D hD
    split at m
    ·rename_i l hl
     simp only [Bool.and_eq_true,Bool.not_eq_true'] at W
     obtain ⟨len,hu,hlen⟩:=jd V hT W.1 (List.isEmpty_iff.1 W.2.1) (fun e=>by rw [e] at W;simp at W) hD
     obtain ⟨i,z,hi,ar,ax,hz,hzero,_⟩:=(V.ty t T hT).info
     have a1:=(V.ty _ D hD).pos
     have X:PW (SL (bI E s w β Rt Ra)) (T.lv.map kv) z.cells.toList:=hzero.map fun k v hv=>Am hv
     have u:z.cells.size=T.sz:=by have:=hzero.len;simp at this;exact this.symm
     have Y:∀ (f off n:Nat) (g:Bool),((List.range (T.sz / D.sz)).map fun i=>(i*D.sz,D.sz,D.agg))[f]? = some (off,n,g)->(fun i=>some (i*D.sz,D.sz)) f=some (off,n)/\off+n<=T.sz:=by
      intro f off n g N
      rw [List.getElem?_map] at N
      by_cases O:f<T.sz / D.sz
      ·rw [List.getElem?_range O] at N
       simp only [Option.map_some,Option.some.injEq,Prod.mk.injEq] at N
       obtain ⟨rfl,rfl,_⟩:=N
       refine ⟨rfl,?_⟩
       rw [<- hlen,Nat.mul_div_cancel _ a1] at O
       have:(f+1)*D.sz<=len*D.sz:=Nat.mul_le_mul_right _ O
       rw [Nat.add_mul,Nat.one_mul] at this;omega
      ·rw [List.getElem?_eq_none (by simpa using O)] at N;cases N
     obtain ⟨j,ad,ae⟩:=lu (c:=bI E s w β Rt Ra) Y _ (ps.toList.map fun p=>(p.1,a.eval p.2)) _ z.cells l hl (kw _ _ (fun p=>⟨rfl,ck h p.2⟩) ps.toList) X u
     refine fP h (x := .agg l) (v := .agg j) ⟨j,rfl,ae⟩ ?_ m
     unfold execOp;rw [ho]
     simp only [Sem.run_bind,Instr.build,zeroValue,typeInfo,run_underlying hu,fA (V.ty _ D hD),Result.andThen_ok]
     simp [hi,hz,fA (V.ty _ D hD),ad]
    ·cases m
   ·cases m
  have a6:(T.agg&&(T.flds.isEmpty && !(Nat.beq T.elem 0)))=false:=by simpa using W
  simp only [a6,cond_false] at m
  split at m
  ·rename_i l hl
   cases hg:(T.agg && !T.flds.isEmpty) with
   | false=>rw [hg] at m;cases m
   | true =>
    rw [hg] at m;simp only [cond_true] at m
    obtain ⟨a7,ap⟩:T.agg=true/\T.flds≠[]:=by simpa using hg
    obtain ⟨i,z,hi,ar,ax,hz,hzero,_⟩:=(V.ty t T hT).info
    obtain ⟨fs,hu,A⟩:=(V.ty t T hT).struct ap
    have M:fs.toList.mapM (fun f=>(P.info? f.type).map fun i=>(f.offset,i.size))=some (T.flds.map fun p=>(p.1,p.2.1)):=by
     generalize fs.toList=fl at A
     clear hl ap hg
     generalize T.flds=tf at A
     induction fl generalizing tf with
     | nil=>cases tf with
      | nil=>rfl
      | cons _ _=>exact A.elim
     | cons F fl ih=>cases tf with
      | nil=>exact A.elim
      | cons p tf =>
       obtain ⟨⟨h1,h2,ii,d,h3,h4,h5,h6⟩,hr⟩:=A
       simp only [List.mapM_cons,h3,Option.map_some,Option.bind_eq_bind,Option.bind_some,ih tf hr,Option.pure_def,map_cons,h1,h4]
    have Y:∀ (f off n:Nat) (g:Bool),T.flds[f]? = some (off,n,g)->((T.flds.map fun p=>(p.1,p.2.1)).toArray[f]?)=some (off,n)/\off+n<=T.sz:=by
     intro f off n g N
     obtain ⟨_,F,_,_,h1,h2,_⟩:=xH (V.ty t T hT) N
     exact ⟨by simp [N],h2⟩
    have X:PW (SL (bI E s w β Rt Ra)) (T.lv.map kv) z.cells.toList:=hzero.map fun k v hv=>Am hv
    have u:z.cells.size=T.sz:=by have:=hzero.len;simp at this;exact this.symm
    obtain ⟨j,ad,ae⟩:=lu (c:=bI E s w β Rt Ra) Y _ (ps.toList.map fun p=>(p.1,a.eval p.2)) _ z.cells l hl (kw _ _ (fun p=>⟨rfl,ck h p.2⟩) ps.toList) X u
    refine fP h (x := .agg l) (v := .agg j) ⟨j,rfl,ae⟩ ?_ m
    have U:P.built t (ps.map fun p=>(p.1,a.eval p.2)).toList=some j:=by
     unfold Program.built
     simp only [hi,hu,hz,M]
     rw [Array.toList_map];exact ad
    unfold execOp;rw [ho]
    have:=run_build (P:=P) w t (ps.map fun p=>(p.1,a.eval p.2)) j U
    simp only [Sem.run_bind]
    rw [this];rfl
  ·cases m
 ·cases m
end
end Go.Proofs.Ab
namespace Go.Proofs.Ab
open Go
variable {R:Type}
theorem gu (P:Program) (g o:Nat) (t:TypeId) (m:Nat × Nat):∀ (vs:List Value) (i:Nat) (f:Array Value) (w:World),w.heap[g]? = some (.cells f t m)->(m=(0,0)∨m=(f.size,f.size+1))->o+i+vs.length<=f.size->(∀ v∈vs,v.oneCell'=true) ->
  (storeCells ⟨g,o,none⟩ vs i).run P w = .ok () (w.setRow g (f.toList.take (o+i)++vs++f.toList.drop (o+i+vs.length)).toArray)
 | [],i,f,w,u,_,_,_=>by
  simp only [storeCells,List.append_nil,List.length_nil,Nat.add_zero,List.take_append_drop,Array.toArray_toList]
  rw [setRow_self w g f t m u]
  rfl
 | v::rest,i,f,w,u,z,N,U=>by
  have V:o+i<f.size:=by simp at N;omega
  have A:(⟨g,o,none⟩:Addr).add i=⟨g,o+i,none⟩:=add_plain g o i
  have j:w.cell? ⟨g,o+i,none⟩=some f[o+i]:=by simp [World.cell?,u,V]
  have M:w.frozen? ⟨g,o+i,none⟩=false:=by simp only [World.frozen?,u];exact GI z V
  have O:(store ((⟨g,o,none⟩:Addr).add i) v).run P w = .ok () (w.setRow g (f.setIfInBounds (o+i) v)):=by
   rw [A,run_store P w _ v _ (U v (by simp)),j]
   simp [M,setCell_eq_setRow w g (o+i) f t m v u]
  have W:=gu P g o t m rest (i+1) (f.setIfInBounds (o+i) v) (w.setRow g (f.setIfInBounds (o+i) v)) (setRow_heap w g f _ t _ u) (by simpa using z) (by simp at N ⊢;omega) (fun x X=>U x (by simp [X]))
  simp only [storeCells,Sem.run_bind,O,Result.andThen_ok,W,setRow_setRow]
  congr 3
  have e:=list_seg_step f.toList (o+i) v rest (by simp at N ⊢;omega)
  simpa [Array.toList_setIfInBounds,Nat.add_assoc] using e
section
variable {P:Program} {w:World}
theorem kq {t u e ty:Nat} {d:TypeDesc} {i:TypeInfo} {z:Value} {T:TI} (ht:P.underlying t=some (.slice e)) (hu:P.underlying u=some d) (hd:(∃ e',d = .slice e')∨d = .string) (hi:P.info? e=some i) (hz:i.zero=some z) (U:i.size=T.sz) (a7:z.cells.size=T.sz) (bP:0<T.sz)
  {X:Value} {m:Nat} {news:List Value} (hX:(Builtin.lenOf X).run P w = .ok m w) (hf:(Builtin.firstCells T.sz m X).run P w = .ok news.toArray w) (ae:(Builtin.firstCells T.sz m X).run P w.drew = .ok news.toArray w.drew) (hm:news.length=m*T.sz) (h1:∀ u∈news,u.oneCell'=true)
  {arr:Bool} {v:Value} {n:Nat} {xs:List Value} (f:fx w arr e T.sz v n xs) (M:(n+m)*i.bytes<=140737488355328) (Y:n+m<=maxLen) :
  ∃ v' w',(Builtin.append_ #[t,u] ty #[v,X]).run P w = .ok v' w'/\fx w' arr e T.sz v' (n+m) (xs++news)/\Fr (fun b=>v.ownBlock=some b) w w'/\(∀ b,v'.ownBlock=some b->b<w'.heap.size/\(v.ownBlock=some b∨w.heap.size<=b)):=by
 have V:n+m<=9223372036854775807:=by simp only [maxLen] at Y;omega
 have hlen:(xs++news).length=(n+m)*T.sz:=by rw [length_append,f.1,hm,Nat.add_mul]
 have grown:∀ old:Nat,old<n+m ->
   fx (w.drew.alloc (.cells (xs.toArray++news.toArray++Builtin.zeroCells z.cells (grownCap w (n+m) old e-(n+m))) e)) arr e T.sz
    (.slice (some ⟨w.heap.size,0,none⟩) (n+m) (grownCap w (n+m) old e)) (n+m) (xs++news):=by
  intro old ho
  have a8:=grownCap_ge w (n+m) old e
  refine ⟨hlen,.inr ⟨w.heap.size,_,_,e,(0,0),rfl,fun _=>rfl,heap_alloc_new w.drew _,.inl rfl,a8,grownCap_le_maxLen w (n+m) old e Y,?_,?_⟩⟩
  ·simp only [Array.size_append,size_toArray,size_zeroCells,a7,f.1,hm,<- Nat.add_mul]
   congr 1;omega
  ·simp only [Array.toList_append,append_assoc]
   rw [<- append_assoc,<- hlen]
   exact take_left
 have ap:∀ (X:Nat->Prop) (c:Array Value),Fr X w (w.drew.alloc (.cells c e)):=fun X c=>⟨rfl,rfl,rfl,by simp,fun b hb _=>heap_alloc_old w.drew _ b hb⟩
 rcases f.2 with ⟨rfl,rfl⟩|⟨g,cap,A,q,fz,rfl,bb,hg,ar,bS,be,bk,ad⟩
 ·have hx:xs=[]:=eq_nil_of_length_eq_zero (by simpa using f.1)
  subst hx
  by_cases ax:m=0
  ·subst ax
   have hn:news=[]:=eq_nil_of_length_eq_zero (by simpa using hm)
   subst hn
   refine ⟨.slice none 0 0,w,?_,sX w arr e T.sz,Fr.refl _ w,by simp [Value.ownBlock]⟩
   rcases hd with ⟨e',rfl⟩|rfl <;> simp [Builtin.append_,run_underlying ht,run_underlying hu,sizeOf,typeInfo,hi,U,hX,hf]
  ·have W:=grown 0 (by omega)
   simp only [Nat.zero_add,nil_append,Array.empty_append] at W M V ⊢
   refine ⟨_,_,?_,W,ap _ _,by simp [Value.ownBlock]⟩
   have N:¬ (9223372036854775807<(m:Int)):=by omega
   have O:¬ (281474976710656<Builtin.nextslicecap m 0*i.bytes):=by rw [nextslicecap_zero (by omega)];omega
   rcases hd with ⟨e',rfl⟩|rfl <;> simp [Builtin.append_,run_underlying ht,run_underlying hu,sizeOf,typeInfo,zeroValue,hi,hz,U,hX,ax,N,O,Question.forced,run_firstCells_none,ae,newRow,grownCap]
 ·by_cases hr:n+m<=cap
  ·have a1:n*T.sz+news.length<=A.size:=by rw [hm,bk,<- Nat.add_mul];exact Nat.mul_le_mul_right _ hr
   have a6:=gu P g (n*T.sz) q fz news 0 A w hg ar (by simpa using a1) h1
   simp only [Nat.add_zero] at a6
   refine ⟨.slice (some ⟨g,0,none⟩) (n+m) cap,w.setRow g (A.toList.take (n*T.sz)++news++A.toList.drop (n*T.sz+news.length)).toArray,?_,⟨hlen,.inr ⟨g,cap,_,q,fz,rfl,bb,setRow_heap w g A _ q _ hg,?_,hr,be,?_,?_⟩⟩,⟨rfl,rfl,rfl,by simp,fun k hk bs=>setRow_other w g k _ (fun e=>bs (by simp [Value.ownBlock,e]))⟩,?_⟩
   ·rcases hd with ⟨e',rfl⟩|rfl <;> simp [Builtin.append_,run_underlying ht,run_underlying hu,sizeOf,typeInfo,hi,U,hX,hr,hf,Addr.add_lit,a6]
   ·have:(A.toList.take (n*T.sz)++news++A.toList.drop (n*T.sz+news.length)).toArray.size=A.size:=by
     simp only [size_toArray,length_append,length_take,length_drop,Array.length_toList]
     omega
    rw [this];exact ar
   ·simp only [size_toArray,length_append,length_take,length_drop,Array.length_toList]
    omega
   ·rw [ad,<- hlen]
    exact take_left
   ·intro b hb
    have:b=g:=by simpa [Value.ownBlock,eq_comm] using hb
    subst this
    exact ⟨by simpa using (Array.getElem?_eq_some_iff.1 hg).1,.inl rfl⟩
  ·have holds:∀ (j:Nat) u,xs[j]? = some u->w.cell? ((⟨g,0,none⟩:Addr).add j)=some u:=fun j u hj=>by
    rw [add_plain,Nat.zero_add];exact gm f j u hj
   have bx:=run_firstCells_some (P:=P) w.drew T.sz n ⟨g,0,none⟩ n cap xs f.1 (by simpa using holds)
   have W:=grown cap (by omega)
   refine ⟨_,_,?_,W,ap _ _,by simp [Value.ownBlock]⟩
   have N:¬ (9223372036854775807<((n:Int)+(m:Int))):=by omega
   have O:¬ (281474976710656<Builtin.nextslicecap (n+m) cap*i.bytes):=by have:=growslice_fits (need:=n+m) (old:=cap) (bytes:=i.bytes) (by omega) M;omega
   rcases hd with ⟨e',rfl⟩|rfl <;> simp [Builtin.append_,run_underlying ht,run_underlying hu,sizeOf,typeInfo,zeroValue,hi,hz,U,hX,hr,N,O,Question.forced,ae,bx,newRow,grownCap]
   all_goals
    congr 2
    apply Array.ext'
    simp [append_assoc]
end
end Go.Proofs.Ab
namespace Go.Proofs.Ab
open Go
variable {R:Type}
section
variable {P:Program} {E:Env} {o:Oper} {s:St} {a:Act} {w w':World} {β:Nat->Bl} {Rt Ra:Nat->Prop} {κ:St->Option R} {r:R}
theorem oz {w:World} {arr:Bool} {e size n:Nat} {v:Value} {xs:List Value} (h:fx w arr e size v n xs):v.oneCell'=true:=by
 rcases fK h with ⟨rfl,_⟩|⟨_,_,rfl,_⟩ <;> rfl
theorem uH {w:World} {arr:Bool} {e size n:Nat} {v:Value} {xs:List Value} (h:fx w arr e size v n xs) {b:Nat} (f:v.ownBlock=some b):b<w.heap.size:=h.dc f
theorem Rel.tP (h:Rel E s a w β Rt Ra) {e:Nat} {T:TI} (O:E.T e=some T) {l:List AV} {st:Bool} {v:Value} {cs:List Value} (j:fx w false e T.sz v l.length cs) (z:RC E.T w ((bI E s w β Rt Ra).Q st) T l cs)
  (A:∀ b,v.ownBlock=some b->¬ Ra b/\(E.w0.heap.size<=b∨E.W0 b)/\∀ t u,s.obj t=some u->b ∉ cu (β t) u) (d:Option Nat):dj E ((s.new (.row e l st)).put d (.own s.next)) (a.put d v) w:=by
 have m:∀ b∈cu ⟨v,0,T.sz,false⟩ (.row e l st),v.ownBlock=some b:=fun b f=>by simpa [cu] using f
 have N:=h.toRelO.add (.row e l st) ⟨v,0,T.sz,false⟩ (fun b f=>⟨uH j (m b f),(A b (m b f)).1,(A b (m b f)).2.1⟩) (fun b f t u M=>(A b (m b f)).2.2 t u M)
  (fun le=>⟨T,cs,O,rfl,j,z.mono (fun b U=>le.Q st b U) (fun _ _=>rfl)⟩)
 have V:Rel E (s.new (.row e l st)) a w (fj β s.next ⟨v,0,T.sz,false⟩) Rt Ra:=⟨N.1,h.len,h.defers,fH N.2 h.slots⟩
 refine ⟨_,_,_,V.put d (x := .own s.next) (dC (dR ⟨⟨_,by rw [fJ,if_pos rfl]⟩,?_,oz j,?_⟩))⟩
 ·show v=(fj β s.next ⟨v,0,T.sz,false⟩ s.next).v
  unfold fj;rw [if_pos rfl]
 ·show (fj β s.next ⟨v,0,T.sz,false⟩ s.next).arr=false
  unfold fj;rw [if_pos rfl]
theorem ej.xh {c:Cx} (f:∀ b,c.Rt b->c.Ra b) {st st':Bool} (m:st'=true->st=true) {k:LK} {v:Value} {x:AV} (h:ej c.T c.w (c.Q st) k v x):ej c.T c.w (c.Q st') k v x:=
 h.mono (fun b j=>by
  unfold Cx.Q at j ⊢
  cases st' with
  | true=>have:=m rfl;subst this;exact j
  | false=>simp only [Bool.false_eq_true,if_false];split at j;exact f b j;exact j) (fun _ _=>rfl)
theorem RC.xh {c:Cx} (f:∀ b,c.Rt b->c.Ra b) {st st':Bool} (m:st'=true->st=true) {T:TI} {l:List AV} {cs:List Value} (h:RC c.T c.w (c.Q st) T l cs):RC c.T c.w (c.Q st') T l cs:=
 fun i j k u z v A=>(h i j k u z v A).xh f m
theorem RC.pO {c:Cx} {st:Bool} {T:TI} {l:List AV} {cs:List Value} (h:RC c.T c.w (c.Q st) T l cs):RC c.T c.w (c.Q (T.flat||st)) T l cs:=by
 cases f:T.flat with
 | true=>exact h.flat f
 | false=>exact h
theorem RC.append {T:Nat->Option TI} {w:World} {Q:Nat->Prop} {D:TI} {l l':List AV} {cs m:List Value} (h:RC T w Q D l cs) (O:RC T w Q D l' m) (A:cs.length=l.length*D.sz):RC T w Q D (l++l') (cs++m):=by
 intro i j k U M v z
 have V:j<D.sz:=(List.getElem?_eq_some_iff.mp M).1
 by_cases f:i<l.length
 ·rw [List.getElem?_append_left (by rw [A];exact xY f V)] at z
  rw [List.getD_eq_getElem?_getD,List.getElem?_append_left f,<- List.getD_eq_getElem?_getD]
  exact h i j k f M v z
 ·have N:l.length*D.sz<=i*D.sz+j:=Nat.le_trans (Nat.mul_le_mul_right _ (by omega)) (Nat.le_add_right _ _)
  rw [List.getElem?_append_right (by rw [A];exact N),A] at z
  rw [List.getD_eq_getElem?_getD,List.getElem?_append_right (by omega),<- List.getD_eq_getElem?_getD]
  refine O (i-l.length) j k (by rw [length_append] at U;omega) M v ?_
  have u:(i-l.length)*D.sz+j=i*D.sz+j-l.length*D.sz:=by
   have hle:l.length*D.sz<=i*D.sz:=Nat.mul_le_mul_right _ (by omega)
   rw [Nat.sub_mul];omega
  rw [u];exact z
theorem tz {T:Nat->Option TI} (hE:E.T=T) (h:Rel E s a w β Rt Ra) {e:Nat} {D:TI} (hD:T e=some D) {y:SV} {v:Value} (hy:S2 (bI E s w β Rt Ra) y v) {l:List AV} {st:Bool} (bb:∀ b,y ≠ .str b) (V:m5 s e D y=some (l,st)) :
  ∃ cs:List Value,cs.length=l.length*D.sz/\RC E.T w ((bI E s w β Rt Ra).Q st) D l cs/\l.length<=maxLen/\((v = .slice none 0 0/\l=[])∨∃ ad c,v = .slice (some ad) l.length c/\∀ (j:Nat) u,cs[j]? = some u->w.cell? (ad.add j)=some u):=by
 unfold m5 at V
 split at V
 ·cases V
  exact ⟨[],by simp,fun i j k z=>by simp at z,Nat.zero_le _,.inl ⟨hy,rfl⟩⟩
 ·exact absurd rfl (bb _)
 ·split at V
  ·rename_i e' l0 be W
   cases hb:Nat.beq e e' with
   | false=>rw [hb] at V;cases V
   | true =>
    rw [hb] at V;simp only [cond_true,Option.some.injEq,Prod.mk.injEq] at V
    obtain ⟨rfl,rfl⟩:=V
    have:=Nat.eq_of_beq_eq_true hb;subst this
    have ae:E.T e=some D:=by rw [hE];exact hD
    unfold zG at W
    split at W
    ·cases W
     have hr:ej E.T w ((bI E s w β Rt Ra).Q be) (.sl e) v (.sl l0):=hy
     cases hr with
     | slnil _ _ ax=>simp only [AV.l] at ax;subst ax;exact ⟨[],by simp,fun i j k z=>by simp at z,Nat.zero_le _,.inl ⟨rfl,rfl⟩⟩
     | sl _ O ad m c _ cs N h2 bk a1 h3 h4 h5 =>
      simp only [AV.l] at h2 h5;subst h2
      rw [ae] at N;cases N
      exact ⟨cs,h3,RC.pO (c:=bI E s w β Rt Ra) h5,Nat.le_trans bk a1,.inr ⟨ad,c,rfl,fun j u M=>(h4 j u M).2⟩⟩
    ·rename_i t _ _
     split at W
     ·rename_i e1 l1 bs ap
      cases W
      obtain ⟨O,cs,N,a6,f,ar⟩:=h.objs t _ ap
      have:O=D:=by have U:E.T e=some O:=N;rw [ae] at U;cases U;rfl
      subst this
      obtain ⟨hd,X,_⟩:=hy
      rcases fK f with ⟨A,bx⟩|⟨g,cap,A,bP,bS⟩
      ·have:=eq_nil_of_length_eq_zero bx;subst this
       exact ⟨[],by simp,fun i j k z=>by simp at z,Nat.zero_le _,.inl ⟨X.trans A,rfl⟩⟩
      ·refine ⟨cs,f.1,RC.pO (c:=bI E s w β Rt Ra) ar,Nat.le_trans bP bS,.inr ⟨⟨g,0,none⟩,cap,X.trans A,fun j u M => ?_⟩⟩
       rw [add_plain,Nat.zero_add];rw [A] at f;exact gm f j u M
     ·cases W
    ·rename_i t Y z _ _
     split at W
     ·rename_i e1 l1 bs ap
      cases W
      obtain ⟨O,cs,N,a6,f,ar⟩:=h.objs t _ ap
      have:O=D:=by have U:E.T e=some O:=N;rw [ae] at U;cases U;rfl
      subst this
      obtain ⟨hd,g0,g1,X⟩:=hy
      rcases X with ⟨A,hh,X⟩|⟨g,n,cap,ad,A,g2,X,bV⟩
      ·have b0:(iF l1 Y z)=[]:=by
        apply eq_nil_of_length_eq_zero;unfold iF;rw [length_drop,length_take];omega
       rw [b0]
       exact ⟨[],by simp,fun i j k z=>by simp at z,Nat.zero_le _,.inl ⟨X,rfl⟩⟩
      ·have a7:(β t).v = .slice (some ⟨g,0,none⟩) n cap:=A
       rw [a7] at f
       have hn:n=l1.length:=by
        rcases fK f with ⟨U,_⟩|⟨_,_,U,_⟩
        ·cases U
        ·cases U;rfl
       subst hn
       have hlen:=uw l1 Y z g0 g1 (by omega)
       have b3:l1.length<=maxLen:=by
        rcases fK f with ⟨U,_⟩|⟨_,_,U,h1,h2⟩
        ·cases U
        ·omega
       refine ⟨(cs.take (z.toNat*O.sz)).drop (Y.toNat*O.sz),?_,?_,by omega,.inr ⟨ad,_,by rw [hlen];exact X,fun j u M => ?_⟩⟩
       ·rw [length_drop,length_take,f.1,hlen]
        have:z.toNat*O.sz<=l1.length*O.sz:=Nat.mul_le_mul_right _ (by omega)
        rw [Nat.min_eq_left this,<- Nat.sub_mul];congr 1;omega
       ·refine RC.pO (c:=bI E s w β Rt Ra) fun i j k b1 hk u M => ?_
        rw [List.getElem?_drop,List.getElem?_take] at M
        split at M
        ·rw [vB l1 Y z i g0 b1]
         refine ar (Y.toNat+i) j k (by omega) hk u ?_
         rw [Nat.add_mul,Nat.add_assoc];exact M
        ·cases M
       ·rw [List.getElem?_drop,List.getElem?_take] at M
        split at M
        ·rename_i b4
         have b2:Y<z:=by
          have h1:=(List.getElem?_eq_some_iff.mp M).1
          have:Y.toNat*O.sz<z.toNat*O.sz:=by omega
          have:=Nat.lt_of_mul_lt_mul_right this
          omega
         have a8:ad=⟨g,Y.toNat*(β t).sz,none⟩:=bV b2
         rw [a8,a6,add_plain]
         exact gm f _ u M
        ·cases M
     ·cases W
    ·cases W
  ·cases V
theorem DP {T:Nat->Option TI} {w:World} {Q:Nat->Prop} {D:TI} {l:List AV} {cs:List Value} (h:RC T w Q D l cs) (hlen:cs.length=l.length*D.sz) (f:0<D.sz):∀ u∈cs,u.oneCell'=true:=by
 intro u hu
 obtain ⟨q,z⟩:=List.getElem?_of_mem hu
 have m:=(List.getElem?_eq_some_iff.mp z).1
 have hdiv:q=q / D.sz*D.sz+q % D.sz:=by rw [Nat.mul_comm];exact (Nat.div_add_mod q D.sz).symm
 have j:q % D.sz<D.lv.length:=Nat.mod_lt q f
 have A:q / D.sz<l.length:=Nat.div_lt_of_lt_mul (by rw [Nat.mul_comm,<- hlen];exact m)
 exact (h (q / D.sz) (q % D.sz) _ A (List.getElem?_eq_getElem j) u (by rw [<- hdiv];exact z)).one
theorem nU {n m b:Nat} {k:Option R} (h:room n m b k=some r):(n+m)*b<=140737488355328/\k=some r:=by
 obtain ⟨f,j⟩:=c9 h
 exact ⟨by simpa using f,j⟩
theorem fm (b:ByteArray):(eh b).length=b.size:=by unfold eh;rw [length_map,Array.length_toList];rfl
theorem vG {C:Cfg R} {q:Bool} (hP:Ok P C.ty) (hE:E.T=C.ty) (h:Rel E s a w β Rt Ra) {c:Call} (ho:o.op = .call c) (hb:c.callee = .builtin .append) {x y:Operand} (hx:c.args.toList=[x,y]) (f:dV C q s o.dst .append c.args.toList c.argTypes.toList o.type κ=some r):eG P E o a w κ r:=by
 rw [hx] at f;unfold dV at f;simp only at f
 have h1:=ck h x;have h2:=ck h y
 split at f
 ·rename_i t u e4
  have e5:c.argTypes = #[t,u]:=by apply Array.ext';simpa using e4
  unfold tQ at f
  split at f
  ·cases f
  ·rename_i S hS
   cases b1:S.sl with
   | false=>rw [b1] at f;cases f
   | true =>
    rw [b1] at f;simp only [Bool.not_true,cond_false] at f
    have b2:=(hP.ty t S hS).slice b1
    split at f
    ·cases f
    ·rename_i T hT
     have a1:=hP.ty _ T hT
     have b3:E.T S.elem=some T:=by rw [hE];exact hT
     obtain ⟨i,z,hi,c',fl,hz,hzero,_⟩:=a1.info
     have dg:z.cells.size=T.sz:=by have:=hzero.len;simp at this;exact this.symm
     split at f
     ·cases f
     ·rename_i l' st' ae
      cases q with
      | true=>cases f
      | false =>
       simp only [cond_false] at f
       cases M:uG C t u T (ev s y) with
       | false=>rw [M] at f;cases f
       | true =>
       rw [M] at f;simp only [Bool.not_true,cond_false] at f
       obtain ⟨d,news,dr,d',hlen,a6,ea,hf,eb⟩:∃ (d:TypeDesc) (news:List Value),P.underlying u=some d/\((∃ e',d = .slice e')∨d = .string)/\news.length=l'.length*T.sz/\RC E.T w ((bI E s w β Rt Ra).Q st') T l' news/\(Builtin.lenOf (a.eval y)).run P w = .ok l'.length w/\(Builtin.firstCells T.sz l'.length (a.eval y)).run P w = .ok news.toArray w/\(Builtin.firstCells T.sz l'.length (a.eval y)).run P w.drew = .ok news.toArray w.drew:=by
        by_cases bV:∃ b,ev s y = .str b
        ·obtain ⟨b,m⟩:=bV
         rw [m] at ae h2 M
         have ey:=jy h2
         unfold m5 at ae
         simp only at ae
         by_cases bs:T.lv=[.int .u8]
         ·simp only [bs,decide_true,cond_true,Option.some.injEq,Prod.mk.injEq] at ae
          obtain ⟨rfl,rfl⟩:=ae
          have b4:T.sz=1:=by unfold TI.sz;rw [bs];rfl
          unfold uG at M
          simp only [Bool.and_eq_true,Bool.not_eq_true'] at M
          obtain ⟨fo,M⟩:=M
          split at M
          ·rename_i U hU
           have fs:=M
           ·skip
            have ax:(Builtin.firstCells T.sz (eh b).length (.string b))=(Builtin.firstCells 1 b.size (.string b)):=by rw [b4,fm]
            have ed:∀ w:World,(Builtin.firstCells 1 b.size (.string b)).run P w = .ok (b.data.map fun x=>Value.int .u8 x.toNat) w:=by
             intro w
             simp only [Builtin.firstCells,Sem.run_pure]
             have:b.extract 0 b.size=b:=by apply ByteArray.ext;rw [ByteArray.data_extract];exact Array.extract_size
             rw [this]
            refine ⟨.string,b.data.toList.map fun x=>Value.int .u8 x.toNat,gH hP hU fs,.inr rfl,by rw [fm,b4,length_map,Array.length_toList,Nat.mul_one];rfl,fun i j k hh bx v hv => ?_,by rw [ey,fm];rfl,by rw [ey,ax,ed];congr 1;apply Array.ext';simp,by rw [ey,ax,ed];congr 1;apply Array.ext';simp⟩
            rw [bs] at bx
            cases j with
            | succ j=>simp at bx
            | zero =>
             simp only [List.getElem?_cons_zero,Option.some.injEq] at bx;subst bx
             rw [b4,Nat.mul_one,Nat.add_zero,List.getElem?_map] at hv
             cases b5:b.data.toList[i]? with
             | none=>rw [b5] at hv;cases hv
             | some xb =>
              rw [b5] at hv;simp only [Option.map_some,Option.some.injEq] at hv;subst hv
              have:lf T.agg ((eh b).getD i .no) 0 = .int xb.toNat:=by
               unfold lf;rw [fo];simp only [cond_false]
               unfold eh
               rw [List.getD_eq_getElem?_getD,List.getElem?_map,b5];rfl
              rw [this];exact .int .u8 (.int xb.toNat)
          ·cases M
         ·simp [bs] at ae
        ·have ei:∀ b,ev s y ≠ .str b:=fun b e=>bV ⟨b,e⟩
         obtain ⟨cs,bP,a6,hj,hv⟩:=tz hE h hT h2 ei ae
         have fu:t=u:=by
          unfold uG at M;split at M
          ·rename_i b e;exact absurd e (ei b)
          ·exact Nat.eq_of_beq_eq_true M
         subst fu
         refine ⟨_,cs,b2,.inl ⟨_,rfl⟩,bP,a6,?_⟩
         rcases hv with ⟨hv,rfl⟩|⟨ad,cp,hv,a7⟩
         ·have hn:cs=[]:=eq_nil_of_length_eq_zero (by simpa using bP)
          subst hn
          rw [hv];exact ⟨rfl,rfl,rfl⟩
         ·rw [hv]
          exact ⟨rfl,run_firstCells_some w T.sz _ ad _ cp cs bP a7,run_firstCells_some w.drew T.sz _ ad _ cp cs bP (by simpa using a7)⟩
       have en:=DP a6 hlen a1.pos
       have ep:∀ n:Nat,(n+l'.length)*T.bytes<=140737488355328->n+l'.length<=maxLen/\(n+l'.length)*i.bytes<=140737488355328:=by
        intro n hn
        refine ⟨?_,by rw [fl];exact hn⟩
        have:n+l'.length<=(n+l'.length)*T.bytes:=Nat.le_mul_of_pos_right _ a1.bpos
        simp only [maxLen];omega
       have b0:∀ v' w',(Builtin.append_ #[t,u] o.type #[a.eval x,a.eval y]).run P w = .ok v' w'->(execOp a.eval o).run P w = .ok (.value v') w':=by
        intro v' w' hr
        rw [fU ho hb,lU hx,e5]
        simp only [builtin,map_toArray,map_cons,List.map_nil,Sem.run_bind,hr];rfl
       split at f
       ·rename_i ex
        rw [ex] at h1
        have b':a.eval x = .slice none 0 0:=h1
        obtain ⟨ap,f⟩:=nU f
        obtain ⟨ca,cl⟩:=ep 0 ap
        obtain ⟨v',w',hr,O,X,a8⟩:=kq (ty:=o.type) b2 dr d' hi hz c' dg a1.pos ea hf eb hlen en (sX w false S.elem T.sz) cl ca
        have hg:kV w w':=⟨X.os,X.tape,X.output,X.size,fun b m _=>X.block b m (by simp [Value.ownBlock])⟩
        have h3:=h.jO hg
        intro next Q hn
        refine eI (b0 v' w' (by rw [b'];exact hr)) (hn _ _ _ f ?_)
        rw [Nat.zero_add,nil_append] at O
        refine h3.tP b3 O (a6.mono (fun _ h=>h) (fun b hq=>hg.block b (h.rlt b (Ez _ h.sub _ b hq)) id)) (fun b m => ?_) o.dst
        obtain ⟨fz,N⟩:=a8 b m
        have f':w.heap.size<=b:=by rcases N with N|N;(simp [Value.ownBlock] at N);exact N
        exact ⟨fun hr=>by have:=h.rlt b hr;omega,.inl (Nat.le_trans h.fr.size f'),fun t o' W V=>by have:=(h.dc t o' W b V).1;omega⟩
       ·rename_i k ek
        rw [ek] at h1
        obtain ⟨hd,b',_,et⟩:_/\a.eval x=_/\_/\(β k).arr=false:=h1
        have gb:a.eval x=(β k).v:=b'
        split at f
        ·rename_i e l st bS
         cases ct:Nat.beq e S.elem with
         | false=>rw [ct] at f;cases f
         | true =>
          rw [ct] at f;simp only [cond_true] at f
          have:=Nat.eq_of_beq_eq_true ct;subst this
          obtain ⟨ap,gr⟩:=nU f
          obtain ⟨ca,cl⟩:=ep l.length ap
          obtain ⟨T',cs,g',hc,Y,e0⟩:=h.objs k _ bS
          have ha:T'=T:=by have h':E.T S.elem=some T':=g';rw [b3] at h';cases h';rfl
          subst ha
          have Y:fx w (β k).arr S.elem T'.sz (β k).v l.length cs:=Y
          rw [et] at Y
          obtain ⟨v',w',hr,O,X,a8⟩:=kq (ty:=o.type) b2 dr d' hi hz c' dg a1.pos ea hf eb hlen en Y cl ca
          have bb:=h.dc k _ bS
          have A:∀ b,(β k).v.ownBlock=some b->b∈cu (β k) (.row S.elem l st):=fun b m=>by simp [cu,m]
          have c0:=h.Dj k
          have be:∀ t o',((s.kill k).drop k).obj t=some o'->∃ o1,s.obj t=some o1/\t≠k/\cu (β t) o'=cu (β t) o1:=by
           intro t o' W
           obtain ⟨hn,o1,ar,rfl⟩:=eX W
           exact ⟨o1,ar,hn,gE _ _ _⟩
          have h3:=c0.world X (fun b m=>⟨(bb b (A b m)).2.1,(bb b (A b m)).2.2,fun t o' W V=>by
           obtain ⟨o1,ar,hn,he⟩:=be t o' W
           rw [he] at V
           exact h.apart k _ t o1 bS ar (Ne.symm hn) b (A b m) V⟩)
          intro next Q hn
          refine eI (b0 v' w' (by rw [gb];exact hr)) (hn _ _ _ gr ?_)
          rw [<- length_append] at O
          have bk:∀ e1 b,(bI E s w β Rt Ra).Q e1 b->w'.heap[b]? = w.heap[b]? := fun e1 b hq=>by
           have e2:=Ez _ h.sub _ b hq
           exact X.block b (h.rlt b e2) (fun m=>(bb b (A b m)).2.1 e2)
          have e3:RC E.T w' ((bI E ((s.kill k).drop k) w' β Rt Ra).Q (st&&st')) T' (l++l') (cs++news):=by
           refine RC.append ?_ ?_ Y.1
           ·exact (e0.xh (c:=bI E s w β Rt Ra) h.sub (st':=st&&st') (fun e=>by rw [Bool.and_eq_true] at e;exact e.1)).mono (fun _ h=>h) (bk _)
           ·exact (RC.xh (c:=bI E s w β Rt Ra) h.sub (st:=st') (st':=st&&st') (fun e=>by rw [Bool.and_eq_true] at e;exact e.2) a6).mono (fun _ h=>h) (bk _)
          refine h3.tP b3 O e3 (fun b m => ?_) o.dst
          obtain ⟨fz,N⟩:=a8 b m
          rcases N with N|N
          ·refine ⟨(bb b (A b N)).2.1,(bb b (A b N)).2.2,fun t o' W V => ?_⟩
           obtain ⟨o1,ar,hn,he⟩:=be t o' W
           rw [he] at V
           exact h.apart k _ t o1 bS ar (Ne.symm hn) b (A b N) V
          ·refine ⟨fun hr=>by have:=h.rlt b hr;omega,.inl (Nat.le_trans h.fr.size N),fun t o' W V => ?_⟩
           obtain ⟨o1,ar,hn,he⟩:=be t o' W
           rw [he] at V
           have:=(h.dc t o1 ar b V).1;omega
        ·cases f
       ·cases f
 ·cases f
end
end Go.Proofs.Ab
namespace Go.Proofs.Ab
open Go
variable {R:Type}
section
variable {P:Program} {E:Env} {o:Oper} {s:St} {a:Act} {w w':World} {β:Nat->Bl} {Rt Ra:Nat->Prop} {κ:St->Option R} {r:R}
theorem ni {c:Cx} {k:LK} {y:SV} {u:Value} (f:fits k y=true) (h:SL c y u):ej c.T c.w (c.Q (BB y)) k u (dG y):=by
 cases k <;> cases y <;> first
  | (simp [fits] at f;done)
  | skip
 ·rename_i k j n
  have:k=j:=by simpa [fits] using f
  subst this
  have e:u = .int k n:=h
  subst e;exact .int k (.int n)
 ·have e:u=_:=h
  subst e;exact .bool (.bool _)
 ·have e:u=_:=h
  subst e;exact .str (.str _)
 ·have e:u = .slice none 0 0:=h
  subst e;exact .slnil _ _ rfl
 ·rename_i e m l st
  have:=Nat.eq_of_beq_eq_true f;subst this
  exact h
theorem xG {k:LK} {y:SV} (f:fits k y=true):known y=true:=by
 cases k <;> cases y <;> first|rfl|(simp [fits] at f)
theorem hI:∀ {f:List LK} {l:List SV},fitAll f l=true->PW (fun k y=>fits k y=true) f l
 | [],[],_=>trivial
 | k::f,v::vs,h=>by
  simp only [fitAll,Bool.and_eq_true] at h
  exact ⟨h.1,hI h.2⟩
 | [],_::_,h=>by simp [fitAll] at h
 | _::_,[],h=>by simp [fitAll] at h
theorem gW {f:List LK} {l:List SV} (h:fitAll f l=true):l.all known=true:=by
 have:=hI h
 clear h
 induction f generalizing l with
 | nil=>cases l with
  | nil=>rfl
  | cons _ _=>exact this.elim
 | cons k f j=>cases l with
  | nil=>exact this.elim
  | cons v vs=>simp only [List.all_cons,Bool.and_eq_true];exact ⟨xG this.1,j this.2⟩
theorem tx {l:List SV} (h:m0 l=true):∀ y∈l,BB y=true:=by
 induction l with
 | nil=>intro y hy;cases hy
 | cons v vs f =>
  simp only [m0,Bool.and_eq_true] at h
  intro y hy
  rcases List.mem_cons.mp hy with rfl|hy
  ·exact h.1
  ·exact f h.2 y hy
theorem ma {c:Cx} (m:∀ b,c.Rt b->c.Ra b) {T:TI} {x:SV} {d:AV} {st:Bool} (h:lm T x=some (d,st)) {v:Value} (hx:S2 c x v) :
  v.cells.size=T.sz/\∀ (j:Nat) k,T.lv[j]? = some k->∀ u,v.cells[j]? = some u->ej c.T c.w (c.Q st) k u (lf T.agg d j):=by
 unfold lm at h
 cases U:fitAll T.lv (leaves x) with
 | false=>rw [U] at h;cases h
 | true =>
  rw [U] at h;simp only [cond_true] at h
  have z:=ia hx (gW U)
  have A:=hI U
  have hlen:T.lv.length=(leaves x).length:=A.len
  refine ⟨by have:=z.len;simp at this;rw [<- this,<- hlen];rfl,fun j k hk u hu => ?_⟩
  have f:j<(leaves x).length:=by rw [<- hlen];exact (List.getElem?_eq_some_iff.mp hk).1
  have hy:(leaves x)[j]? = some (leaves x)[j]:=List.getElem?_eq_getElem f
  have M:=A.get hk hy
  have V:SL c (leaves x)[j] u:=z.get hy (by simpa using hu)
  have W:=ni M V
  cases ha:T.agg with
  | true =>
   rw [ha] at h;simp only [cond_true] at h
   split at h
   ·rename_i l
    simp only [Option.some.injEq,Prod.mk.injEq] at h
    obtain ⟨rfl,rfl⟩:=h
    have e:lf true (.agg (l.map dG)) j=dG ((leaves (.agg l))[j]):=by
     show (l.map dG).getD j .no=_
     have N:j<l.length:=f
     simp [List.getD_eq_getElem?_getD,N,leaves]
    rw [e]
    exact W.xh m fun e=>tx e _ (getElem_mem f)
   ·cases h
  | false =>
   rw [ha] at h;simp only [cond_false] at h
   split at h
   ·cases h
   ·rename_i X
    simp only [Option.some.injEq,Prod.mk.injEq] at h
    obtain ⟨rfl,rfl⟩:=h
    have O:leaves x=[x]:=by cases x <;> first|rfl|exact absurd rfl (X _)
    have Y:j=0:=by rw [O] at f;simpa using f
    subst Y
    have e:(leaves x)[0]=x:=by simp [O]
    rw [e] at W
    exact W
theorem sf {c:Cx} (z:∀ b,c.Rt b->c.Ra b) {T:TI}:∀ (xs:List SV) (vs:List Value) (m:Nat) (cells:Array Value) (l:List AV) (st A:Bool),rowOf T xs=some (l,A)->(st=true->A=true)->PW (S2 c) xs vs->(m+xs.length)*T.sz<=cells.size ->
  ∃ f,Instr.fill (fun i=>some (i*T.sz,T.sz)) cells ((List.range' m xs.length).zip vs)=some f/\f.size=cells.size/\l.length=xs.length/\(∀ q,q<m*T.sz->f[q]? = cells[q]?) /\
   ∀ (i j:Nat) k,i<xs.length->T.lv[j]? = some k->∀ v,f[(m+i)*T.sz+j]? = some v->ej c.T c.w (c.Q st) k v (lf T.agg (l.getD i .no) j)
 | [],[],m,cells,l,st,A,h,_,_,_=>by
  simp only [rowOf,Option.some.injEq,Prod.mk.injEq] at h
  obtain ⟨rfl,rfl⟩:=h
  exact ⟨cells,rfl,rfl,rfl,fun _ _=>rfl,fun i j k X=>by simp at X⟩
 | x::xs,v::vs,m,cells,l,st,A,h,O,N,U=>by
  unfold rowOf at h
  split at h
  ·rename_i d ae l2 Y hd hr
   simp only [Option.some.injEq,Prod.mk.injEq] at h
   obtain ⟨rfl,rfl⟩:=h
   obtain ⟨V,ad⟩:=ma z hd N.1
   simp only [length_cons] at U
   have ap:m*T.sz+T.sz<=cells.size:=by
    have:(m+1)*T.sz<=(m+(xs.length+1))*T.sz:=Nat.mul_le_mul_right _ (by omega)
    rw [Nat.add_mul,Nat.one_mul] at this;omega
   have M:=np (m*T.sz) v.cells cells
   have W:(v.cells.zipIdx.foldl (fun cs (p:Value × Nat)=>cs.setIfInBounds (m*T.sz+p.2) p.1) cells).size=cells.size:=by
    rw [<- Array.length_toList,M,iB];simp
   obtain ⟨f,h1,h2,h3,h4,h5⟩:=sf z xs vs (m+1) _ l2 st Y hr (fun e=>by have:=O e;rw [Bool.and_eq_true] at this;exact this.2) N.2 (by rw [W];rw [show m+1+xs.length=m+(xs.length+1) by omega];exact U)
   refine ⟨f,?_,h2.trans W,by simp [h3],fun q hq => ?_,fun i j k X hk u hu => ?_⟩
   ·rw [show (x::xs).length=xs.length+1 from rfl,List.range'_succ,List.zip_cons_cons]
    unfold Instr.fill
    simp only
    rw [if_neg (by simp only [V,ne_eq,not_true_eq_false,decide_false,Bool.false_or,gt_iff_lt,decide_eq_true_eq];omega)]
    exact h1
   ·rw [h4 q (by rw [Nat.add_mul];omega),<- Array.getElem?_toList,M,iA,if_neg (by omega),Array.getElem?_toList]
   ·have hj:j<T.sz:=(List.getElem?_eq_some_iff.mp hk).1
    cases i with
    | zero =>
     rw [Nat.add_zero,h4 _ (by rw [Nat.add_mul,Nat.one_mul];omega),<- Array.getElem?_toList,M,iA,if_pos ⟨by omega,by simp [V];omega,by simp;omega⟩] at hu
     rw [show m*T.sz+j-m*T.sz=j by omega] at hu
     have:=ad j k hk u (by simpa using hu)
     simp only [List.getD_cons_zero]
     exact this.xh z fun e=>by have:=O e;rw [Bool.and_eq_true] at this;exact this.1
    | succ i =>
     simp only [List.getD_cons_succ]
     exact h5 i j k (by simpa using X) hk u (by rw [show m+1+i=m+(i+1) by omega];exact hu)
  ·cases h
 | [],_::_,_,_,_,_,_,_,_,N,_=>N.elim
 | _::_,[],_,_,_,_,_,_,_,N,_=>N.elim
theorem ri {α β:Type} (f : α -> β):∀ (l:List (Nat × α)) (m:Nat),l.map (·.1)=List.range' m l.length->(List.range' m l.length).zip (l.map fun p=>f p.2)=l.map fun p=>(p.1,f p.2)
 | [],_,_=>rfl
 | p::l,m,h=>by
  simp only [map_cons,length_cons,List.range'_succ,List.cons.injEq] at h
  simp only [length_cons,List.range'_succ,map_cons,List.zip_cons_cons]
  rw [ri f l (m+1) h.2,h.1]
theorem oR {C:Cfg R} {q:Bool} (hP:Ok P C.ty) (hE:E.T=C.ty) (h:Rel E s a w β Rt Ra) {t n:Nat} {ps:Array (Nat × Operand)} (ho:o.op = .buildSlice t n ps) (f:eL C q o s κ=some r):eG P E o a w κ r:=by
 unfold eL at f;rw [ho] at f;simp only at f
 split at f
 ·rename_i S hS
  cases U:S.sl with
  | false=>rw [U] at f;cases f
  | true =>
   rw [U] at f;simp only [Bool.not_true,cond_false] at f
   have ad:=(hP.ty t S hS).slice U
   split at f
   ·rename_i T hT
    have m:=hP.ty _ T hT
    have a7:E.T S.elem=some T:=by rw [hE];exact hT
    obtain ⟨i,z,hi,V,bV,hz,hzero,_⟩:=m.info
    generalize b0:(ps.toList.flatMap fun p=>owns (leaves (ev s p.2)))=fz at f
    cases hq:(q && !fz.isEmpty) with
    | true=>rw [hq] at f;cases f
    | false =>
     rw [hq] at f;simp only [cond_false] at f
     obtain ⟨u,A,M,N⟩:=dj.gi fz ⟨β,Rt,Ra,h⟩
     generalize gi fz s=s1 at f N
     split at f
     ·rename_i l st ae
      cases Y:(Nat.beq l.length n&&decide ((ps.toList.map (·.1))=List.range n)&&decide (n*T.sz<=1000000)) with
      | false=>rw [Y] at f;cases f
      | true =>
       rw [Y] at f;simp only [cond_true] at f
       rw [Bool.and_eq_true,Bool.and_eq_true] at Y
       have ap:=Nat.eq_of_beq_eq_true Y.1.1
       have ar:ps.toList.map (·.1)=List.range n:=of_decide_eq_true Y.1.2
       have a6:n*T.sz<=1000000:=of_decide_eq_true Y.2
       have W:ps.toList.length=n:=by have:=congrArg List.length ar;simpa using this
       have a8:PW (S2 (bI E s1 w u A M)) (ps.toList.map fun p=>ev s1 p.2) (ps.toList.map fun p=>a.eval p.2):=kw _ _ (fun p=>ck N p.2) ps.toList
       have hg:=fQ w
       intro next Q hn
       -- the cells
       have fin:∀ (cells:Array Value),cells.size=n*T.sz->RC E.T w ((bI E s1 w u A M).Q (T.flat||st)) T l cells.toList->(Instr.buildSlice t n (ps.map fun p=>(p.1,a.eval p.2))).run P w = .ok (.slice (some ⟨w.heap.size,0,none⟩) n n) (w.alloc (.cells cells S.elem))->o.wp P a w next Q:=by
        intro cells X bb hr
        refine eI (v := .slice (some ⟨w.heap.size,0,none⟩) n n) (w':=w.alloc (.cells cells S.elem)) (by unfold execOp;rw [ho];show (((Instr.buildSlice t n (ps.map fun p=>(p.1,a.eval p.2))) >>= fun v=>pure (Next.value v)).run P w)=_;rw [Sem.run_bind,hr];rfl) (hn _ _ _ f ?_)
        have h2:=N.jO (hg (.cells cells S.elem))
        have ax:fx (w.alloc (.cells cells S.elem)) false S.elem T.sz (.slice (some ⟨w.heap.size,0,none⟩) n n) l.length cells.toList:=by
         rw [ap]
         refine ⟨by simpa using X,.inr ⟨w.heap.size,n,cells,S.elem,(0,0),rfl,fun _=>rfl,heap_alloc_new w _,.inl rfl,Nat.le_refl _,?_,X,List.take_of_length_le (by rw [Array.length_toList,X];exact Nat.le_refl _)⟩⟩
         have:n<=n*T.sz:=Nat.le_mul_of_pos_right _ m.pos
         simp only [maxLen];omega
        refine h2.tP a7 ax (bb.mono (fun _ h=>h) (fun b hq=>(hg _).block b (N.rlt b (Ez _ N.sub _ b hq)) id)) (fun b hb => ?_) o.dst
        have be:b=w.heap.size:=by simpa [Value.ownBlock,eq_comm] using hb
        subst be
        exact ⟨fun hr=>Nat.lt_irrefl _ (N.rlt _ hr),.inl N.fr.size,fun t o' bk bs=>Nat.lt_irrefl _ (N.dc t o' bk _ bs).1⟩
       by_cases bx:n=0
       ·subst bx
        have bP:ps = #[]:=by apply Array.ext';simpa using W
        have bS:l=[]:=eq_nil_of_length_eq_zero ap
        subst bS
        refine fin #[] (by simp) (fun i j k hi=>by simp at hi) ?_
        simp [Instr.buildSlice,run_underlying ad,fA m,bP,Instr.fill,newRow,Array.range_zero']
       ·have a1:¬ n*T.sz=0:=by
         have:=m.pos
         intro e;rcases Nat.mul_eq_zero.mp e with e|e <;> omega
        have O:((Array.range (n*T.sz)).map (z.cells[· % z.cells.size]!)).size=n*T.sz:=by simp
        obtain ⟨cells,f1,f2,f3,_,f5⟩:=sf (c:=bI E s1 w u A M) N.sub _ _ 0 ((Array.range (n*T.sz)).map (z.cells[· % z.cells.size]!)) l st st ae id a8 (by rw [length_map,W,Nat.zero_add,O];exact Nat.le_refl _)
        refine fin cells (f2.trans O) (RC.pO (c:=bI E s1 w u A M) fun i j k hi f v hv=>f5 i j k (by rw [<- f3];exact hi) f v (by rw [Nat.zero_add];simpa using hv)) ?_
        refine run_buildSlice w t S.elem n _ cells i z ad hi hz (by rw [V];omega) (by rw [V];exact a1) ?_
        rw [V,<- f1]
        congr 1
        rw [Array.toList_map,length_map]
        exact (ri a.eval ps.toList 0 (by rw [ar,W,List.range_eq_range'])).symm
     ·cases f
   ·cases f
 ·cases f
end
end Go.Proofs.Ab
namespace Go.Proofs.Ab
open Go
variable {R:Type}
section
variable {P:Program} {E:Env} {o:Oper} {s:St} {a:Act} {w w':World} {β:Nat->Bl} {Rt Ra:Nat->Prop} {κ:St->Option R} {r:R}
theorem mZ (s:St) (k:Nat) (j f:Obj):(s.setObj k j).setObj k f=s.setObj k f:=by
 simp only [St.setObj,List.map_map]
 congr 1
 apply List.map_congr_left
 intro p _
 simp only [Function.comp]
 cases h:Nat.beq k p.1 with
 | true=>simp only [cond_true,h]
 | false=>simp only [cond_false,h]
theorem Cx.Le.trans {c c' f:Cx} (h:c.Le c') (j:c'.Le f):c.Le f:=
 ⟨j.T.trans h.T,fun st b m=>j.Q st b (h.Q st b m),fun st b m=>(j.w st b (h.Q st b m)).trans (h.w st b m),fun t u=>j.D t (h.D t u),fun t u=>(j.β t (h.D t u)).trans (h.β t u)⟩
theorem Rel.iD (h:Rel E s a w β Rt Ra) {k:Nat} {ob:Obj} (A:s.obj k=some ob) (m:Obj) (M:Fr (fun b=>b∈cu (β k) ob) w w') (Y:∀ b∈cu (β k) m,b∈cu (β k) ob)
  (ad:(bI E s w β Rt Ra).Le (bI E (s.setObj k m) w' β Rt Ra)->OR (bI E (s.setObj k m) w' β Rt Ra) (β k) m):Rel E (s.setObj k m) a w' β Rt Ra:=by
 have X:=h.dc k _ A
 obtain ⟨h1,N⟩:=h.toRelO.hole k
 have hh:(s.setObj k .hole).obj k=some .hole:=by rw [dX,if_pos rfl,A];rfl
 have O:∀ t u,(s.setObj k .hole).obj t=some u->t=k∨(t≠k/\s.obj t=some u):=by
  intro t u f
  rw [dX] at f
  split at f
  ·rename_i e;exact .inl e
  ·rename_i e;exact .inr ⟨e,f⟩
 have z:∀ b∈cu (β k) ob,∀ t u,(s.setObj k .hole).obj t=some u->b ∉ cu (β t) u:=by
  intro b j t u f
  rcases O t u f with rfl|⟨hn,f⟩
  ·rw [hh] at f;cases f;simp [cu]
  ·exact h.apart k ob t u A f (Ne.symm hn) b j
 obtain ⟨h2,U⟩:=h1.world (w':=w') (fun b hr=>M.block b (h.rlt b hr) (fun V=>(X b V).2.1 hr)) (fun t u f b j=>M.block b (h1.dc t u f b j).1 (fun V=>z b V t u f j)) M.size (h.fr.trans M fun b V=>(X b V).2.2)
 obtain ⟨h3,W⟩:=h2.set k m hh (fun b j=>⟨Nat.lt_of_lt_of_le (X b (Y b j)).1 M.size,(X b (Y b j)).2⟩) (fun b j=>z b (Y b j)) (fun le=>by
  rw [mZ] at le ⊢
  exact ad ((N.trans U).trans le))
 rw [mZ] at h3 W
 exact ⟨h3,h.len,h.defers,fH ((N.trans U).trans W) h.slots⟩
theorem Aj {α : Type} (l:List α) (j:Nat) (vs:List α) (h:j+vs.length<=l.length):gw l j vs=l.take j++vs++l.drop (j+vs.length):=by
 apply List.ext_getElem?
 intro q
 rw [iA]
 by_cases f:q<j
 ·rw [if_neg (by omega),append_assoc,List.getElem?_append_left (by simp;omega),List.getElem?_take,if_pos f]
 ·by_cases m:q<j+vs.length
  ·rw [if_pos ⟨by omega,m,by omega⟩,append_assoc,List.getElem?_append_right (by simp;omega),List.getElem?_append_left (by simp;omega)]
   congr 1;simp;omega
  ·rw [if_neg (by omega),List.getElem?_append_right (by simp;omega),List.getElem?_drop]
   congr 1;simp;omega
theorem iV {P:Program} {t:Nat} {T:TI} (A:TyOk P t T) {w:World} {g off q:Nat} {z:Nat × Nat} {f:Array Value} (U:w.heap[g]? = some (.cells f q z)) (M:z=(0,0)∨z=(f.size,f.size+1)) {v:Value} (N:v.cells.size=T.sz) (V:∀ u∈v.cells.toList,u.oneCell'=true) (j:off+T.sz<=f.size) :
  (Instr.storeAt t (.pointer (some ⟨g,off,none⟩)) v).run P w = .ok () (w.setRow g (gw f.toList off v.cells.toList).toArray):=by
 have O:v.cells.toList.length=T.sz:=by simpa using N
 have m:=gu P g off q z v.cells.toList 0 f w U M (by rw [O];simpa using j) V
 simp only [Nat.add_zero] at m
 rw [Aj _ _ _ (by rw [O,Array.length_toList];exact j)]
 simp only [Instr.storeAt,Instr.sureAddr,Sem.run_bind,Sem.run_pure,Result.andThen_ok,storeVar,fA A]
 rw [Sem.run_ite,if_neg (by rw [N];simp)]
 exact m
theorem nu {w:World} {g:Nat} {X:Nat->Prop} (f:X g) (cs:Array Value):Fr X w (w.setRow g cs):=
 ⟨rfl,rfl,rfl,by simp,fun b _ j=>setRow_other w g b cs (fun e=>j (by rw [e];exact f))⟩
theorem rh {t:Nat} {x y:Operand} (f:o.op = .store t x y) {next:Act->World->Prop} {Q:Exit->Act->World->Prop} (j:(Instr.storeAt t (a.eval x) (a.eval y)).run P w = .ok () w') (m:next (a.put o.dst undef) w'):o.wp P a w next Q:=by
 refine wp_skip rfl ?_ m
 unfold execOp;rw [f]
 show ((Instr.storeAt t (a.eval x) (a.eval y)) >>= fun _=>pure Next.skip).run P w=_
 rw [Sem.run_bind,j];rfl
theorem ej.EN {T:Nat->Option TI} {Q:Nat->Prop} {k:LK} {v:Value} {x:AV} (st:Bool) (h:ej T w Q k v x):ej T w Q k v (dG (eta st k x)):=by
 cases h with
 | int k=>exact .int k (.int x.i)
 | bool=>exact .bool (.bool x.b)
 | str=>exact .str (.str x.s)
 | slnil e a h=>exact .slnil e _ h
 | sl e E u n m a cs z A j f M N O=>exact .sl e E u n m _ cs z A j f M N O
theorem Gh {S:SV->Value->Prop} {f vs:List SV} {off:Nat} {m:List Value} (h:PW S (gw f off vs) m):PW S (D8 f off vs) m:=by rw [uY];exact h
theorem xW {C:Cfg R} {q:Bool} (hP:Ok P C.ty) (hE:E.T=C.ty) (h:Rel E s a w β Rt Ra) {t:Nat} {x y:Operand} (ho:o.op = .store t x y) (f:eL C q o s κ=some r):eG P E o a w κ r:=by
 unfold eL at f;rw [ho] at f;simp only at f
 have hx:=ck h x
 split at f
 ·rename_i T hT
  have d':=hP.ty t T hT
  split at f
  ·rename_i k off ek
   rw [ek] at hx
   obtain ⟨hd,ex⟩:_/\a.eval x = .pointer (some ⟨(β k).b,off,none⟩):=hx
   split at f
   ·rename_i ty ls Y
    cases O:(Nat.beq (leaves (ev s y)).length T.sz&&(leaves (ev s y)).all known&&decide (off+T.sz<=ls.length)) with
    | false=>rw [O] at f;cases f
    | true =>
     rw [O] at f;simp only [cond_true] at f
     rw [Bool.and_eq_true,Bool.and_eq_true] at O
     have hlen:=Nat.eq_of_beq_eq_true O.1.1
     have ad:=O.1.2
     have be:off+T.sz<=ls.length:=of_decide_eq_true O.2
     have m:=ia (ck h y) ad
     obtain ⟨cs,qq,hg,U⟩:=h.objs k _ Y
     have hF:(a.eval y).cells.size=T.sz:=by rw [<- hlen,m.len];simp
     have ax:off+T.sz<=cs.size:=by have:=U.len;simp at this;omega
     have ae:∀ u∈(a.eval y).cells.toList,u.oneCell'=true:=by
      intro u hu
      obtain ⟨i,hi⟩:=List.getElem?_of_mem hu
      have bP:i<(leaves (ev s y)).length:=by rw [m.len];exact (List.getElem?_eq_some_iff.mp hi).1
      have N:(leaves (ev s y))[i]? = some (leaves (ev s y))[i]:=List.getElem?_eq_getElem bP
      exact kG (List.all_eq_true.mp ad _ (getElem_mem bP)) (m.get N hi)
     intro next Q hn
     refine rh ho (w':=w.setRow (β k).b (gw cs.toList off (a.eval y).cells.toList).toArray) (by rw [ex];exact iV d' hg (.inl rfl) hF ae ax) (hn _ _ _ f ?_)
     have h2:=h.iD Y (.var ty (D8 ls off (leaves (ev s y)))) (nu (X:=fun b=>b∈cu (β k) (.var ty ls)) (w:=w) (g:=(β k).b) (by simp [cu]) _) (fun b hb=>hb) (fun le=>⟨_,qq,setRow_heap w _ _ _ _ _ hg,by
      exact Gh <| PW.gw off (U.imp fun _ _=>lS.le le) (PW.imp_mem (fun z hz v M=>rN (List.all_eq_true.mp ad z hz) (SL.le le M)) m)⟩)
     exact ⟨_,_,_,h2.put o.dst (x := .undef) (dC (dR rfl))⟩
   ·cases f
  ·generalize owns (leaves (ev s y))=fz at f
   cases hq:(q && !fz.isEmpty) with
   | true=>rw [hq] at f;cases f
   | false =>
    rw [hq] at f;simp only [cond_false] at f
    obtain ⟨V,bS,bV,h1⟩:=dj.gi fz ⟨β,Rt,Ra,h⟩
    generalize gi fz s=s1 at f h1
    have gb:=ck h1 x
    split at f
    ·rename_i k i off ek
     rw [ek] at gb
     obtain ⟨hd,g0,g,n,cap,e1,e2,ex⟩:_/\_/\∃ g n cap,(V k).v=_/\_/\a.eval x = .pointer (some ⟨g,i.toNat*(V k).sz+off,none⟩):=gb
     split at f
     ·rename_i el l st Y
      obtain ⟨D,cs,b',bk,ap,gr⟩:=h1.objs k _ Y
      have et:C.ty el=some D:=by rw [<- hE];exact b'
      rw [et] at f;simp only at f
      cases O:(Nat.beq (leaves (ev s1 y)).length T.sz&&decide (off+T.sz<=D.sz)&&fitAll ((D.lv.drop off).take T.sz) (leaves (ev s1 y))) with
      | false=>rw [O] at f;cases f
      | true =>
       rw [O] at f;simp only [cond_true] at f
       rw [Bool.and_eq_true,Bool.and_eq_true] at O
       have hlen:=Nat.eq_of_beq_eq_true O.1.1
       have be:off+T.sz<=D.sz:=of_decide_eq_true O.1.2
       have bb:=O.2
       have ad:=gW bb
       have ea:=hI bb
       have m:=ia (ck h1 y) ad
       have eb:(a.eval y).cells.toList.length=T.sz:=by rw [<- m.len,hlen]
       rw [e1] at ap
       obtain ⟨e0,M⟩:=ap
       rcases M with ⟨M,_⟩|⟨g',ha,W,q',fz,M,e3,hg,cl,ed,e4,U,cp⟩
       ·cases M
       ·cases M
        have hi:i.toNat<l.length:=by omega
        have hX:i.toNat*D.sz+D.sz<=l.length*D.sz:=by
         have:(i.toNat+1)*D.sz<=l.length*D.sz:=Nat.mul_le_mul_right _ hi
         rw [Nat.add_mul,Nat.one_mul] at this;exact this
        have hf:l.length*D.sz<=cap*D.sz:=Nat.mul_le_mul_right _ ed
        have ax:i.toNat*D.sz+off+T.sz<=W.size:=by rw [U];omega
        have ae:∀ u∈(a.eval y).cells.toList,u.oneCell'=true:=by
         intro u hu
         obtain ⟨i,hi⟩:=List.getElem?_of_mem hu
         have bP:i<(leaves (ev s1 y)).length:=by rw [m.len];exact (List.getElem?_eq_some_iff.mp hi).1
         have N:(leaves (ev s1 y))[i]? = some (leaves (ev s1 y))[i]:=List.getElem?_eq_getElem bP
         exact kG (List.all_eq_true.mp ad _ (getElem_mem bP)) (m.get N hi)
        intro next Q hn
        refine rh ho (w':=w.setRow g (gw W.toList (i.toNat*D.sz+off) (a.eval y).cells.toList).toArray) (by rw [ex,bk];exact iV d' hg cl (by simpa using eb) ae ax) (hn _ _ _ f ?_)
        have e5:g∈cu (V k) (.row el l st):=by simp [cu,e1,Value.ownBlock]
        have h2:=h1.iD Y (.row el (eF l i (pK D (bi l i) off (leaves (ev s1 y)))) (D.flat||(st&&m0 (leaves (ev s1 y))))) (nu (X:=fun b=>b∈cu (V k) (.row el l st)) (w:=w) (g:=g) e5 _) (fun b hb=>hb) (fun le=>by
         have hh:(eF l i (pK D (bi l i) off (leaves (ev s1 y)))).length=l.length:=by unfold eF;simp
         refine ⟨D,(gw cs (i.toNat*D.sz+off) (a.eval y).cells.toList),b',bk,?_,?_⟩
         ·rw [e1,hh]
          refine ⟨by rw [iB];exact e0,.inr ⟨g,cap,(gw W.toList (i.toNat*D.sz+off) (a.eval y).cells.toList).toArray,q',fz,rfl,e3,setRow_heap w g W _ q' _ hg,by rw [size_toArray,iB,Array.length_toList];exact cl,ed,e4,by rw [size_toArray,iB,Array.length_toList];exact U,?_⟩⟩
          apply List.ext_getElem?
          intro p
          rw [<- cp]
          simp only [List.getElem?_take,iA,length_take,Array.length_toList,U]
          have hl:min (l.length*D.sz) (cap*D.sz)=l.length*D.sz:=Nat.min_eq_left hf
          rw [hl]
          by_cases hp:p<l.length*D.sz
          ·simp only [if_pos hp]
           by_cases bs:i.toNat*D.sz+off<=p/\p<i.toNat*D.sz+off+(a.eval y).cells.toList.length
           ·rw [if_pos ⟨bs.1,bs.2,by omega⟩,if_pos ⟨bs.1,bs.2,hp⟩]
           ·rw [if_neg (fun h=>bs ⟨h.1,h.2.1⟩),if_neg (fun h=>bs ⟨h.1,h.2.1⟩)]
          ·simp only [if_neg hp]
           rw [if_neg (fun h=>hp h.2.2)]
         ·have hr:RC E.T w ((bI E s1 w V bS bV).Q (D.flat||(st&&m0 (leaves (ev s1 y))))) D (eF l i (pK D (bi l i) off (leaves (ev s1 y)))) (gw cs (i.toNat*D.sz+off) (a.eval y).cells.toList):=by
           refine RC.pO (c:=bI E s1 w V bS bV) fun i' j kk hs bx v M => ?_
           rw [hh] at hs
           have hj:j<D.sz:=(List.getElem?_eq_some_iff.mp bx).1
           rw [iA] at M
           have hold:∀ u,cs[i'*D.sz+j]? = some u->ej E.T w ((bI E s1 w V bS bV).Q (st&&m0 (leaves (ev s1 y)))) kk u (lf D.agg (l.getD i' .no) j):=fun u hu =>
            ej.xh (c:=bI E s1 w V bS bV) h1.sub (st:=st) (fun e=>by rw [Bool.and_eq_true] at e;exact e.1) (gr i' j kk hs bx u hu)
           by_cases fl:i'=i.toNat
           ·subst fl
            have ct:(eF l i (pK D (bi l i) off (leaves (ev s1 y)))).getD i.toNat .no=pK D (bi l i) off (leaves (ev s1 y)):=by
             unfold eF;simp [List.getD_eq_getElem?_getD,hi]
            rw [ct]
            by_cases hJ:off<=j/\j<off+T.sz
            ·rw [if_pos ⟨by omega,by rw [eb];omega,by rw [e0];exact xY hi hj⟩] at M
             rw [show i.toNat*D.sz+j-(i.toNat*D.sz+off)=j-off by omega] at M
             have ht:j-off<(leaves (ev s1 y)).length:=by omega
             have N:(leaves (ev s1 y))[j-off]? = some (leaves (ev s1 y))[j-off]:=List.getElem?_eq_getElem ht
             have hA:((D.lv.drop off).take T.sz)[j-off]? = some kk:=by
              rw [List.getElem?_take,if_pos (by omega),List.getElem?_drop,show off+(j-off)=j by omega];exact bx
             have fo:=(ni (ea.get hA N) (m.get N M)).xh (c:=bI E s1 w V bS bV) h1.sub (st':=st&&m0 (leaves (ev s1 y))) (fun e=>by rw [Bool.and_eq_true] at e;exact tx e.2 _ (getElem_mem ht))
             have fr:lf D.agg (pK D (bi l i) off (leaves (ev s1 y))) j=dG (leaves (ev s1 y))[j-off]:=by
              unfold pK lf
              cases fs:D.agg with
              | true =>
               simp only [cond_true]
               show ((D8 (lq true true (bi l i) 0 D.lv) off (leaves (ev s1 y))).map dG).getD j .no=_
               rw [List.getD_eq_getElem?_getD,List.getElem?_map,uY,iA,if_pos ⟨hJ.1,by omega,by rw [mj];exact hj⟩,N];rfl
              | false =>
               simp only [cond_false]
               have hK:D.sz=1:=by
                obtain ⟨i1,z1,hL,hM,_,_,fu,c0⟩:=(hP.ty el D et).info
                have f':¬ ∃ cs,z1 = .agg cs:=by rw [c0,fs];simp
                have c':=fu.len
                have:z1.cells = #[z1]:=by cases z1 <;> first|rfl|exact absurd ⟨_,rfl⟩ f'
                rw [this] at c';exact c'
               have hN:(leaves (ev s1 y)).length=1:=by omega
               have hO:j-off=0:=by omega
               split
               ·rename_i z hz;simp [hz,hO]
               ·rename_i hQ
                exfalso
                obtain ⟨z,hz⟩:=List.length_eq_one_iff.mp hN
                exact hQ z hz
             rw [fr];exact fo
            ·rw [if_neg (by rw [eb];omega)] at M
             have:=(hold v M).EN true
             have fr:lf D.agg (pK D (bi l i) off (leaves (ev s1 y))) j=dG (eta true kk (lf D.agg (l.getD i.toNat .no) j)):=by
              unfold pK lf
              cases fs:D.agg with
              | true =>
               simp only [cond_true]
               show ((D8 (lq true true (bi l i) 0 D.lv) off (leaves (ev s1 y))).map dG).getD j .no=_
               rw [List.getD_eq_getElem?_getD,List.getElem?_map,uY,iA,if_neg (by omega),mi,bx,Nat.zero_add];rfl
              | false =>
               exfalso
               have hK:D.sz=1:=by
                obtain ⟨i1,z1,hL,hM,_,_,fu,c0⟩:=(hP.ty el D et).info
                have f':¬ ∃ cs,z1 = .agg cs:=by rw [c0,fs];simp
                have c':=fu.len
                have:z1.cells = #[z1]:=by cases z1 <;> first|rfl|exact absurd ⟨_,rfl⟩ f'
                rw [this] at c';exact c'
               have:=d'.pos
               omega
             rw [fr];exact this
           ·have ct:(eF l i (pK D (bi l i) off (leaves (ev s1 y)))).getD i' .no=l.getD i' .no:=by
             unfold eF;rw [List.getD_eq_getElem?_getD,List.getElem?_set_ne (fun e=>fl e.symm),<- List.getD_eq_getElem?_getD]
            rw [ct]
            rw [if_neg ?_] at M
            ·exact hold v M
            ·rw [eb]
             intro h0
             rcases Nat.lt_or_gt_of_ne fl with hR|hS
             ·have:(i'+1)*D.sz<=i.toNat*D.sz:=Nat.mul_le_mul_right _ hR
              rw [Nat.add_mul,Nat.one_mul] at this;omega
             ·have:(i.toNat+1)*D.sz<=i'*D.sz:=Nat.mul_le_mul_right _ hS
              rw [Nat.add_mul,Nat.one_mul] at this;omega
          refine hr.mono (fun b hq=>le.Q _ b hq) (fun b hq => ?_)
          exact (le.w _ b hq))
        exact ⟨_,_,_,h2.put o.dst (x := .undef) (dC (dR rfl))⟩
     ·cases f
    ·cases f
  ·rename_i k n ek
   rw [ek] at hx
   obtain ⟨hd,g,cap,e1,ex⟩:_/\∃ g cap,(β k).v=_/\a.eval x = .pointer (some ⟨g,0,none⟩):=hx
   split at f
   ·rename_i e l st kk Y bx
    obtain ⟨a1,a2,a3,D,hD,a4,a5,a6,a7,a8⟩:=gf bx
    cases O:(Nat.beq e T.elem&&Nat.beq n T.sz) with
    | false=>rw [O] at f;cases f
    | true =>
     rw [O] at f;simp only [cond_true] at f
     rw [Bool.and_eq_true] at O
     have he:=Nat.eq_of_beq_eq_true O.1;have hB:=Nat.eq_of_beq_eq_true O.2
     subst he
     obtain ⟨D',cs,b',bk,ap,gr⟩:=h.objs k _ Y
     have hU:D'=D:=by have h':E.T T.elem=some D':=b';rw [hE,hD] at h';cases h';rfl
     subst hU
     have A:D'.sz=1:=by unfold TI.sz;rw [a4];rfl
     have hV:D'.flat=true:=by unfold TI.flat;rw [a4];simp [a6]
     have e5:g∈cu (β k) (.row T.elem l st):=by simp [cu,e1,Value.ownBlock]
     rw [e1] at ap
     obtain ⟨e0,M⟩:=ap
     rcases M with ⟨M,_⟩|⟨g',ha,W,q',fz,M,e3,hg,cl,ed,e4,U,cp⟩
     ·cases M
     ·cases M
      have fin:∀ (l2:List AV),l2.length=T.sz->(a.eval y).cells.toList.length=T.sz->RC E.T w (fun _=>False) D' l2 (a.eval y).cells.toList->κ ((s.setObj k (.row T.elem l2 true)).put o.dst .undef)=some r->eG P E o a w κ r:=by
       intro l2 dg ar en f next Q hn
       have ae:=DP en (by rw [ar,dg,A,Nat.mul_one]) (by rw [A];exact Nat.one_pos)
       have be:0+T.sz<=W.size:=by rw [U,A];omega
       refine rh ho (w':=w.setRow g (gw W.toList 0 (a.eval y).cells.toList).toArray) (by rw [ex];exact iV d' hg cl (by simpa using ar) ae be) (hn _ _ _ f ?_)
       have h2:=h.iD Y (.row T.elem l2 true) (nu (X:=fun b=>b∈cu (β k) (.row T.elem l st)) (w:=w) (g:=g) e5 _) (fun b hb=>hb) (fun le=>by
        refine ⟨D',(a.eval y).cells.toList,b',bk,?_,?_⟩
        ·rw [e1]
         refine ⟨by rw [ar,dg,A,Nat.mul_one],.inr ⟨g,cap,(gw W.toList 0 (a.eval y).cells.toList).toArray,q',fz,by rw [dg,<- hB],e3,setRow_heap w g W _ q' _ hg,by rw [size_toArray,iB,Array.length_toList];exact cl,by rw [dg,<- hB];exact ed,e4,by rw [size_toArray,iB,Array.length_toList];exact U,?_⟩⟩
         rw [Aj _ _ _ (by rw [ar,Array.length_toList];exact be)]
         simp only [List.take_zero,nil_append,dg,A,Nat.mul_one]
         rw [<- ar];exact take_left
        ·exact en.flat hV)
       exact ⟨_,_,_,h2.put o.dst (x := .undef) (dC (dR rfl))⟩
      split at f
      ·rename_i e' n' l' ey
       have hy:=ck h y
       rw [ey] at hy
       obtain ⟨b0,D2,ca,b1,b2,b3,b4,b5⟩:l'.length=n'/\∃ D' cs,E.T _=some D'/\D'.flat=true/\a.eval y = .agg cs/\cs.size=_/\RC E.T w _ D' _ cs.toList:=hy
       cases dr:(Nat.beq e' T.elem&&Nat.beq n' T.sz) with
       | false=>rw [dr] at f;cases f
       | true =>
        rw [dr] at f;simp only [cond_true] at f
        rw [Bool.and_eq_true] at dr
        have he:=Nat.eq_of_beq_eq_true dr.1;have ep:=Nat.eq_of_beq_eq_true dr.2
        subst he
        rw [hE,hD] at b1;cases b1
        rw [A,Nat.mul_one] at b4
        exact fin l' (b0.trans ep) (by rw [b3];simpa [Value.cells] using b4.trans (b0.trans ep)) (by rw [b3];exact b5) f
      ·rename_i vs ey
       have hy:=ck h y
       cases bb:fitAll T.lv vs with
       | false=>rw [bb] at f;cases f
       | true =>
        rw [bb] at f;simp only [cond_true] at f
        have ad:=gW bb
        have ea:=hI bb
        have m:=ia hy (by rw [ey];exact ad)
        rw [ey] at m
        have m:PW (SL (bI E s w β Rt Ra)) vs (a.eval y).cells.toList:=m
        have hC:vs.length=T.sz:=ea.len.symm
        refine fin (vs.map dG) (by rw [length_map,hC]) (by rw [<- m.len,hC]) ?_ f
        intro i j k' hi ei u hu
        rw [a4] at ei
        cases j with
        | succ j=>simp at ei
        | zero =>
         simp only [List.getElem?_cons_zero,Option.some.injEq] at ei;subst ei
         rw [length_map] at hi
         rw [A,Nat.mul_one,Nat.add_zero] at hu
         have N:vs[i]? = some vs[i]:=List.getElem?_eq_getElem hi
         have hW:T.lv[i]? = some kk:=by rw [a7,List.getElem?_replicate,if_pos (by omega)]
         have fo:=ni (ea.get hW N) (m.get N hu)
         rw [a5]
         have:lf false ((vs.map dG).getD i .no) 0=dG vs[i]:=by
          unfold lf;simp [List.getD_eq_getElem?_getD,hi]
         rw [this]
         exact fo.flat a6
      ·cases f
   ·cases f
  ·cases f
 ·cases f
theorem xU {C:Cfg R} {q:Bool} (A:Ok P C.ty) (h:Rel E s a w β Rt Ra) {t:Nat} {x:Operand} (m:o.op = .range t x) (f:eL C q o s κ=some r):eG P E o a w κ r:=by
 unfold eL at f;rw [m] at f;simp only at f
 have u:=ck h x
 split at f
 ·rename_i T b M e
  rw [e] at u
  have ex:=jy u
  cases j:mA T with
  | false=>rw [j] at f;cases f
  | true =>
   rw [j] at f;simp only [Bool.not_true,cond_false] at f
   intro next Q N
   have O:=fQ w (.stringIter b 0)
   refine eI (v := .pointer (some ⟨w.heap.size,0,none⟩)) (w':=w.alloc (.stringIter b 0)) ?_ (N _ _ _ f ?_)
   ·unfold execOp;rw [m]
    simp [Instr.range,run_underlying (gH A M j),ex]
   ·have U:=h.new O (.sit b 0) ⟨undef,w.heap.size,0,false⟩ (fun b z=>by simp [cu] at z;subst z;simp) (fun _=>heap_alloc_new w _)
    refine ⟨_,_,_,U.put o.dst (x := .ptr s.next 0) (dC (dR ⟨⟨_,by rw [fJ,if_pos rfl]⟩,?_⟩))⟩
    show _=Value.pointer (some ⟨(fj β s.next ⟨undef,w.heap.size,0,false⟩ s.next).b,0,none⟩)
    unfold fj;rw [if_pos rfl]
 ·cases f
theorem AX {C:Cfg R} {q:Bool} (h:Rel E s a w β Rt Ra) {x:Operand} (A:o.op = .next x true) (f:eL C q o s κ=some r):eG P E o a w κ r:=by
 unfold eL at f;rw [A] at f;simp only at f
 have O:=ck h x
 cases q with
 | true=>cases f
 | false =>
  simp only [cond_false] at f
  split at f
  ·rename_i k U
   rw [U] at O
   obtain ⟨X,ex⟩:_/\a.eval x = .pointer (some ⟨(β k).b,0,none⟩):=O
   split at f
   ·rename_i b p m
    have M:w.heap[(β k).b]? = some (.stringIter b p):=h.objs k _ m
    by_cases j:p<b.size
    ·simp only [j,decide_true,cond_true] at f
     intro next Q V
     let w':World:={ w with heap:=w.heap.setIfInBounds (β k).b (.stringIter b (p+(Utf8.decode b p).2)) }
     refine eI (v := .tuple #[.bool true,.int .i64 p,.int .i32 (Utf8.decode b p).1]) (w':=w') ?_ (V _ _ _ f ?_)
     ·unfold execOp;rw [A]
      simp [Instr.next,ex,getObj,setObj,Sem.run,M,j,goInt,w']
     ·have u:(β k).b<w.heap.size:=(Array.getElem?_eq_some_iff.mp M).1
      have W:=h.iD (w':=w') m (.sit b (p+(Utf8.decode b p).2)) ⟨rfl,rfl,rfl,by simp [w'],fun z _ N=>by
       have:(β k).b≠z:=fun e=>N (by simp [cu,e])
       simp [w',Array.getElem?_setIfInBounds,this]⟩ (fun z N=>N) (fun _=>by
       show w'.heap[(β k).b]? = _
       simp [w',Array.getElem?_setIfInBounds,u])
      exact ⟨_,_,_,W.put o.dst (x := .tup [.bool true,.int .i64 p,.int .i32 (Utf8.decode b p).1]) ⟨_,rfl,rfl,rfl,rfl,trivial⟩⟩
    ·simp only [j,decide_false,cond_false] at f
     refine eM h (x := .tup [.bool false]) (v := .tuple #[.bool false]) ⟨_,rfl,rfl,trivial⟩ ?_ f
     unfold execOp;rw [A]
     simp [Instr.next,ex,getObj,Sem.run,M,j]
   ·cases f
  ·cases f
end
end Go.Proofs.Ab
