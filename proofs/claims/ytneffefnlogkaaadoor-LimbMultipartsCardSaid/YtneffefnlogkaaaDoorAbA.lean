/- The abstract machine: a run of a function's code over data without memory, and the proof that whatever this run says is what a call does (conditions: those of each lemma). -/
import GoSem.Machine.Frame
import Derived.Laws.AppendOwn
import Derived.Orders
import Derived.Laws.Slices
import Derived.Laws.Entries
import Derived.Laws.Concat
import Derived.Laws.StructEq
import Derived.Laws.Cells
import Derived.Lib.Strings
import Derived.Great.BuildSlice
set_option linter.unusedVariables false
set_option linter.unusedSimpArgs false
set_option maxRecDepth 4000
namespace Go.Proofs.Ab
noncomputable section
open Go
inductive AV where
 | no
 | int (n:Int)
 | bool (b:Bool)
 | str (s:ByteArray)
 | sl (l:List AV)
 | agg (l:List AV)
instance:Inhabited AV:=⟨.no⟩
namespace AV
def i:AV->Int
 | .int n=>n
 | _=>0
def b:AV->Bool
 | .bool b=>b
 | _=>false
def s:AV->ByteArray
 | .str s=>s
 | _=>⟨#[]⟩
def l:AV->List AV
 | .sl l=>l
 | _=>[]
def fld:AV->Nat->AV
 | .agg l,j=>l.getD j .no
 | _,_ => .no
end AV
inductive LK where
 | int (k:IntKind)|bool|str|sl (e:Nat)|ptr|fn|nos|ifc|oth|mp (k e:Nat)
 deriving DecidableEq
def LK.flat:LK->Bool
 | .sl _=>false
 | .ptr=>false
 | .fn=>false
 | .nos=>false
 | .ifc=>false
 | .oth=>false
 | .mp _ _=>false
 | _=>true
structure TI where
 agg:Bool
 lv:List LK
 flds:List (Nat × Nat × Bool)
 elem:Nat
 bytes:Nat
 sl:Bool
 eqs:Bool
def TI.sz (t:TI):Nat:=t.lv.length
def TI.flat (t:TI):Bool:=t.lv.all LK.flat
inductive SV where
 | no
 | undef
 | int (k:IntKind) (n:Int)
 | bool (b:Bool)
 | str (s:ByteArray)
 | agg (l:List SV)
 | nil
 | ro (e:Nat) (l:List AV) (st:Bool)
 | fr (e:Nat) (l:List AV) (st:Bool)
 | own (t:Nat)
 | vw (t:Nat) (lo hi:Int)
 | ptr (t off:Nat)
 | el (t:Nat) (i:Int) (off:Nat)
 | rl (e:Nat) (l:List AV) (st:Bool) (i:Int) (off:Nat)
 | vp (ty:Nat) (l:List SV)
 | nos
 | nilp
 | nilfn
 | nili
 | sdp (t:Nat)
 | ap (t n:Nat)
 | ar (e n:Nat) (l:List AV)
 | ra (e n:Nat) (l:List AV) (st:Bool)
 | fn (f:Nat)
 | clo (g t:Nat)
 | cls (g:Nat) (ts:List Nat)
 | mp (t:Nat)
 | tup (l:List SV)
instance:Inhabited SV:=⟨.no⟩
inductive Obj where
 | row (e:Nat) (l:List AV) (st:Bool)
 | var (ty:Nat) (l:List SV)
 | sit (s:ByteArray) (pos:Nat)
 | mp (k e:LK) (l:List AV)
 | hole
structure St where
 slots:List SV
 objs:List (Nat × Obj)
 next:Nat
def mC:LK->AV->AV->Bool
 | .int _,a,b=>decide (a.i=b.i)
 | .bool,a,b=>a.b == b.b
 | .str,a,b=>decide (a.s=b.s)
 | _,_,_=>false
def fZ (k:LK) (x:AV):List AV->Option AV
 | []=>none
 | a::r=>bif mC k x (a.fld 0) then some (a.fld 1) else fZ k x r
def fc (k:LK) (x v:AV):List AV->List AV
 | []=>[.agg [x,v]]
 | a::r=>bif mC k x (a.fld 0) then .agg [x,v]::r else a::fc k x v r
def f' (k:LK) (x:AV) (l:List AV):AV:=(fZ k x l).getD .no
def pT (k:LK) (x:AV) (l:List AV):Bool:=(fZ k x l).isSome
def eta (st:Bool) (k:LK) (a:AV):SV :=
 match k with
 | .int k => .int k a.i
 | .bool => .bool a.b
 | .str => .str a.s
 | .sl e => .ro e a.l st
 | _ => .no
def lf (agg:Bool) (a:AV) (j:Nat):AV:=bif agg then a.fld j else a
def jy (st agg:Bool) (a:AV):Nat->List LK->List SV
 | _,[]=>[]
 | j,k::ks=>eta st k (lf agg a j)::jy st agg a (j+1) ks
def cG:SV->AV
 | .int _ n => .int n
 | .bool b => .bool b
 | .str s => .str s
 | .ro _ l _ => .sl l
 | .nil => .sl []
 | _ => .no
def bZ (l:List AV) (i:Int):AV:=l.getD i.toNat .no
def dW (l:List AV) (i:Int) (a:AV):List AV:=l.set i.toNat a
def iz (l:List AV) (lo hi:Int):List AV:=(l.take hi.toNat).drop lo.toNat
def ed (s:ByteArray) (i:Int):Int:=if h:i.toNat<s.size then ((s[i.toNat]'h).toNat:Int) else 0
def dB (s:ByteArray):List AV:=s.data.toList.map fun b => .int b.toNat
def cY (l:List AV):ByteArray:=⟨(l.map fun a=>UInt8.ofNat a.i.toNat).toArray⟩
def lookup (k:Nat):List (Nat × Obj)->Option Obj
 | []=>none
 | (k',o)::r=>bif Nat.beq k k' then some o else lookup k r
def dE:List SV->Nat->SV
 | [],_ => .no
 | x::_,0=>x
 | _::r,n+1=>dE r n
def fp:List SV->Nat->SV->List SV
 | [],_,_=>[]
 | _::r,0,v=>v::r
 | x::r,n+1,v=>x::fp r n v
def dS:Nat->Nat->List (Nat × SV)->List SV
 | 0,_,_=>[]
 | n+1,i,(j,v)::r=>bif Nat.beq i j then v::dS n (i+1) r else .no::dS n (i+1) ((j,v)::r)
 | n+1,i,[] => .no::dS n (i+1) []
def eJ (n:Nat) (l:List (Nat × SV)):List SV:=dS n 0 l
namespace St
def get (s:St) (i:Nat):SV:=dE s.slots i
def put (s:St) (d:Option Nat) (v:SV):St :=
 match d with
 | some d=>⟨fp s.slots d v,s.objs,s.next⟩
 | none=>s
def obj (s:St) (k:Nat):Option Obj:=lookup k s.objs
def setObj (s:St) (k:Nat) (o:Obj):St:=⟨s.slots,s.objs.map fun p=>bif Nat.beq k p.1 then (p.1,o) else p,s.next⟩
def new (s:St) (o:Obj):St:=⟨s.slots,(s.next,o)::s.objs,s.next+1⟩
def newAt (s:St) (k:Nat) (o:Obj):St:=⟨s.slots,s.objs++[(k,o)],s.next⟩
end St
def tok:SV->Option Nat
 | .own t=>some t
 | .vw t _ _=>some t
 | .ptr t _=>some t
 | .el t _ _=>some t
 | .sdp t=>some t
 | .ap t _=>some t
 | .clo _ t=>some t
 | .cls _ ts=>ts.head?
 | .mp t=>some t
 | _=>none
def fE (f:SV->SV):SV->SV
 | .agg l => .agg (l.map f)
 | x=>f x
def ku (f:SV->SV):SV->SV
 | .tup l => .tup (l.map (fE f))
 | x=>fE f x
def Obj.map (f:SV->SV):Obj->Obj
 | .var ty l => .var ty (l.map f)
 | o=>o
def St.map (s:St) (f:SV->SV):St:=⟨s.slots.map (ku f),s.objs.map fun p=>(p.1,p.2.map f),s.next⟩
def kr (t:Nat) (x:SV):Bool :=
 match x with
 | .cls _ ts=>ts.any fun k=>Nat.beq k t
 | x=>match tok x with
  | some k=>Nat.beq k t
  | none=>false
def jk (t:Nat) (x:SV):SV:=bif kr t x then .no else x
def St.kill (s:St) (t:Nat):St:=s.map (jk t)
def nw (t e:Nat) (l:List AV) (st:Bool) (x:SV):SV :=
 match x with
 | .own k=>bif Nat.beq k t then .ro e l st else .own k
 | .ap k n=>bif Nat.beq k t then .ra e n l st else .ap k n
 | x=>jk t x
def St.drop (s:St) (t:Nat):St:=⟨s.slots,s.objs.filter fun p => !Nat.beq t p.1,s.next⟩
def St.uj (s:St) (t:Nat):St :=
 match s.obj t with
 | some (.row e l st)=>(s.map (nw t e l st)).drop t
 | _=>s
structure Cfg (R:Type) where
 ty:Nat->Option TI
 call:Nat->List SV->(List SV->Option R)->Option R
 uj:Nat->Bool
 cut:Nat->Option (List (Nat × List (Nat × Nat)))
 base:Nat
 mv:Nat->Bool
def Cv:Value->SV
 | .int k n => .int k n
 | .bool b => .bool b
 | .string b => .str b
 | .slice none 0 0 => .nil
 | .pointer none => .nilp
 | .nilFunc => .nilfn
 | .nilIface => .nili
 | _ => .no
def ev (s:St):Operand->SV
 | .tmp t=>s.get t
 | .const (.int k n) => .int k n
 | .const (.bool b) => .bool b
 | .const (.string b) => .str b
 | .const (.slice none 0 0) => .nil
 | .const (.pointer none) => .nilp
 | .const .nilFunc => .nilfn
 | .const .nilIface => .nili
 | .const (.agg cs) => .agg (cs.toList.map Cv)
 | .func f => .fn f
 | _ => .no
def yn (op:BinOp) (k:IntKind) (x y:Int):Int :=
 match op with
 | .and=>k.wrap (BitVec.ofInt k.bits x &&& BitVec.ofInt k.bits y).toNat
 | .or=>k.wrap (BitVec.ofInt k.bits x ||| BitVec.ofInt k.bits y).toNat
 | .xor=>k.wrap (BitVec.ofInt k.bits x ^^^ BitVec.ofInt k.bits y).toNat
 | _=>k.wrap (BitVec.ofInt k.bits x &&& ~~~ BitVec.ofInt k.bits y).toNat
variable {R:Type}
def bW (b:Bool) (k:Option R):Option R:=bif b then k else none
def wC (op:BinOp) (k:IntKind) (x y:Int) (κ : SV->Option R):Option R :=
 match op with
 | .add=>κ (.int k (k.wrap (x+y)))
 | .sub=>κ (.int k (k.wrap (x-y)))
 | .mul=>κ (.int k (k.wrap (x*y)))
 | .quo=>bW (y != 0) (κ (.int k (k.wrap (x.tdiv y))))
 | .rem=>bW (y != 0) (κ (.int k (x.tmod y)))
 | .and=>κ (.int k (yn .and k x y))
 | .or=>κ (.int k (yn .or k x y))
 | .xor=>κ (.int k (yn .xor k x y))
 | .andNot=>κ (.int k (yn .andNot k x y))
 | .eql=>κ (.bool (x == y))
 | .neq=>κ (.bool (x != y))
 | .lss=>κ (.bool (decide (x<y)))
 | .leq=>κ (.bool (decide (x<=y)))
 | .gtr=>κ (.bool (decide (x>y)))
 | .geq=>κ (.bool (decide (x>=y)))
 | _=>none
def Dk (op:BinOp) (k:IntKind) (x y:Int) (κ : SV->Option R):Option R :=
 match op with
 | .shl=>bW (decide (0<=y)) (κ (.int k (k.wrap (x*2 ^ (min y.toNat k.bits)))))
 | .shr=>bW (decide (0<=y)) (κ (.int k (x.fdiv (2 ^ (min y.toNat k.bits)))))
 | _=>none
def ze:BinOp->Bool
 | .shl=>true
 | .shr=>true
 | _=>false
def tU (op:BinOp) (x y:ByteArray) (κ : SV->Option R):Option R :=
 match op with
 | .add=>bW (decide (x.size+y.size<=9223372036854775807)) (κ (.str (x++y)))
 | .eql=>κ (.bool (decide (x=y)))
 | .neq=>κ (.bool (!decide (x=y)))
 | .lss=>κ (.bool (Op.bytesLess x.toList y.toList))
 | .leq=>κ (.bool (Op.bytesLess x.toList y.toList||decide (x=y)))
 | .gtr=>κ (.bool (!(Op.bytesLess x.toList y.toList||decide (x=y))))
 | .geq=>κ (.bool (!Op.bytesLess x.toList y.toList))
 | _=>none
def nR:LK->SV->SV->Option Bool
 | .int k,.int k1 a,.int k2 b=>bif decide (k=k1)&&decide (k=k2) then some (a == b) else none
 | .bool,.bool a,.bool b=>some (a == b)
 | .str,.str a,.str b=>some (decide (a=b))
 | _,_,_=>none
def cC:List LK->List SV->List SV->Option Bool
 | [],[],[]=>some true
 | k::ks,x::xs,y::ys=>match nR k x y,cC ks xs ys with
  | some a,some b=>some (a&&b)
  | _,_=>none
 | _,_,_=>none
def li:Option TI->Nat
 | none=>0
 | some T=>bif T.agg then (bif T.eqs then 2 else 0) else bif decide (T.lv=[.bool]) then 1 else 0
def qW:Option TI->List LK
 | none=>[]
 | some T=>T.lv
def wD (ek:Nat) (lv:List LK) (op:BinOp) (x y:SV) (κ : SV->Option R):Option R :=
 match x,y with
 | .int k a,.int k' b=>bif ze op then Dk op k a b κ else bif decide (k=k') then wC op k a b κ else none
 | .str a,.str b=>tU op a b κ
 | .bool a,.bool b=>bif Nat.beq ek 1 then (match op with
  | .eql=>κ (.bool (a == b))
  | .neq=>κ (.bool (!(a == b)))
  | _=>none) else none
 | .agg a,.agg b=>bif Nat.beq ek 2 then (match op,cC lv a b with
  | .eql,some c=>κ (.bool c)
  | .neq,some c=>κ (.bool (!c))
  | _,_=>none) else none
 | _,_=>none
noncomputable def yt (a b:Option R):Option R:=@ite _ (a=b) (Classical.propDecidable _) a none
theorem m6 {a b:Option R} {r:R} (h:yt a b=some r):a=some r/\b=some r:=by
 unfold yt at h
 split at h
 ·rename_i e;exact ⟨h,e▸h⟩
 ·cases h
def qV (op:BinOp) (x y:SV):Bool :=
 match op,x,y with
 | .eql,.ro _ _ _,.nil=>true
 | .eql,.nil,.nil=>true
 | _,_,_=>false
noncomputable def C2 (q:Bool) (T:Option TI) (x:SV) (κ : SV->Option R):Option R :=
 bif q then none else match x,T with
 | .ro _ l _,some T=>bif T.sl then (bif decide ((0:Int)<(l.length:Int)) then κ (.bool false) else yt (κ (.bool true)) (κ (.bool false))) else none
 | .nil,some T=>bif T.sl then κ (.bool true) else none
 | _,_=>none
def DI (op:UnOp) (x:SV) (κ : SV->Option R):Option R :=
 match op,x with
 | .neg,.int k n=>κ (.int k (k.wrap (0-n)))
 | .not,.bool b=>κ (.bool (!b))
 | _,_=>none
def sub (l:List SV) (j n:Nat):List SV:=(l.drop j).take n
def Af:List SV->Nat->List SV->List SV
 | l,_,[]=>l
 | l,j,v::vs=>Af (fp l j v) (j+1) vs
def iQ:LK->SV
 | .int k => .int k 0
 | .bool => .bool false
 | .str => .str ⟨#[]⟩
 | .sl _ => .nil
 | .ptr => .nilp
 | .fn => .nilfn
 | .ifc => .nili
 | .nos => .nos
 | .oth => .no
 | .mp _ _ => .no
def leaves:SV->List SV
 | .agg l=>l
 | x=>[x]
def whole (agg:Bool) (n:Nat) (l:List SV):Option SV :=
 bif Nat.beq l.length n then bif agg then some (.agg l) else match l with
  | [x]=>some x
  | _=>none else none
def known:SV->Bool
 | .no=>false
 | .undef=>false
 | .agg _=>false
 | .tup _=>false
 | .fr _ _ _=>false
 | .vp _ _=>false
 | .nos=>false
 | .sdp _=>false
 | .ap _ _=>false
 | .ar _ _ _=>false
 | .ra _ _ _ _=>false
 | _=>true
def stands:SV->Bool
 | .nos=>true
 | x=>known x
def fits:LK->SV->Bool
 | .int k,.int k' _=>decide (k=k')
 | .bool,.bool _=>true
 | .str,.str _=>true
 | .sl _,.nil=>true
 | .sl e,.ro e' _ _=>Nat.beq e e'
 | _,_=>false
def fitAll:List LK->List SV->Bool
 | [],[]=>true
 | k::ks,v::vs=>fits k v&&fitAll ks vs
 | _,_=>false
def xJ:SV->Bool
 | .ro _ _ st=>st
 | _=>true
def kS:List SV->Bool
 | []=>true
 | v::vs=>xJ v&&kS vs
def owns:List SV->List Nat
 | []=>[]
 | .own t::r=>t::owns r
 | _::r=>owns r
def eO:List Nat->St->St
 | [],s=>s
 | t::r,s=>eO r (s.uj t)
def dZ:List Nat->St->St
 | [],s=>s
 | t::r,s=>dZ r ((s.kill t).drop t)
def eE:List Nat->St->St
 | [],s=>s
 | t::r,s=>eE r (s.setObj t .hole)
def jw (T:TI) (v:SV):Option (AV × Bool) :=
 bif fitAll T.lv (leaves v) then bif T.agg then (match v with
   | .agg l=>some (.agg (l.map cG),kS l)
   | _=>none)
  else (match v with
   | .agg _=>none
   | v=>some (cG v,xJ v)) else none
def rowOf (T:TI):List SV->Option (List AV × Bool)
 | []=>some ([],true)
 | v::r=>match jw T v,rowOf T r with
  | some (a,x),some (l,y)=>some (a::l,x&&y)
  | _,_=>none
def kv (s:St):SV->Option Int
 | .str b=>some b.size
 | .nil=>some 0
 | .ro _ l _=>some l.length
 | .own t=>match s.obj t with
  | some (.row _ l _)=>some l.length
  | _=>none
 | .vw _ lo hi=>some (hi-lo)
 | _=>none
def vU (s:St):SV->Option (Nat × List AV × Bool)
 | .ro e l st=>some (e,l,st)
 | .own t=>match s.obj t with
  | some (.row e l st)=>some (e,l,st)
  | _=>none
 | .vw t lo hi=>match s.obj t with
  | some (.row e l st)=>some (e,iz l lo hi,st)
  | _=>none
 | _=>none
def nr (T:TI) (a:AV) (off:Nat) (vs:List SV):AV :=
 bif T.agg then .agg ((Af (jy true true a 0 T.lv) off vs).map cG) else match vs with
  | [v]=>cG v
  | _ => .no
def mY (C:Cfg R) (T:TI):Option LK :=
 bif T.agg&&(T.flds.isEmpty && !(Nat.beq T.elem 0)) then (match C.ty T.elem with
  | some E=>match E.lv with
   | [k]=>bif !E.agg&&(k.flat&&(decide (T.lv=List.replicate T.sz k)&&decide (T.sz<=1000000))) then some k else none
   | _=>none
  | none=>none) else none
def loadAt (C:Cfg R) (s:St) (T:TI):SV->Option SV
 | .ptr t off=>match s.obj t with
  | some (.var _ ls)=>bif (sub ls off T.sz).all known then whole T.agg T.sz (sub ls off T.sz) else none
  | _=>none
 | .el t i off=>match s.obj t with
  | some (.row e l st)=>match C.ty e with
   | some E=>whole T.agg T.sz (sub (jy st E.agg (bZ l i) 0 E.lv) off T.sz)
   | none=>none
  | _=>none
 | .rl e l st i off=>match C.ty e with
  | some E=>whole T.agg T.sz (sub (jy st E.agg (bZ l i) 0 E.lv) off T.sz)
  | none=>none
 | .ap t n=>match s.obj t with
  | some (.row e l _)=>match mY C T with
   | some _=>bif Nat.beq e T.elem&&Nat.beq n T.sz then some (.ar e n l) else none
   | none=>none
  | _=>none
 | _=>none
def eN (s:St):SV->Option SV
 | .ra e n l st=>some (.ra e n l st)
 | .own t=>match s.obj t with
  | some (.row e l _)=>some (.ro e l false)
  | _=>none
 | .vw t lo hi=>match s.obj t with
  | some (.row e l _)=>some (.ro e (iz l lo hi) false)
  | _=>none
 | .ptr _ _=>none
 | .el _ _ _=>none
 | .rl _ _ _ _ _=>none
 | .clo _ _=>none
 | .cls _ _=>none
 | .mp _=>none
 | x=>bif known x then some x else none
def fg (s:St):List SV->Option (List SV)
 | []=>some []
 | x::r=>match eN s x,fg s r with
  | some y,some l=>some (y::l)
  | _,_=>none
def kj (s:St):SV->Option SV
 | .own t=>match s.obj t with
  | some (.row e l st)=>some (.fr e l st)
  | _=>none
 | .no=>some .no
 | .nos=>some .nos
 | .vw _ _ _=>none
 | .ptr _ _=>none
 | .el _ _ _=>none
 | .rl _ _ _ _ _=>none
 | .clo _ _=>none
 | .cls _ _=>none
 | .mp _=>none
 | x=>bif known x then some x else none
def gx (s:St):List SV->Option (List SV)
 | []=>some []
 | x::r=>match kj s x,gx s r with
  | some y,some l=>some (y::l)
  | _,_=>none
def dU (s:St):SV->Option SV
 | .agg l=>match fg s l with
  | some l=>some (.agg l)
  | none=>none
 | .ptr t 0=>match s.obj t with
  | some (.var ty ls)=>match gx s ls with
   | some l=>some (.vp ty l)
   | none=>none
  | _=>none
 | x=>eN s x
def dp (s:St):List SV->Option (List SV)
 | []=>some []
 | x::r=>match dU s x,dp s r with
  | some y,some l=>some (y::l)
  | _,_=>none
def given:List SV->List Nat
 | []=>[]
 | .ptr t _::r=>t::given r
 | _::r=>given r
def bM (s:St):List SV->List Nat
 | []=>[]
 | .ptr t _::r=>(match s.obj t with
  | some (.var _ ls)=>owns ls
  | _=>[])++bM s r
 | _::r=>bM s r
def gg (s:St):List SV->List Nat
 | []=>[]
 | .ptr t _::r=>t::(match s.obj t with
  | some (.var _ ls)=>owns ls
  | _=>[])++gg s r
 | _::r=>gg s r
def b9 (s:St):List SV->List SV × St
 | []=>([],s)
 | .fr e l st::r=>match b9 (s.new (.row e l st)) r with
  | (vs,s')=>(.own s.next::vs,s')
 | x::r=>match b9 s r with
  | (vs,s')=>(x::vs,s')
def di (s:St) (v:SV):SV × St :=
 match v with
 | .agg l=>match b9 s l with
  | (vs,s')=>(.agg vs,s')
 | v=>match b9 s [v] with
  | ([u],s')=>(u,s')
  | (_,s')=>(.no,s')
def dT (s:St):List SV->List SV × St
 | []=>([],s)
 | x::r=>match di s x with
  | (v,s1)=>match dT s1 r with
   | (vs,s2)=>(v::vs,s2)
def dI (s:St):List SV->List SV->Option St
 | [],[]=>some s
 | .ptr t _::r,.vp ty ls::u=>match b9 s ls with
  | (vs,s1)=>dI (s1.setObj t (.var ty vs)) r u
 | .ptr _ _::_,_=>none
 | _::r,u=>dI s r u
 | [],_::_=>none
def distinct:List Nat->Bool
 | []=>true
 | x::r => !(r.any (Nat.beq x))&&distinct r
def gH:List SV->List Nat
 | []=>[]
 | .own t::r=>t::gH r
 | .vw t _ _::r=>t::gH r
 | _::r=>gH r
def seen:List SV->List Nat
 | []=>[]
 | x::r=>gH (leaves x)++seen r
def dz:List SV->List Nat
 | []=>[]
 | x::r=>owns (leaves x)++dz r
def o4:List SV->List Nat
 | []=>[]
 | .ap t _::r=>t::o4 r
 | _::r=>o4 r
def jU (C:Cfg R) (q:Bool) (fz:List Nat) (s0:St) (d:Option Nat) (g:Nat) (vs ex:List SV) (κ : St->Option R):Option R :=
 let gr:=bM s0 vs
 bif (q && !(fz.isEmpty&&gr.isEmpty)) || !distinct (gg s0 vs)||(seen vs).any (fun t=>(gg s0 vs).any (Nat.beq t)) then none else
 match dp s0 vs with
 | none=>none
 | some cs=>C.call g (cs++ex) fun res =>
  match res with
  | []=>none
  | v::back =>
   match dI (eE (given vs) (dZ gr s0)) vs back with
   | none=>none
   | some s2=>match v with
    | .tup l=>match dT s2 l with
     | (us,s3)=>κ (s3.put d (.tup us))
    | v=>match di s2 v with
     | (u,s3)=>κ (s3.put d u)
def na (C:Cfg R) (q:Bool) (fz:List Nat) (s0:St) (d:Option Nat) (g:Nat) (vs:List SV) (κ : St->Option R):Option R:=jU C q fz s0 d g vs [] κ
def zQ (C:Cfg R) (s:St) (t:Nat):Option SV :=
 match s.obj t with
 | some (.var ty ls)=>match C.ty ty with
  | some T=>match whole T.agg T.sz ls with
   | some x=>match jw T x with
    | some (a,_)=>some (.rl ty [a] false 0 0)
    | none=>none
   | none=>none
  | none=>none
 | _=>none
def ji (C:Cfg R) (s:St) (g:Nat) (xs:List Operand):List Nat:=bif C.uj g then dz (xs.map (ev s))++o4 (xs.map (ev s)) else []
def fT (C:Cfg R) (q:Bool) (s:St) (d:Option Nat) (g:Nat) (xs:List Operand) (κ : St->Option R):Option R :=
 let fz:=ji C s g xs
 let s0:=eO fz s
 na C q fz s0 d g (xs.map (ev s0)) κ
def yw (C:Cfg R) (s:St) (d:Option Nat) (g:Nat) (xs:List Operand) (κ : St->Option R):Option R :=
 match xs.reverse with
 | y::r=>match ev s y with
  | .own t=>match s.obj t with
   | some (.row e l st)=>jU C false [] (dZ [t] s) d g (r.reverse.map (ev (dZ [t] s))) [.fr e l st] κ
   | _=>none
  | _=>fT C false s d g xs κ
 | []=>fT C false s d g xs κ
def vu (C:Cfg R) (q:Bool) (s:St) (d:Option Nat) (f:Operand) (g:Nat) (xs:List Operand) (κ : St->Option R):Option R :=
 bif q then none else
 let fz:=ji C s g xs
 let s0:=eO fz s
 match ev s0 f with
 | .clo g' t=>bif Nat.beq g' g then (bif C.uj g then (bif (gg s0 (xs.map (ev s0))).any (Nat.beq t) then none else match zQ C s0 t with
   | some x=>jU C q fz s0 d g (xs.map (ev s0)) [x] κ
   | none=>none) else na C q fz s0 d g (xs.map (ev s0)++[.ptr t 0]) κ) else none
 | .cls g' ts=>bif Nat.beq g' g && !C.uj g then na C q fz s0 d g (xs.map (ev s0)++ts.map fun t => .ptr t 0) κ else none
 | _=>none
def we:List SV->Option (List Nat)
 | []=>some []
 | .ptr t 0::r=>match we r with
  | some l=>some (t::l)
  | none=>none
 | _::_=>none
def zy (C:Cfg R) (t:Nat):Option (LK × LK) :=
 match C.ty t with
 | some T=>bif T.agg then none else match T.lv with
  | [.mp k e]=>match C.ty k,C.ty e with
   | some K,some V=>bif K.agg||V.agg then none else match K.lv,V.lv with
    | [k],[e]=>bif k.flat&&e.flat then some (k,e) else none
    | _,_=>none
   | _,_=>none
  | _=>none
 | none=>none
def kq (T:TI):Bool := !T.agg&&decide (T.lv=[.str])
def wm (T:TI):SV->Bool
 | .str _=>kq T
 | _=>T.sl
def cO (i n:Int) (k:Option R):Option R:=bW (decide (0<=i)&&decide (i<n)) k
def fC (a b n:Int) (k:Option R):Option R:=bW (decide (0<=a)&&(decide (a<=b)&&decide (b<=n))) k
def pq:List (Nat × Nat × Bool)->List SV->List (Nat × SV)->Option (List SV)
 | _,ls,[]=>some ls
 | fl,ls,(i,v)::r=>match fl[i]? with
  | some (off,n,_)=>bif Nat.beq (leaves v).length n&&(leaves v).all known then pq fl (Af ls off (leaves v)) r else none
  | none=>none
def room (n m bytes:Nat) (k:Option R):Option R:=bW (decide ((n+m)*bytes<=140737488355328)) k
def kT (s:St) (e:Nat) (T:TI):SV->Option (List AV × Bool)
 | .nil=>some ([],true)
 | .str b=>bif decide (T.lv=[.int .u8]) then some (dB b,true) else none
 | y=>match vU s y with
  | some (e',l,st)=>bif Nat.beq e e' then some (l,T.flat||st) else none
  | none=>none
def rk (C:Cfg R) (t u:Nat) (T:TI) (y:SV):Bool :=
 match y with
 | .str _ => !T.agg&&(match C.ty u with
  | some U=>kq U
  | none=>false)
 | _=>Nat.beq t u
def qC (C:Cfg R) (q:Bool) (s:St) (d:Option Nat) (t u:Nat) (x y:SV) (κ : St->Option R):Option R :=
 match C.ty t with
 | none=>none
 | some S=>bif !S.sl then none else match C.ty S.elem with
  | none=>none
  | some T=>match kT s S.elem T y with
   | none=>none
   | some (l',st') =>
    bif q then none else bif !rk C t u T y then none else match x with
    | .nil=>room 0 l'.length T.bytes (κ (((s.new (.row S.elem l' st'))).put d (.own s.next)))
    | .own t=>match s.obj t with
     | some (.row e l st)=>bif Nat.beq e S.elem then room l.length l'.length T.bytes (κ ((((s.kill t).drop t).new (.row e (l++l') (st&&st'))).put d (.own s.next))) else none
     | _=>none
    | _=>none
def bounds (s:St) (x:SV) (lo hi:Option Operand):Option (Int × Int) :=
 match kv s x with
 | none=>none
 | some n =>
  match lo,hi with
  | none,none=>some (0,n)
  | some a,none=>match ev s a with
   | .int _ a=>some (a,n)
   | _=>none
  | none,some b=>match ev s b with
   | .int _ b=>some (0,b)
   | _=>none
  | some a,some b=>match ev s a,ev s b with
   | .int _ a,.int _ b=>some (a,b)
   | _,_=>none
def min2 (x y:Int):Int:=bif decide (y<x) then y else x
def max2 (x y:Int):Int:=bif decide (x<y) then y else x
def Aj:LK->AV
 | .int _ => .int 0
 | .bool => .bool false
 | .str => .str ⟨#[]⟩
 | .sl _ => .sl []
 | _ => .no
def m7 (a:AV):Bool:=decide (0<=a.i)&&decide (a.i<256)
def isByte (T:TI):Bool := !T.agg&&decide (T.lv=[.int .u8])
def vQ (T:TI):Bool := !T.agg&&decide (T.lv=[.ptr]) && !Nat.beq T.elem 0
def fK (C:Cfg R) (s:St) (d:Option Nat) (x:SV) (ty:Nat) (κ : St->Option R):Option R :=
 match x with
 | .nil=>κ (s.put d .nilp)
 | .own t=>match s.obj t,C.ty ty with
  | some (.row _ _ _),some T=>bif vQ T then κ (s.put d (.sdp t)) else none
  | _,_=>none
 | _=>none
def rE (C:Cfg R) (s:St) (d:Option Nat) (x n:SV) (ts:List Nat) (κ : St->Option R):Option R :=
 match ts with
 | [pt,_]=>match x,n with
  | .nilp,.int k n=>bif decide (k = .i64) then bW (decide (n=0)) (κ (s.put d (.str ⟨#[]⟩))) else none
  | .sdp t,.int k n=>bif decide (k = .i64) then (match s.obj t with
   | some (.row e l _)=>match C.ty e,C.ty pt with
    | some E,some T=>bif isByte E&&(vQ T&&Nat.beq T.elem e) then bW (decide (n=l.length)) (bW (l.all m7) (κ ((s.setObj t .hole).put d (.str (cY l))))) else none
    | _,_=>none
   | _=>none) else none
  | _,_=>none
 | _=>none
def cN (C:Cfg R) (q:Bool) (s:St) (d:Option Nat) (b:Builtin) (xs:List Operand) (ts:List Nat) (ty:Nat) (κ : St->Option R):Option R :=
 match b,xs with
 | .len,[x]=>match ts with
  | t::_=>match C.ty t,kv s (ev s x) with
   | some T,some n=>bif wm T (ev s x) then κ (s.put d (.int .i64 n)) else none
   | _,_=>none
  | []=>none
 | .append,[x,y]=>match ts with
  | [t,u]=>qC C q s d t u (ev s x) (ev s y) κ
  | _=>none
 | .min,[x,y]=>match ev s x,ev s y with
  | .int k x,.int _ y=>κ (s.put d (.int k (min2 x y)))
  | _,_=>none
 | .max,[x,y]=>match ev s x,ev s y with
  | .int k x,.int _ y=>κ (s.put d (.int k (max2 x y)))
  | _,_=>none
 | .unsafeSliceData,[x]=>fK C s d (ev s x) ty κ
 | .unsafeString,[x,y]=>rE C s d (ev s x) (ev s y) ts κ
 | _,_=>none
def jF (agg:Bool) (sz:Nat):Nat->List SV->Nat->Int->(SV->Option R)->Option R
 | 0,_,_,_,_=>none
 | n+1,l,j,i,κ => bif i == (j:Int) then (match whole agg sz (l.take sz) with
  | some v=>κ v
  | none=>none) else jF agg sz n (l.drop sz) (j+1) i κ
def pf (C:Cfg R) (s:St) (d:Option Nat) (f t:Nat) (F T:TI) (x:SV) (κ : St->Option R):Option R :=
 match x with
 | .str b=>bif T.sl&&decide (F.lv=[.str]) then (match C.ty T.elem with
  | some E=>bif isByte E then room b.size 0 1 (κ ((s.new (.row T.elem (dB b) true)).put d (.own s.next))) else none
  | none=>none) else none
 | .own k=>match s.obj k with
  | some (.row e l st)=>match C.ty e with
   | some E=>bif F.sl&&(Nat.beq F.elem e&&isByte E) then
     bif decide (T.lv=[.str]) then κ (s.put d (.str (cY l))) else
     bif Nat.beq f t then bW (!l.isEmpty) (κ ((s.setObj k (.row e l st)).put d (.own k))) else none
    else none
   | none=>none
  | _=>none
 | .nil=>bif F.sl&&decide (T.lv=[.str]) then (match C.ty F.elem with
  | some E=>bif isByte E then κ (s.put d (.str ⟨#[]⟩)) else none
  | none=>none) else none
 | x=>match vU s x with
  | some (e,l,_)=>match C.ty e with
   | some E=>bif F.sl&&(Nat.beq F.elem e&&(isByte E&&decide (T.lv=[.str]))) then κ (s.put d (.str (cY l))) else none
   | none=>none
  | none=>none
def oe (C:Cfg R) (s:St) (d:Option Nat) (F T:TI) (x:SV) (κ : St->Option R):Option R :=
 match x with
 | .own k=>match s.obj k with
  | some (.row e l _)=>match C.ty e with
   | some E=>bif F.sl&&(Nat.beq F.elem e&&isByte E) then (bif decide (T.lv=[.str]) then κ (s.put d (.str (cY l))) else none) else none
   | none=>none
  | _=>none
 | _=>none
theorem qb {C:Cfg R} {s:St} {d:Option Nat} {F T:TI} {x:SV} {κ : St->Option R} {r:R} (h:oe C s d F T x κ = some r):∃ k e l st E,x = .own k/\s.obj k=some (.row e l st)/\C.ty e=some E/\(F.sl&&(Nat.beq F.elem e&&isByte E))=true/\decide (T.lv=[.str])=true/\κ (s.put d (.str (cY l)))=some r:=by
 unfold oe at h
 cases x with
 | own k =>
  simp only at h
  cases ho:s.obj k with
  | none=>rw [ho] at h;cases h
  | some z =>
   rw [ho] at h
   cases z with
   | row e l st =>
    simp only at h
    cases hE:C.ty e with
    | none=>rw [hE] at h;cases h
    | some E =>
     rw [hE] at h
     simp only at h
     cases hc:(F.sl&&(Nat.beq F.elem e&&isByte E)) with
     | false=>rw [hc] at h;cases h
     | true =>
      cases hd:decide (T.lv=[.str]) with
      | false=>rw [hc,hd] at h;cases h
      | true =>
       rw [hc,hd] at h
       exact ⟨k,e,l,st,E,rfl,ho,hE,hc,rfl,h⟩
   | _=>cases h
 | _=>cases h
theorem Bi {C:Cfg R} {s:St} {d:Option Nat} {F T:TI} {κ : St->Option R} {k e:Nat} {l:List AV} {st:Bool} {E:TI} (h1:s.obj k=some (.row e l st)) (h2:C.ty e=some E) (h3:(F.sl&&(Nat.beq F.elem e&&isByte E))=true) (h4:decide (T.lv=[.str])=true):oe C s d F T (.own k) κ = κ (s.put d (.str (cY l))):=by
 unfold oe
 simp only [h1,h2,h3,h4,cond_true]
theorem xx {C:Cfg R} {s:St} {d:Option Nat} {f t:Nat} {F T:TI} {x:SV} {κ : St->Option R} {r:R} (h:oe C s d F T x κ = some r):pf C s d f t F T x κ = some r:=by
 obtain ⟨k,e,l,st,E,rfl,h1,h2,h3,h4,h⟩:=qb h
 unfold pf
 simp only [h1,h2,h3,h4,cond_true]
 exact h
theorem zG {C:Cfg R} {s:St} {d:Option Nat} {F T:TI} {x:SV} {κ : St->Option R} {r:R} (h:oe C s d F T x κ = some r):∃ u,∀ K':St->Option R,oe C s d F T x K'=K' (s.put d u):=by
 obtain ⟨k,e,l,st,E,rfl,h1,h2,h3,h4,h⟩:=qb h
 exact ⟨_,fun K'=>Bi h1 h2 h3 h4⟩
theorem tn {C:Cfg R} {s s':St} {d:Option Nat} {F T:TI} {K K':St->Option R} {x:SV} (ho:∀ k,x = .own k->s'.obj k=s.obj k) (hK:∀ u,K (s.put d u)=K' (s'.put d u)):oe C s d F T x K=oe C s' d F T x K':=by
 unfold oe
 cases x <;> try rfl
 rename_i k
 simp only [ho k rfl]
 cases s.obj k with
 | none=>rfl
 | some z =>
  cases z <;> try rfl
  rename_i e l st
  simp only
  cases C.ty e with
  | none=>rfl
  | some E =>
   simp only
   cases F.sl&&(Nat.beq F.elem e&&isByte E) with
   | false=>rfl
   | true=>cases decide (T.lv=[.str]) with
    | false=>rfl
    | true=>exact hK _
def iL (C:Cfg R) (s:St) (d:Option Nat) (o:Obj) (f:Nat->SV) (κ : St->Option R):Option R :=
 bif Nat.beq C.base 0 then κ ((s.new o).put d (f s.next)) else
 bif (s.obj (C.base+d.getD 0)).isNone&&(Nat.blt (C.base+d.getD 0) s.next&&Nat.ble 64 C.base) then κ ((s.newAt (C.base+d.getD 0) o).put d (f (C.base+d.getD 0))) else none
def df (C:Cfg R) (q:Bool) (o:Oper) (s:St) (κ : St->Option R):Option R :=
 match o.op with
 | .move x=>κ (s.put o.dst (ev s x))
 | .assign x=>κ (s.put o.dst (ev s x))
 | .pick c a b=>match ev s c with
  | .bool t=>bif t then κ (s.put o.dst (ev s a)) else κ (s.put o.dst (ev s b))
  | _=>none
 | .alloc t=>match C.ty t with
  | some T=>match mY C T with
   | some k=>iL C s o.dst (.row T.elem (List.replicate T.sz (Aj k)) true) (fun n => .ap n T.sz) κ
   | none=>bif (T.lv.map iQ).all stands then iL C s o.dst (.var t (T.lv.map iQ)) (fun n => .ptr n 0) κ else none
  | none=>none
 | .box t x=>match C.ty t with
  | some T=>bif (Nat.beq (leaves (ev s x)).length T.sz&&(leaves (ev s x)).all known) then κ ((s.new (.var t (leaves (ev s x)))).put o.dst (.ptr s.next 0)) else none
  | none=>none
 | .build t ps=>match C.ty t with
  | some T=>bif T.agg&&(T.flds.isEmpty && !(Nat.beq T.elem 0)) then (match C.ty T.elem with
    | some E=>match pq ((List.range (T.sz / E.sz)).map fun i=>(i*E.sz,E.sz,E.agg)) (T.lv.map iQ) (ps.toList.map fun p=>(p.1,ev s p.2)) with
     | some l=>κ (s.put o.dst (.agg l))
     | none=>none
    | none=>none) else match pq T.flds (T.lv.map iQ) (ps.toList.map fun p=>(p.1,ev s p.2)) with
   | some l=>bif T.agg && !T.flds.isEmpty then κ (s.put o.dst (.agg l)) else none
   | none=>none
  | none=>none
 | .buildSlice t n ps=>match C.ty t with
  | some S=>bif !S.sl then none else match C.ty S.elem with
   | some T =>
    let fz:=ps.toList.flatMap fun p=>owns (leaves (ev s p.2))
    let s1:=eO fz s
    bif q && !fz.isEmpty then none else
    match rowOf T (ps.toList.map fun p=>ev s1 p.2) with
    | some (l,st)=>bif (Nat.beq l.length n&&decide ((ps.toList.map (·.1))=List.range n)&&decide (n*T.sz<=1000000)) then κ ((s1.new (.row S.elem l (T.flat||st))).put o.dst (.own s1.next)) else none
    | none=>none
   | none=>none
  | none=>none
 | .load t a=>match C.ty t with
  | some T=>match loadAt C s T (ev s a) with
   | some v=>κ (s.put o.dst v)
   | none=>none
  | none=>none
 | .store t a v=>match C.ty t with
  | some T=>match ev s a with
   | .ptr k off=>match s.obj k with
    | some (.var ty ls)=>bif Nat.beq (leaves (ev s v)).length T.sz&&(leaves (ev s v)).all known&&decide (off+T.sz<=ls.length) then κ ((s.setObj k (.var ty (Af ls off (leaves (ev s v))))).put o.dst .undef) else none
    | _=>none
   | .el _ _ _ =>
    let fz:=owns (leaves (ev s v))
    let s1:=eO fz s
    bif q && !fz.isEmpty then none else
    match ev s1 a with
    | .el k i off=>match s1.obj k with
     | some (.row e l st)=>match C.ty e with
      | some E=>bif Nat.beq (leaves (ev s1 v)).length T.sz&&decide (off+T.sz<=E.sz)&&fitAll ((E.lv.drop off).take T.sz) (leaves (ev s1 v)) then κ ((s1.setObj k (.row e (dW l i (nr E (bZ l i) off (leaves (ev s1 v)))) (E.flat||(st&&kS (leaves (ev s1 v)))))).put o.dst .undef) else none
      | none=>none
     | _=>none
    | _=>none
   | .ap k n=>match s.obj k,mY C T with
    | some (.row e l st),some _=>bif Nat.beq e T.elem&&Nat.beq n T.sz then (match ev s v with
      | .ar e' n' l'=>bif Nat.beq e' e&&Nat.beq n' T.sz then κ ((s.setObj k (.row e l' true)).put o.dst .undef) else none
      | .agg vs=>bif fitAll T.lv vs then κ ((s.setObj k (.row e (vs.map cG) true)).put o.dst .undef) else none
      | _=>none) else none
    | _,_=>none
   | _=>none
  | none=>none
 | .nilCheck x=>match ev s x with
  | .ap t n=>κ (s.put o.dst (.ap t n))
  | .ra e n l st=>κ (s.put o.dst (.ra e n l st))
  | .ptr t off=>κ (s.put o.dst (.ptr t off))
  | .el t i off=>κ (s.put o.dst (.el t i off))
  | .rl e l st i off=>κ (s.put o.dst (.rl e l st i off))
  | _=>none
 | .makeFunc (.func g) first captured=>bif q then none else bif first.isEmpty then (match captured.toList with
  | []=>κ (s.put o.dst (.fn g))
  | [x]=>match ev s x with
   | .ptr t 0=>κ (s.put o.dst (.clo g t))
   | _=>none
  | l=>match we (l.map (ev s)) with
   | some ts=>κ (s.put o.dst (.cls g ts))
   | none=>none) else none
 | .makeMap t none=>bif q then none else match zy C t with
  | some (k,e)=>κ ((s.new (.mp k e [])).put o.dst (.mp s.next))
  | none=>none
 | .lookup t x i ok=>match zy C t,ev s x with
  | some (k,e),.mp m=>match s.obj m with
   | some (.mp k' e' l)=>bif decide (k=k')&&decide (e=e')&&fits k (ev s i) then
     bif ok then κ (s.put o.dst (.tup [eta true e (f' k (cG (ev s i)) l),.bool (pT k (cG (ev s i)) l)]))
     else κ (s.put o.dst (eta true e (f' k (cG (ev s i)) l)))
    else none
   | _=>none
  | _,_=>none
 | .mapUpdate t x i v=>bif q then none else match zy C t,ev s x with
  | some (k,e),.mp m=>match s.obj m with
   | some (.mp k' e' l)=>bif decide (k=k')&&decide (e=e')&&(fits k (ev s i)&&fits e (ev s v)) then
     κ ((s.setObj m (.mp k e (fc k (cG (ev s i)) (cG (ev s v)) l))).put o.dst .undef)
    else none
   | _=>none
  | _,_=>none
 | .binOp op t x y _=>bif qV op (ev s x) (ev s y) then C2 q (C.ty t) (ev s x) (fun v=>κ (s.put o.dst v)) else wD (li (C.ty t)) (qW (C.ty t)) op (ev s x) (ev s y) fun v=>κ (s.put o.dst v)
 | .unOp op _ x=>DI op (ev s x) fun v=>κ (s.put o.dst v)
 | .convert f t x=>match C.ty f,C.ty t with
  | some F,some T=>bif !(!F.agg && !T.agg) then none else match ev s x,F.lv,T.lv with
   | .int _ n,[.int _],[.int k]=>κ (s.put o.dst (.int k (k.wrap n)))
   | .int _ n,[.int _],[.str]=>κ (s.put o.dst (.str (Utf8.encode n)))
   | .str b,[.str],[.str]=>κ (s.put o.dst (.str b))
   | v,_,_=>bif q then oe C s o.dst F T v κ else pf C s o.dst f t F T v κ
  | _,_=>none
 | .slice t x lo hi none=>match C.ty t,bounds s (ev s x) lo hi with
  | some T,some (a,b)=>bif !wm T (ev s x) then none else match ev s x with
   | .str t=>fC a b t.size (κ (s.put o.dst (.str (t.extract a.toNat b.toNat))))
   | .ro e l st=>bif Nat.beq e T.elem&&(C.ty e).isSome then fC a b l.length (κ (s.put o.dst (.ro e (iz l a b) st))) else none
   | .own t=>match s.obj t with
    | some (.row e l _)=>bif Nat.beq e T.elem&&(C.ty e).isSome then fC a b l.length (κ (s.put o.dst (.vw t a b))) else none
    | _=>none
   | _=>none
  | _,_=>none
 | .fieldAddr st x f=>match C.ty st with
  | some T=>match T.flds[f]?,ev s x with
   | some (off,n,_),.ptr t o'=>bif Nat.beq n 0 then none else κ (s.put o.dst (.ptr t (o'+off)))
   | some (off,n,_),.el t i o'=>bif Nat.beq n 0 then none else κ (s.put o.dst (.el t i (o'+off)))
   | some (off,n,_),.rl e l st i o'=>bif Nat.beq n 0 then none else κ (s.put o.dst (.rl e l st i (o'+off)))
   | _,_=>none
  | none=>none
 | .field st x f=>match C.ty st with
  | some T=>match T.flds[f]?,ev s x with
   | some (off,n,g),.agg l=>match whole g n (sub l off n) with
    | some v=>bif Nat.beq l.length T.sz then κ (s.put o.dst v) else none
    | none=>none
   | _,_=>none
  | none=>none
 | .indexAddr t x i=>match C.ty t with
  | some S=>bif !S.sl then (match mY C S,ev s x,ev s i with
   | some _,.ap t n,.int _ i=>match s.obj t with
    | some (.row e l _)=>bif Nat.beq e S.elem&&Nat.beq n S.sz then cO i n (κ (s.put o.dst (.el t i 0))) else none
    | _=>none
   | some _,.ra e n l st,.int _ i=>bif Nat.beq e S.elem&&Nat.beq n S.sz then cO i n (κ (s.put o.dst (.rl e l st i 0))) else none
   | _,_,_=>none) else match C.ty S.elem,ev s i with
   | some T,.int _ i=>match ev s x with
    | .own t=>match s.obj t with
     | some (.row e l _)=>bif Nat.beq e S.elem && !(Nat.beq T.sz 0) then cO i l.length (κ (s.put o.dst (.el t i 0))) else none
     | _=>none
    | .vw t lo hi=>match s.obj t with
     | some (.row e _ _)=>bif Nat.beq e S.elem && !(Nat.beq T.sz 0) then cO i (hi-lo) (κ (s.put o.dst (.el t (lo+i) 0))) else none
     | _=>none
    | .ro e l st=>bif Nat.beq e S.elem && !(Nat.beq T.sz 0) then cO i l.length (κ (s.put o.dst (.rl e l st i 0))) else none
    | _=>none
   | _,_=>none
  | none=>none
 | .index t x i=>match C.ty t,ev s x,ev s i with
  | some T,.str b,.int _ i=>bif kq T then cO i b.size (κ (s.put o.dst (.int .u8 (ed b i)))) else none
  | some T,.ar e n l,.int _ i=>match mY C T with
   | some k=>bif Nat.beq e T.elem&&Nat.beq n T.sz then cO i n (κ (s.put o.dst (eta true k (bZ l i)))) else none
   | none=>none
  | some T,.agg l,.int _ i=>bif T.agg&&(T.flds.isEmpty && !(Nat.beq T.elem 0)) then (match C.ty T.elem with
   | some E=>bif !(Nat.beq E.sz 0)&&Nat.beq l.length T.sz then jF E.agg E.sz (l.length / E.sz) l 0 i (fun v=>κ (s.put o.dst v)) else none
   | none=>none) else none
  | _,_,_=>none
 | .extract x j=>match ev s x with
  | .tup l=>bif decide (j<l.length) then κ (s.put o.dst (dE l j)) else none
  | _=>none
 | .range t x=>match C.ty t,ev s x with
  | some T,.str b=>bif !kq T then none else κ ((s.new (.sit b 0)).put o.dst (.ptr s.next 0))
  | _,_=>none
 | .next x true=>bif q then none else match ev s x with
  | .ptr t 0=>match s.obj t with
   | some (.sit b p)=>bif decide (p<b.size) then
     κ ((s.setObj t (.sit b (p+(Utf8.decode b p).2))).put o.dst (.tup [.bool true,.int .i64 p,.int .i32 (Utf8.decode b p).1]))
    else κ (s.put o.dst (.tup [.bool false]))
   | _=>none
  | _=>none
 | .call c=>match c.callee with
  | .builtin b=>cN C q s o.dst b c.args.toList c.argTypes.toList o.type κ
  | .value f=>match ev s f with
   | .fn g=>bif C.mv g then (bif q then none else yw C s o.dst g c.args.toList κ) else fT C q s o.dst g c.args.toList κ
   | .clo g _=>vu C q s o.dst f g c.args.toList κ
   | .cls g _=>vu C q s o.dst f g c.args.toList κ
   | _=>none
  | _=>none
 | _=>none
def uA (ops:Array Oper) (j:Nat):Option Nat:=(ops[j]?).bind (·.dst)
def cq (C:Cfg R) (q:Bool) (all:Array Oper) (o:Oper) (s:St) (κ : St->Option R):Option R :=
 match o.guard with
 | none=>df C q o s κ
 | some (j,want) =>
  match uA all j with
  | none=>none
  | some d=>match s.get d with
   | .undef=>κ (s.put o.dst .undef)
   | .bool t=>bif want
    then bif t then df C q o (s.put (some d) (.bool true)) κ else κ ((s.put (some d) (.bool false)).put o.dst .undef)
    else bif t then κ ((s.put (some d) (.bool true)).put o.dst .undef) else df C q o (s.put (some d) (.bool false)) κ
   | _=>none
def dD (C:Cfg R) (q:Bool) (all:Array Oper):List Oper->St->(St->Option R)->Option R
 | [],s,κ => κ s
 | o::r,s,κ => cq C q all o s fun s'=>dD C q all r s' κ
def nX (ρ : List (Nat × Nat)) (t n:Nat):List (Nat × Nat):=bif ρ.any (fun p=>Nat.beq p.1 t) then ρ else ρ ++ [(t,n)]
def pins:List (Nat × Obj)->List (Nat × Nat)
 | []=>[]
 | (t,_)::r=>bif Nat.ble 64 t then pins r else (t,t)::pins r
def BV (i:Nat):Nat->List Nat->List (Nat × Nat)->List (Nat × Nat)
 | _,[],ρ => ρ
 | j,t::r,ρ => BV i (j+1) r (nX ρ t (64*(i+1)+j))
def pV (i:Nat):Nat->List SV->List (Nat × Nat)->List (Nat × Nat)
 | _,[],ρ => ρ
 | j,v::r,ρ => pV i (j+1) r (match v with
  | .own t=>nX ρ t (64*(i+1)+j)
  | .vw t _ _=>nX ρ t (64*(i+1)+j)
  | .ap t _=>nX ρ t (64*(i+1)+j)
  | .clo _ t=>nX ρ t (64*(i+1)+62)
  | .cls _ ts=>BV i 40 ts ρ
  | .mp t=>nX ρ t (64*(i+1)+61)
  | .ptr t _=>nX ρ t (64*(i+1)+63)
  | _ => ρ)
def Eh (s:St) (i:Nat) (v:SV) (ρ : List (Nat × Nat)):List (Nat × Nat) :=
 match v with
 | .agg l=>pV i 0 l ρ
 | .ptr t _=>match s.obj t with
  | some (.var _ ls)=>pV i 0 ls (pV i 0 [v] ρ)
  | _=>pV i 0 [v] ρ
 | v=>pV i 0 [v] ρ
def ri (s:St):List (Nat × List (Nat × Nat))->List (Nat × Nat)->List (Nat × Nat)
 | [],ρ => ρ
 | (i,_)::r,ρ => ri s r (Eh s i (s.get i) ρ)
def fW (k:Nat):List (Nat × Nat)->Option Nat
 | []=>none
 | (a,b)::r=>bif Nat.beq a k then some b else fW k r
def vC (ρ : List (Nat × Nat)):List Nat->Option (List Nat)
 | []=>some []
 | t::r=>match fW t ρ,vC ρ r with
  | some u,some l=>some (u::l)
  | _,_=>none
def wk (ρ : List (Nat × Nat)):SV->SV
 | .own t=>match fW t ρ with|some u => .own u|none => .no
 | .vw t a b=>match fW t ρ with|some u => .vw u a b|none => .no
 | .ptr t o=>match fW t ρ with|some u => .ptr u o|none => .no
 | .ap t n=>match fW t ρ with|some u => .ap u n|none => .no
 | .clo g t=>match fW t ρ with|some u => .clo g u|none => .no
 | .cls g ts=>match vC ρ ts with|some us => .cls g us|none => .no
 | .mp t=>match fW t ρ with|some u => .mp u|none => .no
 | .el _ _ _ => .no
 | .rl _ _ _ _ _ => .no
 | .sdp _ => .no
 | x=>x
def oh (objs:List (Nat × Obj)) (ρ : List (Nat × Nat)):List (Nat × Nat)->List (Nat × Obj)
 | []=>[]
 | (a,b)::r=>match lookup a objs with
  | some o=>(b,o.map (wk ρ))::oh objs ρ r
  | none=>oh objs ρ r
def zz (i:Nat) (j m:Nat) (s:St):St :=
 match m with
 | 0=>s
 | 1=>match s.get i with
  | .ptr t _=>match s.obj t with
   | some (.var _ ls)=>eO (owns [dE ls j]) s
   | _=>s
  | .ap t _=>eO [t] s
  | v=>eO (owns [dE (leaves v) j]) s
 | e+2=>match s.get i with
  | .ptr t _=>match s.obj t with
   | some (.var ty ls)=>match dE ls j with
    | .nil=>(s.new (.row e [] true)).setObj t (.var ty (fp ls j (.own s.next)))
    | _=>s
   | _=>s
  | .nil=>(s.new (.row e [] true)).put (some i) (.own s.next)
  | .agg l=>match dE l j with
   | .nil=>(s.new (.row e [] true)).put (some i) (.agg (fp l j (.own s.next)))
   | _=>s
  | _=>s
def zA (i:Nat):List (Nat × Nat)->St->St
 | [],s=>s
 | (j,m)::r,s=>zA i r (zz i j m s)
def v7:List (Nat × List (Nat × Nat))->St->St
 | [],s=>s
 | (i,l)::r,s=>v7 r (zA i l s)
def nP (s:St) (ρ : List (Nat × Nat)) (p:Nat × List (Nat × Nat)):Nat × SV:=(p.1,ku (wk ρ) (s.get p.1))
def below (n:Nat):List (Nat × Nat)->Bool
 | []=>true
 | (_,b)::r=>decide (b<n)&&below n r
def pinned:List (Nat × Nat)->Bool
 | []=>true
 | (a,b)::r=>(Nat.ble 64 b||Nat.beq a b)&&pinned r
def eH:Nat:=100000
def rX (h:List (Nat × List (Nat × Nat))) (s:St):Option St :=
 let s1:=v7 h s
 let ρ := ri s1 h (pins s1.objs)
 bif distinct (ρ.map (·.1))&&distinct (ρ.map (·.2))&&(below eH ρ && pinned ρ) then some ⟨eJ s1.slots.length (h.map (nP s1 ρ)),oh s1.objs ρ ρ,eH⟩ else none
def A4 (s:St) (c:Operand) (b:Bool):St :=
 match c with
 | .tmp t=>s.put (some t) (.bool b)
 | _=>s
def dy (ops:List Oper):List Nat :=
 ops.foldl (fun acc o=>acc++[o.after.toList.foldl (fun m e=>bif Region.binds .any e then m ||| 2 ^ e.on ||| acc.getD e.on 0 else m) 0]) []
def cls (lt:Bool) (o:Oper):Nat :=
 match o.op with
 | .move _ | .assign _ | .pick .. | .nilCheck _ | .unOp .. | .fieldAddr .. | .field .. | .index .. | .extract .. | .binOp .. | .build .. => 0
 | .load .. | .indexAddr .. | .slice .. | .convert .. => 1
 | .alloc _ | .box .. | .buildSlice .. | .range .. => 2
 | .call c=>match c.callee with
  | .builtin .len=>1
  | .builtin .unsafeSliceData=>1
  | .builtin .min=>0
  | .builtin .max=>0
  | .value _=>bif lt then 2 else 3
  | _=>3
 | _=>3
def looks (ops:List Oper) (o:Oper):List Nat :=
 (o.op.operands.toList.filterMap fun | .tmp t=>some t|_=>none) ++
 (match o.guard with
  | some (g,_)=>((ops[g]?).bind (·.dst)).toList
  | none=>[])
def guards (ops:List Oper) (o:Oper):List Nat :=
 match o.guard with
 | some (g,_)=>((ops[g]?).bind (·.dst)).toList
 | none=>[]
def apart (lt:Bool) (ops:List Oper) (a b:Oper):Bool :=
 (Nat.beq (cls lt a) 0||Nat.beq (cls lt b) 0||(Nat.ble (cls lt a) 1&&Nat.ble (cls lt b) 2)||(Nat.ble (cls lt a) 2&&Nat.ble (cls lt b) 1)) &&
 (match a.dst with
  | some d => !((looks ops b).any (Nat.beq d)) && !(b.dst.toList.any (Nat.beq d))
  | none=>true) &&
 (match b.dst with
  | some d => !((looks ops a).any (Nat.beq d))
  | none=>true)
def kd (lt:Bool) (ops:List Oper) (o:Oper) (m:Nat):Nat->List Oper->Bool
 | _,[]=>true
 | j,x::r=>(m.testBit j||apart lt ops x o)&&kd lt ops o m (j+1) r
def ka (lt:Bool) (ops:List Oper):Nat->List Oper->List Nat->Bool
 | _,[],_=>true
 | i,o::r,m::ms=>decide (m<2 ^ i)&&(kd lt ops o m 0 (ops.take i)&&ka lt ops (i+1) r ms)
 | _,_::_,[]=>false
def gT (lt:Bool) (ops:List Oper):Bool:=ka lt ops 0 ops (dy ops)
def DD (T:List Nat) (j:Nat):Bool:=T.any fun t=>Nat.beq t j
def kI (ms T:List Nat) (i:Nat):Bool :=
 (List.range i).all (fun j=>DD T j||(ms.getD i 0).testBit j)&&(List.range ms.length).all (fun j=>Nat.ble j i||(DD T j||(ms.getD j 0).testBit i))
def gB (C:Cfg R) (all:Array Oper) (ms T:List Nat):List Nat->St->(St->Option R)->Option R
 | [],s,κ => κ s
 | i::r,s,κ => match all[i]? with
  | some o=>cq C (!kI ms T i) all o s fun s'=>gB C all ms T r s' κ
  | none=>gB C all ms T r s κ
def jj:List SV->Bool
 | []=>false
 | .vp _ _::_=>true
 | _::r=>jj r
def lz (C:Cfg R):Cfg R:=⟨C.ty,fun g xs κ => bif jj xs then none else C.call g xs κ,C.uj,C.cut,C.base,C.mv⟩
def m0 (C:Cfg R) (b:Nat):Cfg R:=⟨C.ty,C.call,C.uj,C.cut,b,C.mv⟩
def e9 (o:Oper):Bool:=match o.op with | .alloc _=>true|_=>false
def kp (o:Oper):Bool:=match o.op with
 | .call c=>match c.callee with | .value _=>true|_=>false
 | _=>false
def Au (ops:List Oper) (a b:Oper):Bool :=
 (match a.dst with
  | some d => !((looks ops b).any (Nat.beq d)) && !(b.dst.toList.any (Nat.beq d))
  | none=>true) &&
 (match b.dst with
  | some d => !((looks ops a).any (Nat.beq d))
  | none=>true)
def ug (ops:List Oper) (ms:List Nat) (i:Nat):Bool:=Nat.beq (ms.getD i 0) 0&&(match ops[i]? with|some o=>e9 o|none=>false)
def te (ops:List Oper) (ms:List Nat):List Nat:=(List.range ops.length).filter (ug ops ms)++(List.range ops.length).filter (fun i => !ug ops ms i)
def uZ (lt:Bool) (ops:List Oper) (ms:List Nat) (j i:Nat):Bool :=
 !Nat.beq j i&&(!(ms.getD j 0).testBit i&&((ms.getD i 0).testBit j||match ops[j]?,ops[i]? with
  | some x,some y=>apart lt ops x y||(e9 x&&kp y&&Au ops x y)
  | _,_=>false))
def mR (lt:Bool) (ops:List Oper) (ms:List Nat):List Nat->Bool
 | []=>true
 | j::r=>r.all (uZ lt ops ms j)&&mR lt ops ms r
def bounded:Nat->List Nat->Bool
 | _,[]=>true
 | i,m::ms=>decide (m<2 ^ i)&&bounded (i+1) ms
def kc (lt:Bool) (ops:List Oper):Bool:=bounded 0 (dy ops)&&mR lt ops (dy ops) (te ops (dy ops))
def D1 (o:Oper):Bool:=(match o.op with | .move _=>true|_=>false)&&o.guard.isNone
def sf (ops:Array Oper) (i:Nat):Bool :=
 match ops[i]? with
 | some oi=>D1 oi&&(List.range ops.size).all fun j=>Nat.beq j i||(match ops[j]? with
  | some oj=>(oj.after.toList.any fun e=>Region.binds .any e&&Nat.beq e.on i)||Au ops.toList oi oj
  | none=>true)
 | none=>false
def pW (ops:Array Oper):Bool:=ops.toList.all fun o=>match o.op with | .select .. => false|_=>true
def tF (ops:Array Oper) (ms:List Nat):List Nat:=bif pW ops then (List.range ops.size).filter fun i=>Nat.beq (ms.getD i 1) 0&&sf ops i else []
def jL (ops:Array Oper):List Nat->St->St
 | [],s=>s
 | i::r,s=>jL ops r (match ops[i]? with
  | some o=>(match o.op with
   | .move x=>s.put o.dst (ev s x)
   | _=>s)
  | none=>s)
def kG (T ord:List Nat):List Nat:=ord.filter fun i => !DD T i
def sI (s:St):St:=⟨s.slots,s.objs,s.next+(s.slots.length+1)⟩
def Dg (C:Cfg R) (ops:Array Oper) (ms T:List Nat) (s:St) (κ : St->Option R):Option R :=
 bif gT false ops.toList then gB C ops ms T (kG T (List.range ops.size)) s κ else
 bif gT true ops.toList then gB (lz C) ops ms T (kG T (List.range ops.size)) s κ else
 bif kc false ops.toList then gB (m0 C s.next) ops ms T (kG T (te ops.toList ms)) (sI s) κ else
 bW (kc true ops.toList) (gB (m0 (lz C) s.next) ops ms T (kG T (te ops.toList ms)) (sI s) κ)
def xz (C:Cfg R) (ops:Array Oper) (d:Bool) (s:St) (κ : St->Option R):Option R :=
 bif d then Dg C ops (dy ops.toList) (tF ops (dy ops.toList)) (jL ops (tF ops (dy ops.toList)) s) κ else dD C false ops ops.toList s κ
def uU (C:Cfg R):Nat × Nat->Bool
 | (_,e+2)=>(C.ty e).isSome
 | _=>true
def rW (C:Cfg R) (h:List (Nat × List (Nat × Nat))):Bool:=h.all fun p=>p.2.all (uU C)
mutual
def DV:AV->AV->Bool
 | .no,.no=>true
 | .int a,.int b=>decide (a=b)
 | .bool a,.bool b=>a == b
 | .str a,.str b=>decide (a=b)
 | .sl a,.sl b=>gW a b
 | .agg a,.agg b=>gW a b
 | _,_=>false
def gW:List AV->List AV->Bool
 | [],[]=>true
 | x::l,y::m=>DV x y&&gW l m
 | _,_=>false
end
mutual
def DC:SV->SV->Bool
 | .no,.no=>true
 | .undef,.undef=>true
 | .int j a,.int k b=>decide (j=k)&&decide (a=b)
 | .bool a,.bool b=>a == b
 | .str a,.str b=>decide (a=b)
 | .agg a,.agg b=>jx a b
 | .tup a,.tup b=>jx a b
 | .nil,.nil=>true
 | .ro e l st,.ro e' l' st'=>Nat.beq e e'&&(gW l l'&&(st == st'))
 | .fr e l st,.fr e' l' st'=>Nat.beq e e'&&(gW l l'&&(st == st'))
 | .own t,.own u=>Nat.beq t u
 | .vw t a b,.vw u c d=>Nat.beq t u&&(decide (a=c)&&decide (b=d))
 | .ptr t a,.ptr u b=>Nat.beq t u&&Nat.beq a b
 | .vp t a,.vp u b=>Nat.beq t u&&jx a b
 | .nos,.nos=>true
 | .nilp,.nilp=>true
 | .nilfn,.nilfn=>true
 | .nili,.nili=>true
 | .ap t n,.ap u m=>Nat.beq t u&&Nat.beq n m
 | .ar e n l,.ar e' n' l'=>Nat.beq e e'&&(Nat.beq n n'&&gW l l')
 | .fn f,.fn g=>Nat.beq f g
 | .clo f t,.clo g u=>Nat.beq f g&&Nat.beq t u
 | .mp t,.mp u=>Nat.beq t u
 | _,_=>false
def jx:List SV->List SV->Bool
 | [],[]=>true
 | x::l,y::m=>DC x y&&jx l m
 | _,_=>false
end
def DB:Obj->Obj->Bool
 | .row e l st,.row e' l' st'=>Nat.beq e e'&&(gW l l'&&(st == st'))
 | .var t a,.var u b=>Nat.beq t u&&jx a b
 | .sit s p,.sit s' p'=>decide (s=s')&&Nat.beq p p'
 | .mp k e l,.mp k' e' l'=>decide (k=k')&&(decide (e=e')&&gW l l')
 | .hole,.hole=>true
 | _,_=>false
def sd:List (Nat × Obj)->List (Nat × Obj)->Bool
 | [],[]=>true
 | (a,x)::l,(b,y)::m=>Nat.beq a b&&(DB x y&&sd l m)
 | _,_=>false
def yJ (s t:St):Bool:=jx s.slots t.slots&&(sd s.objs t.objs&&Nat.beq s.next t.next)
def lF (C:Cfg R) (ops:Array Oper) (l:List Nat) (s:St) (κ : St->Option R):Option R:=dD C false ops (l.filterMap (ops[·]?)) s κ
def Df (ops:Array Oper) (listed:Array Bool):List Nat :=
 (List.range ops.size).filter fun i => !listed.getD i true&&((ops[i]?).map (·.after.all fun e => !Region.binds .any e||listed.getD e.on false)).getD false
def yy (ops:Array Oper):Bool :=
 Nat.beq ops.size 4&&(decide (Df ops #[false,false,false,false]=[0])&&(decide (Df ops #[true,false,false,false]=[1,2]) &&
 (decide (Df ops #[true,true,false,false]=[2])&&(decide (Df ops #[true,false,true,false]=[1])&&(decide (Df ops #[true,true,true,false]=[3]) &&
 decide (Df ops #[true,true,true,true]=[]))))))
def oU (C:Cfg R):Code->St->(St->Option R)->Option R
 | .region id ops d,s,κ => match C.cut id with
  | some _=>none
  | none=>xz C ops d s κ
 | .seq a b,s,κ => oU C a s fun s1=>oU C b s1 κ
 | .skip,s,κ => κ s
 | _,_,_=>none
def DA (C:Cfg R) (c:Operand) (a b:Code) (s:St) (κ : St->Option R):Option R :=
 match ev s c with
 | .bool t=>bif t then oU C a s κ else oU C b s κ
 | _=>none
def kE:Nat->List Item->Option (List Item)
 | 0,_=>none
 | n+1,todo=>match todo with
  | .code .skip::k=>kE n k
  | .inBlock _::k=>kE n k
  | .inScope _::k=>kE n k
  | .code (.seq a b)::k=>kE n (.code a :: .code b::k)
  | .inLoop a::k=>kE n (.code a :: .inLoop a::k)
  | .code (.exit id)::k=>match exitTo id k with
   | some k'=>kE n k'
   | none=>none
  | .code (.region id ops d)::k=>some (.code (.region id ops d)::k)
  | _=>none
def zi (C:Cfg R) (J:List Item->St->Option R) (p:List Item) (t1 t2:St):Option R :=
 match p with
 | .code (.region id _ _)::_=>match C.cut id with
  | some h=>bW (rW C h) (match rX h t1,rX h t2 with
   | some u1,some u2=>bW (yJ u1 u2) (J p u2)
   | _,_=>none)
  | none=>none
 | _=>none
def Dm (C:Cfg R) (J:List Item->St->Option R) (n:Nat) (ops:Array Oper) (k:List Item) (s:St):Option R :=
 match k with
 | .code (.cond c a b)::k2=>match kE n k2 with
  | some p=>lF C ops [0] s fun s0=>lF C ops [1,2,3] s0 fun s1=>lF C ops [2,1,3] s0 fun s2=>DA C c a b s1 fun t1=>DA C c a b s2 fun t2=>zi C J p t1 t2
  | none=>none
 | _=>none
def rM (C:Cfg R) (J:List Item->St->Option R) (ret:St->Option R):Nat->List Item->St->Option R
 | 0,_,_=>none
 | n+1,todo,s =>
  match todo with
  | []=>ret s
  | .code .ret::_=>ret s
  | .code .skip::k=>rM C J ret n k s
  | .code (.label _)::k=>rM C J ret n k s
  | .inBlock _::k=>rM C J ret n k s
  | .inScope _::k=>rM C J ret n k s
  | .code (.seq a b)::k=>rM C J ret n (.code a :: .code b::k) s
  | .code (.cond c a b)::k=>match ev s c with
   | .bool t=>bif t then rM C J ret n (.code a::k) (A4 s c true) else rM C J ret n (.code b::k) (A4 s c false)
   | _=>none
  | .code (.block id a)::k=>rM C J ret n (.code a :: .inBlock id::k) s
  | .code (.loop a)::k=>rM C J ret n (.code a :: .inLoop a::k) s
  | .inLoop a::k=>rM C J ret n (.code a :: .inLoop a::k) s
  | .code (.scope a)::k=>rM C J ret n (.code a :: .inScope a::k) s
  | .code (.exit id)::k=>match exitTo id k with
   | some k'=>rM C J ret n k' s
   | none=>none
  | .code (.goto l)::k=>match gotoIn l k with
   | some k'=>rM C J ret n k' s
   | none=>none
  | .code (.region id ops d)::k=>match C.cut id with
   | some h=>bW (rW C h) (match rX h s with
    | some s'=>J (.code (.region id ops d)::k) s'
    | none=>none)
   | none=>bif d&&(!gT true ops.toList&&yy ops) then Dm C J n ops k s else xz C ops d s fun s'=>rM C J ret n k s'
  | _=>none
def start (C:Cfg R) (J:List Item->St->Option R) (ret:St->Option R) (n:Nat):List Item->St->Option R
 | .code (.region _ ops d)::k,s=>xz C ops d s fun s'=>rM C J ret n k s'
 | _,_=>none
def goto (C:Cfg R) (ret:St->Option R) (n:Nat):Nat->List Item->St->Option R
 | 0,_,_=>none
 | f+1,todo,s=>start C (goto C ret n f) ret n todo s
def place (id:Nat):Code->List Item->Option (List Item)
 | .region i ops d,k=>bif Nat.beq i id then some (.code (.region i ops d)::k) else none
 | .seq a b,k=>match place id a (.code b::k) with
  | some r=>some r
  | none=>place id b k
 | .cond _ a b,k=>match place id a k with
  | some r=>some r
  | none=>place id b k
 | .block i a,k=>place id a (.inBlock i::k)
 | .loop a,k=>place id a (.inLoop a::k)
 | .scope a,k=>place id a (.inScope a::k)
 | _,_=>none
def placeOf (f:Func) (id:Nat):List Item:=((f.body).bind (place id · [])).getD []
def kn:Nat->List (Nat × Obj)
 | 0=>[]
 | n+1=>(n,.hole)::kn n
def vars:List SV->Nat
 | []=>0
 | .vp _ _::r=>vars r+1
 | _::r=>vars r
def er (s:St):Nat->List SV->List SV × St
 | _,[]=>([],s)
 | k,.vp ty ls::r=>match b9 s ls with
  | (vs,s1)=>match er (s1.setObj k (.var ty vs)) (k+1) r with
   | (us,s2)=>(.ptr k 0::us,s2)
 | k,x::r=>match di s x with
  | (v,s1)=>match er s1 k r with
   | (us,s2)=>(v::us,s2)
def entry (f:Func) (args:List SV):St :=
 match er ⟨[],kn (vars args),64⟩ 0 args with
 | (us,s)=>⟨us++List.replicate (f.ntmps-us.length) .undef,s.objs,s.next⟩
def Bj (C:Cfg R) (s:St):ResultVar->Option SV
 | .tmp t=>some (s.get t)
 | .cell a t=>match C.ty t with
  | some T=>match s.get a with
   | .ptr k off=>loadAt C s T (.ptr k off)
   | .ap k n=>loadAt C s T (.ap k n)
   | _=>none
  | none=>none
def zR (C:Cfg R) (s:St):List ResultVar->Option (List SV)
 | []=>some []
 | x::r=>match Bj C s x,zR C s r with
  | some v,some l=>some (v::l)
  | _,_=>none
def gJ (s:St) (x:SV):Option SV :=
 match x with
 | .ar e n l=>some (.ar e n l)
 | .own t=>match s.obj t with
  | some (.row e l true)=>some (.fr e l true)
  | _=>none
 | .vw _ _ _=>none
 | .ptr _ _=>none
 | .el _ _ _=>none
 | .rl _ _ _ _ _=>none
 | .clo _ _=>none
 | .cls _ _=>none
 | .mp _=>none
 | x=>bif known x&&xJ x then some x else none
def fi (s:St):List SV->Option (List SV)
 | []=>some []
 | .no::r=>match fi s r with
  | some l=>some (.no::l)
  | none=>none
 | .nos::r=>match fi s r with
  | some l=>some (.nos::l)
  | none=>none
 | .own t::r=>match s.obj t with
  | some .hole=>(match fi s r with
   | some l=>some (.no::l)
   | none=>none)
  | _=>(match gJ s (.own t),fi s r with
   | some y,some l=>some (y::l)
   | _,_=>none)
 | x::r=>match gJ s x,fi s r with
  | some y,some l=>some (y::l)
  | _,_=>none
def qh (s:St):List SV->Option (List SV)
 | []=>some []
 | x::r=>match gJ s x,qh s r with
  | some y,some l=>some (y::l)
  | _,_=>none
def qj (s:St):SV->Option SV
 | .agg l=>match qh s l with
  | some l=>some (.agg l)
  | none=>none
 | x=>gJ s x
def oy (s:St):List SV->Option (List SV)
 | []=>some []
 | x::r=>match qj s x,oy s r with
  | some y,some l=>some (y::l)
  | _,_=>none
def gQ (s:St):List Nat->Option (List SV)
 | []=>some []
 | k::r=>match s.obj k,gQ s r with
  | some (.var ty ls),some l=>match fi s ls with
   | some ls=>some (.vp ty ls::l)
   | none=>none
  | _,_=>none
def jE (s:St):List Nat->List Nat
 | []=>[]
 | k::r=>(match s.obj k with
  | some (.var _ ls)=>owns ls
  | _=>[])++jE s r
def oS (C:Cfg R) (rs:List ResultVar) (ps:List Nat) (κ : List SV->Option R) (s:St):Option R :=
 match zR C s rs,gQ s ps with
 | some vs,some back=>bif distinct (dz vs++jE s ps) then (match oy s vs with
  | some [v]=>κ (v::back)
  | some us=>κ (.tup us::back)
  | none=>none) else none
 | _,_=>none
def cv (C:Cfg R) (f:Func) (n fuel:Nat) (args:List SV) (κ : List SV->Option R):Option R :=
 let ret:=oS C f.results.toList (List.range (vars args)) κ
 match f.body with
 | some c=>bW (decide (vars args<=64)) (rM C (goto C ret n fuel) ret n [.code c] (entry f args))
 | none=>none
end
end Go.Proofs.Ab
namespace Go.Proofs.Ab
open Go
def PW {α β : Type} (R : α -> β -> Prop):List α -> List β -> Prop
 | [],[]=>True
 | x::xs,v::vs=>R x v/\PW R xs vs
 | _,_=>False
namespace PW
variable {α β γ : Type} {R R' : α -> β -> Prop}
theorem len:∀ {l:List α} {m:List β},PW R l m->l.length=m.length
 | [],[],_=>rfl
 | _::_,_::_,h=>by simp [len h.2]
 | [],_::_,h=>h.elim
 | _::_,[],h=>h.elim
theorem imp (hR:∀ x v,R x v->R' x v):∀ {l:List α} {m:List β},PW R l m->PW R' l m
 | [],[],_=>trivial
 | _::_,_::_,h=>⟨hR _ _ h.1,imp hR h.2⟩
 | [],_::_,h=>h.elim
 | _::_,[],h=>h.elim
theorem imp_mem:∀ {l:List α} {m:List β},(∀ x∈l,∀ v,R x v->R' x v)->PW R l m->PW R' l m
 | [],[],_,_=>trivial
 | x::_,_::_,hR,h=>⟨hR x (by simp) _ h.1,imp_mem (fun y hy=>hR y (by simp [hy])) h.2⟩
 | [],_::_,_,h=>h.elim
 | _::_,[],_,h=>h.elim
theorem get:∀ {l:List α} {m:List β},PW R l m->∀ {i:Nat} {x v},l[i]? = some x->m[i]? = some v->R x v
 | [],[],_,i,x,v,hx,_=>by simp at hx
 | _::_,_::_,h,0,x,v,hx,hv=>by simp at hx hv;subst hx;subst hv;exact h.1
 | _::_,_::_,h,i+1,x,v,hx,hv=>get h.2 (i:=i) (by simpa using hx) (by simpa using hv)
 | [],_::_,h,_,_,_,_,_=>h.elim
 | _::_,[],h,_,_,_,_,_=>h.elim
theorem uY:∀ {l:List α} {m:List β},l.length=m.length->(∀ (i:Nat) x v,l[i]? = some x->m[i]? = some v->R x v)->PW R l m
 | [],[],_,_=>trivial
 | x::l,v::m,hl,h=>⟨h 0 x v rfl rfl,uY (by simpa using hl) fun i y u hy hu=>h (i+1) y u (by simpa using hy) (by simpa using hu)⟩
 | [],_::_,hl,_=>by simp at hl
 | _::_,[],hl,_=>by simp at hl
theorem append:∀ {l:List α} {m:List β} {l':List α} {m':List β},PW R l m->PW R l' m'->PW R (l++l') (m++m')
 | [],[],_,_,_,h'=>h'
 | _::_,_::_,_,_,h,h'=>⟨h.1,append h.2 h'⟩
 | [],_::_,_,_,h,_=>h.elim
 | _::_,[],_,_,h,_=>h.elim
theorem drop:∀ {l:List α} {m:List β} (n:Nat),PW R l m->PW R (l.drop n) (m.drop n)
 | [],[],n,_=>by simp [PW]
 | _::_,_::_,0,h=>h
 | _::_,_::_,n+1,h=>by simpa using drop n h.2
 | [],_::_,_,h=>h.elim
 | _::_,[],_,h=>h.elim
theorem take:∀ {l:List α} {m:List β} (n:Nat),PW R l m->PW R (l.take n) (m.take n)
 | [],[],n,_=>by simp [PW]
 | _::_,_::_,0,h=>trivial
 | _::_,_::_,n+1,h=>⟨h.1,take n h.2⟩
 | [],_::_,_,h=>h.elim
 | _::_,[],_,h=>h.elim
theorem map {f : α -> γ} {R' : γ -> β -> Prop} (hf:∀ x v,R x v->R' (f x) v):∀ {l:List α} {m:List β},PW R l m->PW R' (l.map f) m
 | [],[],_=>trivial
 | _::_,_::_,h=>⟨hf _ _ h.1,map hf h.2⟩
 | [],_::_,h=>h.elim
 | _::_,[],h=>h.elim
theorem vY {f : α -> γ} {R' : γ -> β -> Prop}:∀ {l:List α} {m:List β},(∀ x∈l,∀ v,R x v->R' (f x) v)->PW R l m->PW R' (l.map f) m
 | [],[],_,_=>trivial
 | x::_,_::_,hR,h=>⟨hR x (by simp) _ h.1,vY (fun y hy=>hR y (by simp [hy])) h.2⟩
 | [],_::_,_,h=>h.elim
 | _::_,[],_,h=>h.elim
end PW
inductive cU (T:Nat->Option TI) (w:World) (Q:Nat->Prop):LK->Value->AV->Prop
 | int (k:IntKind) (a:AV):cU T w Q (.int k) (.int k a.i) a
 | bool (a:AV):cU T w Q .bool (.bool a.b) a
 | str (a:AV):cU T w Q .str (.string a.s) a
 | slnil (e:Nat) (a:AV):a.l=[]->cU T w Q (.sl e) (.slice none 0 0) a
 | sl (e:Nat) (E:TI) (ad:Addr) (n c:Nat) (a:AV) (cs:List Value):T e=some E->n=a.l.length->n<=c->c<=maxLen->cs.length=n*E.sz ->
   (∀ (j:Nat) v,cs[j]? = some v->Q ad.block/\w.cell? (ad.add j)=some v) ->
   (∀ (i j:Nat) k,i<n->E.lv[j]? = some k->∀ v,cs[i*E.sz+j]? = some v->cU T w Q k v (lf E.agg (a.l.getD i .no) j)) ->
   cU T w Q (.sl e) (.slice (some ad) n c) a
section
variable {T:Nat->Option TI} {w w':World} {Q Q':Nat->Prop}
theorem gn {w w':World} {a:Addr} (h:w'.heap[a.block]? = w.heap[a.block]?):w'.cell? a=w.cell? a:=World.cell?_of_block h
theorem de (a:Addr) (n:Nat):(a.add n).block=a.block:=by unfold Addr.add;split <;> rfl
theorem add_add (a:Addr) (m n:Nat):(a.add m).add n=a.add (m+n):=by
 unfold Addr.add
 by_cases h1:m=0
 ·subst h1;simp
 ·by_cases h2:n=0
  ·subst h2;simp [h1]
  ·rw [if_neg h1,if_neg h2,if_neg (by omega)];simp [Nat.add_assoc]
theorem add_plain (g o n:Nat):(⟨g,o,none⟩:Addr).add n=⟨g,o+n,none⟩:=by
 unfold Addr.add;split
 ·rename_i h;subst h;rfl
 ·rfl
theorem cU.mono (hQ:∀ b,Q b->Q' b) (hw:∀ b,Q b->w'.heap[b]? = w.heap[b]?) {k:LK} {v:Value} {a:AV} (h:cU T w Q k v a):cU T w' Q' k v a:=by
 induction h with
 | int k a=>exact .int k a
 | bool a=>exact .bool a
 | str a=>exact .str a
 | slnil e a h=>exact .slnil e a h
 | sl e E ad n c a cs h1 h2 h2' h2'' h3 h4 _ ih =>
  refine .sl e E ad n c a cs h1 h2 h2' h2'' h3 (fun j v hv => ?_) ih
  obtain ⟨hq,hc⟩:=h4 j v hv
  exact ⟨hQ _ hq,(gn (w:=w) (w':=w') (a:=ad.add j) (by rw [de];exact hw _ hq)).trans hc⟩
theorem cU.flat {k:LK} (hk:k.flat=true) {v:Value} {a:AV} (h:cU T w Q k v a):cU T w' Q' k v a:=by
 cases h with
 | int k a=>exact .int k a
 | bool a=>exact .bool a
 | str a=>exact .str a
 | slnil e a h=>simp [LK.flat] at hk
 | sl=>simp [LK.flat] at hk
theorem cU.one {k:LK} {v:Value} {a:AV} (h:cU T w Q k v a):v.oneCell'=true:=by cases h <;> rfl
def RC (T:Nat->Option TI) (w:World) (Q:Nat->Prop) (E:TI) (l:List AV) (cs:List Value):Prop :=
 ∀ (i j:Nat) k,i<l.length->E.lv[j]? = some k->∀ v,cs[i*E.sz+j]? = some v->cU T w Q k v (lf E.agg (l.getD i .no) j)
theorem RC.mono {E:TI} {l:List AV} {cs:List Value} (hQ:∀ b,Q b->Q' b) (hw:∀ b,Q b->w'.heap[b]? = w.heap[b]?) (h:RC T w Q E l cs):RC T w' Q' E l cs :=
 fun i j k hi hk v hv=>(h i j k hi hk v hv).mono hQ hw
theorem RC.flat {E:TI} {l:List AV} {cs:List Value} (hf:E.flat=true) (h:RC T w Q E l cs):RC T w' Q' E l cs :=
 fun i j k hi hk v hv=>(h i j k hi hk v hv).flat (by
  unfold TI.flat at hf;rw [List.all_eq_true] at hf;exact hf k (List.mem_of_getElem? hk))
end
def dO (w:World) (arr:Bool) (e size:Nat) (v:Value) (n:Nat) (xs:List Value):Prop :=
 xs.length=n*size /\
 ((v = .slice none 0 0/\n=0) ∨
  ∃ g cap cur q fz,v = .slice (some ⟨g,0,none⟩) n cap/\(arr=false->q=e)/\w.heap[g]? = some (.cells cur q fz)/\(fz=(0,0)∨fz=(cur.size,cur.size+1))/\n<=cap/\cap<=maxLen/\cur.size=cap*size/\cur.toList.take (n*size)=xs)
theorem qa (w:World) (arr:Bool) (e size:Nat):dO w arr e size (.slice none 0 0) 0 []:=⟨by simp,.inl ⟨rfl,rfl⟩⟩
theorem dO.cx {w:World} {arr:Bool} {e size n:Nat} {v:Value} {xs:List Value} (h:dO w arr e size v n xs) {b:Nat} (hb:v.ownBlock=some b):b<w.heap.size:=by
 rcases h.2 with ⟨rfl,_⟩|⟨g,cap,cur,q,fz,rfl,_,hg,_⟩
 ·cases hb
 ·simp only [Value.ownBlock,Option.some.injEq] at hb;subst hb
  exact (Array.getElem?_eq_some_iff.1 hg).1
theorem CA {cur:Array Value} {fz:Nat × Nat} (h:fz=(0,0)∨fz=(cur.size,cur.size+1)) {i:Nat} (hi:i<cur.size):(decide (fz.1<=i)&&decide (i<fz.2))=false:=by
 rcases h with rfl|rfl <;> simp <;> omega
structure Bl where
 v:Value
 b:Nat
 sz:Nat
 arr:Bool
structure Cx where
 T:Nat->Option TI
 w:World
 Rt:Nat->Prop
 Ra:Nat->Prop
 β : Nat->Bl
 D:Nat->Prop
def Cx.Q (c:Cx) (st:Bool) (b:Nat):Prop:=if st=true then c.Rt b else c.Ra b
def SL (c:Cx):SV->Value->Prop
 | .no,_=>True
 | .nos,_=>True
 | .undef,v=>v=undef
 | .int k n,v=>v = .int k n
 | .bool b,v=>v = .bool b
 | .str s,v=>v = .string s
 | .nil,v=>v = .slice none 0 0
 | .ro e l st,v=>cU c.T c.w (c.Q st) (.sl e) v (.sl l)
 | .own t,v=>c.D t/\v=(c.β t).v/\v.oneCell'=true/\(c.β t).arr=false
 | .vw t lo hi,v=>c.D t/\0<=lo/\lo<=hi/\(((c.β t).v = .slice none 0 0/\hi=0/\v = .slice none 0 0) ∨
   ∃ g n cap ad,(c.β t).v = .slice (some ⟨g,0,none⟩) n cap/\hi<=n/\v = .slice (some ad) (hi-lo).toNat (cap-lo.toNat)/\(lo<hi->ad=⟨g,lo.toNat*(c.β t).sz,none⟩))
 | .ptr t off,v=>c.D t/\v = .pointer (some ⟨(c.β t).b,off,none⟩)
 | .el t i off,v=>c.D t/\0<=i/\∃ g n cap,(c.β t).v = .slice (some ⟨g,0,none⟩) n cap/\i<n/\v = .pointer (some ⟨g,i.toNat*(c.β t).sz+off,none⟩)
 | .rl e l st i off,v=>∃ E p,c.T e=some E/\v = .pointer (some p)/\∀ (j:Nat) k,E.lv[off+j]? = some k->∃ u,c.Q st p.block/\c.w.cell? (p.add j)=some u/\cU c.T c.w (c.Q st) k u (lf E.agg (bZ l i) (off+j))
 | .ra e n l st,v=>l.length=n/\∃ E p,c.T e=some E/\v = .pointer (some p)/\∀ (i j:Nat) k,i<l.length->E.lv[j]? = some k->∃ u,c.Q st p.block/\c.w.cell? (p.add (i*E.sz+j))=some u/\cU c.T c.w (c.Q st) k u (lf E.agg (l.getD i .no) j)
 | .nilp,v=>v = .pointer none
 | .nilfn,v=>v = .nilFunc
 | .nili,v=>v = .nilIface
 | .sdp t,v=>c.D t/\∃ p,v = .pointer p/\(∀ g n cap,(c.β t).v = .slice (some ⟨g,0,none⟩) n cap->n≠0->p=some ⟨g,0,none⟩)/\(c.β t).arr=false
 | .ap t n,v=>c.D t/\∃ g cap,(c.β t).v = .slice (some ⟨g,0,none⟩) n cap/\v = .pointer (some ⟨g,0,none⟩)
 | .ar e n l,v=>l.length=n/\∃ E cs,c.T e=some E/\E.flat=true/\v = .agg cs/\cs.size=l.length*E.sz/\RC c.T c.w (fun _=>False) E l cs.toList
 | .fn f,v=>v = .func (.func f) #[] #[]
 | .clo g t,v=>c.D t/\v = .func (.func g) #[] #[.pointer (some ⟨(c.β t).b,0,none⟩)]
 | .cls g ts,v=>(∀ t∈ts,c.D t)/\v = .func (.func g) #[] (ts.map fun t => .pointer (some ⟨(c.β t).b,0,none⟩)).toArray
 | .mp t,v=>c.D t/\v = .map (some (c.β t).b)
 | _,_=>False
def FV:LK->Value->AV->Prop
 | .int k,v,a=>v = .int k a.i
 | .bool,v,a=>v = .bool a.b
 | .str,v,a=>v = .string a.s
 | _,_,_=>False
def jP (c:Cx) (b:Nat) (x:SV) (v:Value):Prop :=
 match x with
 | .nos=>v = .pointer none∨v = .pointer (some ⟨b,0,none⟩)
 | x=>SL c x v
def S1 (c:Cx) (x:SV) (v:Value):Prop :=
 match x with
 | .agg l=>∃ cs:Array Value,v = .agg cs/\PW (SL c) l cs.toList
 | x=>SL c x v
def S2 (c:Cx) (x:SV) (v:Value):Prop :=
 match x with
 | .tup l=>∃ vs:Array Value,v = .tuple vs/\PW (S1 c) l vs.toList
 | x=>S1 c x v
def OR (c:Cx) (bl:Bl):Obj->Prop
 | .row e l st=>∃ E cs,c.T e=some E/\bl.sz=E.sz/\dO c.w bl.arr e E.sz bl.v l.length cs/\RC c.T c.w (c.Q st) E l cs
 | .var ty ls=>∃ (cs:Array Value) (_:Unit),c.w.heap[bl.b]? = some (.cells cs ty (0,0))/\PW (jP c bl.b) ls cs.toList
 | .sit s p=>c.w.heap[bl.b]? = some (.stringIter s p)
 | .mp k e l=>∃ es clock,c.w.heap[bl.b]? = some (.map es clock)/\PW (fun a (en:MapEntry)=>FV k en.key (a.fld 0)/\FV e en.val (a.fld 1)) l es.toList
 | .hole=>True
def bK (bl:Bl):Obj->List Nat
 | .row _ _ _=>bl.v.ownBlock.toList
 | .hole=>[]
 | _=>[bl.b]
structure Cx.Le (c c':Cx):Prop where
 T:c'.T=c.T
 Q:∀ st b,c.Q st b->c'.Q st b
 w:∀ st b,c.Q st b->c'.w.heap[b]? = c.w.heap[b]?
 D:∀ t,c.D t->c'.D t
 β : ∀ t,c.D t->c'.β t=c.β t
theorem SL.le {c c':Cx} (h:c.Le c'):∀ {x:SV} {v:Value},SL c x v->SL c' x v:=by
 intro x v hx
 cases x <;> simp only [SL] at hx ⊢ <;> try exact hx
 case ro e l st=>rw [h.T];exact hx.mono (h.Q st) (h.w st)
 case own t=>exact ⟨h.D t hx.1,by rw [h.β t hx.1];exact hx.2⟩
 case vw t lo hi=>exact ⟨h.D t hx.1,by rw [h.β t hx.1];exact hx.2⟩
 case ptr t off=>exact ⟨h.D t hx.1,by rw [h.β t hx.1];exact hx.2⟩
 case clo g t=>exact ⟨h.D t hx.1,by rw [h.β t hx.1];exact hx.2⟩
 case mp t=>exact ⟨h.D t hx.1,by rw [h.β t hx.1];exact hx.2⟩
 case cls g ts=>exact ⟨fun t ht=>h.D t (hx.1 t ht),by rw [List.map_congr_left fun t ht=>by rw [h.β t (hx.1 t ht)]];exact hx.2⟩
 case el t i off=>exact ⟨h.D t hx.1,by rw [h.β t hx.1];exact hx.2⟩
 case sdp t=>exact ⟨h.D t hx.1,by rw [h.β t hx.1];exact hx.2⟩
 case ap t n=>exact ⟨h.D t hx.1,by rw [h.β t hx.1];exact hx.2⟩
 case ar e n l =>
  obtain ⟨h0,E,cs,h1,h2,h3,h4,h5⟩:=hx
  exact ⟨h0,E,cs,by rw [h.T];exact h1,h2,h3,h4,by rw [h.T];exact h5.mono (fun _ hq=>hq) (fun _ hq=>hq.elim)⟩
 case rl e l st i off =>
  obtain ⟨E,p,h1,h2,h3⟩:=hx
  refine ⟨E,p,by rw [h.T];exact h1,h2,fun j k hk => ?_⟩
  obtain ⟨u,hq,hc,hr⟩:=h3 j k hk
  exact ⟨u,h.Q st _ hq,(gn (w:=c.w) (w':=c'.w) (a:=p.add j) (by rw [de];exact h.w st _ hq)).trans hc,by rw [h.T];exact hr.mono (h.Q st) (h.w st)⟩
 case ra e n l st =>
  obtain ⟨h0,E,p,h1,h2,h3⟩:=hx
  refine ⟨h0,E,p,by rw [h.T];exact h1,h2,fun i j k hi hk => ?_⟩
  obtain ⟨u,hq,hc,hr⟩:=h3 i j k hi hk
  exact ⟨u,h.Q st _ hq,(gn (w:=c.w) (w':=c'.w) (a:=p.add (i*E.sz+j)) (by rw [de];exact h.w st _ hq)).trans hc,by rw [h.T];exact hr.mono (h.Q st) (h.w st)⟩
theorem jP.le {c c':Cx} (h:c.Le c') {b:Nat} {x:SV} {v:Value} (hx:jP c b x v):jP c' b x v:=by
 unfold jP at hx ⊢
 split
 ·exact hx
 ·rename_i hn;split at hx
  ·exact absurd rfl (by assumption)
  ·exact hx.le h
theorem S1.le {c c':Cx} (h:c.Le c') {x:SV} {v:Value} (hx:S1 c x v):S1 c' x v:=by
 unfold S1 at hx ⊢
 split
 ·obtain ⟨cs,h1,h2⟩:=hx;exact ⟨cs,h1,h2.imp fun _ _=>SL.le h⟩
 ·rename_i hn;split at hx
  ·exact absurd rfl (hn _)
  ·exact hx.le h
theorem S2.le {c c':Cx} (h:c.Le c') {x:SV} {v:Value} (hx:S2 c x v):S2 c' x v:=by
 unfold S2 at hx ⊢
 split
 ·obtain ⟨cs,h1,h2⟩:=hx;exact ⟨cs,h1,h2.imp fun _ _=>S1.le h⟩
 ·rename_i hn;split at hx
  ·exact absurd rfl (hn _)
  ·exact hx.le h
theorem hH {w w':World} {arr:Bool} {e size n:Nat} {v:Value} {xs:List Value} (h:dO w arr e size v n xs) (hb:∀ b,v.ownBlock=some b->w'.heap[b]? = w.heap[b]?):dO w' arr e size v n xs:=by
 obtain ⟨h1,h2⟩:=h
 refine ⟨h1,?_⟩
 rcases h2 with h2|⟨g,cap,cur,q,fz,rfl,hg,hh,r⟩
 ·exact .inl h2
 ·exact .inr ⟨g,cap,cur,q,fz,rfl,hg,(hb g (by simp [Value.ownBlock])).trans hh,r⟩
theorem OR.le {c c':Cx} (h:c.Le c') {bl:Bl} {o:Obj} (ho:OR c bl o) (hb:∀ b∈bK bl o,c'.w.heap[b]? = c.w.heap[b]?):OR c' bl o:=by
 cases o with
 | row e l st =>
  obtain ⟨E,cs,h1,h2,h3,h4⟩:=ho
  exact ⟨E,cs,by rw [h.T];exact h1,h2,hH h3 (fun b hbb=>hb b (by simp [bK,hbb])),by rw [h.T];exact h4.mono (h.Q st) (h.w st)⟩
 | var ty ls =>
  obtain ⟨cs,q,h1,h2⟩:=ho
  exact ⟨cs,q,(hb _ (by simp [bK])).trans h1,h2.imp fun _ _=>jP.le h⟩
 | sit s p=>exact (hb _ (by simp [bK])).trans ho
 | mp k e l =>
  obtain ⟨es,cl,h1,h2⟩:=ho
  exact ⟨es,cl,(hb _ (by simp [bK])).trans h1,h2⟩
 | hole=>trivial
structure Env where
 T:Nat->Option TI
 w0:World
 W0:Nat->Prop
 Rt0:Nat->Prop
 Ra0:Nat->Prop
 pb:Nat->Nat
structure Fr (W0:Nat->Prop) (w0 w:World):Prop where
 os:w.os=w0.os
 tape:w.tape=w0.tape
 output:w.output=w0.output
 size:w0.heap.size<=w.heap.size
 block:∀ b,b<w0.heap.size->¬ W0 b->w.heap[b]? = w0.heap[b]?
theorem Fr.refl (W0:Nat->Prop) (w:World):Fr W0 w w:=⟨rfl,rfl,rfl,Nat.le_refl _,fun _ _ _=>rfl⟩
def bg (E:Env) (s:St) (w:World) (β : Nat->Bl) (Rt Ra:Nat->Prop):Cx:=⟨E.T,w,Rt,Ra,β,fun t=>∃ o,s.obj t=some o⟩
structure RelO (E:Env) (s:St) (w:World) (β : Nat->Bl) (Rt Ra:Nat->Prop):Prop where
 objs:∀ t o,s.obj t=some o->OR (bg E s w β Rt Ra) (β t) o
 lt:∀ t o,s.obj t=some o->t<s.next
 cx:∀ t o,s.obj t=some o->∀ b∈bK (β t) o,b<w.heap.size/\¬ Ra b/\(E.w0.heap.size<=b∨E.W0 b)
 apart:∀ t o t' o',s.obj t=some o->s.obj t'=some o'->t≠t'->∀ b∈bK (β t) o,b ∉ bK (β t') o'
 sub:∀ b,Rt b->Ra b
 rlt:∀ b,Ra b->b<w.heap.size
 fr:Fr E.W0 E.w0 w
 rt0:∀ b,E.Rt0 b->Rt b
 ra0:∀ b,E.Ra0 b->Ra b
 rt:∀ b,Rt b->E.Rt0 b∨E.w0.heap.size<=b∨E.W0 b
 nx:64<=s.next
 pin:∀ t o,s.obj t=some o->t<64->(β t).b=E.pb t
structure Rel (E:Env) (s:St) (a:Act) (w:World) (β : Nat->Bl) (Rt Ra:Nat->Prop):Prop extends RelO E s w β Rt Ra where
 len:s.slots.length=a.tmps.size
 defers:a.defers=[]
 slots:∀ i,S2 (bg E s w β Rt Ra) (s.get i) (a.tmps.getD i undef)
theorem px (l:List SV) (d:Nat) (v:SV) (i:Nat):dE (fp l d v) i=if i=d/\d<l.length then v else dE l i:=by
 induction l generalizing d i with
 | nil=>simp [fp,dE]
 | cons x r ih =>
  cases d with
  | zero=>cases i <;> simp [fp,dE]
  | succ d=>cases i with
   | zero=>simp [fp,dE]
   | succ i=>simp [fp,dE,ih]
theorem sM (l:List SV) (d:Nat) (v:SV):(fp l d v).length=l.length:=by
 induction l generalizing d with
 | nil=>rfl
 | cons x r ih=>cases d <;> simp [fp,ih]
theorem qN {l:List SV} {i:Nat} (h:¬ i<l.length):dE l i = .no:=by
 induction l generalizing i with
 | nil=>rfl
 | cons x r ih=>cases i with
  | zero=>simp at h
  | succ i=>exact ih (by simpa using h)
theorem qM (l:List SV) (i:Nat):dE l i=l.getD i .no:=by
 induction l generalizing i with
 | nil=>simp [dE]
 | cons x r ih=>cases i <;> simp [dE,ih]
theorem yQ (a:Array Value) (d:Nat) (v:Value) (i:Nat):(a.setIfInBounds d v).getD i undef=if i=d/\d<a.size then v else a.getD i undef:=by
 simp only [Array.getD_eq_getD_getElem?,Array.getElem?_setIfInBounds]
 by_cases h:d=i
 ·subst h
  by_cases h2:d<a.size
  ·simp [h2]
  ·simp [h2]
 ·have:¬ i=d:=fun e=>h e.symm
  simp [h,this]
theorem fm (s:St) (d:Option Nat) (v:SV) (t:Nat):(s.put d v).obj t=s.obj t:=by cases d <;> rfl
theorem Co (E:Env) (s:St) (d:Option Nat) (v:SV) (w:World) (β : Nat->Bl) (Rt Ra:Nat->Prop):bg E (s.put d v) w β Rt Ra=bg E s w β Rt Ra:=by
 simp [bg,fm]
theorem Rel.put {E:Env} {s:St} {a:Act} {w:World} {β : Nat->Bl} {Rt Ra:Nat->Prop} (h:Rel E s a w β Rt Ra) (d:Option Nat) {x:SV} {v:Value} (hx:S2 (bg E s w β Rt Ra) x v):Rel E (s.put d x) (a.put d v) w β Rt Ra:=by
 have e:=Co E s d x w β Rt Ra
 cases d with
 | none=>exact h
 | some d =>
  refine ⟨⟨fun t o ho => ?_,fun t o ho=>h.lt t o (by simpa [fm] using ho),fun t o ho=>h.cx t o (by simpa [fm] using ho),fun t o t' o' ho ho'=>h.apart t o t' o' (by simpa [fm] using ho) (by simpa [fm] using ho'),h.sub,h.rlt,h.fr,h.rt0,h.ra0,h.rt,h.nx,fun t o ho=>h.pin t o (by simpa [fm] using ho)⟩,by simp [St.put,Act.put,sM,h.len],by simpa [Act.put] using h.defers,fun i => ?_⟩
  ·rw [e];exact h.objs t o (by simpa [fm] using ho)
  ·rw [e]
   simp only [St.put,St.get,Act.put,px,yQ,h.len]
   split
   ·exact hx
   ·exact h.slots i
section
variable {E:Env} {s:St} {w w':World} {β : Nat->Bl} {Rt Ra:Nat->Prop}
theorem AF (c:Cx) (hsub:∀ b,c.Rt b->c.Ra b) (st:Bool) (b:Nat) (h:c.Q st b):c.Ra b:=by
 unfold Cx.Q at h;split at h
 ·exact hsub b h
 ·exact h
theorem RelO.world (h:RelO E s w β Rt Ra) (hR:∀ b,Ra b->w'.heap[b]? = w.heap[b]?) (hO:∀ t o,s.obj t=some o->∀ b∈bK (β t) o,w'.heap[b]? = w.heap[b]?)
  (hs:w.heap.size<=w'.heap.size) (hf:Fr E.W0 E.w0 w'):RelO E s w' β Rt Ra/\(bg E s w β Rt Ra).Le (bg E s w' β Rt Ra):=by
 have le:(bg E s w β Rt Ra).Le (bg E s w' β Rt Ra):=⟨rfl,fun _ _ h=>h,fun st b hq=>hR b (AF _ h.sub st b hq),fun _ h=>h,fun _ _=>rfl⟩
 exact ⟨⟨fun t o ho=>(h.objs t o ho).le le (hO t o ho),h.lt,fun t o ho b hb=>⟨Nat.lt_of_lt_of_le (h.cx t o ho b hb).1 hs,(h.cx t o ho b hb).2⟩,h.apart,h.sub,fun b hb=>Nat.lt_of_lt_of_le (h.rlt b hb) hs,hf,h.rt0,h.ra0,h.rt,h.nx,h.pin⟩,le⟩
def dH (β : Nat->Bl) (t:Nat) (bl:Bl):Nat->Bl:=fun k=>if k=t then bl else β k
theorem ef (s:St) (o:Obj) (t:Nat):(s.new o).obj t=if t=s.next then some o else s.obj t:=by
 simp only [St.new,St.obj,lookup]
 by_cases h:t=s.next
 ·subst h;simp
 ·simp [h]
  cases hb:Nat.beq t s.next with
  | true=>exact absurd (Nat.eq_of_beq_eq_true hb) h
  | false=>rfl
structure IsNew (s s':St) (k:Nat) (o:Obj):Prop where
 obj:∀ t,s'.obj t=if t=k then some o else s.obj t
 none:s.obj k=none
 lt:k<s'.next
 le:s.next<=s'.next
 pin:64<=k
 slots:s'.slots=s.slots
theorem fG (t k:Nat) (o:Obj):∀ (l:List (Nat × Obj)),lookup t (l++[(k,o)])=match lookup t l with|some x=>some x|none=>if t=k then some o else none
 | []=>by
  simp only [List.nil_append,lookup]
  by_cases h:t=k
  ·subst h;simp
  ·cases hb:Nat.beq t k with
   | true=>exact absurd (Nat.eq_of_beq_eq_true hb) h
   | false=>simp [h]
 | (a,b)::r=>by
  simp only [List.cons_append,lookup]
  cases Nat.beq t a with
  | true=>rfl
  | false=>exact fG t k o r
theorem xq (s:St) (k:Nat) (o:Obj) (hn:s.obj k=none) (t:Nat):(s.newAt k o).obj t=if t=k then some o else s.obj t:=by
 show lookup t (s.objs++[(k,o)])=_
 rw [fG]
 by_cases h:t=k
 ·subst h
  have hn':lookup t s.objs=none:=hn
  rw [hn'];simp
 ·rw [if_neg h,if_neg h]
  show _=lookup t s.objs
  cases lookup t s.objs <;> rfl
theorem zd {s:St} {k:Nat} {o:Obj} (hn:s.obj k=none) (hl:k<s.next) (hp:64<=k):IsNew s (s.newAt k o) k o:=⟨xq s k o hn,hn,hl,Nat.le_refl _,hp,rfl⟩
theorem RelO.vO (h:RelO E s w β Rt Ra) (o:Obj):IsNew s (s.new o) s.next o:=⟨ef s o,by
 cases e:s.obj s.next with
 | none=>rfl
 | some x=>exact absurd (h.lt _ x e) (Nat.lt_irrefl _),Nat.lt_succ_self _,Nat.le_succ _,h.nx,rfl⟩
theorem RelO.BF (h:RelO E s w β Rt Ra) {s':St} {k:Nat} {o:Obj} (hs:IsNew s s' k o) (bl:Bl) (hb:∀ b∈bK bl o,b<w.heap.size/\¬ Ra b/\(E.w0.heap.size<=b∨E.W0 b))
  (ha:∀ b∈bK bl o,∀ t o',s.obj t=some o'->b ∉ bK (β t) o') (ho:(bg E s w β Rt Ra).Le (bg E s' w (dH β k bl) Rt Ra)->OR (bg E s' w (dH β k bl) Rt Ra) bl o) :
  RelO E s' w (dH β k bl) Rt Ra/\(bg E s w β Rt Ra).Le (bg E s' w (dH β k bl) Rt Ra):=by
 have hne:∀ t o',s.obj t=some o'->t≠k:=fun t o' ht e=>by subst e;rw [hs.none] at ht;cases ht
 have le:(bg E s w β Rt Ra).Le (bg E s' w (dH β k bl) Rt Ra):=by
  refine ⟨rfl,fun _ _ h=>h,fun _ _ _=>rfl,fun t ⟨o',ho'⟩ => ?_,fun t ⟨o',ho'⟩ => ?_⟩
  ·show ∃ o,s'.obj t=some o
   rw [hs.obj,if_neg (hne t o' ho')];exact ⟨o',ho'⟩
  ·exact if_neg (hne t o' ho')
 have own:dH β k bl k=bl:=if_pos rfl
 have oth:∀ t o',s.obj t=some o'->dH β k bl t = β t:=fun t o' ht=>if_neg (hne t o' ht)
 refine ⟨⟨fun t o' ht => ?_,fun t o' ht => ?_,fun t o' ht => ?_,fun t o1 t' o2 h1 h2 hn => ?_,h.sub,h.rlt,h.fr,h.rt0,h.ra0,h.rt,Nat.le_trans h.nx hs.le,fun t o' ht hlt => ?_⟩,le⟩
 ·rw [hs.obj] at ht
  split at ht
  ·rename_i e;subst e;cases ht;rw [own];exact ho le
  ·rw [oth t o' ht];exact (h.objs t o' ht).le le (fun _ _=>rfl)
 ·rw [hs.obj] at ht
  split at ht
  ·rename_i e;subst e;exact hs.lt
  ·exact Nat.lt_of_lt_of_le (h.lt t o' ht) hs.le
 ·rw [hs.obj] at ht
  split at ht
  ·rename_i e;subst e;cases ht;rw [own];exact hb
  ·rw [oth t o' ht];exact h.cx t o' ht
 ·rw [hs.obj] at h1 h2
  split at h1
  ·rename_i e;subst e;cases h1
   split at h2
   ·rename_i e2;exact absurd e2.symm hn
   ·rw [own,oth t' o2 h2];exact fun b hb'=>ha b hb' t' o2 h2
  ·split at h2
   ·rename_i e2;subst e2;cases h2
    rw [own,oth t o1 h1];exact fun b hb' hb2=>ha b hb2 t o1 h1 hb'
   ·rw [oth t o1 h1,oth t' o2 h2];exact h.apart t o1 t' o2 h1 h2 hn
 ·have:=hs.pin
  rw [hs.obj,if_neg (by omega)] at ht
  rw [oth t o' ht];exact h.pin t o' ht hlt
theorem RelO.add (h:RelO E s w β Rt Ra) (o:Obj) (bl:Bl) (hb:∀ b∈bK bl o,b<w.heap.size/\¬ Ra b/\(E.w0.heap.size<=b∨E.W0 b))
  (ha:∀ b∈bK bl o,∀ t o',s.obj t=some o'->b ∉ bK (β t) o') (ho:(bg E s w β Rt Ra).Le (bg E (s.new o) w (dH β s.next bl) Rt Ra)->OR (bg E (s.new o) w (dH β s.next bl) Rt Ra) bl o) :
  RelO E (s.new o) w (dH β s.next bl) Rt Ra/\(bg E s w β Rt Ra).Le (bg E (s.new o) w (dH β s.next bl) Rt Ra):=h.BF (h.vO o) bl hb ha ho
theorem uP (t:Nat) (objs:List (Nat × Obj)) (g:Obj->Obj):lookup t (objs.map fun p=>(p.1,g p.2))=(lookup t objs).map g:=by
 induction objs with
 | nil=>rfl
 | cons p r ih=>simp only [List.map,lookup];cases Nat.beq t p.1 <;> simp [ih]
theorem cQ (s:St) (t:Nat) (o:Obj) (k:Nat):(s.setObj t o).obj k=if k=t then (s.obj t).map (fun _=>o) else s.obj k:=by
 simp only [St.setObj,St.obj]
 generalize s.objs=objs
 induction objs with
 | nil=>simp [lookup]
 | cons p r ih =>
  obtain ⟨a,b⟩:=p
  simp only [List.map]
  cases h:Nat.beq t a with
  | true =>
   have:=Nat.eq_of_beq_eq_true h;subst this
   simp only [cond_true,lookup]
   by_cases hk:k=t
   ·subst hk;simp
   ·have:Nat.beq k t=false:=by cases hb:Nat.beq k t with|true=>exact absurd (Nat.eq_of_beq_eq_true hb) hk|false=>rfl
    simp only [this,cond_false,ih,if_neg hk]
  | false =>
   simp only [cond_false,lookup,h]
   by_cases hk:k=t
   ·subst hk;simp [h,ih]
   ·cases hb:Nat.beq k a <;> simp [ih,hk]
theorem rc (s:St) (f:SV->SV) (t:Nat):(s.map f).obj t=(s.obj t).map (Obj.map f):=uP t s.objs (Obj.map f)
theorem np (s:St) (t k:Nat):(s.drop t).obj k=if k=t then none else s.obj k:=by
 simp only [St.drop,St.obj]
 generalize s.objs=objs
 induction objs with
 | nil=>simp [lookup]
 | cons p r ih =>
  obtain ⟨a,b⟩:=p
  simp only [List.filter]
  cases h:Nat.beq t a with
  | true =>
   have:=Nat.eq_of_beq_eq_true h;subst this
   simp only [Bool.not_true,ih,lookup]
   by_cases hk:k=t
   ·subst hk;simp
   ·have:Nat.beq k t=false:=by cases hb:Nat.beq k t with|true=>exact absurd (Nat.eq_of_beq_eq_true hb) hk|false=>rfl
    simp [this,hk]
  | false =>
   simp only [Bool.not_false,lookup]
   by_cases hk:k=t
   ·subst hk;simp [h,ih]
   ·cases hb:Nat.beq k a <;> simp [ih,hk]
theorem RelO.hole (h:RelO E s w β Rt Ra) (t:Nat):RelO E (s.setObj t .hole) w β Rt Ra/\(bg E s w β Rt Ra).Le (bg E (s.setObj t .hole) w β Rt Ra):=by
 have le:(bg E s w β Rt Ra).Le (bg E (s.setObj t .hole) w β Rt Ra):=by
  refine ⟨rfl,fun _ _ h=>h,fun _ _ _=>rfl,fun k ⟨o',ho'⟩ => ?_,fun _ _=>rfl⟩
  show ∃ o,(s.setObj _ _).obj k=some o
  rw [cQ];split
  ·rename_i e;subst e;exact ⟨_,by rw [ho'];rfl⟩
  ·exact ⟨o',ho'⟩
 have key:∀ k o,(s.setObj t .hole).obj k=some o->(k=t/\o = .hole/\∃ o',s.obj t=some o')∨(k≠t/\s.obj k=some o):=by
  intro k o hk
  rw [cQ] at hk;split at hk
  ·rename_i e;cases ho:s.obj t with
   | none=>rw [ho] at hk;simp at hk
   | some o'=>rw [ho] at hk;simp at hk;exact .inl ⟨e,hk.symm,o',rfl⟩
  ·rename_i e;exact .inr ⟨e,hk⟩
 refine ⟨⟨fun k o hk => ?_,fun k o hk => ?_,fun k o hk => ?_,fun k o1 k' o2 h1 h2 hn => ?_,h.sub,h.rlt,h.fr,h.rt0,h.ra0,h.rt,h.nx,fun k o hk hlt => ?_⟩,le⟩
 ·rcases key k o hk with ⟨_,rfl,_⟩|⟨_,hk⟩
  ·trivial
  ·exact (h.objs k o hk).le le (fun _ _=>rfl)
 ·rcases key k o hk with ⟨rfl,_,o',ho'⟩|⟨_,hk⟩
  ·exact h.lt k o' ho'
  ·exact h.lt k o hk
 ·rcases key k o hk with ⟨_,rfl,_⟩|⟨_,hk⟩
  ·intro b hb;simp [bK] at hb
  ·exact h.cx k o hk
 ·rcases key k o1 h1 with ⟨_,rfl,_⟩|⟨_,h1⟩
  ·intro b hb;simp [bK] at hb
  ·rcases key k' o2 h2 with ⟨_,rfl,_⟩|⟨_,h2⟩
   ·intro b hb;simp [bK]
   ·exact h.apart k o1 k' o2 h1 h2 hn
 ·rcases key k o hk with ⟨rfl,_,o',ho'⟩|⟨_,hk⟩
  ·exact h.pin k o' ho' hlt
  ·exact h.pin k o hk hlt
theorem RelO.set (h:RelO E s w β Rt Ra) (t:Nat) (o:Obj) (hh:s.obj t=some .hole) (hb:∀ b∈bK (β t) o,b<w.heap.size/\¬ Ra b/\(E.w0.heap.size<=b∨E.W0 b))
  (ha:∀ b∈bK (β t) o,∀ k o',s.obj k=some o'->b ∉ bK (β k) o') (ho:(bg E s w β Rt Ra).Le (bg E (s.setObj t o) w β Rt Ra)->OR (bg E (s.setObj t o) w β Rt Ra) (β t) o) :
  RelO E (s.setObj t o) w β Rt Ra/\(bg E s w β Rt Ra).Le (bg E (s.setObj t o) w β Rt Ra):=by
 have le:(bg E s w β Rt Ra).Le (bg E (s.setObj t o) w β Rt Ra):=by
  refine ⟨rfl,fun _ _ h=>h,fun _ _ _=>rfl,fun k ⟨o',ho'⟩ => ?_,fun _ _=>rfl⟩
  show ∃ o,(s.setObj _ _).obj k=some o
  rw [cQ];split
  ·rename_i e;subst e;exact ⟨_,by rw [ho'];rfl⟩
  ·exact ⟨o',ho'⟩
 have key:∀ k o1,(s.setObj t o).obj k=some o1->(k=t/\o1=o)∨(k≠t/\s.obj k=some o1):=by
  intro k o1 hk
  rw [cQ] at hk;split at hk
  ·rename_i e;rw [hh] at hk;simp at hk;exact .inl ⟨e,hk.symm⟩
  ·rename_i e;exact .inr ⟨e,hk⟩
 refine ⟨⟨fun k o1 hk => ?_,fun k o1 hk => ?_,fun k o1 hk => ?_,fun k o1 k' o2 h1 h2 hn => ?_,h.sub,h.rlt,h.fr,h.rt0,h.ra0,h.rt,h.nx,fun k o1 hk hlt => ?_⟩,le⟩
 ·rcases key k o1 hk with ⟨rfl,rfl⟩|⟨_,hk⟩
  ·exact ho le
  ·exact (h.objs k o1 hk).le le (fun _ _=>rfl)
 ·rcases key k o1 hk with ⟨rfl,rfl⟩|⟨_,hk⟩
  ·exact h.lt k _ hh
  ·exact h.lt k o1 hk
 ·rcases key k o1 hk with ⟨rfl,rfl⟩|⟨_,hk⟩
  ·exact hb
  ·exact h.cx k o1 hk
 ·rcases key k o1 h1 with ⟨rfl,rfl⟩|⟨_,g1⟩
  ·rcases key k' o2 h2 with ⟨rfl,rfl⟩|⟨_,g2⟩
   ·exact absurd rfl hn
   ·exact fun b hb'=>ha b hb' k' o2 g2
  ·rcases key k' o2 h2 with ⟨rfl,rfl⟩|⟨_,g2⟩
   ·exact fun b hb' hb2=>ha b hb2 k o1 g1 hb'
   ·exact h.apart k o1 k' o2 g1 g2 hn
 ·rcases key k o1 hk with ⟨rfl,rfl⟩|⟨_,hk⟩
  ·exact h.pin k _ hh hlt
  ·exact h.pin k o1 hk hlt
theorem cL {c:Cx} {x:SV} {v:Value} (h:SL c x v):S1 c x v:=by
 unfold S1;split
 ·exact h.elim
 ·exact h
theorem cB {c:Cx} {x:SV} {v:Value} (h:S1 c x v):S2 c x v:=by
 unfold S2;split
 ·exact (show False from h).elim
 ·exact h
theorem fh (x:SV):(∃ l,x = .agg l)∨∀ l,x ≠ .agg l:=by
 cases x <;> first|exact .inl ⟨_,rfl⟩|exact .inr fun _ h=>by cases h
theorem vm {c:Cx} {x:SV} {v:Value} (hx:∀ l,x ≠ .agg l) (h:S1 c x v):SL c x v:=by
 unfold S1 at h;split at h
 ·exact absurd rfl (hx _)
 ·exact h
theorem sK {f:SV->SV} {x:SV} (hx:∀ l,x ≠ .agg l):fE f x=f x:=by
 unfold fE;split
 ·exact absurd rfl (hx _)
 ·rfl
theorem yd {c c':Cx} {f:SV->SV} (hf:∀ x v,SL c x v->SL c' (f x) v) {x:SV} {v:Value} (h:S1 c x v):S1 c' (fE f x) v:=by
 rcases fh x with ⟨l,rfl⟩|hx
 ·obtain ⟨cs,h1,h2⟩:=h;exact ⟨cs,h1,h2.map hf⟩
 ·rw [sK hx];exact cL (hf _ _ (vm hx h))
theorem nY (x:SV):(∃ l,x = .tup l)∨∀ l,x ≠ .tup l:=by
 cases x <;> first|exact .inl ⟨_,rfl⟩|exact .inr fun _ h=>by cases h
theorem uK {f:SV->SV} {x:SV} (hx:∀ l,x ≠ .tup l):ku f x=fE f x:=by
 unfold ku;split
 ·exact absurd rfl (hx _)
 ·rfl
theorem vn {c:Cx} {x:SV} {v:Value} (hx:∀ l,x ≠ .tup l) (h:S2 c x v):S1 c x v:=by
 unfold S2 at h;split at h
 ·exact absurd rfl (hx _)
 ·exact h
theorem ye {c c':Cx} {f:SV->SV} (hf:∀ x v,SL c x v->SL c' (f x) v) {x:SV} {v:Value} (h:S2 c x v):S2 c' (ku f x) v:=by
 rcases nY x with ⟨l,rfl⟩|hx
 ·obtain ⟨vs,h1,h2⟩:=h;exact ⟨vs,h1,PW.map (f:=fE f) (fun _ _ h=>yd hf h) h2⟩
 ·rw [uK hx];exact cB (yd hf (vn hx h))
theorem yR (f:SV->SV) (l:List SV) (i:Nat) (h:i<l.length):dE (l.map f) i=f (dE l i):=by
 induction l generalizing i with
 | nil=>simp at h
 | cons x r ih=>cases i with
  | zero=>rfl
  | succ i=>exact ih i (by simpa using h)
theorem qk {c c':Cx} {f:SV->SV} (hf:∀ x v,SL c x v->SL c' (f x) v) {s:St} {a:Act} (h:∀ i,S2 c (s.get i) (a.tmps.getD i undef)) (i:Nat):S2 c' ((s.map f).get i) (a.tmps.getD i undef):=by
 by_cases hi:i<s.slots.length
 ·simp only [St.get,St.map,yR _ _ _ hi];exact ye hf (h i)
 ·simp only [St.get,St.map];rw [qN (by simpa using hi)];trivial
theorem ec {c c':Cx} (le:c.Le c') {s:St} {a:Act} (h:∀ i,S2 c (s.get i) (a.tmps.getD i undef)) (i:Nat):S2 c' (s.get i) (a.tmps.getD i undef):=(h i).le le
structure Cx.LeBut (c c':Cx) (t:Nat):Prop where
 T:c'.T=c.T
 Q:∀ st b,c.Q st b->c'.Q st b
 w:∀ st b,c.Q st b->c'.w.heap[b]? = c.w.heap[b]?
 D:∀ k,c.D k->k≠t->c'.D k
 β : ∀ k,c.D k->k≠t->c'.β k=c.β k
theorem dv {t k:Nat} {x:SV} (h:kr t x=false) (hk:tok x=some k):k≠t:=by
 unfold kr at h;split at h
 ·rename_i ts
  cases ts with
  | nil=>cases hk
  | cons u us =>
   simp only [tok,List.head?_cons,Option.some.injEq] at hk;subst hk
   simp only [List.any_cons,Bool.or_eq_false_iff] at h
   intro e;subst e;simp at h
 rw [hk] at h
 intro e;subst e;simp at h
theorem SL.zn {c c':Cx} {t:Nat} (h:c.LeBut c' t) {x:SV} (ht:kr t x=false) {v:Value} (hx:SL c x v):SL c' x v:=by
 cases x <;> simp only [SL] at hx ⊢ <;> try exact hx
 case ro e l st=>rw [h.T];exact hx.mono (h.Q st) (h.w st)
 case own k=>have hn:=dv ht rfl;exact ⟨h.D k hx.1 hn,by rw [h.β k hx.1 hn];exact hx.2⟩
 case vw k lo hi=>have hn:=dv ht rfl;exact ⟨h.D k hx.1 hn,by rw [h.β k hx.1 hn];exact hx.2⟩
 case clo g k=>have hn:=dv ht rfl;exact ⟨h.D k hx.1 hn,by rw [h.β k hx.1 hn];exact hx.2⟩
 case mp k=>have hn:=dv ht rfl;exact ⟨h.D k hx.1 hn,by rw [h.β k hx.1 hn];exact hx.2⟩
 case cls g ts =>
  have hn:∀ k∈ts,k≠t:=fun k hk e=>by
   subst e
   simp only [kr,List.any_eq_false] at ht
   exact ht k hk (Nat.beq_refl k)
  exact ⟨fun k hk=>h.D k (hx.1 k hk) (hn k hk),by rw [List.map_congr_left fun k hk=>by rw [h.β k (hx.1 k hk) (hn k hk)]];exact hx.2⟩
 case ptr k off=>have hn:=dv ht rfl;exact ⟨h.D k hx.1 hn,by rw [h.β k hx.1 hn];exact hx.2⟩
 case el k i off=>have hn:=dv ht rfl;exact ⟨h.D k hx.1 hn,by rw [h.β k hx.1 hn];exact hx.2⟩
 case sdp k=>have hn:=dv ht rfl;exact ⟨h.D k hx.1 hn,by rw [h.β k hx.1 hn];exact hx.2⟩
 case ap k n=>have hn:=dv ht rfl;exact ⟨h.D k hx.1 hn,by rw [h.β k hx.1 hn];exact hx.2⟩
 case ar e n l =>
  obtain ⟨h0,E,cs,h1,h2,h3,h4,h5⟩:=hx
  exact ⟨h0,E,cs,by rw [h.T];exact h1,h2,h3,h4,by rw [h.T];exact h5.mono (fun _ hq=>hq) (fun _ hq=>hq.elim)⟩
 case rl e l st i off =>
  obtain ⟨E,p,h1,h2,h3⟩:=hx
  refine ⟨E,p,by rw [h.T];exact h1,h2,fun j k hk => ?_⟩
  obtain ⟨u,hq,hc,hr⟩:=h3 j k hk
  exact ⟨u,h.Q st _ hq,(gn (w:=c.w) (w':=c'.w) (a:=p.add j) (by rw [de];exact h.w st _ hq)).trans hc,by rw [h.T];exact hr.mono (h.Q st) (h.w st)⟩
 case ra e n l st =>
  obtain ⟨h0,E,p,h1,h2,h3⟩:=hx
  refine ⟨h0,E,p,by rw [h.T];exact h1,h2,fun i j k hi hk => ?_⟩
  obtain ⟨u,hq,hc,hr⟩:=h3 i j k hi hk
  exact ⟨u,h.Q st _ hq,(gn (w:=c.w) (w':=c'.w) (a:=p.add (i*E.sz+j)) (by rw [de];exact h.w st _ hq)).trans hc,by rw [h.T];exact hr.mono (h.Q st) (h.w st)⟩
theorem SL.kill {c c':Cx} {t:Nat} (h:c.LeBut c' t) (x:SV) (v:Value) (hx:SL c x v):SL c' (jk t x) v:=by
 unfold jk
 cases ht:kr t x with
 | true=>trivial
 | false=>exact hx.zn h ht
theorem As {c c':Cx} {b:Nat} {f:SV->SV} (hf:∀ x v,SL c x v->SL c' (f x) v) (hn:f .nos = .nos) (hi:∀ x,f x = .nos->x = .nos) (x:SV) (v:Value) (hx:jP c b x v):jP c' b (f x) v:=by
 by_cases e:x = .nos
 ·subst e;rw [hn];exact hx
 ·have h1 : SL c x v := by unfold jP at hx; split at hx
                           ·exact absurd rfl e
                           ·exact hx
  unfold jP;split
  ·rename_i e2;exact absurd (hi x e2) e
  ·exact hf x v h1
theorem xf (t:Nat):jk t .nos = .nos:=rfl
theorem jl (t:Nat) (x:SV) (h:jk t x = .nos):x = .nos:=by
 unfold jk at h;cases ht:kr t x with
 | true=>rw [ht] at h;simp at h
 | false=>rw [ht] at h;exact h
theorem OR.map {c c':Cx} {f:SV->SV} (hf:∀ x v,SL c x v->SL c' (f x) v) (hn:f .nos = .nos) (hi:∀ x,f x = .nos->x = .nos) (hT:c'.T=c.T) (hQ:∀ st b,c.Q st b->c'.Q st b) (hw:∀ st b,c.Q st b->c'.w.heap[b]? = c.w.heap[b]?)
  {bl:Bl} {o:Obj} (ho:OR c bl o) (hb:∀ b∈bK bl o,c'.w.heap[b]? = c.w.heap[b]?):OR c' bl (o.map f):=by
 cases o with
 | row e l st =>
  obtain ⟨E,cs,h1,h2,h3,h4⟩:=ho
  exact ⟨E,cs,by rw [hT];exact h1,h2,hH h3 (fun b hbb=>hb b (by simp [bK,hbb])),by rw [hT];exact h4.mono (hQ st) (hw st)⟩
 | var ty ls =>
  obtain ⟨cs,q,h1,h2⟩:=ho
  exact ⟨cs,q,(hb _ (by simp [bK])).trans h1,h2.map (As hf hn hi)⟩
 | sit s p=>exact (hb _ (by simp [bK])).trans ho
 | mp k e l =>
  obtain ⟨es,cl,h1,h2⟩:=ho
  exact ⟨es,cl,(hb _ (by simp [bK])).trans h1,h2⟩
 | hole=>trivial
theorem e7 (bl:Bl) (o:Obj) (f:SV->SV):bK bl (o.map f)=bK bl o:=by cases o <;> rfl
theorem dw {s:St} {f:SV->SV} {t k:Nat} {o:Obj} (h:((s.map f).drop t).obj k=some o):k≠t/\∃ o',s.obj k=some o'/\o=o'.map f:=by
 rw [np] at h;split at h
 ·cases h
 ·rename_i hn;rw [rc] at h
  cases ho:s.obj k with
  | none=>rw [ho] at h;cases h
  | some o'=>rw [ho] at h;cases h;exact ⟨hn,o',rfl,rfl⟩
theorem RelO.zr (h:RelO E s w β Rt Ra) (t:Nat) (f:SV->SV) {Rt' Ra':Nat->Prop}
  (hf:∀ x v,SL (bg E s w β Rt Ra) x v->SL (bg E ((s.map f).drop t) w β Rt' Ra') (f x) v) (hn:f .nos = .nos) (hi:∀ x,f x = .nos->x = .nos)
  (h1:∀ b,Rt b->Rt' b) (h2:∀ b,Ra b->Ra' b) (hsub:∀ b,Rt' b->Ra' b) (hlt:∀ b,Ra' b->b<w.heap.size)
  (hap:∀ k o,s.obj k=some o->k≠t->∀ b∈bK (β k) o,¬ Ra' b) (hrt:∀ b,Rt' b->E.Rt0 b∨E.w0.heap.size<=b∨E.W0 b):RelO E ((s.map f).drop t) w β Rt' Ra':=by
 refine ⟨fun k o hk => ?_,fun k o hk => ?_,fun k o hk => ?_,fun k o1 k' o2 h1 h2 hne => ?_,hsub,hlt,h.fr,fun b hb=>h1 b (h.rt0 b hb),fun b hb=>h2 b (h.ra0 b hb),hrt,h.nx,fun k o hk hl => ?_⟩
 ·obtain ⟨_,o',ho',rfl⟩:=dw hk
  refine (h.objs k o' ho').map hf hn hi rfl (fun st b hq => ?_) (fun _ _ _=>rfl) (fun _ _=>rfl)
  unfold Cx.Q at hq ⊢;split at hq
  ·rename_i e;rw [if_pos e];exact h1 b hq
  ·rename_i e;rw [if_neg e];exact h2 b hq
 ·obtain ⟨_,o',ho',rfl⟩:=dw hk;exact h.lt k o' ho'
 ·obtain ⟨hn,o',ho',rfl⟩:=dw hk;rw [e7]
  exact fun b hb=>⟨(h.cx k o' ho' b hb).1,hap k o' ho' hn b hb,(h.cx k o' ho' b hb).2.2⟩
 ·obtain ⟨_,o1',ho1,rfl⟩:=dw h1;obtain ⟨_,o2',ho2,rfl⟩:=dw h2
  rw [e7,e7];exact h.apart k o1' k' o2' ho1 ho2 hne
 ·obtain ⟨_,o',ho',rfl⟩:=dw hk;exact h.pin k o' ho' hl
theorem nQ (f:SV->SV) (t:Nat):(bg E s w β Rt Ra).LeBut (bg E ((s.map f).drop t) w β Rt Ra) t:=by
 refine ⟨rfl,fun _ _ h=>h,fun _ _ _=>rfl,fun k ⟨o,ho⟩ hn => ?_,fun _ _ _=>rfl⟩
 show ∃ o,((s.map f).drop t).obj k=some o
 rw [np,if_neg hn,rc,ho];exact ⟨_,rfl⟩
theorem Rel.zr {a:Act} (h:Rel E s a w β Rt Ra) (t:Nat):Rel E ((s.kill t).drop t) a w β Rt Ra:=by
 have hf:=SL.kill (nQ (E:=E) (s:=s) (w:=w) (β := β) (Rt:=Rt) (Ra:=Ra) (jk t) t)
 refine ⟨h.toRelO.zr t (jk t) hf (xf t) (jl t) (fun _ h=>h) (fun _ h=>h) h.sub h.rlt (fun k o ho _ b hb=>(h.cx k o ho b hb).2.1) h.rt,by simp [St.kill,St.map,St.drop,h.len],h.defers,?_⟩
 exact qk (s:=s) (f:=jk t) hf h.slots
theorem Rel.uj {a:Act} (h:Rel E s a w β Rt Ra) (t:Nat):∃ Rt' Ra',Rel E (s.uj t) a w β Rt' Ra':=by
 unfold St.uj
 cases ho:s.obj t with
 | none=>exact ⟨Rt,Ra,h⟩
 | some o =>
  cases o with
  | var ty ls=>exact ⟨Rt,Ra,h⟩
  | sit b p=>exact ⟨Rt,Ra,h⟩
  | mp k e l=>exact ⟨Rt,Ra,h⟩
  | hole=>exact ⟨Rt,Ra,h⟩
  | row e l st =>
   have hb:=h.cx t _ ho
   obtain ⟨T,cs,hT,hsz,hown,hrc⟩:=h.objs t _ ho
   let X:Nat->Prop:=fun b=>b∈bK (β t) (.row e l st)
   have hQ:∀ st' b,(bg E s w β Rt Ra).Q st' b->(bg E ((s.map (nw t e l st)).drop t) w β (fun b=>Rt b∨X b) (fun b=>Ra b∨X b)).Q st' b:=by
    intro st' b hq;unfold Cx.Q at hq ⊢;split at hq
    ·rename_i e;rw [if_pos e];exact .inl hq
    ·rename_i e;rw [if_neg e];exact .inl hq
   have lb:(bg E s w β Rt Ra).LeBut (bg E ((s.map (nw t e l st)).drop t) w β (fun b=>Rt b∨X b) (fun b=>Ra b∨X b)) t :=
    ⟨rfl,hQ,fun _ _ _=>rfl,(nQ (E:=E) (s:=s) (w:=w) (β := β) (Rt:=Rt) (Ra:=Ra) (nw t e l st) t).D,fun _ _ _=>rfl⟩
   have hro:SL (bg E ((s.map (nw t e l st)).drop t) w β (fun b=>Rt b∨X b) (fun b=>Ra b∨X b)) (.ro e l st) (β t).v:=by
    show cU _ _ _ _ _ _
    obtain ⟨hlen,hv⟩:=hown
    rcases hv with ⟨hv,hn⟩|⟨g,cap,cur,q,fz,hv,_,hg,_,hnc,hcm,hcs,htake⟩
    ·rw [hv];exact .slnil e _ (List.eq_nil_of_length_eq_zero hn)
    ·rw [hv]
     refine .sl e T ⟨g,0,none⟩ _ cap (.sl l) cs hT rfl hnc hcm hlen (fun j v hj=>⟨?_,?_⟩) (fun i j k hi hk v hj=>(hrc i j k hi hk v hj).mono (hQ st) (fun _ _=>rfl))
     ·have hX:X g:=by show g∈bK (β t) (.row e l st);simp [bK,hv,Value.ownBlock]
      unfold Cx.Q;split
      ·exact .inr hX
      ·exact .inr hX
     ·rw [add_plain]
      show w.cell? ⟨g,0+j,none⟩=some v
      rw [Nat.zero_add,cell_of_row w g j cur q fz hg]
      rw [<- htake] at hj
      rw [List.getElem?_take] at hj
      split at hj
      ·simpa using hj
      ·cases hj
   have hf:∀ x v,SL (bg E s w β Rt Ra) x v->SL (bg E ((s.map (nw t e l st)).drop t) w β (fun b=>Rt b∨X b) (fun b=>Ra b∨X b)) (nw t e l st x) v:=by
    intro x v hx
    unfold nw;split
    ·rename_i k
     cases hk:Nat.beq k t with
     | true=>have:=Nat.eq_of_beq_eq_true hk;subst this;simp only [cond_true];rw [hx.2.1];exact hro
     | false=>simp only [cond_false];exact hx.zn lb (by unfold kr tok;exact hk)
    ·rename_i k n
     cases hk:Nat.beq k t with
     | false=>simp only [cond_false];exact hx.zn lb (by unfold kr tok;exact hk)
     | true =>
      have:=Nat.eq_of_beq_eq_true hk;subst this;simp only [cond_true]
      obtain ⟨_,g,cap,e1,e2⟩:_/\∃ g cap,(β k).v=_/\v=_:=hx
      obtain ⟨hlen,hv⟩:=hown
      rcases hv with ⟨hv,hn⟩|⟨g',cap',cur,q,fz,hv,_,hg,_,hnc,hcm,hcs,htake⟩
      ·have hv':(β k).v = .slice none 0 0:=hv
       rw [e1] at hv';cases hv'
      ·have hv':(β k).v=_:=hv
       rw [e1] at hv';cases hv'
       have hX:X g:=by show g∈bK (β k) (.row e l st);simp [bK,e1,Value.ownBlock]
       refine ⟨rfl,T,⟨g,0,none⟩,hT,e2,fun i j kk hi hkk => ?_⟩
       have hj:j<T.sz:=(List.getElem?_eq_some_iff.mp hkk).1
       have hlt:i*T.sz+j<cs.length:=by
        rw [hlen]
        have:(i+1)*T.sz<=l.length*T.sz:=Nat.mul_le_mul_right _ hi
        rw [Nat.add_mul,Nat.one_mul] at this;omega
       have hget:cs[i*T.sz+j]? = some cs[i*T.sz+j]:=List.getElem?_eq_getElem hlt
       refine ⟨cs[i*T.sz+j],?_,?_,(hrc i j kk hi hkk _ hget).mono (hQ st) (fun _ _=>rfl)⟩
       ·unfold Cx.Q;split
        ·exact .inr hX
        ·exact .inr hX
       ·rw [add_plain,Nat.zero_add]
        show w.cell? ⟨g,i*T.sz+j,none⟩=some _
        rw [cell_of_row w g _ cur q fz hg]
        generalize cs[i*T.sz+j]=u at hget
        rw [<- htake,List.getElem?_take] at hget
        split at hget
        ·simpa using hget
        ·cases hget
    ·exact hx.kill lb
   have hnn:nw t e l st .nos = .nos:=rfl
   have hni:∀ x,nw t e l st x = .nos->x = .nos:=by
    intro x hx;unfold nw at hx;split at hx
    ·rename_i k;cases hk:Nat.beq k t <;> rw [hk] at hx <;> simp at hx
    ·rename_i k n;cases hk:Nat.beq k t <;> rw [hk] at hx <;> simp at hx
    ·exact jl t x hx
   refine ⟨fun b=>Rt b∨X b,fun b=>Ra b∨X b,⟨h.toRelO.zr t _ hf hnn hni (fun _ h => .inl h) (fun _ h => .inl h) (fun b hb=>hb.imp (h.sub b) id) ?_ ?_ ?_,by simp [St.map,St.drop,h.len],h.defers,qk (s:=s) hf h.slots⟩⟩
   ·rintro b (hb'|hb')
    ·exact h.rlt b hb'
    ·exact (hb b hb').1
   ·rintro k o hk hn b hbk (hb'|hb')
    ·exact (h.cx k o hk b hbk).2.1 hb'
    ·exact h.apart k o t _ hk ho hn b hbk hb'
   ·rintro b (hb'|hb')
    ·exact h.rt b hb'
    ·exact .inr ((hb b hb').2.2)
def ci (E:Env) (s:St) (a:Act) (w:World):Prop:=∃ β Rt Ra,Rel E s a w β Rt Ra
theorem ci.eO {a:Act}:∀ (ts:List Nat) {s:St},ci E s a w->ci E (eO ts s) a w
 | [],_,h=>h
 | t::r,_,⟨β,Rt,Ra,h⟩=>let ⟨Rt',Ra',h'⟩:=h.uj t;ci.eO r ⟨β,Rt',Ra',h'⟩
end
end Go.Proofs.Ab
namespace Go.Proofs.Ab
open Go
variable {R:Type}
def il:TypeDesc->Bool
 | .struct _=>true
 | .array _ _=>true
 | _=>false
def zeroV:LK->Value->Prop
 | .int k,v=>v = .int k 0
 | .bool,v=>v = .bool false
 | .str,v=>v = .string ⟨#[]⟩
 | .sl _,v=>v = .slice none 0 0
 | .ptr,v=>v = .pointer none
 | .fn,v=>v = .nilFunc
 | .nos,v=>v = .pointer none
 | .ifc,v=>v = .nilIface
 | .oth,_=>True
 | .mp _ _,_=>True
def eT:SV->Value->Prop
 | .int k n,v=>v = .int k n
 | .bool b,v=>v = .bool b
 | .str s,v=>v = .string s
 | _,_=>True
def qL (P:Program) (sz:Nat) (p:Nat × Nat × Bool) (F:Field):Prop :=
 F.offset=p.1/\p.1+p.2.1<=sz/\∃ (i:TypeInfo) (d:TypeDesc),P.info? F.type=some i/\i.size=p.2.1/\P.underlying F.type=some d/\il d=p.2.2
structure TyOk (P:Program) (t:Nat) (ti:TI):Prop where
 agg:∃ d,P.underlying t=some d/\il d=ti.agg
 info:∃ i z,P.info? t=some i/\i.size=ti.sz/\i.bytes=ti.bytes/\i.zero=some z/\PW zeroV ti.lv z.cells.toList/\((∃ cs,z = .agg cs) ↔ ti.agg=true)
 pos:0<ti.sz
 bpos:0<ti.bytes
 slice:ti.sl=true->P.underlying t=some (.slice ti.elem)
 int:∀ k,ti.agg=false->ti.lv=[.int k]->P.underlying t=some (.int k)
 bool:ti.agg=false->ti.lv=[.bool]->P.underlying t=some .bool
 str:ti.agg=false->ti.lv=[.str]->P.underlying t=some .string
 map:∀ k e,ti.agg=false->ti.lv=[.mp k e]->P.underlying t=some (.map k e)
 ptr:ti.agg=false->ti.lv=[.ptr]->ti.elem≠0->P.underlying t=some (.pointer ti.elem)
 arr:ti.agg=true->ti.flds=[]->ti.elem≠0->∃ (n:Nat) (i:TypeInfo),P.underlying t=some (.array n ti.elem)/\P.info? ti.elem=some i/\n*i.size=ti.sz
 struct:ti.flds≠[]->∃ fs:Array Field,P.underlying t=some (.struct fs)/\PW (qL P ti.sz) ti.flds fs.toList
 eqs:ti.eqs=true->P.eqGuardType P.depth t=false/\∀ (w:World) (l m:List SV) (xs ys:Array Value) b,PW eT l xs.toList->PW eT m ys.toList->cC ti.lv l m=some b->(Op.equalIn 10000 t (.agg xs) (.agg ys)).run P w = .ok b w
structure Ok (P:Program) (T:Nat->Option TI):Prop where
 ty:∀ t ti,T t=some ti->TyOk P t ti
 mixed:P.follows .mixedOrders=true
section
variable {P:Program} {o:Oper} {a:Act} {w w':World} {next:Act->World->Prop} {Q:Exit->Act->World->Prop}
theorem dc {v:Value} (hr:(execOp a.eval o).run P w = .ok (.value v) w') (hn:next (a.put o.dst v) w'):o.wp P a w next Q:=by
 unfold Oper.wp;rw [hr];exact hn
theorem wp_skip {v:Value} (hv:v=undef) (hr:(execOp a.eval o).run P w = .ok .skip w') (hn:next (a.put o.dst v) w'):o.wp P a w next Q:=by
 unfold Oper.wp;rw [hr];subst hv;exact hn
theorem eU {t:Nat} {ti:TI} (h:TyOk P t ti) (w:World):(isAgg t).run P w = .ok ti.agg w:=by
 obtain ⟨d,hd,hg⟩:=h.agg
 unfold isAgg
 simp only [Sem.run_bind,run_underlying hd,Result.andThen_ok]
 rw [<- hg]
 cases d <;> rfl
theorem ia {t:Nat} {d:TypeDesc} (h:P.underlying t=some d) (w:World):(isAgg t).run P w = .ok (il d) w:=by
 unfold isAgg
 simp only [Sem.run_bind,run_underlying h,Result.andThen_ok]
 cases d <;> rfl
theorem kN {t:Nat} {i:TypeInfo} (h:P.info? t=some i) (w:World):(sizeOf t).run P w = .ok i.size w:=by
 simp [sizeOf,typeInfo,h]
theorem dQ {t:Nat} {ti:TI} (h:TyOk P t ti) (w:World):(sizeOf t).run P w = .ok ti.sz w:=by
 obtain ⟨i,z,hi,hs,_⟩:=h.info
 rw [kN hi,hs]
end
section
variable {E:Env} {s:St} {a:Act} {w:World} {β : Nat->Bl} {Rt Ra:Nat->Prop}
theorem AL (c:Cx) (v:Value):SL c (Cv v) v:=by
 unfold Cv
 split
 all_goals first|rfl|trivial
theorem yL (c:Cx):∀ (l:List Value),PW (SL c) (l.map Cv) l
 | []=>trivial
 | v::l=>⟨AL c v,yL c l⟩
theorem bH (h:Rel E s a w β Rt Ra) (x:Operand):S2 (bg E s w β Rt Ra) (ev s x) (a.eval x):=by
 unfold ev
 split
 ·exact h.slots _
 all_goals first|rfl|trivial|exact ⟨_,rfl,yL _ _⟩
end
theorem pa (x y:ByteArray):(x.toList == y.toList)=decide (x=y):=by
 rw [Bool.eq_iff_iff]
 simp only [beq_iff_eq,decide_eq_true_eq]
 constructor
 ·intro h
  rw [Lib.toList_data,Lib.toList_data] at h
  exact ByteArray.ext (Array.ext' h)
 ·intro h;rw [h]
theorem dF {c:Cx} {k:IntKind} {n:Int} {v:Value} (h:S2 c (.int k n) v):v = .int k n:=h
theorem mG {c:Cx} {b:Bool} {v:Value} (h:S2 c (.bool b) v):v = .bool b:=h
theorem gP {c:Cx} {b:ByteArray} {v:Value} (h:S2 c (.str b) v):v = .string b:=h
theorem gO {c:Cx} {l:List SV} {v:Value} (h:S2 c (.agg l) v):∃ cs:Array Value,v = .agg cs/\PW (SL c) l cs.toList:=h
theorem B' {c:Cx} {l:List SV} {v:Value} (h:S2 c (.tup l) v):∃ vs:Array Value,v = .tuple vs/\PW (S1 c) l vs.toList:=h
theorem b8 {b:Bool} {k:Option R} {r:R} (h:bW b k=some r):b=true/\k=some r:=by
 cases b
 ·cases h
 ·exact ⟨rfl,h⟩
theorem tT {P:Program} {op:BinOp} {k:IntKind} {x y:Int} {κ : SV->Option R} {r:R} (h:wC op k x y κ = some r) (hs:ze op=false) (c:Cx) (w:World) (t:Nat) :
  ∃ z v,κ z=some r/\(binOp op t (.int k x) (.int k y)).run P w = .ok v w/\S2 c z v:=by
 cases op <;> first|(simp [ze] at hs;done)|simp only [wC] at h
 case quo =>
  obtain ⟨h0,h⟩:=b8 h
  have hy:y≠0:=by simpa using h0
  exact ⟨_,_,h,by simp [binOp,Op.intDiv,hy],rfl⟩
 case rem =>
  obtain ⟨h0,h⟩:=b8 h
  have hy:y≠0:=by simpa using h0
  exact ⟨_,_,h,by simp [binOp,Op.intDiv,hy],rfl⟩
 all_goals exact ⟨_,_,h,by simp [binOp,Op.intArith,Op.intBits,Op.intCmp,yn],rfl⟩
theorem xF {P:Program} {op:BinOp} {k k':IntKind} {x y:Int} {κ : SV->Option R} {r:R} (h:Dk op k x y κ = some r) (c:Cx) (w:World) (t:Nat) :
  ∃ z v,κ z=some r/\(binOp op t (.int k x) (.int k' y)).run P w = .ok v w/\S2 c z v:=by
 cases op <;> first|(simp [Dk] at h;done)|simp only [Dk] at h
 all_goals
  obtain ⟨h0,h⟩:=b8 h
  have hy : ¬ y < 0 := by have : 0 <= y := by simpa using h0
                          omega
  exact ⟨_,_,h,by simp [binOp,Op.shift,hy],rfl⟩
theorem tV {P:Program} {op:BinOp} {x y:ByteArray} {κ : SV->Option R} {r:R} (h:tU op x y κ = some r) (c:Cx) (w:World) (t:Nat) :
  ∃ z v,κ z=some r/\(binOp op t (.string x) (.string y)).run P w = .ok v w/\S2 c z v:=by
 cases op <;> first|(simp [tU] at h;done)|simp only [tU] at h
 case add =>
  obtain ⟨h0,h⟩:=b8 h
  have hy:x.size+y.size<=9223372036854775807:=by simpa using h0
  exact ⟨_,_,h,by simp only [binOp];exact run_string_add_sum w x y hy,rfl⟩
 all_goals exact ⟨_,_,h,by simp [binOp,Op.stringOp,pa],rfl⟩
theorem ga {c:Cx} {l:List SV} {cs:List Value} (h:PW (SL c) l cs):PW eT l cs:=by
 refine h.imp fun x v hx => ?_
 cases x <;> first|exact hx|trivial
theorem tW {P:Program} {T:Nat->Option TI} (hP:Ok P T) {op:BinOp} {t:Nat} {x y:SV} {κ : SV->Option R} {r:R} (h:wD (li (T t)) (qW (T t)) op x y κ = some r) {c:Cx} {v u:Value} (hv:S2 c x v) (hu:S2 c y u) (w:World) (xo yo:Operand) :
  ∃ z q,κ z=some r/\(do eqGuard op t xo yo v u;binOp op t v u:Sem Value).run P w = .ok q w/\S2 c z q:=by
 unfold wD at h
 split at h
 ·rename_i k n k' m
  obtain rfl:=dF hv;obtain rfl:=dF hu
  have g:(eqGuard op t xo yo (.int k n) (.int k' m)).run P w = .ok () w:=by unfold eqGuard;cases op <;> rfl
  simp only [Sem.run_bind,g,Result.andThen_ok]
  cases hs:ze op with
  | true=>rw [hs] at h;exact xF h c w t
  | false =>
   rw [hs] at h;simp only [cond_false] at h
   by_cases hk:k=k'
   ·subst hk;simp only [decide_true,cond_true] at h;exact tT h hs c w t
   ·simp [hk] at h
 ·rename_i n m
  obtain rfl:=gP hv;obtain rfl:=gP hu
  have g:(eqGuard op t xo yo (.string n) (.string m)).run P w = .ok () w:=by unfold eqGuard;cases op <;> rfl
  simp only [Sem.run_bind,g,Result.andThen_ok]
  exact tV h c w t
 ·rename_i n m
  obtain rfl:=mG hv;obtain rfl:=mG hu
  cases hk:Nat.beq (li (T t)) 1 with
  | false=>rw [hk] at h;cases h
  | true =>
   rw [hk] at h;simp only [cond_true] at h
   have hu:P.underlying t=some .bool:=by
    have hk:=Nat.eq_of_beq_eq_true hk
    unfold li at hk
    split at hk
    ·cases hk
    ·rename_i ti hT
     cases ha:ti.agg with
     | true=>rw [ha] at hk;simp only [cond_true] at hk;cases he:ti.eqs <;> rw [he] at hk <;> cases hk
     | false =>
      rw [ha] at hk;simp only [cond_false] at hk
      by_cases hl:ti.lv=[.bool]
      ·exact (hP.ty t ti hT).bool ha hl
      ·simp [hl] at hk
   have g:(eqGuard op t xo yo (.bool n) (.bool m)).run P w = .ok () w:=by unfold eqGuard;cases op <;> rfl
   simp only [Sem.run_bind,g,Result.andThen_ok]
   have e:(Op.equal t (.bool n) (.bool m)).run P w = .ok (n == m) w:=by
    unfold Op.equal;rw [show Op.maxDepth=9999+1 from rfl];exact run_equalIn_bool' w 9999 t n m hu
   split at h
   ·exact ⟨_,_,h,by simp [binOp,e],rfl⟩
   ·exact ⟨_,_,h,by simp [binOp,e],rfl⟩
   ·cases h
 ·rename_i l m
  obtain ⟨xs,rfl,hx⟩:=gO hv;obtain ⟨ys,rfl,hy⟩:=gO hu
  cases hk:Nat.beq (li (T t)) 2 with
  | false=>rw [hk] at h;cases h
  | true =>
   rw [hk] at h;simp only [cond_true] at h
   have hk:=Nat.eq_of_beq_eq_true hk
   unfold li at hk
   split at hk
   ·cases hk
   ·rename_i ti hT
    cases ha:ti.agg with
    | false=>rw [ha] at hk;simp only [cond_false] at hk;by_cases hl:ti.lv=[.bool] <;> simp [hl] at hk
    | true =>
     cases hq:ti.eqs with
     | false=>rw [ha,hq] at hk;cases hk
     | true =>
      obtain ⟨hg,heq⟩:=(hP.ty t ti hT).eqs hq
      rw [hT] at h;simp only [qW] at h
      have g:=run_eqGuard_agg (P:=P) (w:=w) op t xo yo xs ys hg
      simp only [Sem.run_bind,g,Result.andThen_ok]
      split at h
      ·rename_i b hb
       refine ⟨_,_,h,?_,rfl⟩
       rw [run_eql_struct,heq w l m xs ys b (ga hx) (ga hy) hb];rfl
      ·rename_i b hb
       refine ⟨_,_,h,?_,rfl⟩
       rw [run_neq_struct,heq w l m xs ys b (ga hx) (ga hy) hb];rfl
      ·cases h
 ·cases h
theorem xN {P:Program} {op:UnOp} {x:SV} {κ : SV->Option R} {r:R} (h:DI op x κ = some r) {c:Cx} {v:Value} (hv:S2 c x v) (w:World) :
  ∃ z q,κ z=some r/\(Op.unary op v).run P w = .ok q w/\S2 c z q:=by
 unfold DI at h
 split at h
 ·obtain rfl:=dF hv;exact ⟨_,_,h,by simp [Op.unary,Op.intArith],rfl⟩
 ·obtain rfl:=mG hv;exact ⟨_,_,h,by simp [Op.unary],rfl⟩
 ·cases h
theorem tO {c:Cx} {l:List SV} {cs:List Value} (h:PW (SL c) l cs) (j n:Nat):PW (SL c) (sub l j n) ((cs.drop j).take n):=(h.drop j).take n
theorem gd {c:Cx} {g:Bool} {n:Nat} {l:List SV} {x:SV} (h:whole g n l=some x) {cs:List Value} (hl:PW (SL c) l cs):cs.length=n/\((g=true/\S1 c x (.agg cs.toArray))∨(g=false/\∃ v,cs=[v]/\S1 c x v)):=by
 unfold whole at h
 cases hb:Nat.beq l.length n with
 | false=>rw [hb] at h;cases h
 | true =>
  rw [hb] at h;simp only [cond_true] at h
  refine ⟨hl.len.symm.trans (Nat.eq_of_beq_eq_true hb),?_⟩
  cases g with
  | true=>simp only [cond_true] at h;cases h;exact .inl ⟨rfl,cs.toArray,rfl,by simpa using hl⟩
  | false =>
   simp only [cond_false] at h
   split at h
   ·cases h
    cases cs with
    | nil=>exact hl.elim
    | cons v r=>cases r with
     | nil=>exact .inr ⟨rfl,v,rfl,cL hl.1⟩
     | cons _ _=>exact hl.2.elim
   ·cases h
theorem jm {P:Program} {t:Nat} {ti:TI} (ht:TyOk P t ti) {c:Cx} {l:List SV} {x:SV} (h:whole ti.agg ti.sz l=some x) {cs:List Value} (hl:PW (SL c) l cs) {w:World} {p:Addr} (hc:∀ (j:Nat) v,cs[j]? = some v->w.cell? (p.add j)=some v) :
  ∃ v,(Instr.loadAt t (.pointer (some p))).run P w = .ok v w/\S1 c x v:=by
 obtain ⟨hlen,hx⟩:=gd h hl
 rcases hx with ⟨hg,hx⟩|⟨hg,v,rfl,hx⟩
 ·refine ⟨_,?_,hx⟩
  have:=run_loadCells_list (P:=P) w p cs hc
  simp [Instr.loadAt,Instr.sureAddr,loadVar,eU ht,hg,dQ ht,<- hlen,this]
 ·refine ⟨v,?_,hx⟩
  have h0:=hc 0 v rfl
  have e:p.add 0=p:=rfl
  rw [e] at h0
  simp [Instr.loadAt,Instr.sureAddr,loadVar,eU ht,hg,h0]
theorem po {c:Cx} {st:Bool} {k:LK} {v:Value} {a:AV} (h:cU c.T c.w (c.Q st) k v a):SL c (eta st k a) v:=by
 cases h with
 | int k a=>rfl
 | bool a=>rfl
 | str a=>rfl
 | slnil e a h=>exact .slnil e _ h
 | sl e E ad n m a cs h1 h2 h2' h2'' h3 h4 h5=>exact .sl e E ad n m _ cs h1 h2 h2' h2'' h3 h4 h5
theorem kf (st agg:Bool) (a:AV):∀ (ks:List LK) (j q:Nat),(jy st agg a j ks)[q]? = (ks[q]?).map fun k=>eta st k (lf agg a (j+q))
 | [],j,q=>by simp [jy]
 | k::ks,j,0=>by simp [jy]
 | k::ks,j,q+1=>by simp only [jy,List.getElem?_cons_succ,kf st agg a ks (j+1) q];rw [show j+1+q=j+(q+1) by omega]
theorem kg (st agg:Bool) (a:AV):∀ (ks:List LK) (j:Nat),(jy st agg a j ks).length=ks.length
 | [],_=>rfl
 | k::ks,j=>by simp [jy,kg st agg a ks (j+1)]
end Go.Proofs.Ab
namespace Go.Proofs.Ab
open Go
variable {R:Type}
def db (P:Program) (E:Env) (o:Oper) (a:Act) (w:World) (κ : St->Option R) (r:R):Prop :=
 ∀ (next:Act->World->Prop) (Q:Exit->Act->World->Prop),(∀ s' a' w',κ s'=some r->ci E s' a' w'->next a' w')->o.wp P a w next Q
section
variable {P:Program} {E:Env} {o:Oper} {s:St} {a:Act} {w:World} {β : Nat->Bl} {Rt Ra:Nat->Prop} {κ : St->Option R} {r:R}
theorem dh (h:Rel E s a w β Rt Ra) {x:SV} {v:Value} (hx:S2 (bg E s w β Rt Ra) x v) (hr:(execOp a.eval o).run P w = .ok (.value v) w) (hk:κ (s.put o.dst x)=some r):db P E o a w κ r :=
 fun _ _ hn=>dc hr (hn _ _ _ hk ⟨β,Rt,Ra,h.put o.dst hx⟩)
theorem eu (h:Rel E s a w β Rt Ra) {x:SV} {v:Value} (hx:S1 (bg E s w β Rt Ra) x v) (hr:(execOp a.eval o).run P w = .ok (.value v) w) (hk:κ (s.put o.dst x)=some r):db P E o a w κ r :=
 dh h (cB hx) hr hk
theorem bJ (h:Rel E s a w β Rt Ra) {x:SV} {v:Value} (hx:SL (bg E s w β Rt Ra) x v) (hr:(execOp a.eval o).run P w = .ok (.value v) w) (hk:κ (s.put o.dst x)=some r):db P E o a w κ r :=
 dh h (cB (cL hx)) hr hk
theorem pA (h:Rel E s a w β Rt Ra) {x:Operand} (ho:o.op = .move x∨o.op = .assign x) (hk:κ (s.put o.dst (ev s x))=some r):db P E o a w κ r :=
 dh h (bH h x) (by rcases ho with ho|ho <;> (unfold execOp;rw [ho];rfl)) hk
theorem wZ {C:Cfg R} {q:Bool} (h:Rel E s a w β Rt Ra) {c x y:Operand} (ho:o.op = .pick c x y) (hk:df C q o s κ = some r):db P E o a w κ r:=by
 unfold df at hk;rw [ho] at hk;simp only at hk
 have hc:=bH h c
 split at hk
 ·rename_i t ht
  rw [ht] at hc
  have e:a.eval c = .bool t:=hc
  cases t with
  | true=>exact dh h (bH h x) (by unfold execOp;rw [ho];simp [e,asBool]) hk
  | false=>exact dh h (bH h y) (by unfold execOp;rw [ho];simp [e,asBool]) hk
 ·cases hk
theorem oQ {C:Cfg R} {q:Bool} (h:Rel E s a w β Rt Ra) {x:Operand} (ho:o.op = .nilCheck x) (hk:df C q o s κ = some r):db P E o a w κ r:=by
 unfold df at hk;rw [ho] at hk;simp only at hk
 have hc:=bH h x
 split at hk
 ·rename_i t n ht;rw [ht] at hc
  obtain ⟨hd,g,cap,e1,e⟩:_/\∃ g cap,_/\a.eval x = .pointer (some _):=hc
  exact bJ h (x := .ap t n) ⟨hd,g,cap,e1,rfl⟩ (by unfold execOp;rw [ho];simp [e]) hk
 ·rename_i el n l st ht;rw [ht] at hc
  obtain ⟨h0,T,p,e1,e,e2⟩:_/\∃ T p,_/\a.eval x = .pointer (some p)/\_:=hc
  exact bJ h (x := .ra el n l st) ⟨h0,T,p,e1,rfl,e2⟩ (by unfold execOp;rw [ho];simp [e]) hk
 ·rename_i t off ht;rw [ht] at hc
  obtain ⟨hd,e⟩:_/\a.eval x = .pointer (some _):=hc
  exact bJ h (x := .ptr t off) ⟨hd,rfl⟩ (by unfold execOp;rw [ho];simp [e]) hk
 ·rename_i t i off ht;rw [ht] at hc
  obtain ⟨hd,h0,g,n,cap,e1,e2,e⟩:_/\_/\∃ g n cap,_/\_/\a.eval x = .pointer (some _):=hc
  exact bJ h (x := .el t i off) ⟨hd,h0,g,n,cap,e1,e2,rfl⟩ (by unfold execOp;rw [ho];simp [e]) hk
 ·rename_i el l st i off ht;rw [ht] at hc
  obtain ⟨T,p,e1,e,e2⟩:∃ T p,_/\a.eval x = .pointer (some p)/\_:=hc
  exact bJ h (x := .rl el l st i off) ⟨T,p,e1,rfl,e2⟩ (by unfold execOp;rw [ho];simp [e]) hk
 ·cases hk
theorem ur {C:Cfg R} {q:Bool} (hP:Ok P C.ty) (h:Rel E s a w β Rt Ra) {op:BinOp} {t:Nat} {x y:Operand} {u:Nat} (ho:o.op = .binOp op t x y u) (hk:df C q o s κ = some r):db P E o a w κ r:=by
 unfold df at hk;rw [ho] at hk;simp only at hk
 cases hn:qV op (ev s x) (ev s y) with
 | false =>
  rw [hn] at hk;simp only [cond_false] at hk
  obtain ⟨z,v,hz,hr,hv⟩:=tW hP hk (bH h x) (bH h y) w x y
  exact dh h hv (by unfold execOp;rw [ho];simp only [Sem.run_bind] at hr ⊢;rw [hr];rfl) hz
 | true =>
  rw [hn] at hk;simp only [cond_true] at hk
  have hx:=bH h x
  have hy:=bH h y
  have go:∀ (T:TI) (b:Bool) (A:Option Addr) (n c:Nat),C.ty t=some T->T.sl=true->op = .eql->a.eval y = .slice none 0 0->a.eval x = .slice A n c->b=A.isNone->κ (s.put o.dst (.bool b))=some r->db P E o a w κ r:=fun T b A n c hT hs hop hy ex hb hk=>by
   subst hop
   have hu:=(hP.ty t T hT).slice hs
   have g:(eqGuard .eql t x y (.slice A n c) (.slice none 0 0)).run P w = .ok () w:=by unfold eqGuard;rfl
   have hr:(do eqGuard .eql t x y (.slice A n c) (.slice none 0 0);binOp .eql t (.slice A n c) (.slice none 0 0):Sem Value).run P w = .ok (.bool b) w:=by
    simp only [Sem.run_bind,g,Result.andThen_ok]
    have e:∀ d:Nat,(Op.equalIn (d+1) t (.slice A n c) (.slice none 0 0)).run P w = .ok A.isNone w:=fun d=>by
     cases A <;> simp [Op.equalIn,run_underlying hu]
    have e2:(Op.equal t (.slice A n c) (.slice none 0 0)).run P w = .ok A.isNone w:=e 9999
    rw [hb]
    show ((do let b <- Op.equal t (.slice A n c) (.slice none 0 0);pure (.bool b):Sem Value)).run P w=_
    simp only [Sem.run_bind,e2,Result.andThen_ok];rfl
   refine dh h (x := .bool b) (v := .bool b) rfl ?_ hk
   unfold execOp;rw [ho];simp only [Sem.run_bind] at hr ⊢
   rw [ex,hy,hr];rfl
  unfold qV at hn
  split at hn
  ·rename_i e l st e1 e2
   rw [e1] at hx;rw [e2] at hy
   have hx:cU E.T w _ (.sl e) (a.eval x) (.sl l):=hx
   unfold C2 at hk;rw [e1] at hk
   cases q with
   | true=>cases hk
   | false =>
    simp only [cond_false] at hk
    split at hk
    ·rename_i T hl hT
     cases hl
     cases hs:T.sl with
     | false=>rw [hs] at hk;cases hk
     | true =>
      rw [hs] at hk;simp only [cond_true] at hk
      generalize hvx:a.eval x=vx at hx
      cases hx with
      | slnil _ _ hl =>
       have hl:l=[]:=hl
       rw [hl,decide_eq_false (by decide),cond_false] at hk
       exact go T true none 0 0 hT hs rfl hy hvx rfl (m6 hk).1
      | sl _ _ ad n c _ _ =>
       refine go T false (some ad) n c hT hs rfl hy hvx rfl ?_
       cases hd:decide ((0:Int)<(l.length:Int)) with
       | true=>rw [hd] at hk;exact hk
       | false=>rw [hd] at hk;exact (m6 hk).2
    ·rename_i hl _;cases hl
    ·cases hk
  ·rename_i e1 e2
   rw [e1] at hx;rw [e2] at hy
   unfold C2 at hk;rw [e1] at hk
   cases q with
   | true=>cases hk
   | false =>
    simp only [cond_false] at hk
    split at hk
    ·rename_i hl _;cases hl
    ·rename_i T _ hT
     cases hs:T.sl with
     | false=>rw [hs] at hk;cases hk
     | true =>
      rw [hs] at hk;simp only [cond_true] at hk
      exact go T true none 0 0 hT hs rfl hy hx rfl hk
    ·cases hk
  ·cases hn
theorem w5 {C:Cfg R} {q:Bool} (h:Rel E s a w β Rt Ra) {op:UnOp} {t:Nat} {x:Operand} (ho:o.op = .unOp op t x) (hk:df C q o s κ = some r):db P E o a w κ r:=by
 unfold df at hk;rw [ho] at hk;simp only at hk
 obtain ⟨z,v,hz,hr,hv⟩:=xN (P:=P) hk (bH h x) w
 exact dh h hv (by unfold execOp;rw [ho];simp only [Sem.run_bind,hr];rfl) hz
theorem qP {C:Cfg R} {q:Bool} (hP:Ok P C.ty) (h:Rel E s a w β Rt Ra) {f t:Nat} {x:Operand} (ho:o.op = .convert f t x)
  (hconv:∀ F T,C.ty f=some F->C.ty t=some T->F.agg=false->T.agg=false->pf C s o.dst f t F T (ev s x) κ = some r->db P E o a w κ r) (hk:df C q o s κ = some r):db P E o a w κ r:=by
 unfold df at hk;rw [ho] at hk;simp only at hk
 have hc:=bH h x
 split at hk
 ·rename_i F T hF hT
  cases hA:(!F.agg && !T.agg) with
  | false=>rw [hA] at hk;cases hk
  | true =>
   rw [hA] at hk;simp only [Bool.not_true,cond_false] at hk
   obtain ⟨hFa,hTa⟩:F.agg=false/\T.agg=false:=by simpa using hA
   split at hk
   ·rename_i k n k1 k2 e1 e2 e3;rw [e1] at hc;obtain e:=dF hc
    have u1:=(hP.ty f F hF).int k1 hFa e2
    have u2:=(hP.ty t T hT).int k2 hTa e3
    exact bJ h (x := .int k2 (k2.wrap n)) rfl (by unfold execOp;rw [ho];simp [e,convert,run_underlying u1,run_underlying u2,Conv.intToInt]) hk
   ·rename_i k n k1 e1 e2 e3;rw [e1] at hc;obtain e:=dF hc
    have u1:=(hP.ty f F hF).int k1 hFa e2
    have u2:=(hP.ty t T hT).str hTa e3
    exact bJ h (x := .str (Utf8.encode n)) rfl (by unfold execOp;rw [ho];simp [e,convert,run_underlying u1,run_underlying u2,Conv.intToString]) hk
   ·rename_i b e1 e2 e3;rw [e1] at hc;obtain e:=gP hc
    have u1:=(hP.ty f F hF).str hFa e2
    have u2:=(hP.ty t T hT).str hTa e3
    exact bJ h (x := .str b) rfl (by unfold execOp;rw [ho];simp [e,convert,run_underlying u1,run_underlying u2]) hk
   ·cases q
    ·exact hconv F T hF hT hFa hTa hk
    ·exact hconv F T hF hT hFa hTa (xx hk)
 ·cases hk
theorem ui {ti:TI} {t:Nat} (hT:TyOk P t ti) {f:Nat} {p:Nat × Nat × Bool} (hf:ti.flds[f]? = some p):∃ (fs:Array Field) (F:Field),P.underlying t=some (.struct fs)/\fs[f]? = some F/\qL P ti.sz p F:=by
 obtain ⟨fs,h1,h2⟩:=hT.struct (by intro e;rw [e] at hf;simp at hf)
 have hlt:f<fs.toList.length:=by rw [<- h2.len];exact (List.getElem?_eq_some_iff.mp hf).1
 have hg:fs.toList[f]? = some fs.toList[f]:=List.getElem?_eq_getElem hlt
 exact ⟨fs,_,h1,by rw [<- Array.getElem?_toList];exact hg,h2.get hf hg⟩
theorem uv {C:Cfg R} {q:Bool} (hP:Ok P C.ty) (h:Rel E s a w β Rt Ra) {st:Nat} {x:Operand} {f:Nat} (ho:o.op = .field st x f) (hk:df C q o s κ = some r):db P E o a w κ r:=by
 unfold df at hk;rw [ho] at hk;simp only at hk
 have hc:=bH h x
 split at hk
 ·rename_i T hT
  split at hk
  ·rename_i off n g l hf hl
   rw [hl] at hc
   obtain ⟨cs,e,hcs⟩:=gO hc
   split at hk
   ·rename_i v hv
    cases hb:Nat.beq l.length T.sz with
    | false=>rw [hb] at hk;cases hk
    | true =>
     rw [hb] at hk;simp only [cond_true] at hk
     obtain ⟨fs,F,hu,hF,h1,h2,i,d,h3,h4,h5,h6⟩:=ui (hP.ty st T hT) hf
     obtain ⟨hlen,hx⟩:=gd hv (tO hcs off n)
     have hrun:(execOp a.eval o).run P w=((part F.type cs F.offset).run P w).andThen fun v w => .ok (.value v) w:=by
      unfold execOp;rw [ho];simp [Instr.field,run_underlying hu,hF,e,asAgg]
     rcases hx with ⟨hg,hx⟩|⟨hg,u,hu',hx⟩
     ·refine eu h hx ?_ hk
      rw [hrun]
      have hpart:(part F.type cs F.offset).run P w = .ok (.agg ((cs.toList.drop off).take n).toArray) w:=by
       simp only at h1 h2 h4 h6
       simp only [part,Sem.run_bind,ia h5,h6,hg,Result.andThen_ok,if_true,kN h3,h4,h1,Sem.run_pure]
       congr 2
       apply Array.ext'
       simp [List.take_drop,Nat.add_comm]
      rw [hpart];rfl
     ·refine eu h hx ?_ hk
      rw [hrun]
      have hpart:(part F.type cs F.offset).run P w = .ok u w:=by
       simp only at h1 h2 h4 h6
       have hcell:cs[off]? = some u:=by
        have:((cs.toList.drop off).take n)[0]? = some u:=by rw [hu'];rfl
        rw [List.getElem?_take] at this
        split at this
        ·simpa using this
        ·cases this
       simp [part,ia h5,h6,hg,h1,hcell]
      rw [hpart];rfl
   ·cases hk
  ·cases hk
 ·cases hk
theorem nC {C:Cfg R} {q:Bool} (hP:Ok P C.ty) (h:Rel E s a w β Rt Ra) {st:Nat} {x:Operand} {f:Nat} (ho:o.op = .fieldAddr st x f) (hk:df C q o s κ = some r):db P E o a w κ r:=by
 unfold df at hk;rw [ho] at hk;simp only at hk
 have hc:=bH h x
 split at hk
 ·rename_i T hT
  have hrun:∀ (off n:Nat) (g:Bool) (p:Addr),T.flds[f]? = some (off,n,g)->Nat.beq n 0=false->a.eval x = .pointer (some p)->(execOp a.eval o).run P w = .ok (.value (.pointer (some (p.add off)))) w:=by
   intro off n g p hf hn e
   obtain ⟨fs,F,hu,hF,h1,h2,i,d,h3,h4,h5,h6⟩:=ui (hP.ty st T hT) hf
   simp only at h1 h4
   have hn0:¬ n=0:=fun e=>by subst e;cases hn
   unfold execOp;rw [ho]
   simp [Instr.fieldAt,run_underlying hu,hF,e,Instr.sureAddr,fieldPlace,kN h3,h4,hn0,h1]
  split at hk
  ·rename_i off n g t o' hf hl;rw [hl] at hc
   obtain ⟨hd,e⟩:_/\a.eval x = .pointer (some _):=hc
   cases hn:Nat.beq n 0 with
   | true=>rw [hn] at hk;cases hk
   | false =>
    rw [hn] at hk
    refine bJ h (x := .ptr t (o'+off)) ⟨hd,?_⟩ (hrun off n g _ hf hn e) hk
    rw [add_plain]
  ·rename_i off n g t i o' hf hl;rw [hl] at hc
   obtain ⟨hd,h0,gb,m,cap,e1,e2,e⟩:_/\_/\∃ g n cap,_/\_/\a.eval x = .pointer (some _):=hc
   cases hn:Nat.beq n 0 with
   | true=>rw [hn] at hk;cases hk
   | false =>
    rw [hn] at hk
    refine bJ h (x := .el t i (o'+off)) ⟨hd,h0,gb,m,cap,e1,e2,?_⟩ (hrun off n g _ hf hn e) hk
    rw [add_plain,Nat.add_assoc]
  ·rename_i off n g el l stt i o' hf hl;rw [hl] at hc
   obtain ⟨T',p,e1,e,e2⟩:∃ T p,_/\a.eval x = .pointer (some p)/\_:=hc
   cases hn:Nat.beq n 0 with
   | true=>rw [hn] at hk;cases hk
   | false =>
    rw [hn] at hk
    refine bJ h (x := .rl el l stt i (o'+off)) ⟨T',_,e1,rfl,fun j k hj => ?_⟩ (hrun off n g _ hf hn e) hk
    rw [Nat.add_assoc] at hj
    obtain ⟨u,h1,h2,h3⟩:=e2 (off+j) k hj
    exact ⟨u,by rw [de];exact h1,by rw [add_add];exact h2,by rw [Nat.add_assoc];exact h3⟩
  ·cases hk
 ·cases hk
theorem Ch {b:ByteArray} {i:Int} (h0:0<=i) (h1:i<b.size):∃ u:UInt8,b[i.toNat]? = some u/\(u.toNat:Int)=ed b i:=by
 have hlt:i.toNat<b.size:=by omega
 exact ⟨b[i.toNat],by simp [hlt],by unfold ed;rw [dif_pos hlt]⟩
theorem dC {i n:Int} {k:Option R} (h:cO i n k=some r):0<=i/\i<n/\k=some r:=by
 obtain ⟨h1,h2⟩:=b8 h
 simp at h1
 exact ⟨h1.1,h1.2,h2⟩
theorem iD {x y n:Int} {k:Option R} (h:fC x y n k=some r):0<=x/\x<=y/\y<=n/\k=some r:=by
 obtain ⟨h1,h2⟩:=b8 h
 simp at h1
 exact ⟨h1.1,h1.2.1,h1.2.2,h2⟩
theorem fa {T:Nat->Option TI} (hP:Ok P T) {t:Nat} {ti:TI} (hT:T t=some ti) (h:kq ti=true):P.underlying t=some .string:=by
 unfold kq at h;simp at h
 exact (hP.ty t ti hT).str h.1 h.2
theorem eL {C:Cfg R} {T:TI} {k:LK} (h:mY C T=some k):T.agg=true/\T.flds=[]/\T.elem≠0/\∃ D,C.ty T.elem=some D/\D.lv=[k]/\D.agg=false/\k.flat=true/\T.lv=List.replicate T.sz k/\T.sz<=1000000:=by
 unfold mY at h
 cases h1:(T.agg&&(T.flds.isEmpty && !(Nat.beq T.elem 0))) with
 | false=>rw [h1] at h;cases h
 | true =>
  rw [h1] at h;simp only [cond_true] at h
  simp only [Bool.and_eq_true,Bool.not_eq_true'] at h1
  split at h
  ·rename_i D hD
   split at h
   ·rename_i k' hl
    cases h2:(!D.agg&&(k'.flat&&(decide (T.lv=List.replicate T.sz k')&&decide (T.sz<=1000000)))) with
    | false=>rw [h2] at h;cases h
    | true =>
     rw [h2] at h;simp only [cond_true,Option.some.injEq] at h;subst h
     simp only [Bool.and_eq_true,Bool.not_eq_true',decide_eq_true_eq] at h2
     exact ⟨h1.1,List.isEmpty_iff.1 h1.2.1,fun e=>by rw [e] at h1;simp at h1,D,hD,hl,h2.1,h2.2.1,h2.2.2.1,h2.2.2.2⟩
   ·cases h
  ·cases h
theorem mi {agg:Bool} {sz:Nat} {i:Int} {κ : SV->Option R}:∀ {n:Nat} {l:List SV} {j:Nat},jF agg sz n l j i κ = some r->∃ m,i=((j+m:Nat):Int)/\m<n/\∃ v,whole agg sz (sub l (m*sz) sz)=some v/\κ v=some r
 | 0,_,_,h=>by cases h
 | n+1,l,j,h=>by
  unfold jF at h
  by_cases e:i=(j:Int)
  ·subst e
   simp only [BEq.rfl,cond_true] at h
   split at h
   ·rename_i v hv
    exact ⟨0,by simp,by omega,v,by simpa [sub] using hv,h⟩
   ·cases h
  ·have:(i == (j:Int))=false:=by simpa using e
   rw [this] at h
   obtain ⟨m,h1,h2,v,h3,h4⟩:=mi h
   refine ⟨m+1,by rw [h1];congr 1;omega,by omega,v,?_,h4⟩
   rw [<- h3];unfold sub;rw [List.drop_drop];congr 3;rw [Nat.add_mul];omega
theorem gu {T:Nat->Option TI} (hP:Ok P T) {t:Nat} {ti:TI} (hT:T t=some ti) (h1:ti.agg=true) (h2:ti.flds=[]) (h3:ti.elem≠0) {D:TI} (hD:T ti.elem=some D):∃ n:Nat,P.underlying t=some (.array n ti.elem)/\n*D.sz=ti.sz:=by
 obtain ⟨n,i,g1,g2,g3⟩:=(hP.ty t ti hT).arr h1 h2 h3
 obtain ⟨i',z,k1,k2,_⟩:=(hP.ty _ D hD).info
 rw [g2] at k1;cases k1
 exact ⟨n,g1,by rw [<- k2];exact g3⟩
theorem yK {c:Cx} {st:Bool} {k:LK} {v:Value} {a:AV} {Q:Nat->Prop} (hk:k.flat=true) (h:cU c.T c.w Q k v a):SL c (eta st k a) v:=by
 cases h with
 | int k a=>rfl
 | bool a=>rfl
 | str a=>rfl
 | slnil e a h=>simp [LK.flat] at hk
 | sl=>simp [LK.flat] at hk
theorem uw {C:Cfg R} {q:Bool} (hP:Ok P C.ty) (hE:E.T=C.ty) (h:Rel E s a w β Rt Ra) {t:Nat} {x i:Operand} (ho:o.op = .index t x i) (hk:df C q o s κ = some r):db P E o a w κ r:=by
 unfold df at hk;rw [ho] at hk;simp only at hk
 have hx:=bH h x;have hi:=bH h i
 split at hk
 ·rename_i T b k n hT e1 e2
  rw [e1] at hx;rw [e2] at hi
  have ex:=gP hx;have ei:=dF hi
  cases hs:kq T with
  | false=>rw [hs] at hk;cases hk
  | true =>
   rw [hs] at hk
   obtain ⟨h0,h1,hk⟩:=dC hk
   obtain ⟨u,hu1,hu2⟩:=Ch h0 h1
   refine bJ h (x := .int .u8 (ed b n)) rfl ?_ hk
   unfold execOp;rw [ho]
   simp [Instr.index,ex,ei,asIntOf,run_underlying (fa hP hT hs),h0,hu1,hu2]
 ·rename_i T e m l k n hT e1 e2
  rw [e1] at hx;rw [e2] at hi
  have ei:=dF hi
  split at hk
  ·rename_i k' hk'
   obtain ⟨a1,a2,a3,D,hD,a4,a5,a6,a7⟩:=eL hk'
   cases hs:(Nat.beq e T.elem&&Nat.beq m T.sz) with
   | false=>rw [hs] at hk;cases hk
   | true =>
    rw [hs] at hk;simp only [cond_true] at hk
    simp only [Bool.and_eq_true] at hs
    have he:=Nat.eq_of_beq_eq_true hs.1;have hl:=Nat.eq_of_beq_eq_true hs.2
    subst he
    obtain ⟨h0,h1,hk⟩:=dC hk
    obtain ⟨b0,D',cs,b1,b2,b3,b4,b5⟩:l.length=m/\∃ D' cs,E.T _=some D'/\D'.flat=true/\a.eval x = .agg cs/\cs.size=_/\RC E.T w _ D' l cs.toList:=hx
    rw [hE,hD] at b1;cases b1
    have hsz:D.sz=1:=by unfold TI.sz;rw [a4];rfl
    obtain ⟨len,hu,hm⟩:=gu hP hT a1 a2 a3 hD
    rw [hsz,Nat.mul_one] at hm b4
    have hlt:n.toNat<cs.size:=by omega
    have hrep:=b5 n.toNat 0 k' (by omega) (by rw [a4];rfl) cs[n.toNat] (by rw [hsz];simp [hlt])
    refine bJ h (x:=eta true k' (bZ l n)) (v:=cs[n.toNat]) ?_ ?_ hk
    ·rw [a5] at hrep
     exact yK a6 hrep
    ·unfold execOp;rw [ho]
     have hn:n<(len:Int):=by omega
     have hpart:(part T.elem cs (n.toNat*1)).run P w = .ok cs[n.toNat] w:=by
      simp [part,eU (hP.ty _ D hD),a5,hlt]
     simp only [Sem.run_bind,Instr.index,b3,ei,asIntOf,run_underlying hu,Result.andThen_ok,Sem.run_pure]
     simp only [h0,hn,and_self,if_true,Sem.run_bind,dQ (hP.ty _ D hD),hsz,Result.andThen_ok,hpart]
  ·cases hk
 ·rename_i T l k n hT e1 e2
  rw [e1] at hx;rw [e2] at hi
  have ei:=dF hi
  obtain ⟨cs,e,hcs⟩:=gO hx
  cases hs:(T.agg&&(T.flds.isEmpty && !(Nat.beq T.elem 0))) with
  | false=>rw [hs] at hk;cases hk
  | true =>
   rw [hs] at hk;simp only [cond_true] at hk
   simp only [Bool.and_eq_true,Bool.not_eq_true'] at hs
   split at hk
   ·rename_i D hD
    cases hs2:(!(Nat.beq D.sz 0)&&Nat.beq l.length T.sz) with
    | false=>rw [hs2] at hk;cases hk
    | true =>
     rw [hs2] at hk;simp only [cond_true] at hk
     simp only [Bool.and_eq_true,Bool.not_eq_true'] at hs2
     have hl:=Nat.eq_of_beq_eq_true hs2.2
     obtain ⟨m,h1,h2,v,hv,hk⟩:=mi hk
     obtain ⟨len,hu,hlen⟩:=gu hP hT hs.1 (List.isEmpty_iff.1 hs.2.1) (fun e=>by rw [e] at hs;simp at hs) hD
     obtain ⟨hln,hx⟩:=gd hv (tO hcs (m*D.sz) D.sz)
     have hpos:0<D.sz:=(hP.ty _ D hD).pos
     have hml:m<len:=by
      rw [hl,<- hlen,Nat.mul_div_cancel _ hpos] at h2;exact h2
     have hrun:(execOp a.eval o).run P w=((part T.elem cs (m*D.sz)).run P w).andThen fun v w => .ok (.value v) w:=by
      unfold execOp;rw [ho]
      have hn0:0<=n:=by omega
      have hn:n<(len:Int):=by omega
      have hnm:n.toNat=m:=by omega
      simp only [Sem.run_bind,Instr.index,e,ei,asIntOf,run_underlying hu,Result.andThen_ok,Sem.run_pure]
      simp only [hn0,hn,and_self,if_true,Sem.run_bind,dQ (hP.ty _ D hD),Result.andThen_ok,hnm]
     rcases hx with ⟨hg,hx⟩|⟨hg,u,hu',hx⟩
     ·refine eu h hx ?_ hk
      rw [hrun]
      have hpart:(part T.elem cs (m*D.sz)).run P w = .ok (.agg ((cs.toList.drop (m*D.sz)).take D.sz).toArray) w:=by
       simp only [part,Sem.run_bind,eU (hP.ty _ D hD),hg,Result.andThen_ok,if_true,dQ (hP.ty _ D hD),Sem.run_pure]
       congr 2
       apply Array.ext'
       simp [List.take_drop,Nat.add_comm]
      rw [hpart];rfl
     ·refine eu h hx ?_ hk
      rw [hrun]
      have hpart:(part T.elem cs (m*D.sz)).run P w = .ok u w:=by
       have hcell:cs[m*D.sz]? = some u:=by
        have:((cs.toList.drop (m*D.sz)).take D.sz)[0]? = some u:=by rw [hu'];rfl
        rw [List.getElem?_take,if_pos hpos] at this
        simpa using this
       simp [part,eU (hP.ty _ D hD),hg,hcell]
      rw [hpart];rfl
   ·cases hk
 ·cases hk
theorem qQ {C:Cfg R} {q:Bool} (h:Rel E s a w β Rt Ra) {x:Operand} {j:Nat} (ho:o.op = .extract x j) (hk:df C q o s κ = some r):db P E o a w κ r:=by
 unfold df at hk;rw [ho] at hk;simp only at hk
 have hx:=bH h x
 split at hk
 ·rename_i l e
  rw [e] at hx
  obtain ⟨vs,ev,hv⟩:=B' hx
  by_cases hj:j<l.length
  ·simp only [hj,decide_true,cond_true] at hk
   have hj2:j<vs.toList.length:=by rw [<- hv.len];exact hj
   have g:vs.toList[j]? = some vs.toList[j]:=List.getElem?_eq_getElem hj2
   have g1:l[j]? = some l[j]:=List.getElem?_eq_getElem hj
   have:=hv.get g1 g
   refine eu h (x:=dE l j) (v:=vs.toList[j]) (by rw [qM,List.getD_eq_getElem?_getD,g1];exact this) ?_ hk
   have g2:vs[j]? = some vs.toList[j]:=by rw [<- Array.getElem?_toList];exact g
   unfold execOp;rw [ho]
   simp only [ev,Instr.extract,g2,Sem.run_bind];rfl
  ·simp [hj] at hk
 ·cases hk
end
end Go.Proofs.Ab
namespace Go.Proofs.Ab
open Go
variable {R:Type}
section
variable {P:Program} {E:Env} {o:Oper} {s:St} {a:Act} {w:World} {β : Nat->Bl} {Rt Ra:Nat->Prop} {κ : St->Option R} {r:R}
theorem uE {i n j m:Nat} (h1:i<n) (h2:j<m):i*m+j<n*m:=by
 have:(i+1)*m<=n*m:=Nat.mul_le_mul_right m h1
 rw [Nat.add_mul] at this
 omega
theorem AG {c:Cx} {st:Bool} {T:TI} {l:List AV} {cs:List Value} (hrc:RC c.T c.w (c.Q st) T l cs) (hlen:cs.length=l.length*T.sz) {i:Nat} (hi:i<l.length) :
  PW (SL c) (jy st T.agg (l.getD i .no) 0 T.lv) ((cs.drop (i*T.sz)).take T.sz):=by
 refine PW.uY ?_ fun q x v hx hv => ?_
 ·rw [kg,List.length_take,List.length_drop,hlen]
  have:(i+1)*T.sz<=l.length*T.sz:=Nat.mul_le_mul_right _ hi
  rw [Nat.add_mul] at this
  show T.sz=_
  omega
 ·rw [kf,Nat.zero_add] at hx
  rw [List.getElem?_take] at hv
  cases hk:T.lv[q]? with
  | none=>rw [hk] at hx;cases hx
  | some k =>
   rw [hk] at hx;simp only [Option.map_some] at hx;cases hx
   split at hv
   ·rw [List.getElem?_drop] at hv
    exact po (hrc i q k hi hk v hv)
   ·cases hv
theorem eS {w:World} {arr:Bool} {e size n:Nat} {g n' cap:Nat} {xs:List Value} (h:dO w arr e size (.slice (some ⟨g,0,none⟩) n' cap) n xs) (j:Nat) (v:Value) (hj:xs[j]? = some v):w.cell? ⟨g,j,none⟩=some v:=by
 obtain ⟨hlen,hv⟩:=h
 rcases hv with ⟨hv,_⟩|⟨g',cap',cur,q,fz,hv,_,hg,_,hnc,hcm,hcs,htake⟩
 ·cases hv
 ·cases hv
  rw [cell_of_row w g j cur q fz hg]
  rw [<- htake,List.getElem?_take] at hj
  split at hj
  ·simpa using hj
  ·cases hj
theorem eg {w:World} {arr:Bool} {e size n:Nat} {v:Value} {xs:List Value} (h:dO w arr e size v n xs):(v = .slice none 0 0/\n=0)∨∃ g cap,v = .slice (some ⟨g,0,none⟩) n cap/\n<=cap/\cap<=maxLen:=by
 rcases h.2 with ⟨hv,hn⟩|⟨g,cap,cur,q,fz,hv,_,_,_,hnc,hcm,_⟩
 ·exact .inl ⟨hv,hn⟩
 ·exact .inr ⟨g,cap,hv,hnc,hcm⟩
theorem ir {c:Cx} {b:Nat} {x:SV} {v:Value} (hx:known x=true) (h:jP c b x v):SL c x v:=by
 unfold jP at h;split at h
 ·cases hx
 ·exact h
theorem o3 {c:Cx} {b:Nat} {x:SV} {v:Value} (hx:known x=true) (h:SL c x v):jP c b x v:=by
 unfold jP;split
 ·cases hx
 ·exact h
theorem wX {C:Cfg R} {q:Bool} (hP:Ok P C.ty) (hE:E.T=C.ty) (h:Rel E s a w β Rt Ra) {t:Nat} {x:Operand} (ho:o.op = .load t x) (hk:df C q o s κ = some r):db P E o a w κ r:=by
 unfold df at hk;rw [ho] at hk;simp only at hk
 have hc:=bH h x
 split at hk
 ·rename_i T hT
  have ht:=hP.ty t T hT
  have fin:∀ (l:List SV) (y:SV) (cs:List Value) (p:Addr),whole T.agg T.sz l=some y->PW (SL (bg E s w β Rt Ra)) l cs->(∀ (j:Nat) v,cs[j]? = some v->w.cell? (p.add j)=some v)->a.eval x = .pointer (some p)->κ (s.put o.dst y)=some r->db P E o a w κ r:=by
   intro l y cs p hw hl hcell e hk
   obtain ⟨v,hr,hv⟩:=jm ht hw hl hcell
   exact eu h hv (by unfold execOp;rw [ho];simp only [Sem.run_bind,e,hr];rfl) hk
  split at hk
  ·rename_i y hl
   unfold loadAt at hl
   split at hl
   ·rename_i k off ek;rw [ek] at hc
    obtain ⟨hd,e⟩:_/\a.eval x = .pointer (some _):=hc
    split at hl
    ·rename_i ty ls hob
     obtain ⟨cs,qq,hg,hpw⟩:=h.objs k _ hob
     cases hkn:(sub ls off T.sz).all known with
     | false=>rw [hkn] at hl;cases hl
     | true =>
      rw [hkn] at hl;simp only [cond_true] at hl
      have hsub:PW (SL (bg E s w β Rt Ra)) (sub ls off T.sz) ((cs.toList.drop off).take T.sz) :=
       PW.imp_mem (fun z hz v hv=>ir (List.all_eq_true.mp hkn z hz) hv) ((hpw.drop off).take T.sz)
      refine fin _ _ _ ⟨(β k).b,off,none⟩ hl hsub (fun j v hj => ?_) e hk
      rw [add_plain,cell_of_row w _ _ cs _ (0,0) hg]
      rw [List.getElem?_take] at hj
      split at hj
      ·rw [List.getElem?_drop] at hj;simpa using hj
      ·cases hj
    ·cases hl
   ·rename_i k i off ek;rw [ek] at hc
    obtain ⟨hd,h0,g,n,cap,e1,e2,e⟩:_/\_/\∃ g n cap,(β k).v=_/\_/\a.eval x = .pointer (some _):=hc
    split at hl
    ·rename_i el l st hob
     obtain ⟨T',cs,hT',hsz,hown,hrc⟩:=h.objs k _ hob
     have hT'':C.ty el=some T':=by rw [<- hE];exact hT'
     rw [hT''] at hl;simp only at hl
     rw [e1] at hown
     have hn:n=l.length:=by
      rcases eg hown with ⟨hv,_⟩|⟨_,_,hv,_⟩
      ·cases hv
      ·cases hv;rfl
     have hi:i.toNat<l.length:=by omega
     have hpw:=AG (c:=bg E s w β Rt Ra) hrc hown.1 hi
     refine fin _ _ _ ⟨g,i.toNat*(β k).sz+off,none⟩ hl (tO hpw off T.sz) (fun j v hj => ?_) e hk
     rw [add_plain]
     rw [List.getElem?_take] at hj
     split at hj
     ·rw [List.getElem?_drop,List.getElem?_take] at hj
      split at hj
      ·rw [List.getElem?_drop] at hj
       have:=eS hown _ v hj
       rw [hsz,Nat.add_assoc]
       exact this
      ·cases hj
     ·cases hj
    ·cases hl
   ·rename_i el l st i off ek;rw [ek] at hc
    obtain ⟨T',p,hT',e,e2⟩:∃ T p,_/\a.eval x = .pointer (some p)/\_:=hc
    have hT'':C.ty el=some T':=by rw [<- hE];exact hT'
    rw [hT''] at hl;simp only at hl
    have hlen:(sub (jy st T'.agg (bZ l i) 0 T'.lv) off T.sz).length=T.sz:=by
     unfold whole at hl
     cases hb:Nat.beq (sub (jy st T'.agg (bZ l i) 0 T'.lv) off T.sz).length T.sz with
     | false=>rw [hb] at hl;cases hl
     | true=>exact Nat.eq_of_beq_eq_true hb
    have hle:∀ j,j<T.sz->∃ k,T'.lv[off+j]? = some k:=by
     intro j hj
     unfold sub at hlen
     rw [List.length_take,List.length_drop,kg] at hlen
     have:off+j<T'.lv.length:=by omega
     exact ⟨_,List.getElem?_eq_getElem this⟩
    refine fin _ _ ((List.range T.sz).map fun j=>(w.cell? (p.add j)).getD undef) p hl (PW.uY (by rw [hlen];simp) fun j y v hy hv => ?_) (fun j v hj => ?_) e hk
    ·have hj:j<T.sz:=by rw [<- hlen];exact (List.getElem?_eq_some_iff.mp hy).1
     obtain ⟨k,hkk⟩:=hle j hj
     obtain ⟨u,h1,h2,h3⟩:=e2 j k hkk
     have hv':v=u:=by
      rw [List.getElem?_map,List.getElem?_range hj] at hv
      simp only [Option.map_some,Option.some.injEq] at hv
      rw [<- hv];show (w.cell? (p.add j)).getD undef=u
      have h2':w.cell? (p.add j)=some u:=h2
      rw [h2'];rfl
     subst hv'
     unfold sub at hy
     rw [List.getElem?_take,if_pos hj,List.getElem?_drop,kf,hkk,Nat.zero_add] at hy
     simp only [Option.map_some,Option.some.injEq] at hy
     subst hy
     exact po h3
    ·have hj2:j<T.sz:=by
      have:=(List.getElem?_eq_some_iff.mp hj).1
      simpa using this
     obtain ⟨k,hkk⟩:=hle j hj2
     obtain ⟨u,h1,h2,h3⟩:=e2 j k hkk
     rw [List.getElem?_map,List.getElem?_range hj2] at hj
     simp only [Option.map_some,Option.some.injEq] at hj
     have h2':w.cell? (p.add j)=some u:=h2
     rw [h2'] at hj ⊢
     exact congrArg some hj
   ·rename_i k n ek;rw [ek] at hc
    obtain ⟨hd,g,cap,e1,e⟩:_/\∃ g cap,(β k).v=_/\a.eval x = .pointer (some _):=hc
    split at hl
    ·rename_i el l st hob
     split at hl
     ·rename_i kk hkk
      obtain ⟨a1,a2,a3,D,hD,a4,a5,a6,a7⟩:=eL hkk
      cases hb:(Nat.beq el T.elem&&Nat.beq n T.sz) with
      | false=>rw [hb] at hl;cases hl
      | true =>
       rw [hb] at hl;simp only [cond_true,Option.some.injEq] at hl;subst hl
       simp only [Bool.and_eq_true] at hb
       have he:=Nat.eq_of_beq_eq_true hb.1;have hll:=Nat.eq_of_beq_eq_true hb.2
       subst he
       obtain ⟨T',cs,hT',hsz,hown,hrc⟩:=h.objs k _ hob
       have hT'':C.ty T.elem=some T':=by rw [<- hE];exact hT'
       rw [hD] at hT'';cases hT''
       rw [e1] at hown
       have hlen:=hown.1
       have hnl:n=l.length:=by
        rcases eg hown with ⟨hv,_⟩|⟨_,_,hv,_⟩
        ·cases hv
        ·cases hv;rfl
       have hsz1:D.sz=1:=by unfold TI.sz;rw [a4];rfl
       have hfl:D.flat=true:=by unfold TI.flat;rw [a4];simp [a6]
       refine bJ h (x := .ar T.elem n l) (v := .agg cs.toArray) ⟨hnl.symm,D,cs.toArray,hT',hfl,rfl,by simp [hlen],?_⟩ ?_ hk
       ·exact RC.flat hfl (by simpa using hrc)
       ·have:=run_loadCells_list (P:=P) w ⟨g,0,none⟩ cs (fun j v hj=>by rw [add_plain,Nat.zero_add];exact eS hown j v hj)
        rw [hlen,hsz1,Nat.mul_one,<- hnl,hll] at this
        unfold execOp;rw [ho]
        simp [e,Instr.loadAt,Instr.sureAddr,loadVar,eU ht,a1,dQ ht,this]
     ·cases hl
    ·cases hl
   ·cases hl
  ·cases hk
 ·cases hk
theorem nD {C:Cfg R} {q:Bool} (hP:Ok P C.ty) (hE:E.T=C.ty) (h:Rel E s a w β Rt Ra) {t:Nat} {x i:Operand} (ho:o.op = .indexAddr t x i) (hk:df C q o s κ = some r):db P E o a w κ r:=by
 unfold df at hk;rw [ho] at hk;simp only at hk
 have hc:=bH h x;have hi:=bH h i
 split at hk
 ·rename_i S hS
  cases hsl:S.sl with
  | false =>
   rw [hsl] at hk;simp only [Bool.not_false,cond_true] at hk
   split at hk
   ·rename_i kk k m ki n hkk ek ei
    obtain ⟨a1,a2,a3,D,hD,a4,a5,a6,a7⟩:=eL hkk
    rw [ek] at hc;rw [ei] at hi
    have e3:=dF hi
    obtain ⟨hd,g,cap,e1,e⟩:_/\∃ g cap,(β k).v=_/\a.eval x = .pointer (some _):=hc
    split at hk
    ·rename_i el l st hob
     cases hb:(Nat.beq el S.elem&&Nat.beq m S.sz) with
     | false=>rw [hb] at hk;cases hk
     | true =>
      rw [hb] at hk;simp only [cond_true] at hk
      simp only [Bool.and_eq_true] at hb
      have he:=Nat.eq_of_beq_eq_true hb.1;have hll:=Nat.eq_of_beq_eq_true hb.2
      subst he
      obtain ⟨h0,h1,hk⟩:=dC hk
      obtain ⟨T',cs,hT',hsz,hown,hrc⟩:=h.objs k _ hob
      have hT'':C.ty S.elem=some T':=by rw [<- hE];exact hT'
      rw [hD] at hT'';cases hT''
      obtain ⟨len,hu,hlen⟩:=gu hP hS a1 a2 a3 hD
      have hsz1:D.sz=1:=by unfold TI.sz;rw [a4];rfl
      rw [hsz1,Nat.mul_one] at hlen
      rw [e1] at hown
      have hm:m=l.length:=by
       rcases eg hown with ⟨hv,_⟩|⟨_,_,hv,_⟩
       ·cases hv
       ·cases hv;rfl
      refine bJ h (x := .el k n 0) (v := .pointer (some ⟨g,n.toNat*1,none⟩)) ⟨hd,h0,g,m,cap,e1,by omega,by show _=Value.pointer (some ⟨g,n.toNat*(β k).sz+0,none⟩);rw [hsz,hsz1,Nat.add_zero]⟩ ?_ hk
      have hn:n<(len:Int):=by omega
      unfold execOp;rw [ho]
      simp [Instr.indexAt,e3,asIntOf,run_underlying hu,e,Instr.sureAddr,h0,hn,dQ (hP.ty _ D hD),hsz1,add_plain]
    ·cases hk
   ·rename_i kk el m l st ki n hkk ek ei
    obtain ⟨a1,a2,a3,D,hD,a4,a5,a6,a7⟩:=eL hkk
    rw [ek] at hc;rw [ei] at hi
    have e3:=dF hi
    obtain ⟨b0,D',p,b1,e,b2⟩:l.length=m/\∃ E p,_/\a.eval x = .pointer (some p)/\_:=hc
    cases hb:(Nat.beq el S.elem&&Nat.beq m S.sz) with
    | false=>rw [hb] at hk;cases hk
    | true =>
     rw [hb] at hk;simp only [cond_true] at hk
     simp only [Bool.and_eq_true] at hb
     have he:=Nat.eq_of_beq_eq_true hb.1;have hll:=Nat.eq_of_beq_eq_true hb.2
     subst he
     obtain ⟨h0,h1,hk⟩:=dC hk
     have hT'':C.ty S.elem=some D':=by rw [<- hE];exact b1
     rw [hD] at hT'';cases hT''
     obtain ⟨len,hu,hlen⟩:=gu hP hS a1 a2 a3 hD
     have hsz1:D.sz=1:=by unfold TI.sz;rw [a4];rfl
     rw [hsz1,Nat.mul_one] at hlen
     refine bJ h (x := .rl S.elem l st n 0) (v := .pointer (some (p.add (n.toNat*1)))) ⟨D,p.add (n.toNat*1),b1,rfl,fun j k hj => ?_⟩ ?_ hk
     ·obtain ⟨u,q1,q2,q3⟩:=b2 n.toNat j k (by omega) (by rw [Nat.zero_add] at hj;exact hj)
      exact ⟨u,by rw [de];exact q1,by rw [add_add];rw [hsz1] at q2;exact q2,by rw [Nat.zero_add];exact q3⟩
     ·have hn:n<(len:Int):=by omega
      unfold execOp;rw [ho]
      simp [Instr.indexAt,e3,asIntOf,run_underlying hu,e,Instr.sureAddr,h0,hn,dQ (hP.ty _ D hD),hsz1]
   ·cases hk
  | true =>
   rw [hsl] at hk;simp only [Bool.not_true,cond_false] at hk
   have hu:=(hP.ty t S hS).slice hsl
   split at hk
   ·rename_i T ki n hT ei
    rw [ei] at hi
    have e3:=dF hi
    have hrun:∀ (ad:Addr) (len cap:Nat),a.eval x = .slice (some ad) len cap->0<=n->n<len->(execOp a.eval o).run P w = .ok (.value (.pointer (some (ad.add (n.toNat*T.sz))))) w:=by
     intro ad len cap e h0 h1
     unfold execOp;rw [ho]
     simp [Instr.indexAt,e3,asIntOf,run_underlying hu,e,h0,h1,dQ (hP.ty _ T hT)]
    split at hk
    ·rename_i k ek;rw [ek] at hc
     obtain ⟨hd,e,_⟩:_/\a.eval x=_/\_:=hc
     split at hk
     ·rename_i el l st hob
      cases hb:(Nat.beq el S.elem && !(Nat.beq T.sz 0)) with
      | false=>rw [hb] at hk;cases hk
      | true =>
       rw [hb] at hk;simp only [cond_true] at hk
       have hel:el=S.elem:=by simp at hb;exact hb.1
       obtain ⟨h0,h1,hk⟩:=dC hk
       obtain ⟨T',cs,hT',hsz,hown,hrc⟩:=h.objs k _ hob
       have hTT:T'=T:=by
        have:C.ty el=some T':=by rw [<- hE];exact hT'
        rw [hel,hT] at this;cases this;rfl
       subst hTT
       rcases eg hown with ⟨_,hn⟩|⟨g,cap,hv,hnc,hcm⟩
       ·omega
       ·refine bJ h (x := .el k n 0) ⟨hd,h0,g,_,cap,hv,h1,rfl⟩ ?_ hk
        rw [hrun ⟨g,0,none⟩ l.length cap (e.trans hv) h0 h1,add_plain,Nat.zero_add,Nat.add_zero,<- hsz];rfl
     ·cases hk
    ·rename_i k lo hi' ek;rw [ek] at hc
     obtain ⟨hd,l0,l1,hv⟩:_/\_/\_/\(_∨_):=hc
     split at hk
     ·rename_i el l st hob
      cases hb:(Nat.beq el S.elem && !(Nat.beq T.sz 0)) with
      | false=>rw [hb] at hk;cases hk
      | true =>
       rw [hb] at hk;simp only [cond_true] at hk
       have hel:el=S.elem:=by simp at hb;exact hb.1
       obtain ⟨h0,h1,hk⟩:=dC hk
       obtain ⟨T',cs,hT',hsz,hown,hrc⟩:=h.objs k _ hob
       have hTT:T'=T:=by
        have:C.ty el=some T':=by rw [<- hE];exact hT'
        rw [hel,hT] at this;cases this;rfl
       subst hTT
       rcases hv with ⟨_,hh,_⟩|⟨g,m,cap,ad,e1,e2,e4,e5⟩
       ·omega
       ·have had:=e5 (by omega)
        refine bJ h (x := .el k (lo+n) 0) ⟨hd,by omega,g,_,cap,e1,by omega,rfl⟩ ?_ hk
        rw [hrun ad _ _ e4 h0 (by omega),had,add_plain,Nat.add_zero]
        show Result.ok (Next.value (.pointer (some ⟨g,lo.toNat*(β k).sz+n.toNat*T'.sz,none⟩))) w=Result.ok (Next.value (.pointer (some ⟨g,(lo+n).toNat*(β k).sz,none⟩))) w
        rw [show (lo+n).toNat=lo.toNat+n.toNat by omega,Nat.add_mul,hsz]
     ·cases hk
    ·rename_i el l st ek;rw [ek] at hc
     cases hb:(Nat.beq el S.elem && !(Nat.beq T.sz 0)) with
     | false=>rw [hb] at hk;cases hk
     | true =>
      rw [hb] at hk;simp only [cond_true] at hk
      have hel:el=S.elem:=by simp at hb;exact hb.1
      obtain ⟨h0,h1,hk⟩:=dC hk
      have hr:cU E.T w ((bg E s w β Rt Ra).Q st) (.sl el) (a.eval x) (.sl l):=hc
      generalize hev:a.eval x=v at hr
      cases hr with
      | slnil _ _ hl=>simp only [AV.l] at hl;subst hl;simp at h1;omega
      | sl _ T' ad m c _ cs hT' h2 h2' h2'' h3 h4 h5 =>
       have hTT:T'=T:=by
        have:C.ty el=some T':=by rw [<- hE];exact hT'
        rw [hel,hT] at this;cases this;rfl
       subst hTT
       simp only [AV.l] at h2;subst h2
       refine bJ h (x := .rl el l st n 0) ⟨T',_,hT',rfl,fun j k hj => ?_⟩ (hrun ad _ _ hev h0 h1) hk
       rw [Nat.zero_add] at hj ⊢
       have hjl:j<T'.sz:=(List.getElem?_eq_some_iff.mp hj).1
       have hlt:n.toNat*T'.sz+j<cs.length:=by rw [h3];exact uE (by omega) hjl
       have hcs:cs[n.toNat*T'.sz+j]? = some cs[n.toNat*T'.sz+j]:=List.getElem?_eq_getElem hlt
       obtain ⟨hq,hcell⟩:=h4 _ _ hcs
       exact ⟨_,by rw [de];exact hq,by rw [add_add];exact hcell,h5 n.toNat j k (by omega) hj _ hcs⟩
    ·cases hk
   ·cases hk
 ·cases hk
end
end Go.Proofs.Ab
namespace Go.Proofs.Ab
open Go
variable {R:Type}
section
variable {P:Program} {E:Env} {o:Oper} {s:St} {a:Act} {w:World} {β : Nat->Bl} {Rt Ra:Nat->Prop} {κ : St->Option R} {r:R}
def mE (a:Act) (x:Option Operand) (y d:Int):Prop:=(x=none/\y=d)∨∃ z k,x=some z/\a.eval z = .int k y
theorem fJ {P:Program} {w:World} {b:Bool} {len cap:Nat} {lo hi:Option Operand} {x y:Int} (hlo:mE a lo x 0) (hhi:mE a hi y len) (h0:0<=x) (h1:x<=y) (h2:y<=cap) (_h3:len<=cap) :
  (Instr.sliceBounds b len cap (lo.map a.eval) (hi.map a.eval) none).run P w = .ok (x.toNat,y.toNat,cap) w:=by
 have hy:(y.toNat:Int)=y:=Int.toNat_of_nonneg (by omega)
 have hy0:0<=y:=by omega
 rcases hlo with ⟨rfl,rfl⟩|⟨z,k,rfl,e⟩
 ·rcases hhi with ⟨rfl,rfl⟩|⟨z',k',rfl,e'⟩
  ·simp [Instr.sliceBounds]
  ·simp [Instr.sliceBounds,e',run_sliceBound,hy0,h2]
 ·rcases hhi with ⟨rfl,rfl⟩|⟨z',k',rfl,e'⟩
  ·simp [Instr.sliceBounds,e,run_sliceBound,h0,h1]
  ·simp [Instr.sliceBounds,e,e',run_sliceBound,h0,h1,hy0,h2,hy]
theorem wG (h:Rel E s a w β Rt Ra) {x:SV} {lo hi:Option Operand} {p:Int × Int} (hb:bounds s x lo hi=some p):∃ n,kv s x=some n/\mE a lo p.1 0/\mE a hi p.2 n:=by
 unfold bounds at hb
 split at hb
 ·cases hb
 ·rename_i n hn
  refine ⟨n,hn,?_⟩
  split at hb
  ·cases hb;exact ⟨.inl ⟨rfl,rfl⟩,.inl ⟨rfl,rfl⟩⟩
  ·rename_i x1
   split at hb
   ·rename_i k m e;cases hb
    have:=bH h x1;rw [e] at this
    exact ⟨.inr ⟨_,k,rfl,this⟩,.inl ⟨rfl,rfl⟩⟩
   ·cases hb
  ·rename_i x1
   split at hb
   ·rename_i k m e;cases hb
    have:=bH h x1;rw [e] at this
    exact ⟨.inl ⟨rfl,rfl⟩,.inr ⟨_,k,rfl,this⟩⟩
   ·cases hb
  ·rename_i x1 x2
   split at hb
   ·rename_i k m k' m' e e';cases hb
    have h1:=bH h x1;rw [e] at h1
    have h2:=bH h x2;rw [e'] at h2
    exact ⟨.inr ⟨_,k,rfl,h1⟩,.inr ⟨_,k',rfl,h2⟩⟩
   ·cases hb
theorem sk (l:List AV) (lo hi:Int) (i:Nat) (h0:0<=lo) (hi':i<(iz l lo hi).length):(iz l lo hi).getD i .no=l.getD (lo.toNat+i) .no:=by
 unfold iz at hi' ⊢
 rw [List.getD_eq_getElem?_getD,List.getD_eq_getElem?_getD,List.getElem?_drop,List.getElem?_take]
 rw [List.length_drop,List.length_take] at hi'
 rw [if_pos (by omega)]
theorem qY (l:List AV) (lo hi:Int) (h0:0<=lo) (h1:lo<=hi) (h2:hi<=l.length):(iz l lo hi).length=(hi-lo).toNat:=by
 unfold iz;rw [List.length_drop,List.length_take];omega
theorem cU.cut {T:Nat->Option TI} {Q:Nat->Prop} {el:Nat} {l:List AV} {x y:Int} (h0:0<=x) (h1:x<=y) (h2:y<=l.length) {ad:Addr} {n c:Nat} {D:TI} (hT:T el=some D) (h:cU T w Q (.sl el) (.slice (some ad) n c) (.sl l)) :
  cU T w Q (.sl el) (.slice (if c=x.toNat then some ad else some (ad.add (x.toNat*D.sz))) (y.toNat-x.toNat) (c-x.toNat)) (.sl (iz l x y)):=by
 cases h with
 | sl _ T' _ _ _ _ cs hT' h2' h2'' h2''' h3 h4 h5 =>
  rw [hT] at hT';cases hT'
  simp only [AV.l] at h2' h5
  have hlen:=qY l x y h0 h1 h2
  have hn:y.toNat-x.toNat=(iz l x y).length:=by rw [hlen];omega
  by_cases hc:c=x.toNat
  ·rw [if_pos hc]
   have h0':(iz l x y).length=0:=by rw [hlen];omega
   refine .sl el D ad _ _ _ [] hT hn (by omega) (by omega) (by rw [hn,h0'];simp) (fun j v hj=>by simp at hj) (fun i j k hi=>by omega)
  ·rw [if_neg hc]
   refine .sl el D _ _ _ _ ((cs.take (y.toNat*D.sz)).drop (x.toNat*D.sz)) hT hn (by omega) (by omega) ?_ (fun j v hj => ?_) (fun i j k hi hk v hj => ?_)
   ·rw [List.length_drop,List.length_take,h3]
    have:y.toNat*D.sz<=n*D.sz:=Nat.mul_le_mul_right _ (by omega)
    rw [Nat.min_eq_left this,Nat.sub_mul]
   ·rw [List.getElem?_drop,List.getElem?_take] at hj
    split at hj
    ·obtain ⟨q1,q2⟩:=h4 _ _ hj
     exact ⟨by rw [de];exact q1,by rw [add_add];exact q2⟩
    ·cases hj
   ·rw [List.getElem?_drop,List.getElem?_take] at hj
    split at hj
    ·simp only [AV.l]
     rw [sk l x y i h0 (by omega)]
     refine h5 (x.toNat+i) j k (by omega) hk v ?_
     rw [Nat.add_mul,Nat.add_assoc];exact hj
    ·cases hj
theorem uy {C:Cfg R} {q:Bool} (hP:Ok P C.ty) (hE:E.T=C.ty) (h:Rel E s a w β Rt Ra) {t:Nat} {x:Operand} {lo hi:Option Operand} (ho:o.op = .slice t x lo hi none) (hk:df C q o s κ = some r):db P E o a w κ r:=by
 unfold df at hk;rw [ho] at hk;simp only at hk
 have hc:=bH h x
 split at hk
 ·rename_i T b0 b1 hT hb
  obtain ⟨n,hn,hlo,hhi⟩:=wG h hb
  simp only at hlo hhi
  cases hty:wm T (ev s x) with
  | false=>rw [hty] at hk;cases hk
  | true =>
   rw [hty] at hk;simp only [Bool.not_true,cond_false] at hk
   split at hk
   ·rename_i bs e
    rw [e] at hc hty hn
    have ex:=gP hc
    have hu:=fa hP hT hty
    obtain ⟨g0,g1,g2,hk⟩:=iD hk
    simp only [kv,Option.some.injEq] at hn;subst hn
    refine bJ h (x := .str (bs.extract b0.toNat b1.toNat)) rfl ?_ hk
    have hr:=fJ (P:=P) (w:=w) (b:=false) (len:=bs.size) (cap:=bs.size) hlo hhi g0 g1 g2 (Nat.le_refl _)
    unfold execOp;rw [ho]
    simp [Instr.sliceAt,Instr.slice,run_underlying hu,ex,hr]
   ·rename_i el l st e
    rw [e] at hc hty hn
    have hu:=(hP.ty t T hT).slice hty
    cases hbq:(Nat.beq el T.elem&&(C.ty el).isSome) with
    | false=>rw [hbq] at hk;cases hk
    | true =>
     rw [hbq] at hk;simp only [cond_true] at hk
     rw [Bool.and_eq_true] at hbq
     have hel:=Nat.eq_of_beq_eq_true hbq.1;subst hel
     obtain ⟨D,hD⟩:=Option.isSome_iff_exists.mp hbq.2
     obtain ⟨g0,g1,g2,hk⟩:=iD hk
     simp only [kv,Option.some.injEq] at hn;subst hn
     have hr:cU E.T w ((bg E s w β Rt Ra).Q st) (.sl T.elem) (a.eval x) (.sl l):=hc
     generalize hev:a.eval x=v at hr
     have hr':=hr
     cases hr with
     | slnil _ _ hl =>
      simp only [AV.l] at hl;subst hl
      simp only [List.length_nil] at g2 hhi
      have hb0:b0=0:=by omega
      have hb1:b1=0:=by omega
      subst hb0;subst hb1
      refine bJ h (x := .ro T.elem (iz [] 0 0) st) (v := .slice none 0 0) (.slnil _ _ rfl) ?_ hk
      have hrb:=fJ (P:=P) (w:=w) (b:=true) (len:=0) (cap:=0) hlo hhi g0 g1 g2 (Nat.le_refl _)
      unfold execOp;rw [ho]
      simp [Instr.sliceAt,Instr.slice,run_underlying hu,hev,hrb,dQ (hP.ty _ D hD)]
     | sl _ T' ad m c _ cs hT' h2 h2' h2'' h3 h4 h5 =>
      simp only [AV.l] at h2;subst h2
      have hTe:C.ty T.elem=some T':=by rw [<- hE];exact hT'
      have hrb:=fJ (P:=P) (w:=w) (b:=true) (len:=l.length) (cap:=c) hlo hhi g0 g1 (by omega) h2'
      refine bJ h (x := .ro T.elem (iz l b0 b1) st) (hr'.cut g0 g1 g2 hT') ?_ hk
      unfold execOp;rw [ho]
      simp only [Instr.sliceAt,Instr.slice,Sem.run_bind,run_underlying hu,hev,Option.map_none,hrb,Result.andThen_ok,dQ (hP.ty _ T' hTe),Sem.run_pure,Option.map_some]
   ·rename_i k e
    rw [e] at hc hty hn
    have hu:=(hP.ty t T hT).slice hty
    obtain ⟨hd,ev',_⟩:_/\a.eval x=_/\_:=hc
    split at hk
    ·rename_i el l st hob
     cases hbq:(Nat.beq el T.elem&&(C.ty el).isSome) with
     | false=>rw [hbq] at hk;cases hk
     | true =>
      rw [hbq] at hk;simp only [cond_true] at hk
      rw [Bool.and_eq_true] at hbq
      have hel:=Nat.eq_of_beq_eq_true hbq.1;subst hel
      obtain ⟨D,hD⟩:=Option.isSome_iff_exists.mp hbq.2
      obtain ⟨g0,g1,g2,hk⟩:=iD hk
      simp only [kv,hob,Option.some.injEq] at hn;subst hn
      obtain ⟨T',cs,hT',hsz,hown,hrc⟩:=h.objs k _ hob
      have hTT:T'=D:=by
       have:C.ty T.elem=some T':=by rw [<- hE];exact hT'
       rw [hD] at this;cases this;rfl
      subst hTT
      rcases eg hown with ⟨hv,hn0⟩|⟨g,cap,hv,hnc,hcm⟩
      ·rw [hn0] at g2 hhi
       have hb0:b0=0:=by omega
       have hb1:b1=0:=by omega
       subst hb0;subst hb1
       refine bJ h (x := .vw k 0 0) (v := .slice none 0 0) ⟨hd,by omega,by omega,.inl ⟨hv,rfl,rfl⟩⟩ ?_ hk
       have hrb:=fJ (P:=P) (w:=w) (b:=true) (len:=0) (cap:=0) hlo hhi g0 g1 g2 (Nat.le_refl _)
       unfold execOp;rw [ho]
       have ev2:a.eval x = .slice none 0 0:=ev'.trans hv
       simp [Instr.sliceAt,Instr.slice,run_underlying hu,ev2,hrb,dQ (hP.ty _ T' hD)]
      ·have hrb:=fJ (P:=P) (w:=w) (b:=true) (len:=l.length) (cap:=cap) hlo hhi g0 g1 (by omega) hnc
       refine bJ h (x := .vw k b0 b1) (v := .slice (some (if cap=b0.toNat then ⟨g,0,none⟩ else ⟨g,0+b0.toNat*T'.sz,none⟩)) (b1.toNat-b0.toNat) (cap-b0.toNat)) ⟨hd,by omega,by omega,.inr ⟨g,l.length,cap,(if cap=b0.toNat then ⟨g,0,none⟩ else ⟨g,0+b0.toNat*T'.sz,none⟩),hv,g2,?_,fun hlt => ?_⟩⟩ ?_ hk
       ·rw [show (b1-b0).toNat=b1.toNat-b0.toNat by omega]
       ·rw [if_neg (by omega),Nat.zero_add];show _=(⟨g,b0.toNat*(β k).sz,none⟩:Addr);rw [hsz]
       ·unfold execOp;rw [ho]
        have ev2:a.eval x = .slice (some ⟨g,0,none⟩) l.length cap:=ev'.trans hv
        simp only [Instr.sliceAt,Instr.slice,Sem.run_bind,run_underlying hu,ev2,Option.map_none,hrb,Result.andThen_ok,dQ (hP.ty _ T' hD),Sem.run_pure,Option.map_some,add_plain]
        by_cases hcc:cap=b0.toNat <;> simp [hcc]
    ·cases hk
   ·cases hk
 ·cases hk
theorem eB {c:Call} {b:Builtin} (ho:o.op = .call c) (hb:c.callee = .builtin b):(execOp a.eval o).run P w=(builtin b c.argTypes o.type (c.args.map fun | .const _=>true|_=>false) (c.args.map a.eval)).run P w:=by
 unfold execOp;rw [ho]
 simp only [resolve,hb,Sem.run_bind,Sem.run_pure,Result.andThen_ok,invoke]
 rfl
theorem rO {c:Call} {x:Operand} (h:c.args.toList=[x]):c.args = #[x]:=by
 apply Array.ext';simpa using h
theorem jR {c:Call} {x y:Operand} (h:c.args.toList=[x,y]):c.args = #[x,y]:=by
 apply Array.ext';simpa using h
theorem yU {C:Cfg R} {q:Bool} (hP:Ok P C.ty) (h:Rel E s a w β Rt Ra) {c:Call} (ho:o.op = .call c) (hb:c.callee = .builtin .len) {x:Operand} (hx:c.args.toList=[x]) (hk:cN C q s o.dst .len c.args.toList c.argTypes.toList o.type κ = some r):db P E o a w κ r:=by
 rw [hx] at hk;unfold cN at hk;simp only at hk
 have hc:=bH h x
 split at hk
 ·rename_i t rest ht
  have ht0:c.argTypes[0]? = some t:=by
   rw [<- Array.getElem?_toList,ht];rfl
  split at hk
  ·rename_i T n hT hn
   cases hty:wm T (ev s x) with
   | false=>rw [hty] at hk;cases hk
   | true =>
    rw [hty] at hk;simp only [cond_true] at hk
    refine bJ h (x := .int .i64 n) (v := .int .i64 n) rfl ?_ hk
    have go:∀ v,a.eval x=v->(Builtin.len_ c.argTypes o.type #[v]).run P w = .ok (.int .i64 n) w->(execOp a.eval o).run P w = .ok (.value (.int .i64 n)) w:=by
     intro v e hr
     rw [eB ho hb,rO hx]
     simp only [builtin,List.map_toArray,List.map_cons,List.map_nil,e,Sem.run_bind,hr];rfl
    generalize hev:ev s x=sx at hc hn hty
    cases sx <;> simp only [kv] at hn <;> try (cases hn;done)
    case str b =>
     have ex:=gP hc
     cases hn
     refine go _ ex ?_
     simp [Builtin.len_,ht0,run_underlying (fa hP hT hty),goInt]
    case nil =>
     cases hn
     have ex:a.eval x = .slice none 0 0:=hc
     refine go _ ex ?_
     simp [Builtin.len_,ht0,run_underlying ((hP.ty t T hT).slice hty),goInt]
    case ro el l st =>
     cases hn
     have hr:cU E.T w ((bg E s w β Rt Ra).Q st) (.sl el) (a.eval x) (.sl l):=hc
     generalize hv:a.eval x=v at hr
     cases hr with
     | slnil _ _ hl =>
      simp only [AV.l] at hl;subst hl
      refine go _ hv ?_
      simp [Builtin.len_,ht0,run_underlying ((hP.ty t T hT).slice hty),goInt]
     | sl _ T' ad m cp _ cs hT' h2 h2' h2'' h3 h4 h5 =>
      simp only [AV.l] at h2;subst h2
      refine go _ hv ?_
      simp [Builtin.len_,ht0,run_underlying ((hP.ty t T hT).slice hty),goInt]
    case own k =>
     obtain ⟨hd,ex,_⟩:_/\a.eval x=_/\_:=hc
     split at hn
     ·rename_i el l st hob
      cases hn
      obtain ⟨T',cs,hT',hsz,hown,hrc⟩:=h.objs k _ hob
      rcases eg hown with ⟨hv,hn0⟩|⟨g,cap,hv,hnc,hcm⟩
      ·refine go _ (ex.trans hv) ?_
       simp [Builtin.len_,ht0,run_underlying ((hP.ty t T hT).slice hty),goInt,hn0]
      ·refine go _ (ex.trans hv) ?_
       simp [Builtin.len_,ht0,run_underlying ((hP.ty t T hT).slice hty),goInt]
     ·cases hn
    case vw k lo hi =>
     cases hn
     obtain ⟨hd,l0,l1,hv⟩:_/\_/\_/\(_∨_):=hc
     rcases hv with ⟨_,hh,ex⟩|⟨g,m,cap,ad,e1,e2,ex,e5⟩
     ·refine go _ ex ?_
      have:hi-lo=0:=by omega
      simp [Builtin.len_,ht0,run_underlying ((hP.ty t T hT).slice hty),goInt,this]
     ·refine go _ ex ?_
      have:((hi-lo).toNat:Int)=hi-lo:=by omega
      simp only [Builtin.len_,ht0,List.getElem?_toArray,List.getElem?_cons_zero,Sem.run_bind,run_underlying ((hP.ty t T hT).slice hty),Result.andThen_ok,goInt,this,Sem.run_pure]
  ·cases hk
 ·cases hk
theorem yW {C:Cfg R} {q:Bool} (h:Rel E s a w β Rt Ra) {c:Call} (ho:o.op = .call c) (hb:c.callee = .builtin .min) {x y:Operand} (hx:c.args.toList=[x,y]) (hk:cN C q s o.dst .min c.args.toList c.argTypes.toList o.type κ = some r):db P E o a w κ r:=by
 rw [hx] at hk;unfold cN at hk;simp only at hk
 have h1:=bH h x;have h2:=bH h y
 split at hk
 ·rename_i k m k' n e e'
  rw [e] at h1;rw [e'] at h2
  have e1:=dF h1;have e2:=dF h2
  refine bJ h (x := .int k (min2 m n)) (v := .int k (min2 m n)) rfl ?_ hk
  rw [eB ho hb,jR hx]
  simp only [builtin,List.map_toArray,List.map_cons,List.map_nil,e1,e2,Builtin.min_,List.foldlM_cons,List.foldlM_nil,Builtin.min2,min2]
  by_cases hlt:n<m <;> simp [hlt]
 ·cases hk
theorem yV {C:Cfg R} {q:Bool} (h:Rel E s a w β Rt Ra) {c:Call} (ho:o.op = .call c) (hb:c.callee = .builtin .max) {x y:Operand} (hx:c.args.toList=[x,y]) (hk:cN C q s o.dst .max c.args.toList c.argTypes.toList o.type κ = some r):db P E o a w κ r:=by
 rw [hx] at hk;unfold cN at hk;simp only at hk
 have h1:=bH h x;have h2:=bH h y
 split at hk
 ·rename_i k m k' n e e'
  rw [e] at h1;rw [e'] at h2
  have e1:=dF h1;have e2:=dF h2
  refine bJ h (x := .int k (max2 m n)) (v := .int k (max2 m n)) rfl ?_ hk
  rw [eB ho hb,jR hx]
  simp only [builtin,List.map_toArray,List.map_cons,List.map_nil,e1,e2,Builtin.max_,List.foldlM_cons,List.foldlM_nil,Builtin.max2,max2]
  by_cases hlt:m<n <;> simp [hlt]
 ·cases hk
end
end Go.Proofs.Ab
namespace Go.Proofs.Ab
open Go
variable {R:Type}
theorem Fr.trans {W0 X:Nat->Prop} {w0 w w':World} (h:Fr W0 w0 w) (h':Fr X w w') (hX:∀ b,X b->w0.heap.size<=b∨W0 b):Fr W0 w0 w' :=
 ⟨h'.os.trans h.os,h'.tape.trans h.tape,h'.output.trans h.output,Nat.le_trans h.size h'.size,fun b hb hn=>by
  have hx:¬ X b:=fun hx=>(hX b hx).elim (fun e=>by omega) hn
  exact (h'.block b (Nat.lt_of_lt_of_le hb h.size) hx).trans (h.block b hb hn)⟩
abbrev jh:World->World->Prop:=Fr fun _=>False
theorem ew (w:World) (ob:Go.Obj):jh w (w.alloc ob):=⟨rfl,rfl,rfl,by simp,fun b hb _=>heap_alloc_old w ob b hb⟩
section
variable {E:Env} {s:St} {a:Act} {w w':World} {β : Nat->Bl} {Rt Ra:Nat->Prop}
theorem Rel.world {X:Nat->Prop} (h:Rel E s a w β Rt Ra) (hf:Fr X w w') (hX:∀ b,X b->¬ Ra b/\(E.w0.heap.size<=b∨E.W0 b)/\∀ t o,s.obj t=some o->b ∉ bK (β t) o):Rel E s a w' β Rt Ra:=by
 have hO:=h.toRelO.world (w':=w') (fun b hb=>hf.block b (h.rlt b hb) (fun hx=>(hX b hx).1 hb)) (fun t o ho b hb=>hf.block b (h.cx t o ho b hb).1 (fun hx=>(hX b hx).2.2 t o ho hb)) hf.size (h.fr.trans hf fun b hb=>(hX b hb).2.1)
 exact ⟨hO.1,h.len,h.defers,ec hO.2 h.slots⟩
theorem Rel.ig (h:Rel E s a w β Rt Ra) (hf:jh w w'):Rel E s a w' β Rt Ra:=h.world hf fun _ hb=>hb.elim
theorem Rel.newAt (h:Rel E s a w β Rt Ra) (hf:jh w w') {s':St} {k:Nat} {o:Obj} (hs:IsNew s s' k o) (bl:Bl) (hb:∀ b∈bK bl o,w.heap.size<=b/\b<w'.heap.size)
  (ho:(bg E s w' β Rt Ra).Le (bg E s' w' (dH β k bl) Rt Ra)->OR (bg E s' w' (dH β k bl) Rt Ra) bl o) :
  Rel E s' a w' (dH β k bl) Rt Ra:=by
 have h1:=h.ig hf
 have h2:=h1.toRelO.BF hs bl (fun b hbb=>⟨(hb b hbb).2,fun hr=>by have:=h.rlt b hr;have:=(hb b hbb).1;omega,.inl (Nat.le_trans h.fr.size (hb b hbb).1)⟩) (fun b hbb t o' ho' hb'=>by have:=(h.cx t o' ho' b hb').1;have:=(hb b hbb).1;omega) ho
 exact ⟨h2.1,by rw [hs.slots];exact h.len,h.defers,fun i=>by
  have:=ec h2.2 h1.slots i
  unfold St.get at this ⊢;rw [hs.slots];exact this⟩
theorem Rel.new (h:Rel E s a w β Rt Ra) (hf:jh w w') (o:Obj) (bl:Bl) (hb:∀ b∈bK bl o,w.heap.size<=b/\b<w'.heap.size)
  (ho:(bg E s w' β Rt Ra).Le (bg E (s.new o) w' (dH β s.next bl) Rt Ra)->OR (bg E (s.new o) w' (dH β s.next bl) Rt Ra) bl o) :
  Rel E (s.new o) a w' (dH β s.next bl) Rt Ra:=h.newAt hf (h.vO o) bl hb ho
theorem iX {c:Cx} {x:SV} {v:Value} (hk:known x=true) (h:SL c x v):v.oneCell'=true:=by
 cases x <;> simp only [known] at hk <;> try (cases hk;done)
 case int=>cases h;rfl
 case bool=>cases h;rfl
 case str=>cases h;rfl
 case nil=>cases h;rfl
 case ro=>exact cU.one h
 case own=>exact h.2.2.1
 case vw t lo hi =>
  obtain ⟨_,_,_,hv⟩:=h
  rcases hv with ⟨_,_,rfl⟩|⟨_,_,_,_,_,_,rfl,_⟩ <;> rfl
 case ptr=>obtain ⟨_,rfl⟩:=h;rfl
 case clo=>obtain ⟨_,rfl⟩:=h;rfl
 case cls=>obtain ⟨_,rfl⟩:=h;rfl
 case mp=>obtain ⟨_,rfl⟩:=h;rfl
 case el=>obtain ⟨_,_,_,_,_,_,_,rfl⟩:=h;rfl
 case rl=>obtain ⟨_,_,_,rfl,_⟩:=h;rfl
 case nilp=>cases h;rfl
 case nilfn=>cases h;rfl
 case nili=>cases h;rfl
 case fn=>cases h;rfl
theorem pd {v:Value} (h:v.oneCell'=true):v.cells = #[v]:=by cases v <;> first|rfl|cases h
theorem fx {c:Cx} {x:SV} {v:Value} (h:S2 c x v) (hk:(leaves x).all known=true):PW (SL c) (leaves x) v.cells.toList:=by
 rcases fh x with ⟨l,rfl⟩|hx
 ·obtain ⟨cs,rfl,hcs⟩:=gO h;exact hcs
 ·have hl:leaves x=[x]:=by cases x <;> first|rfl|exact absurd rfl (hx _)
  rw [hl] at hk ⊢
  have hk':known x=true:=by simpa using hk
  have ht:∀ l,x ≠ .tup l:=by intro l e;subst e;cases hk'
  have hs:=vm hx (vn ht h)
  rw [pd (iX hk' hs)]
  exact ⟨hs,trivial⟩
theorem Rel.s9 (h:Rel E s a w β Rt Ra) {s':St} {k:Nat} (ty:Nat) (ls:List SV) (hs:IsNew s s' k (.var ty ls)) (cs:Array Value) (d:Option Nat) (hl:∀ c',(bg E s w β Rt Ra).Le c'->PW (jP c' w.heap.size) ls cs.toList) :
  ci E (s'.put d (.ptr k 0)) (a.put d (.pointer (some ⟨w.heap.size,0,none⟩))) (w.alloc (.cells cs ty)):=by
 have hg:=ew w (.cells cs ty)
 have le1:=(h.toRelO.world (w':=w.alloc (.cells cs ty)) (fun b hb=>hg.block b (h.rlt b hb) id) (fun t o ho b hb=>hg.block b (h.cx t o ho b hb).1 id) hg.size (h.fr.trans hg fun _ hb=>hb.elim)).2
 have h2:=h.newAt hg hs ⟨undef,w.heap.size,0,false⟩ (fun b hb=>by simp [bK] at hb;subst hb;simp) (fun le=>⟨cs,(),heap_alloc_new w _,hl _ ⟨le.T.trans le1.T,fun st b hq=>le.Q st b (le1.Q st b hq),fun st b hq=>(le.w st b (le1.Q st b hq)).trans (le1.w st b hq),fun t ht=>le.D t (le1.D t ht),fun t ht=>(le.β t (le1.D t ht)).trans (le1.β t ht)⟩⟩)
 refine ⟨_,_,_,h2.put d (x := .ptr k 0) (cB (cL ⟨⟨_,by rw [hs.obj,if_pos rfl]⟩,?_⟩))⟩
 show _=Value.pointer (some ⟨(dH β k ⟨undef,w.heap.size,0,false⟩ k).b,0,none⟩)
 unfold dH;rw [if_pos rfl]
theorem Rel.newVar (h:Rel E s a w β Rt Ra) (ty:Nat) (ls:List SV) (cs:Array Value) (d:Option Nat) (hl:∀ c',(bg E s w β Rt Ra).Le c'->PW (jP c' w.heap.size) ls cs.toList) :
  ci E ((s.new (.var ty ls)).put d (.ptr s.next 0)) (a.put d (.pointer (some ⟨w.heap.size,0,none⟩))) (w.alloc (.cells cs ty)):=h.s9 ty ls (h.vO _) cs d hl
theorem nV {R:Type} {C:Cfg R} {d:Option Nat} {o:Obj} {f:Nat->SV} {κ : St->Option R} {r:R} (h:Rel E s a w β Rt Ra) (hk:iL C s d o f κ = some r):∃ s' k,IsNew s s' k o/\κ (s'.put d (f k))=some r:=by
 unfold iL at hk
 cases hb:Nat.beq C.base 0 with
 | true=>rw [hb,cond_true] at hk;exact ⟨_,_,h.vO o,hk⟩
 | false =>
  rw [hb,cond_false] at hk
  cases hc:((s.obj (C.base+d.getD 0)).isNone&&(Nat.blt (C.base+d.getD 0) s.next&&Nat.ble 64 C.base)) with
  | false=>rw [hc] at hk;cases hk
  | true =>
   rw [hc,cond_true] at hk
   simp only [Bool.and_eq_true,Option.isNone_iff_eq_none,Nat.blt_eq,Nat.ble_eq] at hc
   exact ⟨_,_,zd hc.1 hc.2.1 (by omega),hk⟩
end
section
variable {P:Program} {E:Env} {o:Oper} {s:St} {a:Act} {w:World} {β : Nat->Bl} {Rt Ra:Nat->Prop} {κ : St->Option R} {r:R}
theorem Al {c:Cx} {b:Nat} {k:LK} {v:Value} (h:zeroV k v) (hs:stands (iQ k)=true):jP c b (iQ k) v:=by
 cases k <;> first|(exact h)|(exact .inl h)|(cases hs)
theorem ww {c:Cx} {k:LK} {v:Value} (h:zeroV k v):SL c (iQ k) v:=by
 cases k <;> first|exact h|trivial
theorem xO {T:Nat->Option TI} {w:World} {Q:Nat->Prop} {k:LK} {v:Value} (hk:k.flat=true) (h:zeroV k v):cU T w Q k v (Aj k):=by
 cases k <;> first|(simp [LK.flat] at hk;done)|(simp only [zeroV] at h;subst h)
 ·exact .int _ (.int 0)
 ·exact .bool (.bool false)
 ·exact .str (.str ⟨#[]⟩)
theorem nz {n i:Nat} (a:AV) (h:i<n):(List.replicate n a).getD i .no=a:=by
 rw [List.getD_eq_getElem?_getD,List.getElem?_replicate,if_pos h];rfl
theorem uq {C:Cfg R} {q:Bool} (hP:Ok P C.ty) (hE:E.T=C.ty) (h:Rel E s a w β Rt Ra) {t:Nat} (ho:o.op = .alloc t) (hk:df C q o s κ = some r):db P E o a w κ r:=by
 unfold df at hk;rw [ho] at hk;simp only at hk
 split at hk
 ·rename_i T hT
  split at hk
  ·rename_i k hkk
   obtain ⟨a1,a2,a3,D,hD,a4,a5,a6,a7,a8⟩:=eL hkk
   obtain ⟨i,z,hi,hsz,hby,hz,hzero,_⟩:=(hP.ty t T hT).info
   have hsz1:D.sz=1:=by unfold TI.sz;rw [a4];rfl
   have hzl:z.cells.toList.length=T.sz:=by rw [<- hzero.len];rfl
   have hg:=ew w (.cells z.cells t)
   let v:Value := .slice (some ⟨w.heap.size,0,none⟩) T.sz T.sz
   obtain ⟨s',n,hs,hk⟩:=nV h hk
   have h2:=h.newAt hg hs ⟨v,0,1,true⟩ (fun b hb=>by simp [bK,v,Value.ownBlock] at hb;subst hb;simp) (fun le=>⟨D,z.cells.toList,by show E.T T.elem=some D;rw [hE];exact hD,hsz1.symm,⟨by rw [hzl,hsz1];simp,.inr ⟨w.heap.size,T.sz,z.cells,t,(0,0),by simp [v],by simp,heap_alloc_new w _,.inl rfl,by simp,by have:maxLen=9223372036854775807:=rfl;omega,by rw [hsz1];simpa using hzl,?_⟩⟩,?_⟩)
   ·intro next Q hn
    refine dc (v := .pointer (some ⟨w.heap.size,0,none⟩)) (w':=w.alloc (.cells z.cells t)) ?_ (hn _ _ _ hk ?_)
    ·unfold execOp;rw [ho]
     simp [Instr.alloc,zeroValue,typeInfo,hi,hz,newVar,newRow]
    ·refine ⟨_,_,_,h2.put o.dst (x := .ap n T.sz) (cB (cL ⟨⟨_,by rw [hs.obj,if_pos rfl]⟩,w.heap.size,T.sz,?_,rfl⟩))⟩
     show (dH β n ⟨v,0,1,true⟩ n).v=v
     unfold dH;rw [if_pos rfl]
   ·rw [hsz1];simp only [List.length_replicate,Nat.mul_one];rw [<- hzl,List.take_length]
   ·intro i j k' hi' hk' u hu
    rw [a4] at hk'
    cases j with
    | succ j=>simp at hk'
    | zero =>
     simp only [List.getElem?_cons_zero,Option.some.injEq] at hk';subst hk'
     simp only [List.length_replicate] at hi'
     rw [nz _ hi',a5]
     refine xO a6 (hzero.get (i:=i) (x:=k) (by rw [a7];simp [hi']) ?_)
     rw [hsz1] at hu;simpa using hu
  cases hs:(T.lv.map iQ).all stands with
  | false=>rw [hs] at hk;cases hk
  | true =>
   rw [hs] at hk;simp only [cond_true] at hk
   obtain ⟨i,z,hi,hsz,hby,hz,hzero,_⟩:=(hP.ty t T hT).info
   obtain ⟨s',n,hsn,hk⟩:=nV h hk
   intro next Q hn
   refine dc (v := .pointer (some ⟨w.heap.size,0,none⟩)) (w':=w.alloc (.cells z.cells t)) ?_ (hn _ _ _ hk (h.s9 t _ hsn z.cells o.dst fun c' _ => ?_))
   ·unfold execOp;rw [ho]
    simp [Instr.alloc,zeroValue,typeInfo,hi,hz,newVar,newRow]
   ·refine PW.vY ?_ hzero
    intro k hkm v hv
    exact Al hv (List.all_eq_true.mp hs _ (List.mem_map_of_mem hkm))
 ·cases hk
theorem yT {C:Cfg R} {q:Bool} (h:Rel E s a w β Rt Ra) {t:Nat} {x:Operand} (ho:o.op = .box t x) (hk:df C q o s κ = some r):db P E o a w κ r:=by
 unfold df at hk;rw [ho] at hk;simp only at hk
 split at hk
 ·rename_i T hT
  cases hs:(Nat.beq (leaves (ev s x)).length T.sz&&(leaves (ev s x)).all known) with
  | false=>rw [hs] at hk;cases hk
  | true =>
   rw [hs] at hk;simp only [cond_true] at hk
   have hkn:(leaves (ev s x)).all known=true:=by rw [Bool.and_eq_true] at hs;exact hs.2
   have hpw:=fx (bH h x) hkn
   intro next Q hn
   refine dc (v := .pointer (some ⟨w.heap.size,0,none⟩)) (w':=w.alloc (.cells (a.eval x).cells t)) ?_ (hn _ _ _ hk (h.newVar t _ (a.eval x).cells o.dst fun c' le => ?_))
   ·unfold execOp;rw [ho]
    simp [Instr.box,newVar,newRow]
   ·exact PW.imp_mem (fun y hy v hv=>o3 (List.all_eq_true.mp hkn y hy) (hv.le le)) hpw
 ·cases hk
def eW {α : Type}:List α -> Nat->List α -> List α
 | l,_,[]=>l
 | l,j,v::vs=>eW (l.set j v) (j+1) vs
theorem Bo (l:List SV) (j:Nat) (v:SV):fp l j v=l.set j v:=by
 induction l generalizing j with
 | nil=>rfl
 | cons x r ih=>cases j <;> simp [fp,ih]
theorem rH (l:List SV) (j:Nat) (vs:List SV):Af l j vs=eW l j vs:=by
 induction vs generalizing l j with
 | nil=>rfl
 | cons v vs ih=>simp only [Af,eW,ih,Bo]
theorem PW.set {α β : Type} {S : α -> β -> Prop}:∀ {l:List α} {m:List β} (j:Nat) {x : α} {v : β},PW S l m->S x v->PW S (l.set j x) (m.set j v)
 | [],[],_,_,_,h,_=>h
 | _::_,_::_,0,_,_,h,hx=>⟨hx,h.2⟩
 | _::_,_::_,j+1,_,_,h,hx=>⟨h.1,PW.set j h.2 hx⟩
 | [],_::_,_,_,_,h,_=>h.elim
 | _::_,[],_,_,_,h,_=>h.elim
theorem PW.eW {α β : Type} {S : α -> β -> Prop}:∀ {vs:List α} {us:List β} {l:List α} {m:List β} (j:Nat),PW S l m->PW S vs us->PW S (eW l j vs) (eW m j us)
 | [],[],_,_,_,h,_=>h
 | _::_,_::_,_,_,j,h,h'=>PW.eW (j+1) (h.set j h'.1) h'.2
 | [],_::_,_,_,_,_,h=>h.elim
 | _::_,[],_,_,_,_,h=>h.elim
theorem fP {α : Type} (l:List α) (j:Nat) (vs:List α):(eW l j vs).length=l.length:=by
 induction vs generalizing l j with
 | nil=>rfl
 | cons v vs ih=>simp [eW,ih]
theorem fO {α : Type} (l:List α) (j:Nat) (vs:List α) (q:Nat):(eW l j vs)[q]? = if j<=q/\q<j+vs.length/\q<l.length then vs[q-j]? else l[q]? := by
 induction vs generalizing l j with
 | nil=>simp [eW];intro h1 h2;omega
 | cons v vs ih =>
  simp only [eW,ih,List.length_set,List.length_cons]
  by_cases h1:j+1<=q/\q<j+1+vs.length/\q<l.length
  ·rw [if_pos h1,if_pos ⟨by omega,by omega,h1.2.2⟩]
   rw [show q-j=(q-(j+1))+1 by omega,List.getElem?_cons_succ]
  ·rw [if_neg h1]
   by_cases h2:q=j
   ·subst h2
    by_cases h3:q<l.length
    ·rw [if_pos ⟨by omega,by omega,h3⟩];simp [h3]
    ·rw [if_neg (by omega)];simp [h3]
   ·rw [List.getElem?_set_ne (by omega)]
    rw [if_neg (by omega)]
theorem pw (off:Nat):∀ (vs:List Value) (k:Nat) (cells:Array Value),((vs.zipIdx k).foldl (fun cs p=>cs.setIfInBounds (off+p.2) p.1) cells).toList=eW cells.toList (off+k) vs
 | [],_,_=>rfl
 | v::vs,k,cells=>by
  simp only [List.zipIdx_cons,List.foldl_cons,eW]
  rw [pw off vs (k+1)]
  simp [Array.toList_setIfInBounds,Nat.add_assoc]
theorem lk (off:Nat) (v:Array Value) (cells:Array Value):(v.zipIdx.foldl (fun cs (p:Value × Nat)=>cs.setIfInBounds (off+p.2) p.1) cells).toList=eW cells.toList off v.toList:=by
 rw [<- Array.foldl_toList,Array.toList_zipIdx]
 exact pw off v.toList 0 cells
theorem jz {c:Cx} {fl:List (Nat × Nat × Bool)} {places:Nat->Option (Nat × Nat)} {N:Nat} (hpl:∀ (f off n:Nat) (g:Bool),fl[f]? = some (off,n,g)->places f=some (off,n)/\off+n<=N) :
  ∀ (ps:List (Nat × SV)) (vs:List (Nat × Value)) (ls:List SV) (cells:Array Value) (out:List SV),pq fl ls ps=some out->PW (fun (p:Nat × SV) (v:Nat × Value)=>p.1=v.1/\S2 c p.2 v.2) ps vs->PW (SL c) ls cells.toList->cells.size=N ->
   ∃ cells',Instr.fill places cells vs=some cells'/\PW (SL c) out cells'.toList
 | [],[],ls,cells,out,h,_,hl,_=>by simp only [pq,Option.some.injEq] at h;subst h;exact ⟨cells,rfl,hl⟩
 | (i,x)::ps,(j,v)::vs,ls,cells,out,h,hp,hl,hN=>by
  obtain ⟨⟨rfl,hx⟩,hp⟩:=hp
  unfold pq at h
  split at h
  ·rename_i off n g hf
   cases hb:(Nat.beq (leaves x).length n&&(leaves x).all known) with
   | false=>rw [hb] at h;cases h
   | true =>
    rw [hb] at h;simp only [cond_true] at h
    rw [Bool.and_eq_true] at hb
    have hlen:=Nat.eq_of_beq_eq_true hb.1
    have hpw:=fx hx hb.2
    obtain ⟨hpl1,hpl2⟩:=hpl _ _ _ _ hf
    have hsz:v.cells.size=n:=by rw [<- hlen,hpw.len];simp
    have hl':PW (SL c) (Af ls off (leaves x)) (v.cells.zipIdx.foldl (fun cs (p:Value × Nat)=>cs.setIfInBounds (off+p.2) p.1) cells).toList:=by
     rw [lk,rH];exact hl.eW off hpw
    have hN':(v.cells.zipIdx.foldl (fun cs (p:Value × Nat)=>cs.setIfInBounds (off+p.2) p.1) cells).size=N:=by
     rw [<- Array.length_toList,lk,fP];simpa using hN
    obtain ⟨cells',h1,h2⟩:=jz hpl ps vs _ _ out h hp hl' hN'
    refine ⟨cells',?_,h2⟩
    unfold Instr.fill
    have hpl1':places i=some (off,n):=hpl1
    simp only [hpl1']
    rw [if_neg (by simp only [hsz,ne_eq,not_true_eq_false,decide_false,Bool.false_or,gt_iff_lt,decide_eq_true_eq];omega)]
    exact h1
  ·cases h
 | [],_::_,_,_,_,_,hp,_,_=>hp.elim
 | _::_,[],_,_,_,_,hp,_,_=>hp.elim
theorem iR {α γ δ : Type} {S : γ -> δ -> Prop} (f : α -> γ) (g : α -> δ) (h:∀ x,S (f x) (g x)):∀ (l:List α),PW S (l.map f) (l.map g)
 | []=>trivial
 | x::l=>⟨h x,iR f g h l⟩
theorem uu {C:Cfg R} {q:Bool} (hP:Ok P C.ty) (h:Rel E s a w β Rt Ra) {t:Nat} {ps:Array (Nat × Operand)} (ho:o.op = .build t ps) (hk:df C q o s κ = some r):db P E o a w κ r:=by
 unfold df at hk;rw [ho] at hk;simp only at hk
 split at hk
 ·rename_i T hT
  by_cases hc:(T.agg&&(T.flds.isEmpty && !(Nat.beq T.elem 0)))=true
  ·simp only [hc,cond_true] at hk
   split at hk
   ·rename_i D hD
    split at hk
    ·rename_i l hl
     simp only [Bool.and_eq_true,Bool.not_eq_true'] at hc
     obtain ⟨len,hu,hlen⟩:=gu hP hT hc.1 (List.isEmpty_iff.1 hc.2.1) (fun e=>by rw [e] at hc;simp at hc) hD
     obtain ⟨i,z,hi,hsz,hby,hz,hzero,_⟩:=(hP.ty t T hT).info
     have hDp:=(hP.ty _ D hD).pos
     have hl0:PW (SL (bg E s w β Rt Ra)) (T.lv.map iQ) z.cells.toList:=hzero.map fun k v hv=>ww hv
     have hsize:z.cells.size=T.sz:=by have:=hzero.len;simp at this;exact this.symm
     have hpl:∀ (f off n:Nat) (g:Bool),((List.range (T.sz / D.sz)).map fun i=>(i*D.sz,D.sz,D.agg))[f]? = some (off,n,g)->(fun i=>some (i*D.sz,D.sz)) f=some (off,n)/\off+n<=T.sz:=by
      intro f off n g hf
      rw [List.getElem?_map] at hf
      by_cases hfl:f<T.sz / D.sz
      ·rw [List.getElem?_range hfl] at hf
       simp only [Option.map_some,Option.some.injEq,Prod.mk.injEq] at hf
       obtain ⟨rfl,rfl,_⟩:=hf
       refine ⟨rfl,?_⟩
       rw [<- hlen,Nat.mul_div_cancel _ hDp] at hfl
       have:(f+1)*D.sz<=len*D.sz:=Nat.mul_le_mul_right _ hfl
       rw [Nat.add_mul,Nat.one_mul] at this;omega
      ·rw [List.getElem?_eq_none (by simpa using hfl)] at hf;cases hf
     obtain ⟨cells',hf1,hf2⟩:=jz (c:=bg E s w β Rt Ra) hpl _ (ps.toList.map fun p=>(p.1,a.eval p.2)) _ z.cells l hl (iR _ _ (fun p=>⟨rfl,bH h p.2⟩) ps.toList) hl0 hsize
     refine eu h (x := .agg l) (v := .agg cells') ⟨cells',rfl,hf2⟩ ?_ hk
     unfold execOp;rw [ho]
     simp only [Sem.run_bind,Instr.build,zeroValue,typeInfo,run_underlying hu,dQ (hP.ty _ D hD),Result.andThen_ok]
     simp [hi,hz,dQ (hP.ty _ D hD),hf1]
    ·cases hk
   ·cases hk
  have hc':(T.agg&&(T.flds.isEmpty && !(Nat.beq T.elem 0)))=false:=by simpa using hc
  simp only [hc',cond_false] at hk
  split at hk
  ·rename_i l hl
   cases hg:(T.agg && !T.flds.isEmpty) with
   | false=>rw [hg] at hk;cases hk
   | true =>
    rw [hg] at hk;simp only [cond_true] at hk
    obtain ⟨hga,hne⟩:T.agg=true/\T.flds≠[]:=by simpa using hg
    obtain ⟨i,z,hi,hsz,hby,hz,hzero,_⟩:=(hP.ty t T hT).info
    obtain ⟨fs,hu,hfs⟩:=(hP.ty t T hT).struct hne
    have hplaces:fs.toList.mapM (fun f=>(P.info? f.type).map fun i=>(f.offset,i.size))=some (T.flds.map fun p=>(p.1,p.2.1)):=by
     generalize fs.toList=fl at hfs
     clear hl hne hg
     generalize T.flds=tf at hfs
     induction fl generalizing tf with
     | nil=>cases tf with
      | nil=>rfl
      | cons _ _=>exact hfs.elim
     | cons F fl ih=>cases tf with
      | nil=>exact hfs.elim
      | cons p tf =>
       obtain ⟨⟨h1,h2,ii,d,h3,h4,h5,h6⟩,hr⟩:=hfs
       simp only [List.mapM_cons,h3,Option.map_some,Option.bind_eq_bind,Option.bind_some,ih tf hr,Option.pure_def,List.map_cons,h1,h4]
    have hpl:∀ (f off n:Nat) (g:Bool),T.flds[f]? = some (off,n,g)->((T.flds.map fun p=>(p.1,p.2.1)).toArray[f]?)=some (off,n)/\off+n<=T.sz:=by
     intro f off n g hf
     obtain ⟨_,F,_,_,h1,h2,_⟩:=ui (hP.ty t T hT) hf
     exact ⟨by simp [hf],h2⟩
    have hl0:PW (SL (bg E s w β Rt Ra)) (T.lv.map iQ) z.cells.toList:=hzero.map fun k v hv=>ww hv
    have hsize:z.cells.size=T.sz:=by have:=hzero.len;simp at this;exact this.symm
    obtain ⟨cells',hf1,hf2⟩:=jz (c:=bg E s w β Rt Ra) hpl _ (ps.toList.map fun p=>(p.1,a.eval p.2)) _ z.cells l hl (iR _ _ (fun p=>⟨rfl,bH h p.2⟩) ps.toList) hl0 hsize
    refine eu h (x := .agg l) (v := .agg cells') ⟨cells',rfl,hf2⟩ ?_ hk
    have hbuilt:P.built t (ps.map fun p=>(p.1,a.eval p.2)).toList=some cells':=by
     unfold Program.built
     simp only [hi,hu,hz,hplaces]
     rw [Array.toList_map];exact hf1
    unfold execOp;rw [ho]
    have:=run_build (P:=P) w t (ps.map fun p=>(p.1,a.eval p.2)) cells' hbuilt
    simp only [Sem.run_bind]
    rw [this];rfl
  ·cases hk
 ·cases hk
end
end Go.Proofs.Ab
namespace Go.Proofs.Ab
open Go
variable {R:Type}
theorem eV (P:Program) (g o:Nat) (t:TypeId) (fz:Nat × Nat):∀ (vs:List Value) (i:Nat) (cur:Array Value) (w:World),w.heap[g]? = some (.cells cur t fz)->(fz=(0,0)∨fz=(cur.size,cur.size+1))->o+i+vs.length<=cur.size->(∀ v∈vs,v.oneCell'=true) ->
  (storeCells ⟨g,o,none⟩ vs i).run P w = .ok () (w.setRow g (cur.toList.take (o+i)++vs++cur.toList.drop (o+i+vs.length)).toArray)
 | [],i,cur,w,hg,_,_,_=>by
  simp only [storeCells,List.append_nil,List.length_nil,Nat.add_zero,List.take_append_drop,Array.toArray_toList]
  rw [setRow_self w g cur t fz hg]
  rfl
 | v::rest,i,cur,w,hg,hfz,hl,h1=>by
  have hi:o+i<cur.size:=by simp at hl;omega
  have hadd:(⟨g,o,none⟩:Addr).add i=⟨g,o+i,none⟩:=add_plain g o i
  have hcell:w.cell? ⟨g,o+i,none⟩=some cur[o+i]:=by simp [World.cell?,hg,hi]
  have hfro:w.frozen? ⟨g,o+i,none⟩=false:=by simp only [World.frozen?,hg];exact CA hfz hi
  have hst:(store ((⟨g,o,none⟩:Addr).add i) v).run P w = .ok () (w.setRow g (cur.setIfInBounds (o+i) v)):=by
   rw [hadd,run_store P w _ v _ (h1 v (by simp)),hcell]
   simp [hfro,setCell_eq_setRow w g (o+i) cur t fz v hg]
  have ih:=eV P g o t fz rest (i+1) (cur.setIfInBounds (o+i) v) (w.setRow g (cur.setIfInBounds (o+i) v)) (setRow_heap w g cur _ t _ hg) (by simpa using hfz) (by simp at hl ⊢;omega) (fun x hx=>h1 x (by simp [hx]))
  simp only [storeCells,Sem.run_bind,hst,Result.andThen_ok,ih,setRow_setRow]
  congr 3
  have e:=list_seg_step cur.toList (o+i) v rest (by simp at hl ⊢;omega)
  simpa [Array.toList_setIfInBounds,Nat.add_assoc] using e
section
variable {P:Program} {w:World}
theorem iN {t u e ty:Nat} {d:TypeDesc} {i:TypeInfo} {z:Value} {T:TI} (ht:P.underlying t=some (.slice e)) (hu:P.underlying u=some d) (hd:(∃ e',d = .slice e')∨d = .string) (hi:P.info? e=some i) (hz:i.zero=some z) (his:i.size=T.sz) (hzs:z.cells.size=T.sz) (hpos:0<T.sz)
  {X:Value} {m:Nat} {news:List Value} (hX:(Builtin.lenOf X).run P w = .ok m w) (hf:(Builtin.firstCells T.sz m X).run P w = .ok news.toArray w) (hf':(Builtin.firstCells T.sz m X).run P w.drew = .ok news.toArray w.drew) (hm:news.length=m*T.sz) (h1:∀ u∈news,u.oneCell'=true)
  {arr:Bool} {v:Value} {n:Nat} {xs:List Value} (hown:dO w arr e T.sz v n xs) (hroom:(n+m)*i.bytes<=140737488355328) (hn63:n+m<=maxLen) :
  ∃ v' w',(Builtin.append_ #[t,u] ty #[v,X]).run P w = .ok v' w'/\dO w' arr e T.sz v' (n+m) (xs++news)/\Fr (fun b=>v.ownBlock=some b) w w'/\(∀ b,v'.ownBlock=some b->b<w'.heap.size/\(v.ownBlock=some b∨w.heap.size<=b)):=by
 have hsmall:n+m<=9223372036854775807:=by simp only [maxLen] at hn63;omega
 have hlen:(xs++news).length=(n+m)*T.sz:=by rw [List.length_append,hown.1,hm,Nat.add_mul]
 have grown:∀ old:Nat,old<n+m ->
   dO (w.drew.alloc (.cells (xs.toArray++news.toArray++Builtin.zeroCells z.cells (grownCap w (n+m) old e-(n+m))) e)) arr e T.sz
    (.slice (some ⟨w.heap.size,0,none⟩) (n+m) (grownCap w (n+m) old e)) (n+m) (xs++news):=by
  intro old ho
  have hge:=grownCap_ge w (n+m) old e
  refine ⟨hlen,.inr ⟨w.heap.size,_,_,e,(0,0),rfl,fun _=>rfl,heap_alloc_new w.drew _,.inl rfl,hge,grownCap_le_maxLen w (n+m) old e hn63,?_,?_⟩⟩
  ·simp only [Array.size_append,List.size_toArray,size_zeroCells,hzs,hown.1,hm,<- Nat.add_mul]
   congr 1;omega
  ·simp only [Array.toList_append,List.append_assoc]
   rw [<- List.append_assoc,<- hlen]
   exact List.take_left
 have hfr:∀ (X:Nat->Prop) (c:Array Value),Fr X w (w.drew.alloc (.cells c e)):=fun X c=>⟨rfl,rfl,rfl,by simp,fun b hb _=>heap_alloc_old w.drew _ b hb⟩
 rcases hown.2 with ⟨rfl,rfl⟩|⟨g,cap,cur,q,fz,rfl,hbg,hg,hfz,hnc,hcm,hcs,htake⟩
 ·have hx:xs=[]:=List.eq_nil_of_length_eq_zero (by simpa using hown.1)
  subst hx
  by_cases hm0:m=0
  ·subst hm0
   have hn:news=[]:=List.eq_nil_of_length_eq_zero (by simpa using hm)
   subst hn
   refine ⟨.slice none 0 0,w,?_,qa w arr e T.sz,Fr.refl _ w,by simp [Value.ownBlock]⟩
   rcases hd with ⟨e',rfl⟩|rfl <;> simp [Builtin.append_,run_underlying ht,run_underlying hu,sizeOf,typeInfo,hi,his,hX,hf]
  ·have hgr:=grown 0 (by omega)
   simp only [Nat.zero_add,List.nil_append,Array.empty_append] at hgr hroom hsmall ⊢
   refine ⟨_,_,?_,hgr,hfr _ _,by simp [Value.ownBlock]⟩
   have h63':¬ (9223372036854775807<(m:Int)):=by omega
   have h48':¬ (281474976710656<Builtin.nextslicecap m 0*i.bytes):=by rw [nextslicecap_zero (by omega)];omega
   rcases hd with ⟨e',rfl⟩|rfl <;> simp [Builtin.append_,run_underlying ht,run_underlying hu,sizeOf,typeInfo,zeroValue,hi,hz,his,hX,hm0,h63',h48',Question.forced,run_firstCells_none,hf',newRow,grownCap]
 ·by_cases hr:n+m<=cap
  ·have hfit:n*T.sz+news.length<=cur.size:=by rw [hm,hcs,<- Nat.add_mul];exact Nat.mul_le_mul_right _ hr
   have hst:=eV P g (n*T.sz) q fz news 0 cur w hg hfz (by simpa using hfit) h1
   simp only [Nat.add_zero] at hst
   refine ⟨.slice (some ⟨g,0,none⟩) (n+m) cap,w.setRow g (cur.toList.take (n*T.sz)++news++cur.toList.drop (n*T.sz+news.length)).toArray,?_,⟨hlen,.inr ⟨g,cap,_,q,fz,rfl,hbg,setRow_heap w g cur _ q _ hg,?_,hr,hcm,?_,?_⟩⟩,⟨rfl,rfl,rfl,by simp,fun k hk hne=>setRow_other w g k _ (fun e=>hne (by simp [Value.ownBlock,e]))⟩,?_⟩
   ·rcases hd with ⟨e',rfl⟩|rfl <;> simp [Builtin.append_,run_underlying ht,run_underlying hu,sizeOf,typeInfo,hi,his,hX,hr,hf,Addr.add_lit,hst]
   ·have:(cur.toList.take (n*T.sz)++news++cur.toList.drop (n*T.sz+news.length)).toArray.size=cur.size:=by
     simp only [List.size_toArray,List.length_append,List.length_take,List.length_drop,Array.length_toList]
     omega
    rw [this];exact hfz
   ·simp only [List.size_toArray,List.length_append,List.length_take,List.length_drop,Array.length_toList]
    omega
   ·rw [htake,<- hlen]
    exact List.take_left
   ·intro b hb
    have:b=g:=by simpa [Value.ownBlock,eq_comm] using hb
    subst this
    exact ⟨by simpa using (Array.getElem?_eq_some_iff.1 hg).1,.inl rfl⟩
  ·have holds:∀ (j:Nat) u,xs[j]? = some u->w.cell? ((⟨g,0,none⟩:Addr).add j)=some u:=fun j u hj=>by
    rw [add_plain,Nat.zero_add];exact eS hown j u hj
   have hfo:=run_firstCells_some (P:=P) w.drew T.sz n ⟨g,0,none⟩ n cap xs hown.1 (by simpa using holds)
   have hgr:=grown cap (by omega)
   refine ⟨_,_,?_,hgr,hfr _ _,by simp [Value.ownBlock]⟩
   have h63':¬ (9223372036854775807<((n:Int)+(m:Int))):=by omega
   have h48':¬ (281474976710656<Builtin.nextslicecap (n+m) cap*i.bytes):=by have:=growslice_fits (need:=n+m) (old:=cap) (bytes:=i.bytes) (by omega) hroom;omega
   rcases hd with ⟨e',rfl⟩|rfl <;> simp [Builtin.append_,run_underlying ht,run_underlying hu,sizeOf,typeInfo,zeroValue,hi,hz,his,hX,hr,h63',h48',Question.forced,hf',hfo,newRow,grownCap]
   all_goals
    congr 2
    apply Array.ext'
    simp [List.append_assoc]
end
end Go.Proofs.Ab
namespace Go.Proofs.Ab
open Go
variable {R:Type}
section
variable {P:Program} {E:Env} {o:Oper} {s:St} {a:Act} {w w':World} {β : Nat->Bl} {Rt Ra:Nat->Prop} {κ : St->Option R} {r:R}
theorem mh {w:World} {arr:Bool} {e size n:Nat} {v:Value} {xs:List Value} (h:dO w arr e size v n xs):v.oneCell'=true:=by
 rcases eg h with ⟨rfl,_⟩|⟨_,_,rfl,_⟩ <;> rfl
theorem rm {w:World} {arr:Bool} {e size n:Nat} {v:Value} {xs:List Value} (h:dO w arr e size v n xs) {b:Nat} (hb:v.ownBlock=some b):b<w.heap.size:=h.cx hb
theorem Rel.qB (h:Rel E s a w β Rt Ra) {e:Nat} {T:TI} (hT:E.T e=some T) {l:List AV} {st:Bool} {v:Value} {cs:List Value} (hown:dO w false e T.sz v l.length cs) (hrc:RC E.T w ((bg E s w β Rt Ra).Q st) T l cs)
  (hb:∀ b,v.ownBlock=some b->¬ Ra b/\(E.w0.heap.size<=b∨E.W0 b)/\∀ t o',s.obj t=some o'->b ∉ bK (β t) o') (d:Option Nat):ci E ((s.new (.row e l st)).put d (.own s.next)) (a.put d v) w:=by
 have hbl:∀ b∈bK ⟨v,0,T.sz,false⟩ (.row e l st),v.ownBlock=some b:=fun b hbb=>by simpa [bK] using hbb
 have h2:=h.toRelO.add (.row e l st) ⟨v,0,T.sz,false⟩ (fun b hbb=>⟨rm hown (hbl b hbb),(hb b (hbl b hbb)).1,(hb b (hbl b hbb)).2.1⟩) (fun b hbb t o' ho'=>(hb b (hbl b hbb)).2.2 t o' ho')
  (fun le=>⟨T,cs,hT,rfl,hown,hrc.mono (fun b hq=>le.Q st b hq) (fun _ _=>rfl)⟩)
 have h3:Rel E (s.new (.row e l st)) a w (dH β s.next ⟨v,0,T.sz,false⟩) Rt Ra:=⟨h2.1,h.len,h.defers,ec h2.2 h.slots⟩
 refine ⟨_,_,_,h3.put d (x := .own s.next) (cB (cL ⟨⟨_,by rw [ef,if_pos rfl]⟩,?_,mh hown,?_⟩))⟩
 ·show v=(dH β s.next ⟨v,0,T.sz,false⟩ s.next).v
  unfold dH;rw [if_pos rfl]
 ·show (dH β s.next ⟨v,0,T.sz,false⟩ s.next).arr=false
  unfold dH;rw [if_pos rfl]
theorem cU.tK {c:Cx} (hsub:∀ b,c.Rt b->c.Ra b) {st st':Bool} (hst:st'=true->st=true) {k:LK} {v:Value} {x:AV} (h:cU c.T c.w (c.Q st) k v x):cU c.T c.w (c.Q st') k v x :=
 h.mono (fun b hb=>by
  unfold Cx.Q at hb ⊢
  cases st' with
  | true=>have:=hst rfl;subst this;exact hb
  | false=>simp only [Bool.false_eq_true,if_false];split at hb;exact hsub b hb;exact hb) (fun _ _=>rfl)
theorem RC.tK {c:Cx} (hsub:∀ b,c.Rt b->c.Ra b) {st st':Bool} (hst:st'=true->st=true) {T:TI} {l:List AV} {cs:List Value} (h:RC c.T c.w (c.Q st) T l cs):RC c.T c.w (c.Q st') T l cs :=
 fun i j k hi hk v hv=>(h i j k hi hk v hv).tK hsub hst
theorem RC.nt {c:Cx} {st:Bool} {T:TI} {l:List AV} {cs:List Value} (h:RC c.T c.w (c.Q st) T l cs):RC c.T c.w (c.Q (T.flat||st)) T l cs:=by
 cases hf:T.flat with
 | true=>exact h.flat hf
 | false=>exact h
theorem RC.append {T:Nat->Option TI} {w:World} {Q:Nat->Prop} {D:TI} {l l':List AV} {cs cs':List Value} (h:RC T w Q D l cs) (h':RC T w Q D l' cs') (hl:cs.length=l.length*D.sz):RC T w Q D (l++l') (cs++cs'):=by
 intro i j k hi hk v hv
 have hj:j<D.sz:=(List.getElem?_eq_some_iff.mp hk).1
 by_cases hil:i<l.length
 ·rw [List.getElem?_append_left (by rw [hl];exact uE hil hj)] at hv
  rw [List.getD_eq_getElem?_getD,List.getElem?_append_left hil,<- List.getD_eq_getElem?_getD]
  exact h i j k hil hk v hv
 ·have hge:l.length*D.sz<=i*D.sz+j:=Nat.le_trans (Nat.mul_le_mul_right _ (by omega)) (Nat.le_add_right _ _)
  rw [List.getElem?_append_right (by rw [hl];exact hge),hl] at hv
  rw [List.getD_eq_getElem?_getD,List.getElem?_append_right (by omega),<- List.getD_eq_getElem?_getD]
  refine h' (i-l.length) j k (by rw [List.length_append] at hi;omega) hk v ?_
  have hidx:(i-l.length)*D.sz+j=i*D.sz+j-l.length*D.sz:=by
   have hle:l.length*D.sz<=i*D.sz:=Nat.mul_le_mul_right _ (by omega)
   rw [Nat.sub_mul];omega
  rw [hidx];exact hv
theorem qm {T:Nat->Option TI} (hE:E.T=T) (h:Rel E s a w β Rt Ra) {e:Nat} {D:TI} (hD:T e=some D) {y:SV} {v:Value} (hy:S2 (bg E s w β Rt Ra) y v) {l:List AV} {st:Bool} (hns:∀ b,y ≠ .str b) (ht:kT s e D y=some (l,st)) :
  ∃ cs:List Value,cs.length=l.length*D.sz/\RC E.T w ((bg E s w β Rt Ra).Q st) D l cs/\l.length<=maxLen/\((v = .slice none 0 0/\l=[])∨∃ ad c,v = .slice (some ad) l.length c/\∀ (j:Nat) u,cs[j]? = some u->w.cell? (ad.add j)=some u):=by
 unfold kT at ht
 split at ht
 ·cases ht
  exact ⟨[],by simp,fun i j k hi=>by simp at hi,Nat.zero_le _,.inl ⟨hy,rfl⟩⟩
 ·exact absurd rfl (hns _)
 ·split at ht
  ·rename_i e' l0 st0 hl
   cases hb:Nat.beq e e' with
   | false=>rw [hb] at ht;cases ht
   | true =>
    rw [hb] at ht;simp only [cond_true,Option.some.injEq,Prod.mk.injEq] at ht
    obtain ⟨rfl,rfl⟩:=ht
    have:=Nat.eq_of_beq_eq_true hb;subst this
    have hTD:E.T e=some D:=by rw [hE];exact hD
    unfold vU at hl
    split at hl
    ·cases hl
     have hr:cU E.T w ((bg E s w β Rt Ra).Q st0) (.sl e) v (.sl l0):=hy
     cases hr with
     | slnil _ _ hl0=>simp only [AV.l] at hl0;subst hl0;exact ⟨[],by simp,fun i j k hi=>by simp at hi,Nat.zero_le _,.inl ⟨rfl,rfl⟩⟩
     | sl _ T' ad m c _ cs hT' h2 h2' h2'' h3 h4 h5 =>
      simp only [AV.l] at h2 h5;subst h2
      rw [hTD] at hT';cases hT'
      exact ⟨cs,h3,RC.nt (c:=bg E s w β Rt Ra) h5,Nat.le_trans h2' h2'',.inr ⟨ad,c,rfl,fun j u hj=>(h4 j u hj).2⟩⟩
    ·rename_i t _ _
     split at hl
     ·rename_i e1 l1 st1 hob
      cases hl
      obtain ⟨T',cs,hT',hsz,hown,hrc⟩:=h.objs t _ hob
      have:T'=D:=by have h':E.T e=some T':=hT';rw [hTD] at h';cases h';rfl
      subst this
      obtain ⟨hd,hv,_⟩:=hy
      rcases eg hown with ⟨hv0,hn0⟩|⟨g,cap,hv0,hnc,hcm⟩
      ·have:=List.eq_nil_of_length_eq_zero hn0;subst this
       exact ⟨[],by simp,fun i j k hi=>by simp at hi,Nat.zero_le _,.inl ⟨hv.trans hv0,rfl⟩⟩
      ·refine ⟨cs,hown.1,RC.nt (c:=bg E s w β Rt Ra) hrc,Nat.le_trans hnc hcm,.inr ⟨⟨g,0,none⟩,cap,hv.trans hv0,fun j u hj => ?_⟩⟩
       rw [add_plain,Nat.zero_add];rw [hv0] at hown;exact eS hown j u hj
     ·cases hl
    ·rename_i t lo hi _ _
     split at hl
     ·rename_i e1 l1 st1 hob
      cases hl
      obtain ⟨T',cs,hT',hsz,hown,hrc⟩:=h.objs t _ hob
      have:T'=D:=by have h':E.T e=some T':=hT';rw [hTD] at h';cases h';rfl
      subst this
      obtain ⟨hd,g0,g1,hv⟩:=hy
      rcases hv with ⟨hv0,hh,hv⟩|⟨g,n,cap,ad,hv0,g2,hv,had⟩
      ·have hl1:(iz l1 lo hi)=[]:=by
        apply List.eq_nil_of_length_eq_zero;unfold iz;rw [List.length_drop,List.length_take];omega
       rw [hl1]
       exact ⟨[],by simp,fun i j k hi=>by simp at hi,Nat.zero_le _,.inl ⟨hv,rfl⟩⟩
      ·have hv0':(β t).v = .slice (some ⟨g,0,none⟩) n cap:=hv0
       rw [hv0'] at hown
       have hn:n=l1.length:=by
        rcases eg hown with ⟨h',_⟩|⟨_,_,h',_⟩
        ·cases h'
        ·cases h';rfl
       subst hn
       have hlen:=qY l1 lo hi g0 g1 (by omega)
       have hmax:l1.length<=maxLen:=by
        rcases eg hown with ⟨h',_⟩|⟨_,_,h',h1,h2⟩
        ·cases h'
        ·omega
       refine ⟨(cs.take (hi.toNat*T'.sz)).drop (lo.toNat*T'.sz),?_,?_,by omega,.inr ⟨ad,_,by rw [hlen];exact hv,fun j u hj => ?_⟩⟩
       ·rw [List.length_drop,List.length_take,hown.1,hlen]
        have:hi.toNat*T'.sz<=l1.length*T'.sz:=Nat.mul_le_mul_right _ (by omega)
        rw [Nat.min_eq_left this,<- Nat.sub_mul];congr 1;omega
       ·refine RC.nt (c:=bg E s w β Rt Ra) fun i j k hi' hk u hj => ?_
        rw [List.getElem?_drop,List.getElem?_take] at hj
        split at hj
        ·rw [sk l1 lo hi i g0 hi']
         refine hrc (lo.toNat+i) j k (by omega) hk u ?_
         rw [Nat.add_mul,Nat.add_assoc];exact hj
        ·cases hj
       ·rw [List.getElem?_drop,List.getElem?_take] at hj
        split at hj
        ·rename_i hlt
         have hne:lo<hi:=by
          have h1:=(List.getElem?_eq_some_iff.mp hj).1
          have:lo.toNat*T'.sz<hi.toNat*T'.sz:=by omega
          have:=Nat.lt_of_mul_lt_mul_right this
          omega
         have had':ad=⟨g,lo.toNat*(β t).sz,none⟩:=had hne
         rw [had',hsz,add_plain]
         exact eS hown _ u hj
        ·cases hj
     ·cases hl
    ·cases hl
  ·cases ht
theorem zL {T:Nat->Option TI} {w:World} {Q:Nat->Prop} {D:TI} {l:List AV} {cs:List Value} (h:RC T w Q D l cs) (hlen:cs.length=l.length*D.sz) (hpos:0<D.sz):∀ u∈cs,u.oneCell'=true:=by
 intro u hu
 obtain ⟨q,hq⟩:=List.getElem?_of_mem hu
 have hlt:=(List.getElem?_eq_some_iff.mp hq).1
 have hdiv:q=q / D.sz*D.sz+q % D.sz:=by rw [Nat.mul_comm];exact (Nat.div_add_mod q D.sz).symm
 have hmod:q % D.sz<D.lv.length:=Nat.mod_lt q hpos
 have hi:q / D.sz<l.length:=Nat.div_lt_of_lt_mul (by rw [Nat.mul_comm,<- hlen];exact hlt)
 exact (h (q / D.sz) (q % D.sz) _ hi (List.getElem?_eq_getElem hmod) u (by rw [<- hdiv];exact hq)).one
theorem lJ {n m b:Nat} {k:Option R} (h:room n m b k=some r):(n+m)*b<=140737488355328/\k=some r:=by
 obtain ⟨h1,h2⟩:=b8 h
 exact ⟨by simpa using h1,h2⟩
theorem dJ (b:ByteArray):(dB b).length=b.size:=by unfold dB;rw [List.length_map,Array.length_toList];rfl
theorem sr {C:Cfg R} {q:Bool} (hP:Ok P C.ty) (hE:E.T=C.ty) (h:Rel E s a w β Rt Ra) {c:Call} (ho:o.op = .call c) (hb:c.callee = .builtin .append) {x y:Operand} (hx:c.args.toList=[x,y]) (hk:cN C q s o.dst .append c.args.toList c.argTypes.toList o.type κ = some r):db P E o a w κ r:=by
 rw [hx] at hk;unfold cN at hk;simp only at hk
 have h1:=bH h x;have h2:=bH h y
 split at hk
 ·rename_i t u hts
  have hat:c.argTypes = #[t,u]:=by apply Array.ext';simpa using hts
  unfold qC at hk
  split at hk
  ·cases hk
  ·rename_i S hS
   cases hsl:S.sl with
   | false=>rw [hsl] at hk;cases hk
   | true =>
    rw [hsl] at hk;simp only [Bool.not_true,cond_false] at hk
    have hut:=(hP.ty t S hS).slice hsl
    split at hk
    ·cases hk
    ·rename_i T hT
     have hty:=hP.ty _ T hT
     have hET:E.T S.elem=some T:=by rw [hE];exact hT
     obtain ⟨i,z,hi,hsz,hby,hz,hzero,_⟩:=hty.info
     have hzs:z.cells.size=T.sz:=by have:=hzero.len;simp at this;exact this.symm
     split at hk
     ·cases hk
     ·rename_i l' st' htl
      cases q with
      | true=>cases hk
      | false =>
       simp only [cond_false] at hk
       cases hok:rk C t u T (ev s y) with
       | false=>rw [hok] at hk;cases hk
       | true =>
       rw [hok] at hk;simp only [Bool.not_true,cond_false] at hk
       obtain ⟨d,news,hud,hdd,hlen,hrc,hlo,hf,hf'⟩:∃ (d:TypeDesc) (news:List Value),P.underlying u=some d/\((∃ e',d = .slice e')∨d = .string)/\news.length=l'.length*T.sz/\RC E.T w ((bg E s w β Rt Ra).Q st') T l' news/\(Builtin.lenOf (a.eval y)).run P w = .ok l'.length w/\(Builtin.firstCells T.sz l'.length (a.eval y)).run P w = .ok news.toArray w/\(Builtin.firstCells T.sz l'.length (a.eval y)).run P w.drew = .ok news.toArray w.drew:=by
        by_cases hstr:∃ b,ev s y = .str b
        ·obtain ⟨b,hb'⟩:=hstr
         rw [hb'] at htl h2 hok
         have ey:=gP h2
         unfold kT at htl
         simp only at htl
         by_cases hlv:T.lv=[.int .u8]
         ·simp only [hlv,decide_true,cond_true,Option.some.injEq,Prod.mk.injEq] at htl
          obtain ⟨rfl,rfl⟩:=htl
          have hs1:T.sz=1:=by unfold TI.sz;rw [hlv];rfl
          unfold rk at hok
          simp only [Bool.and_eq_true,Bool.not_eq_true'] at hok
          obtain ⟨hag,hok⟩:=hok
          split at hok
          ·rename_i U hU
           have hUs:=hok
           ·skip
            have hcells:(Builtin.firstCells T.sz (dB b).length (.string b))=(Builtin.firstCells 1 b.size (.string b)):=by rw [hs1,dJ]
            have hfc:∀ w:World,(Builtin.firstCells 1 b.size (.string b)).run P w = .ok (b.data.map fun x=>Value.int .u8 x.toNat) w:=by
             intro w
             simp only [Builtin.firstCells,Sem.run_pure]
             have:b.extract 0 b.size=b:=by apply ByteArray.ext;rw [ByteArray.data_extract];exact Array.extract_size
             rw [this]
            refine ⟨.string,b.data.toList.map fun x=>Value.int .u8 x.toNat,fa hP hU hUs,.inr rfl,by rw [dJ,hs1,List.length_map,Array.length_toList,Nat.mul_one];rfl,fun i j k hi' hk' v hv => ?_,by rw [ey,dJ];rfl,by rw [ey,hcells,hfc];congr 1;apply Array.ext';simp,by rw [ey,hcells,hfc];congr 1;apply Array.ext';simp⟩
            rw [hlv] at hk'
            cases j with
            | succ j=>simp at hk'
            | zero =>
             simp only [List.getElem?_cons_zero,Option.some.injEq] at hk';subst hk'
             rw [hs1,Nat.mul_one,Nat.add_zero,List.getElem?_map] at hv
             cases hbi:b.data.toList[i]? with
             | none=>rw [hbi] at hv;cases hv
             | some xb =>
              rw [hbi] at hv;simp only [Option.map_some,Option.some.injEq] at hv;subst hv
              have:lf T.agg ((dB b).getD i .no) 0 = .int xb.toNat:=by
               unfold lf;rw [hag];simp only [cond_false]
               unfold dB
               rw [List.getD_eq_getElem?_getD,List.getElem?_map,hbi];rfl
              rw [this];exact .int .u8 (.int xb.toNat)
          ·cases hok
         ·simp [hlv] at htl
        ·have hns:∀ b,ev s y ≠ .str b:=fun b e=>hstr ⟨b,e⟩
         obtain ⟨cs,hcl,hrc,hmx,hv⟩:=qm hE h hT h2 hns htl
         have htu:t=u:=by
          unfold rk at hok;split at hok
          ·rename_i b e;exact absurd e (hns b)
          ·exact Nat.eq_of_beq_eq_true hok
         subst htu
         refine ⟨_,cs,hut,.inl ⟨_,rfl⟩,hcl,hrc,?_⟩
         rcases hv with ⟨hv,rfl⟩|⟨ad,cp,hv,hcell⟩
         ·have hn:cs=[]:=List.eq_nil_of_length_eq_zero (by simpa using hcl)
          subst hn
          rw [hv];exact ⟨rfl,rfl,rfl⟩
         ·rw [hv]
          exact ⟨rfl,run_firstCells_some w T.sz _ ad _ cp cs hcl hcell,run_firstCells_some w.drew T.sz _ ad _ cp cs hcl (by simpa using hcell)⟩
       have h1c:=zL hrc hlen hty.pos
       have hbp:∀ n:Nat,(n+l'.length)*T.bytes<=140737488355328->n+l'.length<=maxLen/\(n+l'.length)*i.bytes<=140737488355328:=by
        intro n hn
        refine ⟨?_,by rw [hby];exact hn⟩
        have:n+l'.length<=(n+l'.length)*T.bytes:=Nat.le_mul_of_pos_right _ hty.bpos
        simp only [maxLen];omega
       have hrun:∀ v' w',(Builtin.append_ #[t,u] o.type #[a.eval x,a.eval y]).run P w = .ok v' w'->(execOp a.eval o).run P w = .ok (.value v') w':=by
        intro v' w' hr
        rw [eB ho hb,jR hx,hat]
        simp only [builtin,List.map_toArray,List.map_cons,List.map_nil,Sem.run_bind,hr];rfl
       split at hk
       ·rename_i ex
        rw [ex] at h1
        have ev0:a.eval x = .slice none 0 0:=h1
        obtain ⟨hroom,hk⟩:=lJ hk
        obtain ⟨hm1,hm2⟩:=hbp 0 hroom
        obtain ⟨v',w',hr,hown',hfr,hblk⟩:=iN (ty:=o.type) hut hud hdd hi hz hsz hzs hty.pos hlo hf hf' hlen h1c (qa w false S.elem T.sz) hm2 hm1
        have hg:jh w w':=⟨hfr.os,hfr.tape,hfr.output,hfr.size,fun b hb' _=>hfr.block b hb' (by simp [Value.ownBlock])⟩
        have h3:=h.ig hg
        intro next Q hn
        refine dc (hrun v' w' (by rw [ev0];exact hr)) (hn _ _ _ hk ?_)
        rw [Nat.zero_add,List.nil_append] at hown'
        refine h3.qB hET hown' (hrc.mono (fun _ h=>h) (fun b hq=>hg.block b (h.rlt b (AF _ h.sub _ b hq)) id)) (fun b hb' => ?_) o.dst
        obtain ⟨hb1,hb2⟩:=hblk b hb'
        have hb3:w.heap.size<=b:=by rcases hb2 with hb2|hb2;(simp [Value.ownBlock] at hb2);exact hb2
        exact ⟨fun hr=>by have:=h.rlt b hr;omega,.inl (Nat.le_trans h.fr.size hb3),fun t o' ho' hbb=>by have:=(h.cx t o' ho' b hbb).1;omega⟩
       ·rename_i k ek
        rw [ek] at h1
        obtain ⟨hd,ev0,_,harr⟩:_/\a.eval x=_/\_/\(β k).arr=false:=h1
        have ev1:a.eval x=(β k).v:=ev0
        split at hk
        ·rename_i e l st hob
         cases hbe:Nat.beq e S.elem with
         | false=>rw [hbe] at hk;cases hk
         | true =>
          rw [hbe] at hk;simp only [cond_true] at hk
          have:=Nat.eq_of_beq_eq_true hbe;subst this
          obtain ⟨hroom,hk2⟩:=lJ hk
          obtain ⟨hm1,hm2⟩:=hbp l.length hroom
          obtain ⟨T',cs,hT',hsz',hown,hrcx⟩:=h.objs k _ hob
          have hTT:T'=T:=by have h':E.T S.elem=some T':=hT';rw [hET] at h';cases h';rfl
          subst hTT
          have hown:dO w (β k).arr S.elem T'.sz (β k).v l.length cs:=hown
          rw [harr] at hown
          obtain ⟨v',w',hr,hown',hfr,hblk⟩:=iN (ty:=o.type) hut hud hdd hi hz hsz hzs hty.pos hlo hf hf' hlen h1c hown hm2 hm1
          have hkb:=h.cx k _ hob
          have hself:∀ b,(β k).v.ownBlock=some b->b∈bK (β k) (.row S.elem l st):=fun b hb'=>by simp [bK,hb']
          have hlost:=h.zr k
          have hoth:∀ t o',((s.kill k).drop k).obj t=some o'->∃ o1,s.obj t=some o1/\t≠k/\bK (β t) o'=bK (β t) o1:=by
           intro t o' ho'
           obtain ⟨hn,o1,ho1,rfl⟩:=dw ho'
           exact ⟨o1,ho1,hn,e7 _ _ _⟩
          have h3:=hlost.world hfr (fun b hb'=>⟨(hkb b (hself b hb')).2.1,(hkb b (hself b hb')).2.2,fun t o' ho' hbb=>by
           obtain ⟨o1,ho1,hn,he⟩:=hoth t o' ho'
           rw [he] at hbb
           exact h.apart k _ t o1 hob ho1 (Ne.symm hn) b (hself b hb') hbb⟩)
          intro next Q hn
          refine dc (hrun v' w' (by rw [ev1];exact hr)) (hn _ _ _ hk2 ?_)
          rw [<- List.length_append] at hown'
          have hsame:∀ st2 b,(bg E s w β Rt Ra).Q st2 b->w'.heap[b]? = w.heap[b]? := fun st2 b hq=>by
           have hra:=AF _ h.sub _ b hq
           exact hfr.block b (h.rlt b hra) (fun hb'=>(hkb b (hself b hb')).2.1 hra)
          have hrcs:RC E.T w' ((bg E ((s.kill k).drop k) w' β Rt Ra).Q (st&&st')) T' (l++l') (cs++news):=by
           refine RC.append ?_ ?_ hown.1
           ·exact (hrcx.tK (c:=bg E s w β Rt Ra) h.sub (st':=st&&st') (fun e=>by rw [Bool.and_eq_true] at e;exact e.1)).mono (fun _ h=>h) (hsame _)
           ·exact (RC.tK (c:=bg E s w β Rt Ra) h.sub (st:=st') (st':=st&&st') (fun e=>by rw [Bool.and_eq_true] at e;exact e.2) hrc).mono (fun _ h=>h) (hsame _)
          refine h3.qB hET hown' hrcs (fun b hb' => ?_) o.dst
          obtain ⟨hb1,hb2⟩:=hblk b hb'
          rcases hb2 with hb2|hb2
          ·refine ⟨(hkb b (hself b hb2)).2.1,(hkb b (hself b hb2)).2.2,fun t o' ho' hbb => ?_⟩
           obtain ⟨o1,ho1,hn,he⟩:=hoth t o' ho'
           rw [he] at hbb
           exact h.apart k _ t o1 hob ho1 (Ne.symm hn) b (hself b hb2) hbb
          ·refine ⟨fun hr=>by have:=h.rlt b hr;omega,.inl (Nat.le_trans h.fr.size hb2),fun t o' ho' hbb => ?_⟩
           obtain ⟨o1,ho1,hn,he⟩:=hoth t o' ho'
           rw [he] at hbb
           have:=(h.cx t o1 ho1 b hbb).1;omega
        ·cases hk
       ·cases hk
 ·cases hk
end
end Go.Proofs.Ab
namespace Go.Proofs.Ab
open Go
variable {R:Type}
section
variable {P:Program} {E:Env} {o:Oper} {s:St} {a:Act} {w w':World} {β : Nat->Bl} {Rt Ra:Nat->Prop} {κ : St->Option R} {r:R}
theorem lh {c:Cx} {k:LK} {y:SV} {u:Value} (hf:fits k y=true) (h:SL c y u):cU c.T c.w (c.Q (xJ y)) k u (cG y):=by
 cases k <;> cases y <;> first
  | (simp [fits] at hf;done)
  | skip
 ·rename_i k k' n
  have:k=k':=by simpa [fits] using hf
  subst this
  have e:u = .int k n:=h
  subst e;exact .int k (.int n)
 ·have e:u=_:=h
  subst e;exact .bool (.bool _)
 ·have e:u=_:=h
  subst e;exact .str (.str _)
 ·have e:u = .slice none 0 0:=h
  subst e;exact .slnil _ _ rfl
 ·rename_i e e' l st
  have:=Nat.eq_of_beq_eq_true hf;subst this
  exact h
theorem uh {k:LK} {y:SV} (hf:fits k y=true):known y=true:=by
 cases k <;> cases y <;> first|rfl|(simp [fits] at hf)
theorem ft:∀ {ks:List LK} {l:List SV},fitAll ks l=true->PW (fun k y=>fits k y=true) ks l
 | [],[],_=>trivial
 | k::ks,v::vs,h=>by
  simp only [fitAll,Bool.and_eq_true] at h
  exact ⟨h.1,ft h.2⟩
 | [],_::_,h=>by simp [fitAll] at h
 | _::_,[],h=>by simp [fitAll] at h
theorem fj {ks:List LK} {l:List SV} (h:fitAll ks l=true):l.all known=true:=by
 have:=ft h
 clear h
 induction ks generalizing l with
 | nil=>cases l with
  | nil=>rfl
  | cons _ _=>exact this.elim
 | cons k ks ih=>cases l with
  | nil=>exact this.elim
  | cons v vs=>simp only [List.all_cons,Bool.and_eq_true];exact ⟨uh this.1,ih this.2⟩
theorem ql {l:List SV} (h:kS l=true):∀ y∈l,xJ y=true:=by
 induction l with
 | nil=>intro y hy;cases hy
 | cons v vs ih =>
  simp only [kS,Bool.and_eq_true] at h
  intro y hy
  rcases List.mem_cons.mp hy with rfl|hy
  ·exact h.1
  ·exact ih h.2 y hy
theorem j' {c:Cx} (hsub:∀ b,c.Rt b->c.Ra b) {T:TI} {x:SV} {d:AV} {st:Bool} (h:jw T x=some (d,st)) {v:Value} (hx:S2 c x v) :
  v.cells.size=T.sz/\∀ (j:Nat) k,T.lv[j]? = some k->∀ u,v.cells[j]? = some u->cU c.T c.w (c.Q st) k u (lf T.agg d j):=by
 unfold jw at h
 cases hf:fitAll T.lv (leaves x) with
 | false=>rw [hf] at h;cases h
 | true =>
  rw [hf] at h;simp only [cond_true] at h
  have hpw:=fx hx (fj hf)
  have hfp:=ft hf
  have hlen:T.lv.length=(leaves x).length:=hfp.len
  refine ⟨by have:=hpw.len;simp at this;rw [<- this,<- hlen];rfl,fun j k hk u hu => ?_⟩
  have hjl:j<(leaves x).length:=by rw [<- hlen];exact (List.getElem?_eq_some_iff.mp hk).1
  have hy:(leaves x)[j]? = some (leaves x)[j]:=List.getElem?_eq_getElem hjl
  have hfit:=hfp.get hk hy
  have hsl:SL c (leaves x)[j] u:=hpw.get hy (by simpa using hu)
  have hd:=lh hfit hsl
  cases ha:T.agg with
  | true =>
   rw [ha] at h;simp only [cond_true] at h
   split at h
   ·rename_i l
    simp only [Option.some.injEq,Prod.mk.injEq] at h
    obtain ⟨rfl,rfl⟩:=h
    have e:lf true (.agg (l.map cG)) j=cG ((leaves (.agg l))[j]):=by
     show (l.map cG).getD j .no=_
     have hjl':j<l.length:=hjl
     simp [List.getD_eq_getElem?_getD,hjl',leaves]
    rw [e]
    exact hd.tK hsub fun e=>ql e _ (List.getElem_mem hjl)
   ·cases h
  | false =>
   rw [ha] at h;simp only [cond_false] at h
   split at h
   ·cases h
   ·rename_i hna
    simp only [Option.some.injEq,Prod.mk.injEq] at h
    obtain ⟨rfl,rfl⟩:=h
    have hl1:leaves x=[x]:=by cases x <;> first|rfl|exact absurd rfl (hna _)
    have hj0:j=0:=by rw [hl1] at hjl;simpa using hjl
    subst hj0
    have e:(leaves x)[0]=x:=by simp [hl1]
    rw [e] at hd
    exact hd
theorem pr {c:Cx} (hsub:∀ b,c.Rt b->c.Ra b) {T:TI}:∀ (xs:List SV) (vs:List Value) (m:Nat) (cells:Array Value) (l:List AV) (st st1:Bool),rowOf T xs=some (l,st1)->(st=true->st1=true)->PW (S2 c) xs vs->(m+xs.length)*T.sz<=cells.size ->
  ∃ cells',Instr.fill (fun i=>some (i*T.sz,T.sz)) cells ((List.range' m xs.length).zip vs)=some cells'/\cells'.size=cells.size/\l.length=xs.length/\(∀ q,q<m*T.sz->cells'[q]? = cells[q]?) /\
   ∀ (i j:Nat) k,i<xs.length->T.lv[j]? = some k->∀ v,cells'[(m+i)*T.sz+j]? = some v->cU c.T c.w (c.Q st) k v (lf T.agg (l.getD i .no) j)
 | [],[],m,cells,l,st,st1,h,_,_,_=>by
  simp only [rowOf,Option.some.injEq,Prod.mk.injEq] at h
  obtain ⟨rfl,rfl⟩:=h
  exact ⟨cells,rfl,rfl,rfl,fun _ _=>rfl,fun i j k hi=>by simp at hi⟩
 | x::xs,v::vs,m,cells,l,st,st1,h,hst,hp,hsz=>by
  unfold rowOf at h
  split at h
  ·rename_i d st2 l2 st3 hd hr
   simp only [Option.some.injEq,Prod.mk.injEq] at h
   obtain ⟨rfl,rfl⟩:=h
   obtain ⟨hvs,hvr⟩:=j' hsub hd hp.1
   simp only [List.length_cons] at hsz
   have hm1:m*T.sz+T.sz<=cells.size:=by
    have:(m+1)*T.sz<=(m+(xs.length+1))*T.sz:=Nat.mul_le_mul_right _ (by omega)
    rw [Nat.add_mul,Nat.one_mul] at this;omega
   have hcl:=lk (m*T.sz) v.cells cells
   have hcs:(v.cells.zipIdx.foldl (fun cs (p:Value × Nat)=>cs.setIfInBounds (m*T.sz+p.2) p.1) cells).size=cells.size:=by
    rw [<- Array.length_toList,hcl,fP];simp
   obtain ⟨cells',h1,h2,h3,h4,h5⟩:=pr hsub xs vs (m+1) _ l2 st st3 hr (fun e=>by have:=hst e;rw [Bool.and_eq_true] at this;exact this.2) hp.2 (by rw [hcs];rw [show m+1+xs.length=m+(xs.length+1) by omega];exact hsz)
   refine ⟨cells',?_,h2.trans hcs,by simp [h3],fun q hq => ?_,fun i j k hi hk u hu => ?_⟩
   ·rw [show (x::xs).length=xs.length+1 from rfl,List.range'_succ,List.zip_cons_cons]
    unfold Instr.fill
    simp only
    rw [if_neg (by simp only [hvs,ne_eq,not_true_eq_false,decide_false,Bool.false_or,gt_iff_lt,decide_eq_true_eq];omega)]
    exact h1
   ·rw [h4 q (by rw [Nat.add_mul];omega),<- Array.getElem?_toList,hcl,fO,if_neg (by omega),Array.getElem?_toList]
   ·have hj:j<T.sz:=(List.getElem?_eq_some_iff.mp hk).1
    cases i with
    | zero =>
     rw [Nat.add_zero,h4 _ (by rw [Nat.add_mul,Nat.one_mul];omega),<- Array.getElem?_toList,hcl,fO,if_pos ⟨by omega,by simp [hvs];omega,by simp;omega⟩] at hu
     rw [show m*T.sz+j-m*T.sz=j by omega] at hu
     have:=hvr j k hk u (by simpa using hu)
     simp only [List.getD_cons_zero]
     exact this.tK hsub fun e=>by have:=hst e;rw [Bool.and_eq_true] at this;exact this.1
    | succ i =>
     simp only [List.getD_cons_succ]
     exact h5 i j k (by simpa using hi) hk u (by rw [show m+1+i=m+(i+1) by omega];exact hu)
  ·cases h
 | [],_::_,_,_,_,_,_,_,_,hp,_=>hp.elim
 | _::_,[],_,_,_,_,_,_,_,hp,_=>hp.elim
theorem oI {α β : Type} (f : α -> β):∀ (l:List (Nat × α)) (m:Nat),l.map (·.1)=List.range' m l.length->(List.range' m l.length).zip (l.map fun p=>f p.2)=l.map fun p=>(p.1,f p.2)
 | [],_,_=>rfl
 | p::l,m,h=>by
  simp only [List.map_cons,List.length_cons,List.range'_succ,List.cons.injEq] at h
  simp only [List.length_cons,List.range'_succ,List.map_cons,List.zip_cons_cons]
  rw [oI f l (m+1) h.2,h.1]
theorem mB {C:Cfg R} {q:Bool} (hP:Ok P C.ty) (hE:E.T=C.ty) (h:Rel E s a w β Rt Ra) {t n:Nat} {ps:Array (Nat × Operand)} (ho:o.op = .buildSlice t n ps) (hk:df C q o s κ = some r):db P E o a w κ r:=by
 unfold df at hk;rw [ho] at hk;simp only at hk
 split at hk
 ·rename_i S hS
  cases hsl:S.sl with
  | false=>rw [hsl] at hk;cases hk
  | true =>
   rw [hsl] at hk;simp only [Bool.not_true,cond_false] at hk
   have hut:=(hP.ty t S hS).slice hsl
   split at hk
   ·rename_i T hT
    have hty:=hP.ty _ T hT
    have hET:E.T S.elem=some T:=by rw [hE];exact hT
    obtain ⟨i,z,hi,hsz,hby,hz,hzero,_⟩:=hty.info
    generalize hfz:(ps.toList.flatMap fun p=>owns (leaves (ev s p.2)))=fz at hk
    cases hq:(q && !fz.isEmpty) with
    | true=>rw [hq] at hk;cases hk
    | false =>
     rw [hq] at hk;simp only [cond_false] at hk
     obtain ⟨β1,Rt1,Ra1,h1⟩:=ci.eO fz ⟨β,Rt,Ra,h⟩
     generalize eO fz s=s1 at hk h1
     split at hk
     ·rename_i l st hrow
      cases hc:(Nat.beq l.length n&&decide ((ps.toList.map (·.1))=List.range n)&&decide (n*T.sz<=1000000)) with
      | false=>rw [hc] at hk;cases hk
      | true =>
       rw [hc] at hk;simp only [cond_true] at hk
       rw [Bool.and_eq_true,Bool.and_eq_true] at hc
       have hln:=Nat.eq_of_beq_eq_true hc.1.1
       have hix:ps.toList.map (·.1)=List.range n:=of_decide_eq_true hc.1.2
       have hsmall:n*T.sz<=1000000:=of_decide_eq_true hc.2
       have hpl:ps.toList.length=n:=by have:=congrArg List.length hix;simpa using this
       have hpw:PW (S2 (bg E s1 w β1 Rt1 Ra1)) (ps.toList.map fun p=>ev s1 p.2) (ps.toList.map fun p=>a.eval p.2):=iR _ _ (fun p=>bH h1 p.2) ps.toList
       have hg:=ew w
       intro next Q hn
       -- the cells
       have fin:∀ (cells:Array Value),cells.size=n*T.sz->RC E.T w ((bg E s1 w β1 Rt1 Ra1).Q (T.flat||st)) T l cells.toList->(Instr.buildSlice t n (ps.map fun p=>(p.1,a.eval p.2))).run P w = .ok (.slice (some ⟨w.heap.size,0,none⟩) n n) (w.alloc (.cells cells S.elem))->o.wp P a w next Q:=by
        intro cells hcs hrc hr
        refine dc (v := .slice (some ⟨w.heap.size,0,none⟩) n n) (w':=w.alloc (.cells cells S.elem)) (by unfold execOp;rw [ho];show (((Instr.buildSlice t n (ps.map fun p=>(p.1,a.eval p.2))) >>= fun v=>pure (Next.value v)).run P w)=_;rw [Sem.run_bind,hr];rfl) (hn _ _ _ hk ?_)
        have h2:=h1.ig (hg (.cells cells S.elem))
        have hown:dO (w.alloc (.cells cells S.elem)) false S.elem T.sz (.slice (some ⟨w.heap.size,0,none⟩) n n) l.length cells.toList:=by
         rw [hln]
         refine ⟨by simpa using hcs,.inr ⟨w.heap.size,n,cells,S.elem,(0,0),rfl,fun _=>rfl,heap_alloc_new w _,.inl rfl,Nat.le_refl _,?_,hcs,List.take_of_length_le (by rw [Array.length_toList,hcs];exact Nat.le_refl _)⟩⟩
         have:n<=n*T.sz:=Nat.le_mul_of_pos_right _ hty.pos
         simp only [maxLen];omega
        refine h2.qB hET hown (hrc.mono (fun _ h=>h) (fun b hq=>(hg _).block b (h1.rlt b (AF _ h1.sub _ b hq)) id)) (fun b hb => ?_) o.dst
        have hbe:b=w.heap.size:=by simpa [Value.ownBlock,eq_comm] using hb
        subst hbe
        exact ⟨fun hr=>Nat.lt_irrefl _ (h1.rlt _ hr),.inl h1.fr.size,fun t o' ho' hbb=>Nat.lt_irrefl _ (h1.cx t o' ho' _ hbb).1⟩
       by_cases hn0:n=0
       ·subst hn0
        have hps:ps = #[]:=by apply Array.ext';simpa using hpl
        have hl0:l=[]:=List.eq_nil_of_length_eq_zero hln
        subst hl0
        refine fin #[] (by simp) (fun i j k hi=>by simp at hi) ?_
        simp [Instr.buildSlice,run_underlying hut,dQ hty,hps,Instr.fill,newRow,Array.range_zero']
       ·have hpos:¬ n*T.sz=0:=by
         have:=hty.pos
         intro e;rcases Nat.mul_eq_zero.mp e with e|e <;> omega
        have hsz0:((Array.range (n*T.sz)).map (z.cells[· % z.cells.size]!)).size=n*T.sz:=by simp
        obtain ⟨cells,f1,f2,f3,_,f5⟩:=pr (c:=bg E s1 w β1 Rt1 Ra1) h1.sub _ _ 0 ((Array.range (n*T.sz)).map (z.cells[· % z.cells.size]!)) l st st hrow id hpw (by rw [List.length_map,hpl,Nat.zero_add,hsz0];exact Nat.le_refl _)
        refine fin cells (f2.trans hsz0) (RC.nt (c:=bg E s1 w β1 Rt1 Ra1) fun i j k hi hk v hv=>f5 i j k (by rw [<- f3];exact hi) hk v (by rw [Nat.zero_add];simpa using hv)) ?_
        refine run_buildSlice w t S.elem n _ cells i z hut hi hz (by rw [hsz];omega) (by rw [hsz];exact hpos) ?_
        rw [hsz,<- f1]
        congr 1
        rw [Array.toList_map,List.length_map]
        exact (oI a.eval ps.toList 0 (by rw [hix,hpl,List.range_eq_range'])).symm
     ·cases hk
   ·cases hk
 ·cases hk
end
end Go.Proofs.Ab
namespace Go.Proofs.Ab
open Go
variable {R:Type}
section
variable {P:Program} {E:Env} {o:Oper} {s:St} {a:Act} {w w':World} {β : Nat->Bl} {Rt Ra:Nat->Prop} {κ : St->Option R} {r:R}
theorem kP (s:St) (k:Nat) (o1 o2:Obj):(s.setObj k o1).setObj k o2=s.setObj k o2:=by
 simp only [St.setObj,List.map_map]
 congr 1
 apply List.map_congr_left
 intro p _
 simp only [Function.comp]
 cases h:Nat.beq k p.1 with
 | true=>simp only [cond_true,h]
 | false=>simp only [cond_false,h]
theorem Cx.Le.trans {c c' c'':Cx} (h:c.Le c') (h':c'.Le c''):c.Le c'' :=
 ⟨h'.T.trans h.T,fun st b hq=>h'.Q st b (h.Q st b hq),fun st b hq=>(h'.w st b (h.Q st b hq)).trans (h.w st b hq),fun t ht=>h'.D t (h.D t ht),fun t ht=>(h'.β t (h.D t ht)).trans (h.β t ht)⟩
theorem Rel.fR (h:Rel E s a w β Rt Ra) {k:Nat} {ob:Obj} (hob:s.obj k=some ob) (ob':Obj) (hf:Fr (fun b=>b∈bK (β k) ob) w w') (hb:∀ b∈bK (β k) ob',b∈bK (β k) ob)
  (hor:(bg E s w β Rt Ra).Le (bg E (s.setObj k ob') w' β Rt Ra)->OR (bg E (s.setObj k ob') w' β Rt Ra) (β k) ob'):Rel E (s.setObj k ob') a w' β Rt Ra:=by
 have hk:=h.cx k _ hob
 obtain ⟨h1,le1⟩:=h.toRelO.hole k
 have hh:(s.setObj k .hole).obj k=some .hole:=by rw [cQ,if_pos rfl,hob];rfl
 have hoth:∀ t o',(s.setObj k .hole).obj t=some o'->t=k∨(t≠k/\s.obj t=some o'):=by
  intro t o' ho'
  rw [cQ] at ho'
  split at ho'
  ·rename_i e;exact .inl e
  ·rename_i e;exact .inr ⟨e,ho'⟩
 have hnot:∀ b∈bK (β k) ob,∀ t o',(s.setObj k .hole).obj t=some o'->b ∉ bK (β t) o':=by
  intro b hbb t o' ho'
  rcases hoth t o' ho' with rfl|⟨hn,ho'⟩
  ·rw [hh] at ho';cases ho';simp [bK]
  ·exact h.apart k ob t o' hob ho' (Ne.symm hn) b hbb
 obtain ⟨h2,le2⟩:=h1.world (w':=w') (fun b hr=>hf.block b (h.rlt b hr) (fun hx=>(hk b hx).2.1 hr)) (fun t o' ho' b hbb=>hf.block b (h1.cx t o' ho' b hbb).1 (fun hx=>hnot b hx t o' ho' hbb)) hf.size (h.fr.trans hf fun b hx=>(hk b hx).2.2)
 obtain ⟨h3,le3⟩:=h2.set k ob' hh (fun b hbb=>⟨Nat.lt_of_lt_of_le (hk b (hb b hbb)).1 hf.size,(hk b (hb b hbb)).2⟩) (fun b hbb=>hnot b (hb b hbb)) (fun le=>by
  rw [kP] at le ⊢
  exact hor ((le1.trans le2).trans le))
 rw [kP] at h3 le3
 exact ⟨h3,h.len,h.defers,ec ((le1.trans le2).trans le3) h.slots⟩
theorem wq {α : Type} (l:List α) (j:Nat) (vs:List α) (h:j+vs.length<=l.length):eW l j vs=l.take j++vs++l.drop (j+vs.length):=by
 apply List.ext_getElem?
 intro q
 rw [fO]
 by_cases h1:q<j
 ·rw [if_neg (by omega),List.append_assoc,List.getElem?_append_left (by simp;omega),List.getElem?_take,if_pos h1]
 ·by_cases h2:q<j+vs.length
  ·rw [if_pos ⟨by omega,h2,by omega⟩,List.append_assoc,List.getElem?_append_right (by simp;omega),List.getElem?_append_left (by simp;omega)]
   congr 1;simp;omega
  ·rw [if_neg (by omega),List.getElem?_append_right (by simp;omega),List.getElem?_drop]
   congr 1;simp;omega
theorem gj {P:Program} {t:Nat} {T:TI} (hty:TyOk P t T) {w:World} {g off q:Nat} {fz:Nat × Nat} {cur:Array Value} (hg:w.heap[g]? = some (.cells cur q fz)) (hfz:fz=(0,0)∨fz=(cur.size,cur.size+1)) {v:Value} (hv:v.cells.size=T.sz) (h1:∀ u∈v.cells.toList,u.oneCell'=true) (hfit:off+T.sz<=cur.size) :
  (Instr.storeAt t (.pointer (some ⟨g,off,none⟩)) v).run P w = .ok () (w.setRow g (eW cur.toList off v.cells.toList).toArray):=by
 have hl:v.cells.toList.length=T.sz:=by simpa using hv
 have hst:=eV P g off q fz v.cells.toList 0 cur w hg hfz (by rw [hl];simpa using hfit) h1
 simp only [Nat.add_zero] at hst
 rw [wq _ _ _ (by rw [hl,Array.length_toList];exact hfit)]
 simp only [Instr.storeAt,Instr.sureAddr,Sem.run_bind,Sem.run_pure,Result.andThen_ok,storeVar,dQ hty]
 rw [Sem.run_ite,if_neg (by rw [hv];simp)]
 exact hst
theorem lm {w:World} {g:Nat} {X:Nat->Prop} (hX:X g) (cs:Array Value):Fr X w (w.setRow g cs) :=
 ⟨rfl,rfl,rfl,by simp,fun b _ hn=>setRow_other w g b cs (fun e=>hn (by rw [e];exact hX))⟩
theorem oH {t:Nat} {x y:Operand} (ho:o.op = .store t x y) {next:Act->World->Prop} {Q:Exit->Act->World->Prop} (hr:(Instr.storeAt t (a.eval x) (a.eval y)).run P w = .ok () w') (hn:next (a.put o.dst undef) w'):o.wp P a w next Q:=by
 refine wp_skip rfl ?_ hn
 unfold execOp;rw [ho]
 show ((Instr.storeAt t (a.eval x) (a.eval y)) >>= fun _=>pure Next.skip).run P w=_
 rw [Sem.run_bind,hr];rfl
theorem cU.AK {T:Nat->Option TI} {Q:Nat->Prop} {k:LK} {v:Value} {x:AV} (st:Bool) (h:cU T w Q k v x):cU T w Q k v (cG (eta st k x)):=by
 cases h with
 | int k=>exact .int k (.int x.i)
 | bool=>exact .bool (.bool x.b)
 | str=>exact .str (.str x.s)
 | slnil e a h=>exact .slnil e _ h
 | sl e E ad n m a cs h1 h2 h2' h2'' h3 h4 h5=>exact .sl e E ad n m _ cs h1 h2 h2' h2'' h3 h4 h5
theorem B9 {S:SV->Value->Prop} {ls vs:List SV} {off:Nat} {m:List Value} (h:PW S (eW ls off vs) m):PW S (Af ls off vs) m:=by rw [rH];exact h
theorem uz {C:Cfg R} {q:Bool} (hP:Ok P C.ty) (hE:E.T=C.ty) (h:Rel E s a w β Rt Ra) {t:Nat} {x y:Operand} (ho:o.op = .store t x y) (hk:df C q o s κ = some r):db P E o a w κ r:=by
 unfold df at hk;rw [ho] at hk;simp only at hk
 have hx:=bH h x
 split at hk
 ·rename_i T hT
  have hty:=hP.ty t T hT
  split at hk
  ·rename_i k off ek
   rw [ek] at hx
   obtain ⟨hd,ex⟩:_/\a.eval x = .pointer (some ⟨(β k).b,off,none⟩):=hx
   split at hk
   ·rename_i ty ls hob
    cases hc:(Nat.beq (leaves (ev s y)).length T.sz&&(leaves (ev s y)).all known&&decide (off+T.sz<=ls.length)) with
    | false=>rw [hc] at hk;cases hk
    | true =>
     rw [hc] at hk;simp only [cond_true] at hk
     rw [Bool.and_eq_true,Bool.and_eq_true] at hc
     have hlen:=Nat.eq_of_beq_eq_true hc.1.1
     have hkn:=hc.1.2
     have hfit:off+T.sz<=ls.length:=of_decide_eq_true hc.2
     have hpw:=fx (bH h y) hkn
     obtain ⟨cs,qq,hg,hcs⟩:=h.objs k _ hob
     have hsz:(a.eval y).cells.size=T.sz:=by rw [<- hlen,hpw.len];simp
     have hfit':off+T.sz<=cs.size:=by have:=hcs.len;simp at this;omega
     have hone:∀ u∈(a.eval y).cells.toList,u.oneCell'=true:=by
      intro u hu
      obtain ⟨i,hi⟩:=List.getElem?_of_mem hu
      have hi2:i<(leaves (ev s y)).length:=by rw [hpw.len];exact (List.getElem?_eq_some_iff.mp hi).1
      have hg2:(leaves (ev s y))[i]? = some (leaves (ev s y))[i]:=List.getElem?_eq_getElem hi2
      exact iX (List.all_eq_true.mp hkn _ (List.getElem_mem hi2)) (hpw.get hg2 hi)
     intro next Q hn
     refine oH ho (w':=w.setRow (β k).b (eW cs.toList off (a.eval y).cells.toList).toArray) (by rw [ex];exact gj hty hg (.inl rfl) hsz hone hfit') (hn _ _ _ hk ?_)
     have h2:=h.fR hob (.var ty (Af ls off (leaves (ev s y)))) (lm (X:=fun b=>b∈bK (β k) (.var ty ls)) (w:=w) (g:=(β k).b) (by simp [bK]) _) (fun b hb=>hb) (fun le=>⟨_,qq,setRow_heap w _ _ _ _ _ hg,by
      exact B9 <| PW.eW off (hcs.imp fun _ _=>jP.le le) (PW.imp_mem (fun z hz v hv=>o3 (List.all_eq_true.mp hkn z hz) (SL.le le hv)) hpw)⟩)
     exact ⟨_,_,_,h2.put o.dst (x := .undef) (cB (cL rfl))⟩
   ·cases hk
  ·generalize owns (leaves (ev s y))=fz at hk
   cases hq:(q && !fz.isEmpty) with
   | true=>rw [hq] at hk;cases hk
   | false =>
    rw [hq] at hk;simp only [cond_false] at hk
    obtain ⟨β1,Rt1,Ra1,h1⟩:=ci.eO fz ⟨β,Rt,Ra,h⟩
    generalize eO fz s=s1 at hk h1
    have hx1:=bH h1 x
    split at hk
    ·rename_i k i off ek
     rw [ek] at hx1
     obtain ⟨hd,g0,g,n,cap,e1,e2,ex⟩:_/\_/\∃ g n cap,(β1 k).v=_/\_/\a.eval x = .pointer (some ⟨g,i.toNat*(β1 k).sz+off,none⟩):=hx1
     split at hk
     ·rename_i el l st hob
      obtain ⟨D,cs,hT',hsz',hown,hrc⟩:=h1.objs k _ hob
      have hTE:C.ty el=some D:=by rw [<- hE];exact hT'
      rw [hTE] at hk;simp only at hk
      cases hc:(Nat.beq (leaves (ev s1 y)).length T.sz&&decide (off+T.sz<=D.sz)&&fitAll ((D.lv.drop off).take T.sz) (leaves (ev s1 y))) with
      | false=>rw [hc] at hk;cases hk
      | true =>
       rw [hc] at hk;simp only [cond_true] at hk
       rw [Bool.and_eq_true,Bool.and_eq_true] at hc
       have hlen:=Nat.eq_of_beq_eq_true hc.1.1
       have hfit:off+T.sz<=D.sz:=of_decide_eq_true hc.1.2
       have hfa:=hc.2
       have hkn:=fj hfa
       have hfp:=ft hfa
       have hpw:=fx (bH h1 y) hkn
       have hvl:(a.eval y).cells.toList.length=T.sz:=by rw [<- hpw.len,hlen]
       rw [e1] at hown
       obtain ⟨hcl,hv⟩:=hown
       rcases hv with ⟨hv,_⟩|⟨g',cap',cur,q',fz,hv,hq',hg,hfz,hnc,hcm,hcs,htake⟩
       ·cases hv
       ·cases hv
        have hi:i.toNat<l.length:=by omega
        have hpos:i.toNat*D.sz+D.sz<=l.length*D.sz:=by
         have:(i.toNat+1)*D.sz<=l.length*D.sz:=Nat.mul_le_mul_right _ hi
         rw [Nat.add_mul,Nat.one_mul] at this;exact this
        have hcap:l.length*D.sz<=cap*D.sz:=Nat.mul_le_mul_right _ hnc
        have hfit':i.toNat*D.sz+off+T.sz<=cur.size:=by rw [hcs];omega
        have hone:∀ u∈(a.eval y).cells.toList,u.oneCell'=true:=by
         intro u hu
         obtain ⟨i,hi⟩:=List.getElem?_of_mem hu
         have hi2:i<(leaves (ev s1 y)).length:=by rw [hpw.len];exact (List.getElem?_eq_some_iff.mp hi).1
         have hg2:(leaves (ev s1 y))[i]? = some (leaves (ev s1 y))[i]:=List.getElem?_eq_getElem hi2
         exact iX (List.all_eq_true.mp hkn _ (List.getElem_mem hi2)) (hpw.get hg2 hi)
        intro next Q hn
        refine oH ho (w':=w.setRow g (eW cur.toList (i.toNat*D.sz+off) (a.eval y).cells.toList).toArray) (by rw [ex,hsz'];exact gj hty hg hfz (by simpa using hvl) hone hfit') (hn _ _ _ hk ?_)
        have hgb:g∈bK (β1 k) (.row el l st):=by simp [bK,e1,Value.ownBlock]
        have h2:=h1.fR hob (.row el (dW l i (nr D (bZ l i) off (leaves (ev s1 y)))) (D.flat||(st&&kS (leaves (ev s1 y))))) (lm (X:=fun b=>b∈bK (β1 k) (.row el l st)) (w:=w) (g:=g) hgb _) (fun b hb=>hb) (fun le=>by
         have hsl:(dW l i (nr D (bZ l i) off (leaves (ev s1 y)))).length=l.length:=by unfold dW;simp
         refine ⟨D,(eW cs (i.toNat*D.sz+off) (a.eval y).cells.toList),hT',hsz',?_,?_⟩
         ·rw [e1,hsl]
          refine ⟨by rw [fP];exact hcl,.inr ⟨g,cap,(eW cur.toList (i.toNat*D.sz+off) (a.eval y).cells.toList).toArray,q',fz,rfl,hq',setRow_heap w g cur _ q' _ hg,by rw [List.size_toArray,fP,Array.length_toList];exact hfz,hnc,hcm,by rw [List.size_toArray,fP,Array.length_toList];exact hcs,?_⟩⟩
          apply List.ext_getElem?
          intro p
          rw [<- htake]
          simp only [List.getElem?_take,fO,List.length_take,Array.length_toList,hcs]
          have hmin:min (l.length*D.sz) (cap*D.sz)=l.length*D.sz:=Nat.min_eq_left hcap
          rw [hmin]
          by_cases hp:p<l.length*D.sz
          ·simp only [if_pos hp]
           by_cases hc1:i.toNat*D.sz+off<=p/\p<i.toNat*D.sz+off+(a.eval y).cells.toList.length
           ·rw [if_pos ⟨hc1.1,hc1.2,by omega⟩,if_pos ⟨hc1.1,hc1.2,hp⟩]
           ·rw [if_neg (fun h=>hc1 ⟨h.1,h.2.1⟩),if_neg (fun h=>hc1 ⟨h.1,h.2.1⟩)]
          ·simp only [if_neg hp]
           rw [if_neg (fun h=>hp h.2.2)]
         ·have hrc':RC E.T w ((bg E s1 w β1 Rt1 Ra1).Q (D.flat||(st&&kS (leaves (ev s1 y))))) D (dW l i (nr D (bZ l i) off (leaves (ev s1 y)))) (eW cs (i.toNat*D.sz+off) (a.eval y).cells.toList):=by
           refine RC.nt (c:=bg E s1 w β1 Rt1 Ra1) fun i' j kk hi' hkk v hv => ?_
           rw [hsl] at hi'
           have hj:j<D.sz:=(List.getElem?_eq_some_iff.mp hkk).1
           rw [fO] at hv
           have hold:∀ u,cs[i'*D.sz+j]? = some u->cU E.T w ((bg E s1 w β1 Rt1 Ra1).Q (st&&kS (leaves (ev s1 y)))) kk u (lf D.agg (l.getD i' .no) j):=fun u hu =>
            cU.tK (c:=bg E s1 w β1 Rt1 Ra1) h1.sub (st:=st) (fun e=>by rw [Bool.and_eq_true] at e;exact e.1) (hrc i' j kk hi' hkk u hu)
           by_cases hii:i'=i.toNat
           ·subst hii
            have hget:(dW l i (nr D (bZ l i) off (leaves (ev s1 y)))).getD i.toNat .no=nr D (bZ l i) off (leaves (ev s1 y)):=by
             unfold dW;simp [List.getD_eq_getElem?_getD,hi]
            rw [hget]
            by_cases hin:off<=j/\j<off+T.sz
            ·rw [if_pos ⟨by omega,by rw [hvl];omega,by rw [hcl];exact uE hi hj⟩] at hv
             rw [show i.toNat*D.sz+j-(i.toNat*D.sz+off)=j-off by omega] at hv
             have hq2:j-off<(leaves (ev s1 y)).length:=by omega
             have hg2:(leaves (ev s1 y))[j-off]? = some (leaves (ev s1 y))[j-off]:=List.getElem?_eq_getElem hq2
             have hkk2:((D.lv.drop off).take T.sz)[j-off]? = some kk:=by
              rw [List.getElem?_take,if_pos (by omega),List.getElem?_drop,show off+(j-off)=j by omega];exact hkk
             have hd2:=(lh (hfp.get hkk2 hg2) (hpw.get hg2 hv)).tK (c:=bg E s1 w β1 Rt1 Ra1) h1.sub (st':=st&&kS (leaves (ev s1 y))) (fun e=>by rw [Bool.and_eq_true] at e;exact ql e.2 _ (List.getElem_mem hq2))
             have hlf:lf D.agg (nr D (bZ l i) off (leaves (ev s1 y))) j=cG (leaves (ev s1 y))[j-off]:=by
              unfold nr lf
              cases hag:D.agg with
              | true =>
               simp only [cond_true]
               show ((Af (jy true true (bZ l i) 0 D.lv) off (leaves (ev s1 y))).map cG).getD j .no=_
               rw [List.getD_eq_getElem?_getD,List.getElem?_map,rH,fO,if_pos ⟨hin.1,by omega,by rw [kg];exact hj⟩,hg2];rfl
              | false =>
               simp only [cond_false]
               have hD1:D.sz=1:=by
                obtain ⟨i1,z1,hi1,hs1,_,_,hz1,hagg⟩:=(hP.ty el D hTE).info
                have hnz:¬ ∃ cs,z1 = .agg cs:=by rw [hagg,hag];simp
                have hzl:=hz1.len
                have:z1.cells = #[z1]:=by cases z1 <;> first|rfl|exact absurd ⟨_,rfl⟩ hnz
                rw [this] at hzl;exact hzl
               have hl1:(leaves (ev s1 y)).length=1:=by omega
               have hj0:j-off=0:=by omega
               split
               ·rename_i z hz;simp [hz,hj0]
               ·rename_i hno
                exfalso
                obtain ⟨z,hz⟩:=List.length_eq_one_iff.mp hl1
                exact hno z hz
             rw [hlf];exact hd2
            ·rw [if_neg (by rw [hvl];omega)] at hv
             have:=(hold v hv).AK true
             have hlf:lf D.agg (nr D (bZ l i) off (leaves (ev s1 y))) j=cG (eta true kk (lf D.agg (l.getD i.toNat .no) j)):=by
              unfold nr lf
              cases hag:D.agg with
              | true =>
               simp only [cond_true]
               show ((Af (jy true true (bZ l i) 0 D.lv) off (leaves (ev s1 y))).map cG).getD j .no=_
               rw [List.getD_eq_getElem?_getD,List.getElem?_map,rH,fO,if_neg (by omega),kf,hkk,Nat.zero_add];rfl
              | false =>
               exfalso
               have hD1:D.sz=1:=by
                obtain ⟨i1,z1,hi1,hs1,_,_,hz1,hagg⟩:=(hP.ty el D hTE).info
                have hnz:¬ ∃ cs,z1 = .agg cs:=by rw [hagg,hag];simp
                have hzl:=hz1.len
                have:z1.cells = #[z1]:=by cases z1 <;> first|rfl|exact absurd ⟨_,rfl⟩ hnz
                rw [this] at hzl;exact hzl
               have:=hty.pos
               omega
             rw [hlf];exact this
           ·have hget:(dW l i (nr D (bZ l i) off (leaves (ev s1 y)))).getD i' .no=l.getD i' .no:=by
             unfold dW;rw [List.getD_eq_getElem?_getD,List.getElem?_set_ne (fun e=>hii e.symm),<- List.getD_eq_getElem?_getD]
            rw [hget]
            rw [if_neg ?_] at hv
            ·exact hold v hv
            ·rw [hvl]
             intro hcon
             rcases Nat.lt_or_gt_of_ne hii with hlt|hgt
             ·have:(i'+1)*D.sz<=i.toNat*D.sz:=Nat.mul_le_mul_right _ hlt
              rw [Nat.add_mul,Nat.one_mul] at this;omega
             ·have:(i.toNat+1)*D.sz<=i'*D.sz:=Nat.mul_le_mul_right _ hgt
              rw [Nat.add_mul,Nat.one_mul] at this;omega
          refine hrc'.mono (fun b hq=>le.Q _ b hq) (fun b hq => ?_)
          exact (le.w _ b hq))
        exact ⟨_,_,_,h2.put o.dst (x := .undef) (cB (cL rfl))⟩
     ·cases hk
    ·cases hk
  ·rename_i k n ek
   rw [ek] at hx
   obtain ⟨hd,g,cap,e1,ex⟩:_/\∃ g cap,(β k).v=_/\a.eval x = .pointer (some ⟨g,0,none⟩):=hx
   split at hk
   ·rename_i e l st kk hob hkk
    obtain ⟨a1,a2,a3,D,hD,a4,a5,a6,a7,a8⟩:=eL hkk
    cases hc:(Nat.beq e T.elem&&Nat.beq n T.sz) with
    | false=>rw [hc] at hk;cases hk
    | true =>
     rw [hc] at hk;simp only [cond_true] at hk
     rw [Bool.and_eq_true] at hc
     have he:=Nat.eq_of_beq_eq_true hc.1;have hll:=Nat.eq_of_beq_eq_true hc.2
     subst he
     obtain ⟨D',cs,hT',hsz',hown,hrc⟩:=h.objs k _ hob
     have hDD:D'=D:=by have h':E.T T.elem=some D':=hT';rw [hE,hD] at h';cases h';rfl
     subst hDD
     have hsz1:D'.sz=1:=by unfold TI.sz;rw [a4];rfl
     have hfl:D'.flat=true:=by unfold TI.flat;rw [a4];simp [a6]
     have hgb:g∈bK (β k) (.row T.elem l st):=by simp [bK,e1,Value.ownBlock]
     rw [e1] at hown
     obtain ⟨hcl,hv⟩:=hown
     rcases hv with ⟨hv,_⟩|⟨g',cap',cur,q',fz,hv,hq',hg,hfz,hnc,hcm,hcs,htake⟩
     ·cases hv
     ·cases hv
      have fin:∀ (l2:List AV),l2.length=T.sz->(a.eval y).cells.toList.length=T.sz->RC E.T w (fun _=>False) D' l2 (a.eval y).cells.toList->κ ((s.setObj k (.row T.elem l2 true)).put o.dst .undef)=some r->db P E o a w κ r:=by
       intro l2 hl2 hcl2 hrc2 hk next Q hn
       have hone:=zL hrc2 (by rw [hcl2,hl2,hsz1,Nat.mul_one]) (by rw [hsz1];exact Nat.one_pos)
       have hfit:0+T.sz<=cur.size:=by rw [hcs,hsz1];omega
       refine oH ho (w':=w.setRow g (eW cur.toList 0 (a.eval y).cells.toList).toArray) (by rw [ex];exact gj hty hg hfz (by simpa using hcl2) hone hfit) (hn _ _ _ hk ?_)
       have h2:=h.fR hob (.row T.elem l2 true) (lm (X:=fun b=>b∈bK (β k) (.row T.elem l st)) (w:=w) (g:=g) hgb _) (fun b hb=>hb) (fun le=>by
        refine ⟨D',(a.eval y).cells.toList,hT',hsz',?_,?_⟩
        ·rw [e1]
         refine ⟨by rw [hcl2,hl2,hsz1,Nat.mul_one],.inr ⟨g,cap,(eW cur.toList 0 (a.eval y).cells.toList).toArray,q',fz,by rw [hl2,<- hll],hq',setRow_heap w g cur _ q' _ hg,by rw [List.size_toArray,fP,Array.length_toList];exact hfz,by rw [hl2,<- hll];exact hnc,hcm,by rw [List.size_toArray,fP,Array.length_toList];exact hcs,?_⟩⟩
         rw [wq _ _ _ (by rw [hcl2,Array.length_toList];exact hfit)]
         simp only [List.take_zero,List.nil_append,hl2,hsz1,Nat.mul_one]
         rw [<- hcl2];exact List.take_left
        ·exact hrc2.flat hfl)
       exact ⟨_,_,_,h2.put o.dst (x := .undef) (cB (cL rfl))⟩
      split at hk
      ·rename_i e' n' l' ey
       have hy:=bH h y
       rw [ey] at hy
       obtain ⟨b0,D2,ca,b1,b2,b3,b4,b5⟩:l'.length=n'/\∃ D' cs,E.T _=some D'/\D'.flat=true/\a.eval y = .agg cs/\cs.size=_/\RC E.T w _ D' _ cs.toList:=hy
       cases hc2:(Nat.beq e' T.elem&&Nat.beq n' T.sz) with
       | false=>rw [hc2] at hk;cases hk
       | true =>
        rw [hc2] at hk;simp only [cond_true] at hk
        rw [Bool.and_eq_true] at hc2
        have he:=Nat.eq_of_beq_eq_true hc2.1;have hll':=Nat.eq_of_beq_eq_true hc2.2
        subst he
        rw [hE,hD] at b1;cases b1
        rw [hsz1,Nat.mul_one] at b4
        exact fin l' (b0.trans hll') (by rw [b3];simpa [Value.cells] using b4.trans (b0.trans hll')) (by rw [b3];exact b5) hk
      ·rename_i vs ey
       have hy:=bH h y
       cases hfa:fitAll T.lv vs with
       | false=>rw [hfa] at hk;cases hk
       | true =>
        rw [hfa] at hk;simp only [cond_true] at hk
        have hkn:=fj hfa
        have hfp:=ft hfa
        have hpw:=fx hy (by rw [ey];exact hkn)
        rw [ey] at hpw
        have hpw:PW (SL (bg E s w β Rt Ra)) vs (a.eval y).cells.toList:=hpw
        have hvs:vs.length=T.sz:=hfp.len.symm
        refine fin (vs.map cG) (by rw [List.length_map,hvs]) (by rw [<- hpw.len,hvs]) ?_ hk
        intro i j k' hi hk' u hu
        rw [a4] at hk'
        cases j with
        | succ j=>simp at hk'
        | zero =>
         simp only [List.getElem?_cons_zero,Option.some.injEq] at hk';subst hk'
         rw [List.length_map] at hi
         rw [hsz1,Nat.mul_one,Nat.add_zero] at hu
         have hg2:vs[i]? = some vs[i]:=List.getElem?_eq_getElem hi
         have hk2:T.lv[i]? = some kk:=by rw [a7,List.getElem?_replicate,if_pos (by omega)]
         have hd2:=lh (hfp.get hk2 hg2) (hpw.get hg2 hu)
         rw [a5]
         have:lf false ((vs.map cG).getD i .no) 0=cG vs[i]:=by
          unfold lf;simp [List.getD_eq_getElem?_getD,hi]
         rw [this]
         exact hd2.flat a6
      ·cases hk
   ·cases hk
  ·cases hk
 ·cases hk
theorem ux {C:Cfg R} {q:Bool} (hP:Ok P C.ty) (h:Rel E s a w β Rt Ra) {t:Nat} {x:Operand} (ho:o.op = .range t x) (hk:df C q o s κ = some r):db P E o a w κ r:=by
 unfold df at hk;rw [ho] at hk;simp only at hk
 have hx:=bH h x
 split at hk
 ·rename_i T b hT e
  rw [e] at hx
  have ex:=gP hx
  cases hs:kq T with
  | false=>rw [hs] at hk;cases hk
  | true =>
   rw [hs] at hk;simp only [Bool.not_true,cond_false] at hk
   intro next Q hn
   have hg:=ew w (.stringIter b 0)
   refine dc (v := .pointer (some ⟨w.heap.size,0,none⟩)) (w':=w.alloc (.stringIter b 0)) ?_ (hn _ _ _ hk ?_)
   ·unfold execOp;rw [ho]
    simp [Instr.range,run_underlying (fa hP hT hs),ex]
   ·have h2:=h.new hg (.sit b 0) ⟨undef,w.heap.size,0,false⟩ (fun b hb=>by simp [bK] at hb;subst hb;simp) (fun _=>heap_alloc_new w _)
    refine ⟨_,_,_,h2.put o.dst (x := .ptr s.next 0) (cB (cL ⟨⟨_,by rw [ef,if_pos rfl]⟩,?_⟩))⟩
    show _=Value.pointer (some ⟨(dH β s.next ⟨undef,w.heap.size,0,false⟩ s.next).b,0,none⟩)
    unfold dH;rw [if_pos rfl]
 ·cases hk
theorem wY {C:Cfg R} {q:Bool} (h:Rel E s a w β Rt Ra) {x:Operand} (ho:o.op = .next x true) (hk:df C q o s κ = some r):db P E o a w κ r:=by
 unfold df at hk;rw [ho] at hk;simp only at hk
 have hx:=bH h x
 cases q with
 | true=>cases hk
 | false =>
  simp only [cond_false] at hk
  split at hk
  ·rename_i k ek
   rw [ek] at hx
   obtain ⟨hd,ex⟩:_/\a.eval x = .pointer (some ⟨(β k).b,0,none⟩):=hx
   split at hk
   ·rename_i b p hob
    have hg:w.heap[(β k).b]? = some (.stringIter b p):=h.objs k _ hob
    by_cases hlt:p<b.size
    ·simp only [hlt,decide_true,cond_true] at hk
     intro next Q hn
     let w':World:={ w with heap:=w.heap.setIfInBounds (β k).b (.stringIter b (p+(Utf8.decode b p).2)) }
     refine dc (v := .tuple #[.bool true,.int .i64 p,.int .i32 (Utf8.decode b p).1]) (w':=w') ?_ (hn _ _ _ hk ?_)
     ·unfold execOp;rw [ho]
      simp [Instr.next,ex,getObj,setObj,Sem.run,hg,hlt,goInt,w']
     ·have hlt2:(β k).b<w.heap.size:=(Array.getElem?_eq_some_iff.mp hg).1
      have h2:=h.fR (w':=w') hob (.sit b (p+(Utf8.decode b p).2)) ⟨rfl,rfl,rfl,by simp [w'],fun z _ hz=>by
       have:(β k).b≠z:=fun e=>hz (by simp [bK,e])
       simp [w',Array.getElem?_setIfInBounds,this]⟩ (fun z hz=>hz) (fun _=>by
       show w'.heap[(β k).b]? = _
       simp [w',Array.getElem?_setIfInBounds,hlt2])
      exact ⟨_,_,_,h2.put o.dst (x := .tup [.bool true,.int .i64 p,.int .i32 (Utf8.decode b p).1]) ⟨_,rfl,rfl,rfl,rfl,trivial⟩⟩
    ·simp only [hlt,decide_false,cond_false] at hk
     refine dh h (x := .tup [.bool false]) (v := .tuple #[.bool false]) ⟨_,rfl,rfl,trivial⟩ ?_ hk
     unfold execOp;rw [ho]
     simp [Instr.next,ex,getObj,Sem.run,hg,hlt]
   ·cases hk
  ·cases hk
end
end Go.Proofs.Ab
