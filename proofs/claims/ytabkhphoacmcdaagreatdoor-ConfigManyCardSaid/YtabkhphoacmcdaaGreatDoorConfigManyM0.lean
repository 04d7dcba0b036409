/- For every number n and both values of domains the Go function ConfigMany returns true. -/
import Derived.WalkKit
import Derived.Below
import Derived.DataElems
import Derived.Deep.Draws
import Derived.Laws.Slices
import Derived.Lib.ConvBytes
import Derived.Laws.StructEq
import Derived.Lib.AppendStr
import Derived.Great.BuildSlice
import Derived.Laws.MakeOwn
set_option linter.unusedVariables false
set_option linter.unusedSimpArgs false
set_option linter.unusedSectionVars false
noncomputable section
namespace Go.Proofs.YtabkhphoacmcdaaGreatDoor.Pvm
open Go
inductive Kd where
 |int (k:IntKind)|bool|str|flt
 |sl (e:Kd)|pr (a b:Kd)|nil
 deriving DecidableEq
@[reducible] def Kd.T:Kd→Type
 |.int _=>Int
 |.bool=>Bool
 |.str=>List UInt8
 |.flt=>Nat
 |.sl e=>List e.T
 |.pr a b=>a.T×b.T
 |.nil=>Unit
def Kd.sz:Kd→Nat
 |.pr a b=>a.sz+b.sz
 |.nil=>0
 |_=>1
def Kd.zero:(K:Kd)→K.T
 |.int _=>(0:Int)
 |.bool=>false
 |.str=>([]:List UInt8)
 |.flt=>(0:Nat)
 |.sl e=>([]:List e.T)
 |.pr a b=>(a.zero,b.zero)
 |.nil=>()
abbrev Nm:=Nat
inductive PV where
 |v (K:Kd) (x:K.T)
 |kb (b:Bool)
 |ng (b:Bool)
 |nilsl|nilptr|nilif
 |nps (n:Nm) (off:Nat)
 |ptr (n:Nm) (off:Nat)
 |row (n:Nm)
 |elp (K:Kd) (xs:List K.T) (i:Nat) (off:Nat)
 |elr (n:Nm) (i:Nat) (off:Nat)
 |agg (cs:List PV)
 |ifc (t:TypeId) (p:PV)
 |tup (ps:List PV)
 |clo (f:FuncId) (cap:List PV)
 |opt (g:List (Nat×Bool)) (c:Bool) (p:PV)
 |mpp (n:Nm)
 |nxt (s:List UInt8) (p:Int)
 |bv (K:Kd) (xs:List K.T)
 |elq (K:Kd) (xs:List K.T) (i:Nat) (off:Nat)
 |lp (K:Kd) (x:K.T) (off:Nat)
 |un
inductive MK where
 |one|agg|it
deriving DecidableEq
def MK.isAgg:MK→Bool
 |.agg=>true
 |_=>false
inductive HObj where
 |var (t:TypeId) (cs:List PV)
 |row (e:TypeId) (K:Kd) (xs:List K.T)
 |mp (ag:MK) (V:Kd) (es:List (List UInt8×V.T))
abbrev Heap:=Nm→Option HObj
structure St where
 t:Nat→PV
 h:Heap
inductive TK where
 |int (k:IntKind)|bool|str|flt|slice|ptr|struct|iface|map|other
structure TI where
 k:TK
 size:Nat
 bytes:Nat
 kd:Option Kd
 zero:List PV
 fs:List (Nat×TypeId)
 el:TypeId
 eqs:Bool
inductive Chk where
 |ok
 |c (b:Bool)
structure Ev where
 chk:Chk
 val:PV
 hs:List (Nm×Option HObj)
 mp:Option (PV→PV)
def Ev.pure(p:PV): Ev:=⟨.ok,p,[],none⟩
def Ev.when(b:Bool)(p:PV): Ev:=⟨.c b,p,[],none⟩
def look{α : Type}(l:List (Nat × α))(n:Nat): Option α :=
 match l with
 |[]=>none
 |(m,x)::r=>bif Nat.beq m n then some x else look r n
def setH(h:Heap)(n:Nm)(o:Option HObj): Heap:=fun m=>bif Nat.beq m n then o else h m
def setHs(h:Heap): List (Nm×Option HObj)→Heap
 |[]=>h
 |(n,o)::r=>setHs (setH h n o) r
def hasTag(d:Nat): List (Nat×Bool)→Bool
 |[]=>false
 |(s,_)::r=>bif Nat.beq s d then true else hasTag d r
def killO(d:Nat): PV→PV
 |.opt g c p=>bif hasTag d g then .un else .opt g c p
 |p=>p
def upd(t:Nat→PV)(d:Nat)(p:PV): Nat→PV:=fun i=>bif Nat.beq i d then p else killO d (t i)
def cv:Value→PV
 |.int k n => .v (.int k) n
 |.bool b => .v .bool b
 |.float .f64 b => .v .flt b
 |.string s => .v .str s.data.toList
 |.slice none 0 0 => .nilsl
 |.pointer none => .nilptr
 |.nilIface => .nilif
 |_ => .un
def St.get(s:St): Operand→PV
 |.tmp i=>s.t i
 |.const v=>cv v
 |.func f => .clo f []
 |.global _ => .un
def tagIn(s:Nat)(b:Bool): List (Nat×Bool)→Bool
 |[]=>false
 |(s',b')::r=>bif Nat.beq s' s&&(b' == b)then true else tagIn s b r
def tagsIn(G:List (Nat×Bool)): List (Nat×Bool)→Bool
 |[]=>true
 |(s,b)::r=>tagIn s b G&&tagsIn G r
def useO(G:List (Nat×Bool)): PV→PV
 |.opt g _ p=>bif tagsIn G g then p else .un
 |.kb b => .v .bool b
 |.ng _ => .un
 |p=>p
def cast(K K':Kd)(x:K.T): Option K'.T :=
 if h:K=K' then some (h ▸ x)else none
def Kd.cells:(K:Kd)→K.T→List PV
 |.pr a b,x=>a.cells x.1++b.cells x.2
 |.nil,_=>[]
 |.int k,x=>[.v (.int k) x]
 |.bool,x=>[.v .bool x]
 |.str,x=>[.v .str x]
 |.flt,x=>[.v .flt x]
 |.sl e,x=>[.v (.sl e) x]
def leaf(h:Heap)(K:Kd): PV→Option (K.T×List Nm)
 |.v K' x=>(cast K' K x).map fun y=>(y,[])
 |.kb b=>(cast .bool K b).map fun y=>(y,[])
 |.nilsl=>match K with
  |.sl _=>some ([],[])
  |_=>none
 |.row n=>match h n with
  |some (.row _ K' xs)=>(cast (.sl K') K xs).map fun y=>(y,[n])
  |_=>none
 |_=>none
def Kd.dec(h:Heap): (K:Kd)→List PV→Option (K.T×List PV×List Nm)
 |.pr a b,cs=>match a.dec h cs with
  |some (x,r,f)=>match b.dec h r with
   |some (y,r',f')=>some ((x,y),r',f++f')
   |none=>none
  |none=>none
 |.nil,cs=>some ((),cs,[])
 |K,c::r=>match leaf h K c with
  |some (x,f)=>some (x,r,f)
  |none=>none
 |_,[]=>none
def Kd.decAll(h:Heap)(K:Kd)(cs:List PV): Option (K.T×List Nm) :=
 match K.dec h cs with
 |some (x,[],f)=>some (x,f)
 |_=>none
def cellsOf:PV→List PV
 |.agg cs=>cs
 |p=>[p]
mutual
def PV.mapR(f:Nm→PV): PV→PV
 |.row m=>f m
 |.agg cs => .agg (mapRs f cs)
 |.tup ps => .tup (mapRs f ps)
 |.ifc t p => .ifc t (p.mapR f)
 |.clo g cap => .clo g (mapRs f cap)
 |.opt g c p => .opt g c (p.mapR f)
 |.v K x => .v K x
 |.kb b => .kb b
 |.ng b => .ng b
 |.nilsl => .nilsl
 |.nilptr => .nilptr
 |.nilif => .nilif
 |.nps n off => .nps n off
 |.ptr n off => .ptr n off
 |.elp K xs i off => .elp K xs i off
 |.elr n i off=>match f n with
  |.row m => .elr m i off
  |_ => .un
 |.mpp n => .mpp n
 |.nxt s p => .nxt s p
 |.bv K xs => .bv K xs
 |.elq K xs i off => .elq K xs i off
 |.lp K x off => .lp K x off
 |.un => .un
def mapRs(f:Nm→PV): List PV→List PV
 |[]=>[]
 |p::r=>p.mapR f::mapRs f r
end
def isIn(n:Nm): List Nm→Bool
 |[]=>false
 |m::r=>bif Nat.beq m n then true else isIn n r
def frz(h:Heap)(l:List Nm): Option (PV→PV) :=
 match l with
 |[]=>none
 |l=>some (PV.mapR fun m=>bif isIn m l then(match h m with
  |some (.row _ K xs) => .v (.sl K) xs
  |_ => .un)else .row m)
def purge(n:Nm): PV→PV:=PV.mapR fun m=>bif Nat.beq m n then .un else .row m
def wq83:List Nm→List (Nm×Option HObj)
 |[]=>[]
 |n::r=>(n,none)::wq83 r
def mapT(f:Option (PV→PV))(t:Nat→PV): Nat→PV :=
 match f with
 |none=>t
 |some f=>fun i=>f (t i)
def mapO(f:PV→PV): HObj→HObj
 |.var t cs => .var t (cs.map f)
 |o=>o
def mapH(f:Option (PV→PV))(h:Heap): Heap :=
 match f with
 |none=>h
 |some f=>fun n=>match h n with
  |some o=>some (mapO f o)
  |none=>none
def ibits(op:BinOp)(k:IntKind)(x y:Int): Int :=
 let a:=BitVec.ofInt k.bits x
 let b:=BitVec.ofInt k.bits y
 k.wrap (match op with
  |.and=>a &&& b
  |.or=>a ||| b
  |.xor=>a ^^^ b
  |_=>a &&& ~~~b).toNat
def ishl(k:IntKind)(x y:Int): Int:=k.wrap (x*2 ^ (min y.toNat k.bits))
def ishr(k:IntKind)(x y:Int): Int:=x.fdiv (2 ^ (min y.toNat k.bits))
def maxN:Nat:=9223372036854775807
def joins(a b:List UInt8): Bool:=decide (a.length+b.length≤maxN)
def wq18l:BinOp→Bool
 |.shl=>true
 |.shr=>true
 |_=>false
def binInt(op:BinOp)(k:IntKind)(a b:Int): Option Ev :=
 match op with
 |.add=>some (.pure (.v (.int k) (k.wrap (a+b))))
 |.sub=>some (.pure (.v (.int k) (k.wrap (a-b))))
 |.mul=>some (.pure (.v (.int k) (k.wrap (a*b))))
 |.quo=>some (.when (b != 0) (.v (.int k) (k.wrap (a.tdiv b))))
 |.rem=>some (.when (b != 0) (.v (.int k) (a.tmod b)))
 |.and=>some (.pure (.v (.int k) (ibits .and k a b)))
 |.or=>some (.pure (.v (.int k) (ibits .or k a b)))
 |.xor=>some (.pure (.v (.int k) (ibits .xor k a b)))
 |.andNot=>some (.pure (.v (.int k) (ibits .andNot k a b)))
 |.eql=>some (.pure (.v .bool (a == b)))
 |.neq=>some (.pure (.v .bool (a != b)))
 |.lss=>some (.pure (.v .bool (decide (a<b))))
 |.leq=>some (.pure (.v .bool (decide (a≤b))))
 |.gtr=>some (.pure (.v .bool (decide (a>b))))
 |.geq=>some (.pure (.v .bool (decide (a≥b))))
 |_=>none
def binStr(op:BinOp)(a b:List UInt8): Option Ev :=
 match op with
 |.add=>some (.when (joins a b) (.v .str (a++b)))
 |.eql=>some (.pure (.v .bool (a == b)))
 |.neq=>some (.pure (.v .bool (!(a == b))))
 |.lss=>some (.pure (.v .bool (Op.bytesLess a b)))
 |.leq=>some (.pure (.v .bool (Op.bytesLess a b || a == b)))
 |.gtr=>some (.pure (.v .bool (!(Op.bytesLess a b || a == b))))
 |.geq=>some (.pure (.v .bool (!(Op.bytesLess a b))))
 |_=>none
def fltAr(op:BinOp)(a b:Nat): Option Nat :=
 match op with
 |.add=>FloatKind.f64.format.add a b
 |.sub=>FloatKind.f64.format.sub a b
 |.mul=>FloatKind.f64.format.mul a b
 |.quo=>FloatKind.f64.format.div a b
 |_=>none
def fltC(a b:Nat): Option Ordering:=FloatKind.f64.format.order a b
def fltIs(op:BinOp)(a b:Nat): Bool :=
 match op with
 |.eql=>fltC a b == some .eq
 |.neq=>fltC a b != some .eq
 |.lss=>fltC a b == some .lt
 |.leq=>fltC a b == some .lt || fltC a b == some .eq
 |.gtr=>fltC a b == some .gt
 |_=>fltC a b == some .gt || fltC a b == some .eq
def fltCmp:BinOp→Bool
 |.eql=>true
 |.neq=>true
 |.lss=>true
 |.leq=>true
 |.gtr=>true
 |.geq=>true
 |_=>false
def binFlt(op:BinOp)(a b:Nat): Option Ev :=
 bif fltCmp op then some (.pure (.v .bool (fltIs op a b)))else some (.when (fltAr op a b).isSome (.v .flt ((fltAr op a b).getD 0)))
def fltOf(n:Int): Nat:=FloatKind.f64.nearest n
def fltI(b:Nat): Option Int:=(FloatKind.f64.decode b).toInt .zero
def fltIn(k:IntKind)(b:Nat): Bool :=
 match fltI b with
 |some n=>decide (k.min≤n)&&decide (n≤k.max)
 |none=>false
def fltNeg(b:Nat): Nat:=Op.negFloat .f64 b
def eqLeaf(k:TK)(a b:PV): Option Bool :=
 match k,a,b with
 |.int _,.v (.int k1) x,.v (.int k2) y=>if k1=k2 then some (@BEq.beq Int _ x y)else none
 |.bool,.v .bool x,.v .bool y=>some (@BEq.beq Bool _ x y)
 |.str,.v .str x,.v .str y=>some (@BEq.beq (List UInt8) _ x y)
 |.flt,.v .flt x,.v .flt y=>some (fltIs .eql x y)
 |_,_,_=>none
def wqtc(ty:TypeId→Option TI): Nat→List (Nat×TypeId)→List PV→List PV→Option Bool
 |_,[],[],[]=>some true
 |n,(o,t)::fs,a::r,b::s=>bif Nat.beq o n then match ty t with
  |some ti=>match eqLeaf ti.k a b with
   |some x=>match fs with
    |[]=>match r,s with
     |[],[]=>some x
     |_,_=>none
    |fs=>match wqtc ty (n+1) fs r s with
     |some y=>some (x&&y)
     |none=>none
   |none=>none
  |none=>none
  else none
 |_,_,_,_=>none
def eqRes(op:BinOp)(b:Option Bool): Option Ev :=
 match op,b with
 |.eql,some b=>some (.pure (.v .bool b))
 |.neq,some b=>some (.pure (.v .bool (!b)))
 |_,_=>none
def eqsOk(ti:TI): Bool :=
 match ti.k with
 |.struct=>ti.eqs
 |_=>true
def eqPV(ty:TypeId→Option TI)(ti:TI)(cst:Bool)(a b:PV): Option Bool :=
 bif eqsOk ti then match ti.k,a,b with
  |.bool,.v .bool x,.v .bool y=>some (x == y)
  |.struct,.agg xs,.agg ys=>wqtc ty 0 ti.fs xs ys
  |.ptr,.nilptr,.nilptr=>some true
  |.ptr,.ptr _ _,.nilptr=>some false
  |.ptr,.nilptr,.ptr _ _=>some false
  |.iface,.nilif,.nilif=>bif cst then some true else none
  |.iface,.ifc _ _,.nilif=>some false
  |.iface,.nilif,.ifc _ _=>some false
  |_,_,_=>none
 else none
def wqez:Operand→Bool
 |.const _=>true
 |_=>false
def unPV(op:UnOp)(a:PV): Option Ev :=
 match op,a with
 |.neg,.v (.int k) x=>some (.pure (.v (.int k) (k.wrap (0-x))))
 |.xor,.v (.int k) x=>some (.pure (.v (.int k) (ibits .xor k (if k.signed then -1 else k.max) x)))
 |.not,.v .bool x=>some (.pure (.v .bool (!x)))
 |.neg,.v .flt x=>some (.pure (.v .flt (fltNeg x)))
 |_,_=>none
def wq35(s:List UInt8): List Int:=s.map fun b=>(b.toNat:Int)
def wq4a(l:List Int): List UInt8:=l.map fun n=>UInt8.ofNat n.toNat
def partOf(ti:TI)(off:Nat)(cs:List PV): Option PV :=
 match ti.k with
 |.struct=>bif Nat.ble (off+ti.size) cs.length then some (.agg ((cs.drop off).take ti.size))else none
 |_=>cs[off]?
def setAt(cs:List PV)(off:Nat)(new:List PV): List PV :=
 match new with
 |[]=>cs
 |p::r=>setAt (cs.set off p) (off+1) r
def isLeaf:PV→Bool
 |.agg _=>false
 |.tup _=>false
 |.nxt _ _=>false
 |.un=>false
 |.ng _=>false
 |.opt _ _ _=>false
 |_=>true
def leafs:List PV→Bool
 |[]=>true
 |p::r=>isLeaf p&&leafs r
def fillP(place:Nat→Option (Nat×Nat))(cs:List PV): List (Nat×PV)→Option (List PV)
 |[]=>some cs
 |(i,p)::r=>match place i with
  |some (off,n)=>bif leafs (cellsOf p)&&Nat.beq (cellsOf p).length n&&Nat.ble (off+n) cs.length then fillP place (setAt cs off (cellsOf p)) r else none
  |none=>none
def srcOf(h:Heap)(K:Kd): PV→Option (List K.T)
 |.v (.sl K') xs=>cast (.sl K') (.sl K) xs
 |.v .str s=>cast (.sl (.int .u8)) (.sl K) (wq35 s)
 |.row n=>match h n with
  |some (.row _ K' xs)=>cast (.sl K') (.sl K) xs
  |_=>none
 |.nilsl=>some []
 |_=>none
def srcNe(n:Nm): PV→Bool
 |.row m => !Nat.beq m n
 |_=>true
def fits(n m b:Nat): Bool:=decide (n+m≤maxN)&&decide ((n+m)*b≤140737488355328)
def wq18m(h:Heap): PV→Option (List PV×Nat)
 |.ptr n off=>match h n with
  |some (.var _ cs)=>some (cs,off)
  |_=>none
 |.elp K xs i off=>some (K.cells (xs.getD i K.zero),off)
 |.elq K xs i off=>some (K.cells (xs.getD i K.zero),off)
 |.lp K x off=>some (K.cells x,off)
 |.elr n i off=>match h n with
  |some (.row _ K xs)=>some (K.cells (xs.getD i K.zero),off)
  |_=>none
 |_=>none
def wq43(d:Nat): Nm:=(d+1)*100
def elems(h:Heap)(K:Kd): Nat→List (Nat×PV)→Option (List K.T×List Nm)
 |_,[]=>some ([],[])
 |k,(i,p)::r=>bif Nat.beq i k&&leafs (cellsOf p)then match K.decAll h (cellsOf p),elems h K (k+1) r with
  |some (x,f),some (l,f')=>some (x::l,f++f')
  |_,_=>none
  else none
def bnd(lo hi n:Int): Bool:=decide (0≤lo)&&decide (lo≤hi)&&decide (hi≤n)
def cut{α : Type}(xs:List α)(lo hi:Int): List α := (xs.take hi.toNat).drop lo.toNat
def inb(i n:Int): Bool:=decide (0≤i)&&decide (i<n)
def intOf? : PV→Option Int
 |.v (.int _) n=>some n
 |_=>none
def optInt(u:Operand→PV)(o:Option Operand)(d:Int): Option Int :=
 match o with
 |none=>some d
 |some x=>intOf? (u x)
def elSz(ty:TypeId→Option TI)(t:TypeId): Option Nat :=
 match ty t with
 |some ti=>match ti.k with
  |.slice=>match ty ti.el with
   |some ei=>some ei.size
   |none=>none
  |_=>none
 |none=>none
def elKd(ty:TypeId→Option TI)(t:TypeId): Option (TypeId×Kd×Nat) :=
 match ty t with
 |some ti=>match ti.k with
  |.slice=>match ty ti.el with
   |some ei=>match ei.kd with
    |some K=>some (ti.el,K,ei.bytes)
    |none=>none
   |none=>none
  |_=>none
 |none=>none
def isStrT(ty:TypeId→Option TI)(t:TypeId): Bool :=
 match ty t with
 |some ti=>match ti.k with
  |.str=>true
  |_=>false
 |none=>false
def wqtd(ty:TypeId→Option TI)(s:TypeId)(f:Nat): Option (Nat×TI) :=
 match ty s with
 |some ti=>match ti.k with
  |.struct=>match ti.fs[f]? with
   |some (o,ft)=>match ty ft with
    |some fi=>some (o,fi)
    |none=>none
   |none=>none
  |_=>none
 |none=>none
def zeroOf(ti:TI): PV :=
 match ti.k with
 |.struct => .agg ti.zero
 |_=>ti.zero.headD .un
def mpVal(ag:Bool)(V:Kd)(x:V.T): PV :=
 bif ag then .agg (V.cells x)else match V.cells x with
  |[p]=>p
  |_ => .un
def mget(V:Kd)(key:List UInt8): List (List UInt8×V.T)→V.T
 |[]=>V.zero
 |(k,x)::r=>bif key == k then x else mget V key r
def mhas(V:Kd)(key:List UInt8): List (List UInt8×V.T)→Bool
 |[]=>false
 |(k,_)::r=>bif key == k then true else mhas V key r
def mset(V:Kd)(key:List UInt8)(y:V.T): List (List UInt8×V.T)→List (List UInt8×V.T)
 |[]=>[(key,y)]
 |(k,x)::r=>bif key == k then(key,y)::r else(k,x)::mset V key y r
def wqt5(h:Heap)(d:Nat)(ag:MK)(V:Kd): Option Ev :=
 match h (wq43 d)with
 |none=>some ⟨.ok,.mpp (wq43 d),[(wq43 d,some (.mp ag V []))],none⟩
 |some _=>none
def wqyi(h:Heap)(ag':MK)(V':Kd)(ok:Bool)(x i:PV): Option Ev :=
 match x,i with
 |.mpp n,.v .str key=>match h n with
  |some (.mp ag V es)=>if V'=V∧ag'=ag then some (.pure (bif ok then .tup [mpVal ag.isAgg V (mget V key es),.v .bool (mhas V key es)]else mpVal ag.isAgg V (mget V key es)))else none
  |_=>none
 |_,_=>none
def mkOf:PV→MK
 |.agg _ => .agg
 |_ => .one
def wqks(h:Heap)(x i p:PV): Option Ev :=
 match x,i with
 |.mpp n,.v .str key=>match h n with
  |some (.mp ag V es)=>match V.decAll h (cellsOf p)with
   |some (y,[])=>bif decide (mkOf p=ag)&&leafs (cellsOf p)then some ⟨.ok,.un,[(n,some (.mp ag V (mset V key y es)))],none⟩else none
   |_=>none
  |_=>none
 |_,_=>none
def nxtW(s:List UInt8)(p:Int): Int:=((Utf8.decode ⟨s.toArray⟩ p.toNat).2:Nat)
def nxtC(s:List UInt8)(p:Int): Int:=((Utf8.decode ⟨s.toArray⟩ p.toNat).1:Nat)
def nxtP(s:List UInt8)(p:Int): Int:=bif decide (p<(s.length:Int))then p+nxtW s p else p
def itAt(V:Kd)(es:List (List UInt8×V.T)): Option (List UInt8×Int) :=
 match V,es with
 |.int .i64,[(s,p)]=>some (s,p)
 |_,_=>none
def wq15m(h:Heap)(d:Nat)(x:PV): Option Ev :=
 match x with
 |.v .str s=>match h (wq43 d)with
  |none=>some ⟨.ok,.mpp (wq43 d),[(wq43 d,some (.mp .it (.int .i64) [(s,(0:Int))]))],none⟩
  |some _=>none
 |_=>none
def evNext(h:Heap)(x:PV): Option Ev :=
 match x with
 |.mpp n=>match h n with
  |some (.mp .it V es)=>match itAt V es with
   |some (s,p)=>some ⟨.ok,.nxt s p,[(n,some (.mp .it (.int .i64) [(s,nxtP s p)]))],none⟩
   |none=>none
  |_=>none
 |_=>none
def mapKd(ty:TypeId→Option TI)(t:TypeId): Option (MK×Kd) :=
 match ty t with
 |some ti=>match ti.k with
  |.map=>match ty ti.el with
   |some ei=>match ei.kd with
    |some V=>some ((match ei.k with | .struct=>MK.agg|_=>MK.one),V)
    |none=>none
   |none=>none
  |_=>none
 |none=>none
def evMove:PV→Option Ev
 |.un=>none
 |.opt _ _ _=>none
 |p=>some (.pure p)
def evBin(ty:TypeId→Option TI)(t:TypeId)(op:BinOp)(cst:Bool)(a b:PV): Option Ev :=
 match a,b with
 |.v (.int k) x,.v (.int k') y=>match op with
  |.shl=>some (.when (decide (0≤y)) (.v (.int k) (ishl k x y)))
  |.shr=>some (.when (decide (0≤y)) (.v (.int k) (ishr k x y)))
  |op=>if k=k' then binInt op k x y else none
 |.v .str x,.v .str y=>binStr op x y
 |.v .flt x,.v .flt y=>binFlt op x y
 |a,b=>match ty t with
  |some ti=>eqRes op (eqPV ty ti cst a b)
  |none=>none
def wqyj(p:PV)(i:Nat): Option Ev :=
 match p with
 |.tup ps=>match ps[i]? with
  |some p=>evMove p
  |none=>none
 |.nxt s p=>match i with
  |0=>some (.pure (.v .bool (decide (p<(s.length:Int)))))
  |1=>some (.when (decide (p<(s.length:Int))) (.v (.int .i64) p))
  |2=>some (.when (decide (p<(s.length:Int))) (.v (.int .i32) (nxtC s p)))
  |_=>none
 |_=>none
def evNil(p:PV): Option Ev :=
 match p with
 |.ptr n off=>some (.pure (.ptr n off))
 |.elp K xs i off=>some (.pure (.elp K xs i off))
 |.lp K x off=>some (.pure (.lp K x off))
 |.elr n i off=>some (.pure (.elr n i off))
 |.clo f cap=>some (.pure (.clo f cap))
 |_=>none
def wqpl(o:Nat)(fi:TI)(p:PV): Option Ev :=
 bif Nat.beq fi.size 0 then none else match p with
  |.ptr n off=>some (.pure (.ptr n (off+o)))
  |.elp K xs i off=>some (.pure (.elp K xs i (off+o)))
  |.elq K xs i off=>some (.pure (.elq K xs i (off+o)))
  |.lp K x off=>some (.pure (.lp K x (off+o)))
  |.elr n i off=>some (.pure (.elr n i (off+o)))
  |_=>none
def wq18n(o:Nat)(fi:TI)(p:PV): Option Ev :=
 match p with
 |.agg cs=>match partOf fi o cs with
  |some p=>evMove p
  |none=>none
 |_=>none
def wq18o(ty:TypeId→Option TI)(fs:List (Nat×TypeId))(i:Nat): Option (Nat×Nat) :=
 match fs[i]? with
 |some (off,t)=>match ty t with
  |some ti=>some (off,ti.size)
  |none=>none
 |none=>none
def wq18p(ty:TypeId→Option TI)(ti:TI)(parts:List (Nat×PV)): Option Ev :=
 match ti.k with
 |.struct=>match fillP (wq18o ty ti.fs) ti.zero parts with
  |some cs=>some (.pure (.agg cs))
  |none=>none
 |_=>none
def wq18q(s:TypeId)(ti:TI)(p:PV): Option Ev :=
 match ti.k,p with
 |.iface,_=>none
 |_,.un=>none
 |_,.opt _ _ _=>none
 |_,p=>some (.pure (.ifc s p))
def wq132(ti:TI)(aT_:TypeId)(ok:Bool)(p:PV): Option Ev :=
 match ti.k with
 |.iface=>none
 |_=>match p with
  |.ifc s p=>bif Nat.beq s aT_ then some (.pure (bif ok then .tup [p,.v .bool true]else p))
   else bif ok then some (.pure (.tup [zeroOf ti,.v .bool false]))else none
  |.nilif=>bif ok then some (.pure (.tup [zeroOf ti,.v .bool false]))else none
  |_=>none
def wq18r(x i:PV): Option Ev :=
 match x,i with
 |.v .str s,.v (.int _) n=>some (.when (inb n s.length) (.v (.int .u8) ((s.getD n.toNat 0).toNat:Int)))
 |_,_=>none
def wq133(s:List UInt8)(l r:Option Int): Option Ev :=
 match l,r with
 |some l,some r=>some (.when (bnd l r s.length) (.v .str (cut s l r)))
 |_,_=>none
def wqpm(K:Kd)(xs:List K.T)(l r:Option Int): Option Ev :=
 match l,r with
 |some l,some r=>some (.when (bnd l r xs.length) (.v (.sl K) (cut xs l r)))
 |_,_=>none
def wq134(h:Heap)(n:Nm)(K:Kd)(xs:List K.T)(l r:Option Int): Option Ev :=
 match l,r with
 |some l,some r=>some ⟨.c (bnd l r xs.length),.v (.sl K) (cut xs l r),[(n,none)],frz h [n]⟩
 |_,_=>none
def wq107(ty:TypeId→Option TI)(h:Heap)(xt:TypeId)(x:PV)(l r:Int→Option Int): Option Ev :=
 match x with
 |.v .str s=>bif isStrT ty xt then wq133 s (l 0) (r s.length)else none
 |.v (.sl K) xs=>match elSz ty xt with
  |some z=>bif Nat.beq z K.sz then wqpm K xs (l 0) (r xs.length)else none
  |none=>none
 |.row n=>match h n with
  |some (.row _ K xs)=>match elSz ty xt with
   |some z=>bif Nat.beq z K.sz then wq134 h n K xs (l 0) (r xs.length)else none
   |none=>none
  |_=>none
 |.nilsl=>match elKd ty xt with
  |some (_,K,_)=>wqpm K [] (l 0) (r 0)
  |none=>none
 |_=>none
def wqpn(ty:TypeId→Option TI)(h:Heap)(t:TypeId)(x i:PV): Option Ev :=
 match x,i with
 |.v (.sl K) xs,.v (.int _) n=>match elSz ty t with
  |some z=>bif Nat.beq z K.sz then some (.when (inb n xs.length) (.elp K xs n.toNat 0))else none
  |none=>none
 |.row m,.v (.int _) n=>match h m with
  |some (.row _ K xs)=>match elSz ty t with
   |some z=>bif Nat.beq z K.sz then some (.when (inb n xs.length) (.elr m n.toNat 0))else none
   |none=>none
  |_=>none
 |.bv K xs,.v (.int _) n=>match elSz ty t with
  |some z=>bif Nat.beq z K.sz then some (.when (inb n xs.length) (.elq K xs n.toNat 0))else none
  |none=>none
 |_,_=>none
def evLoad(ti:TI)(h:Heap)(a:PV): Option Ev :=
 match wq18m h a with
 |some (cs,off)=>match partOf ti off cs with
  |some p=>evMove p
  |none=>none
 |none=>none
def wq15n(ti:TI)(h:Heap)(a p:PV): Option Ev :=
 bif leafs (cellsOf p)&&Nat.beq (cellsOf p).length ti.size then match a with
  |.ptr n off=>match h n with
   |some (.var t cs)=>bif Nat.ble (off+ti.size) cs.length then
    some ⟨.ok,.un,[(n,some (.var t (setAt cs off (cellsOf p))))],none⟩else none
   |_=>none
  |.elr n i off=>match h n with
   |some (.row e K xs)=>bif Nat.ble (off+ti.size) K.sz then
    (match K.decAll h (setAt (K.cells (xs.getD i K.zero)) off (cellsOf p))with
    |some (y,f)=>bif isIn n f then none else some ⟨.ok,.un,wq83 f++[(n,some (.row e K (xs.set i y)))],frz h f⟩
    |none=>none)else none
   |_=>none
  |_=>none
 else none
def wq15o(ti:TI)(s:TypeId)(h:Heap)(d:Nat): Option Ev :=
 match h (wq43 d)with
 |none=>some ⟨.ok,.ptr (wq43 d) 0,[(wq43 d,some (.var s ti.zero))],none⟩
 |some _=>none
def evBox(s:TypeId)(h:Heap)(d:Nat)(p:PV): Option Ev :=
 bif leafs (cellsOf p)then match h (wq43 d)with
  |none=>some ⟨.ok,.ptr (wq43 d) 0,[(wq43 d,some (.var s (cellsOf p)))],none⟩
  |some _=>none
 else none
def wqho(h:Heap)(d:Nat)(e:TypeId)(K:Kd)(n:Nat)(parts:List (Nat×PV)): Option Ev :=
 match h (wq43 d)with
 |none=>match elems h K 0 parts with
  |some (xs,f)=>bif Nat.beq parts.length n&&Nat.ble (n*K.sz) 16777216 then some ⟨.ok,.row (wq43 d),wq83 f++[(wq43 d,some (.row e K xs))],frz h f⟩else none
  |none=>none
 |some _=>none
def mkB(x y:Int)(b:Nat): Bool:=decide (0≤x)&&decide (x≤y)&&decide ((b:Int)*y≤281474976710656)&&decide (y≤9223372036854775807)
def zeros(K:Kd)(x:Int): List K.T:=List.replicate x.toNat K.zero
def evMake(h:Heap)(d:Nat)(e:TypeId)(K:Kd)(b:Nat)(n c:PV): Option Ev :=
 match n,c with
 |.v (.int _) x,.v (.int _) y=>match h (wq43 d)with
  |none=>some ⟨.c (mkB x y b),.row (wq43 d),[(wq43 d,some (.row e K (zeros K x)))],none⟩
  |some _=>none
 |_,_=>none
def wq135(ty:TypeId→Option TI)(xt:TypeId)(x:PV)(l r m:Option Int): Option Ev :=
 match x,l,r,m with
 |.v (.sl K) xs,some l,some r,some m=>match elSz ty xt with
  |some z=>bif Nat.beq z K.sz then some (.when (bnd l r m&&decide (m≤xs.length)) (.v (.sl K) (cut xs l r)))else none
  |none=>none
 |_,_,_,_=>none
def wqcl(ty:TypeId→Option TI)(t:TypeId): Bool :=
 match ty t with
 |some ti=>match ti.k with
  |.slice=>match ty ti.el with
   |some ei=>match ei.k with
    |.int .u8=>true
    |_=>false
   |none=>false
  |_=>false
 |none=>false
def wqyk(ty:TypeId→Option TI)(h:Heap)(s r:TypeId)(x:PV): Option Ev :=
 match ty s,ty r with
 |some a,some b=>match b.k,x with
  |.int k,.v (.int _) n=>some (.pure (.v (.int k) (k.wrap n)))
  |.flt,.v (.int _) n=>some (.pure (.v .flt (fltOf n)))
  |.int k,.v .flt b=>some (.when (fltIn k b) (.v (.int k) ((fltI b).getD 0)))
  |.str,.v .str l=>some (.pure (.v .str l))
  |.str,.v (.int _) n=>some (.pure (.v .str (Utf8.encode n).data.toList))
  |.str,.v (.sl (.int .u8)) l=>bif wqcl ty s then some (.pure (.v .str (wq4a l)))else none
  |.str,.row m=>match h m with
   |some (.row _ (.int .u8) xs)=>bif wqcl ty s then some (.pure (.v .str (wq4a xs)))else none
   |_=>none
  |.str,.nilsl=>bif wqcl ty s then some (.pure (.v .str []))else none
  |.slice,.v .str l=>bif wqcl ty r&&isStrT ty s then some (.pure (.v (.sl (.int .u8)) (wq35 l)))else none
  |_,_=>match a.k with
   |_=>none
 |_,_=>none
def evMark(ty:TypeId→Option TI)(h:Heap)(s r:TypeId)(x:PV): Option Ev :=
 match x with
 |.row m=>bif Nat.beq s r&&wqcl ty s then(match h m with
  |some (.row _ (.int .u8) (y::ys))=>some ⟨.ok,.v (.sl (.int .u8)) (y::ys),[(m,none)],frz h [m]⟩
  |_=>none)else none
 |_=>none
def wqyl(h:Heap)(d:Nat)(e:TypeId)(K:Kd)(bytes:Nat)(x y:PV): Option Ev :=
 match srcOf h K y with
 |some ys=>match x with
  |.nilsl=>match h (wq43 d)with
   |none=>some ⟨.c (fits 0 ys.length bytes),.row (wq43 d),[(wq43 d,some (.row e K ys))],none⟩
   |some _=>none
  |.row n=>match h n with
   |some (.row e' K' xs)=>match cast (.sl K') (.sl K) xs with
    |some xs=>bif srcNe n y&&Nat.beq e' e then some ⟨.c (fits xs.length ys.length bytes),.row n,[(n,some (.row e K (xs++ys)))],some (purge n)⟩else none
    |none=>none
   |_=>none
  |_=>none
 |none=>none
def wqym(mx:Bool)(x y:PV): Option Ev :=
 match x,y with
 |.v (.int k) a,.v (.int k') b=>if k=k' then some (.pure (.v (.int k) (bif mx then(if b>a then b else a)else(if b<a then b else a))))else none
 |_,_=>none
def srcT(ty:TypeId→Option TI)(y:PV)(t t':TypeId)(b:Nat): Bool :=
 match y with
 |.v .str _=>isStrT ty t'&&wqcl ty t&&Nat.beq b 1
 |_=>Nat.beq t t'
def evLen(ty:TypeId→Option TI)(h:Heap)(t:TypeId)(p:PV): Option Ev :=
 match p with
 |.v .str s=>bif isStrT ty t then some (.pure (.v (.int .i64) (s.length:Int)))else none
 |.v (.sl _) xs=>bif (elSz ty t).isSome then some (.pure (.v (.int .i64) (xs.length:Int)))else none
 |.nilsl=>bif (elSz ty t).isSome then some (.pure (.v (.int .i64) (0:Int)))else none
 |.row n=>match h n with
  |some (.row _ _ xs)=>bif (elSz ty t).isSome then some (.pure (.v (.int .i64) (xs.length:Int)))else none
  |_=>none
 |.bv _ xs=>bif (elSz ty t).isSome then some (.pure (.v (.int .i64) (xs.length:Int)))else none
 |_=>none
def evCall(ty:TypeId→Option TI)(u:Operand→PV)(h:Heap)(d:Nat)(b:Builtin)(args:List Operand)(ts:List TypeId): Option Ev :=
 match b,args,ts with
 |.len,[x],[t]=>evLen ty h t (u x)
 |.append,[x,y],[t,t']=>match elKd ty t with
  |some (e,K,b)=>bif srcT ty (u y) t t' b then wqyl h d e K b (u x) (u y)else none
  |none=>none
 |.min,[x,y],_=>wqym false (u x) (u y)
 |.max,[x,y],_=>wqym true (u x) (u y)
 |_,_,_=>none
def evalOp(ty:TypeId→Option TI)(u:Operand→PV)(h:Heap)(d:Nat)(op:Op): Option Ev :=
 match op with
 |.move x=>evMove (u x)
 |.assign x=>evMove (u x)
 |.binOp op t x y _=>evBin ty t op (wqez x || wqez y) (u x) (u y)
 |.unOp op _ x=>unPV op (u x)
 |.extract x i=>wqyj (u x) i
 |.nilCheck x=>evNil (u x)
 |.fieldAddr s x f=>match wqtd ty s f with
  |some (o,fi)=>wqpl o fi (u x)
  |none=>none
 |.field s x f=>match wqtd ty s f with
  |some (o,fi)=>wq18n o fi (u x)
  |none=>none
 |.build s parts=>match ty s with
  |some ti=>wq18p ty ti (parts.toList.map fun(i,x)=>(i,u x))
  |none=>none
 |.makeInterface s x=>match ty s with
  |some ti=>wq18q s ti (u x)
  |none=>none
 |.typeAssert x _ aT_ ok=>match ty aT_ with
  |some ti=>wq132 ti aT_ ok (u x)
  |none=>none
 |.makeFunc (.func f) first caps=>bif Nat.beq first.size 0 then some (.pure (.clo f (caps.toList.map u)))else none
 |.index t x i=>bif isStrT ty t then wq18r (u x) (u i)else none
 |.slice xt x lo hi none=>wq107 ty h xt (u x) (optInt u lo) (optInt u hi)
 |.slice xt x lo (some hi) (some mx)=>wq135 ty xt (u x) (optInt u lo 0) (optInt u (some hi) 0) (optInt u (some mx) 0)
 |.indexAddr t x i=>wqpn ty h t (u x) (u i)
 |.load s a=>match ty s with
  |some ti=>evLoad ti h (u a)
  |none=>none
 |.store s a x=>match ty s with
  |some ti=>wq15n ti h (u a) (u x)
  |none=>none
 |.alloc s=>match ty s with
  |some ti=>wq15o ti s h d
  |none=>none
 |.box s x=>evBox s h d (u x)
 |.buildSlice s n parts=>match elKd ty s with
  |some (e,K,_)=>wqho h d e K n (parts.toList.map fun(i,x)=>(i,u x))
  |none=>none
 |.makeSlice s l c=>match elKd ty s with
  |some (e,K,b)=>evMake h d e K b (u l) (u c)
  |none=>none
 |.convert s r x=>match evMark ty h s r (u x)with
  |some ev=>some ev
  |none=>wqyk ty h s r (u x)
 |.makeMap s none=>match mapKd ty s with
  |some (ag,V)=>wqt5 h d ag V
  |none=>none
 |.range t x=>bif isStrT ty t then wq15m h d (u x)else none
 |.next x true=>evNext h (u x)
 |.lookup s x i ok=>match mapKd ty s with
  |some (ag,V)=>wqyi h ag V ok (u x) (u i)
  |none=>none
 |.mapUpdate s x i p=>match mapKd ty s with
  |some _=>wqks h (u x) (u i) (u p)
  |none=>none
 |.call { callee := .builtin b,args,argTypes }=>evCall ty u h d b args.toList argTypes.toList
 |_=>none
end Go.Proofs.YtabkhphoacmcdaaGreatDoor.Pvm
namespace Go.Proofs.YtabkhphoacmcdaaGreatDoor.Pvm
open Go
inductive LS where
 |any
 |sl (K:Kd)
 |own (nm:Nm) (e:TypeId) (K:Kd)
 |obj (nm:Nm) (cs:List LS)
 |ag (cs:List LS)
 |clo (cs:List LS)
 |nps (nm:Nm) (off:Nat)
 |mpo (nm:Nm) (ag:MK) (V:Kd)
 |bor (K:Kd)
 |lend (K:Kd)
structure CutSpec where
 live:List (Nat×LS)
 objs:List (Nm×LS)
inductive Out where
 |ret (ps:List PV) (hs:List (Nm×HObj))
 |pan (p:PV) (hs:List (Nm×HObj))
inductive Ex where
 |normal
 |exit (id:Nat)
 |ret
 |panic (p:PV)
structure CTab where
 sig:FuncId→List LS
 run:FuncId→{R:Type}→List PV→List (Nm×HObj)→(Out→Option R)→Option R
def CTab.nil:CTab:=⟨fun _=>[],fun _ {_} _ _ _=>none⟩
def CTab.add(f:FuncId)(s:List LS)(run:{R:Type}→List PV→List (Nm×HObj)→(Out→Option R)→Option R)(C:CTab): CTab :=
 ⟨fun g=>bif Nat.beq g f then s else C.sig g,fun g {_} ps hp K=>bif Nat.beq g f then run ps hp K else C.run g ps hp K⟩
inductive Plan where
 |done
 |op (i f:Nat) (r:Plan)
 |alt (i:Nat) (p q:Plan)
def Plan.of:List (Nat×Nat)→Plan→Plan
 |[],p=>p
 |(i,f)::r,p => .op i f (Plan.of r p)
def both{R:Type}(a b:Option R): Option R:=@ite _ (a=b) (Classical.propDecidable _) a none
inductive Shp where
 |o
 |b (s t:Shp)
def dupT{R:Type}: Shp→Option R→Option R
 |.o,x=>x
 |.b s t,x=>both (dupT s x) (dupT t x)
structure Ctx where
 ty:TypeId→Option TI
 cuts:List (Nat×CutSpec)
 C:CTab
 keep:List Nat
 pv:List Nm
 plans:List (Nat×Plan)
 sh:{T R:Type}→T→(T→Option R)→Option R
structure NA where
 nm:List (Nm×Option Nm)
 hp:List (Nm×HObj)
 fr:List Nm
 br:List Nm
def isOld(n:Nm): List (Nm×Option Nm)→Bool
 |[]=>false
 |(_,some m)::r=>bif Nat.beq m n then true else isOld n r
 |(_,none)::r=>isOld n r
def newOf(n:Nm): List (Nm×Option Nm)→Option Nm
 |[]=>none
 |(k,some m)::r=>bif Nat.beq m n then some k else newOf n r
 |(_,none)::r=>newOf n r
def oldOf(k:Nm): List (Nm×Option Nm)→Option (Option Nm)
 |[]=>none
 |(k',m)::r=>bif Nat.beq k' k then some m else oldOf k r
mutual
def pureP(h:Heap): PV→Option (PV×List Nm)
 |.v K x=>some (.v K x,[])
 |.kb b=>some (.v .bool b,[])
 |.nilsl=>some (.nilsl,[])
 |.nilptr=>some (.nilptr,[])
 |.nilif=>some (.nilif,[])
 |.row n=>match h n with
  |some (.row _ K xs)=>some (.v (.sl K) xs,[n])
  |_=>none
 |.agg cs=>match purePs h cs with
  |some (cs,f)=>some (.agg cs,f)
  |none=>none
 |.ifc t p=>match pureP h p with
  |some (p,f)=>some (.ifc t p,f)
  |none=>none
 |.elp K xs i off=>some (.elp K xs i off,[])
 |_=>none
def purePs(h:Heap): List PV→Option (List PV×List Nm)
 |[]=>some ([],[])
 |p::r=>match pureP h p,purePs h r with
  |some (p,f),some (r,f')=>some (p::r,f++f')
  |_,_=>none
end
mutual
def normP(h:Heap)(na:NA): LS→PV→Option (PV×NA)
 |.any,p=>match pureP h p with
  |some (p,f)=>some (p,{ na with fr:=na.fr++f })
  |none=>none
 |.sl K,p=>match leaf h (.sl K) p with
  |some (xs,f)=>some (.v (.sl K) xs,{ na with fr:=na.fr++f })
  |none=>none
 |.own nm e K,p=>match p with
  |.nilsl=>bif Nat.ble 1 K.sz then some (.row nm,{ na with nm:=na.nm++[(nm,none)],hp:=na.hp++[(nm,.row e K [])] })else none
  |.row m=>match h m with
   |some (.row e' K' xs)=>bif isOld m na.nm then none else match cast (.sl K') (.sl K) xs with
    |some xs=>bif Nat.beq e' e then some (.row nm,{ na with nm:=na.nm++[(nm,some m)],hp:=na.hp++[(nm,.row e K xs)] })else none
    |none=>none
   |_=>none
  |_=>none
 |.obj nm cs,p=>match p with
  |.ptr n off=>match newOf n na.nm with
   |some k=>some (.ptr k off,na)
   |none=>match h n with
    |some (.var t ps)=>match normPs h { na with nm:=na.nm++[(nm,some n)] } cs ps with
     |some (ps,na)=>some (.ptr nm off,{ na with hp:=na.hp++[(nm,.var t ps)] })
     |none=>none
    |_=>none
  |_=>none
 |.nps nm o0,p=>match p with
  |.nilptr=>some (.nps nm o0,na)
  |.nps n off=>match newOf n na.nm with
   |some k=>bif Nat.beq off o0 then some (.nps k o0,na)else none
   |none=>none
  |.ptr n off=>match newOf n na.nm with
   |some k=>bif Nat.beq off o0 then some (.nps k o0,na)else none
   |none=>none
  |_=>none
 |.mpo nm ag V,p=>match p with
  |.mpp m=>match h m with
   |some (.mp ag' V' es)=>bif isOld m na.nm then none else match cast (.sl (.pr .str V')) (.sl (.pr .str V)) es with
    |some es=>bif decide (ag'=ag)then some (.mpp nm,{ na with nm:=na.nm++[(nm,some m)],hp:=na.hp++[(nm,.mp ag V es)] })else none
    |none=>none
   |_=>none
  |_=>none
 |.bor K,p=>match p with
  |.bv K' xs=>match cast (.sl K') (.sl K) xs with
   |some xs=>some (.bv K xs,na)
   |none=>none
  |.v (.sl K') xs=>match cast (.sl K') (.sl K) xs with
   |some xs=>some (.bv K xs,na)
   |none=>none
  |.nilsl=>some (.bv K [],na)
  |.row m=>match h m with
   |some (.row _ K' xs)=>match cast (.sl K') (.sl K) xs with
    |some xs=>some (.bv K xs,{ na with br:=m::na.br })
    |none=>none
   |_=>none
  |_=>none
 |.lend K,p=>match p with
  |.lp K' x off=>match cast K' K x with
   |some x=>bif Nat.beq off 0 then some (.lp K x 0,na)else none
   |none=>none
  |.ptr n off=>match h n with
   |some (.var _ cs)=>match K.decAll h ((cs.drop off).take K.sz)with
    |some (x,[])=>some (.lp K x 0,{ na with br:=n::na.br })
    |_=>none
   |_=>none
  |_=>none
 |.ag cs,p=>match p with
  |.agg ps=>match normPs h na cs ps with
   |some (ps,na)=>some (.agg ps,na)
   |none=>none
  |_=>none
 |.clo cs,p=>match p with
  |.clo f ps=>match normPs h na cs ps with
   |some (ps,na)=>some (.clo f ps,na)
   |none=>none
  |_=>none
def normPs(h:Heap)(na:NA): List LS→List PV→Option (List PV×NA)
 |[],[]=>some ([],na)
 |s::ss,p::ps=>match normP h na s p with
  |some (p,na)=>match normPs h na ss ps with
   |some (ps,na)=>some (p::ps,na)
   |none=>none
  |none=>none
 |_,_=>none
end
def normSlots(h:Heap)(t:Nat→PV)(na:NA): List (Nat×LS)→Option (List (Nat×PV)×NA)
 |[]=>some ([],na)
 |(i,s)::r=>match normP h na s (t i)with
  |some (p,na)=>match normSlots h t na r with
   |some (l,na)=>some ((i,p)::l,na)
   |none=>none
  |none=>none
def normObjs(h:Heap)(na:NA): List (Nm×LS)→Option NA
 |[]=>some na
 |(n,s)::r=>match normP h na s (.ptr n 0)with
  |some (_,na)=>normObjs h na r
  |none=>none
def mkT(l:List (Nat×PV)): Nat→PV:=fun i=>(look l i).getD .un
def mkH(l:List (Nm×HObj)): Heap:=fun n=>look l n
def wqr0:List Nat→Bool
 |[]=>true
 |n::r => !isIn n r&&wqr0 r
def oldsOf:List (Nm×Option Nm)→List Nm
 |[]=>[]
 |(_,some m)::r=>m::oldsOf r
 |(_,none)::r=>oldsOf r
def keysOf{α : Type}: List (Nat × α)→List Nat
 |[]=>[]
 |(n,_)::r=>n::keysOf r
def disj(l r:List Nat): Bool :=
 match l with
 |[]=>true
 |n::l => !isIn n r&&disj l r
def subL(l r:List Nat): Bool :=
 match l with
 |[]=>true
 |n::l=>isIn n r&&subL l r
def fine(na:NA): Bool :=
 wqr0 (keysOf na.nm)&&wqr0 (oldsOf na.nm)&&wqr0 (keysOf na.hp)&&subL (keysOf na.nm) (keysOf na.hp)&&subL (keysOf na.hp) (keysOf na.nm)&&disj na.fr (oldsOf na.nm)&&disj na.br (oldsOf na.nm)
def stay(nm:List (Nm×Option Nm)): List Nm→Bool
 |[]=>true
 |n::r=>(match oldOf n nm with|some (some m)=>Nat.beq m n|_=>false)&&stay nm r
def norm(pv:List Nm)(c:CutSpec)(st:St): Option St :=
 match normObjs st.h ⟨[],[],[],[]⟩ c.objs with
 |some na=>match normSlots st.h st.t na c.live with
  |some (l,na)=>bif fine na&&stay na.nm pv then some ⟨mkT l,mkH na.hp⟩else none
  |none=>none
 |none=>none
def sigma(d:Nat)(nm:List (Nm×Option Nm))(k:Nm): Nm :=
 match oldOf k nm with
 |some (some m)=>m
 |_=>(d+1)*100+1+k
mutual
def PV.ren(f:Nm→Nm): PV→PV
 |.row m => .row (f m)
 |.ptr n off => .ptr (f n) off
 |.elr n i off => .elr (f n) i off
 |.agg cs => .agg (rens f cs)
 |.tup ps => .tup (rens f ps)
 |.ifc t p => .ifc t (p.ren f)
 |.clo g cap => .clo g (rens f cap)
 |.opt g c p => .opt g c (p.ren f)
 |.v K x => .v K x
 |.kb b => .kb b
 |.ng b => .ng b
 |.nilsl => .nilsl
 |.nilptr => .nilptr
 |.nilif => .nilif
 |.nps n off => .nps (f n) off
 |.elp K xs i off => .elp K xs i off
 |.mpp n => .mpp (f n)
 |.nxt s p => .nxt s p
 |.bv _ _ => .un
 |.elq _ _ _ _ => .un
 |.lp _ _ _ => .un
 |.un => .un
def rens(f:Nm→Nm): List PV→List PV
 |[]=>[]
 |p::r=>p.ren f::rens f r
end
def renO(f:Nm→Nm): HObj→HObj
 |.var t cs => .var t (rens f cs)
 |o=>o
def renH(f:Nm→Nm): List (Nm×HObj)→List (Nm×Option HObj)
 |[]=>[]
 |(n,o)::r=>(f n,some (renO f o))::renH f r
def Kd.hasSl:Kd→Bool
 |.sl _=>true
 |.pr a b=>a.hasSl || b.hasSl
 |_=>false
mutual
def PV.hasSl:PV→Bool
 |.v K _=>K.hasSl
 |.elp _ _ _ _=>true
 |.agg cs=>hasSls cs
 |.tup ps=>hasSls ps
 |.ifc _ p=>p.hasSl
 |.clo _ cap=>hasSls cap
 |.opt _ _ p=>p.hasSl
 |_=>false
def hasSls:List PV→Bool
 |[]=>false
 |p::r=>p.hasSl || hasSls r
end
def hasSlO:HObj→Bool
 |.var _ cs=>hasSls cs
 |.row _ K _=>K.hasSl
 |.mp _ V _=>V.hasSl
def hasSlH:List (Nm×HObj)→Bool
 |[]=>false
 |(_,o)::r=>hasSlO o || hasSlH r
def rowsOf(hp:List (Nm×HObj)): List (Nm×Option Nm)→List Nm
 |[]=>[]
 |(k,some m)::r=>match look hp k with
  |some (.row _ _ _)=>m::rowsOf hp r
  |_=>rowsOf hp r
 |(_,none)::r=>rowsOf hp r
def wqji(hp hs:List (Nm×HObj)): List (Nm×Option Nm)→Bool
 |[]=>true
 |(k,some _)::r=>(match look hp k,look hs k with
  |some (.var _ _),none=>false
  |some (.mp _ _ _),none=>false
  |_,_=>true)&&wqji hp hs r
 |(_,none)::r=>wqji hp hs r
def callF(h:Heap)(rs l:List Nm): Nm→PV:=fun m=>bif isIn m rs then .un else bif isIn m l then(match h m with
 |some (.row _ K xs) => .v (.sl K) xs
 |_ => .un)else .row m
def callM(h:Heap)(rs l:List Nm): Option (PV→PV) :=
 match rs,l with
 |[],[]=>none
 |rs,l=>some (PV.mapR (callF h rs l))
def allNew(h:Heap)(d:Nat)(nm:List (Nm×Option Nm)): List (Nm×HObj)→Bool
 |[]=>true
 |(k,_)::r=>(match oldOf k nm with
  |some (some _)=>true
  |_=>(match h ((d+1)*100+1+k)with|none=>true|some _=>false)&&Nat.ble k 98)&&allNew h d nm r
def back(st:St)(d:Nat)(na:NA)(hs:List (Nm×HObj))(sl:Bool): Option St :=
 bif allNew st.h d na.nm hs&&wqji na.hp hs na.nm&&wqr0 (keysOf hs)then
  let l:=bif sl then na.fr else[]
  let rs:=rowsOf na.hp na.nm
  some ⟨mapT (callM st.h rs l) st.t,setHs (setHs (mapH (callM st.h rs l) st.h) (wq83 (rs++l))) (renH (sigma d na.nm) hs)⟩
 else none
def tupOf:List PV→PV
 |[p]=>p
 |ps => .tup ps
def callK(cx:Ctx){R:Type}(g:FuncId)(args:List PV)(d:Nat)(st:St)(K:Option PV→St→Option R): Option R :=
 match normPs st.h ⟨[],[],[],[]⟩ (cx.C.sig g) args with
 |some (ps,na)=>bif fine na then cx.C.run g ps na.hp fun o=>match o with
  |.ret rs hs=>match back st d na hs (hasSls rs || hasSlH hs)with
   |some st'=>K none ⟨upd st'.t d (tupOf (rens (sigma d na.nm) rs)),st'.h⟩
   |none=>none
  |.pan p hs=>match back st d na hs (p.hasSl || hasSlH hs)with
   |some st'=>K (some (p.ren (sigma d na.nm))) st'
   |none=>none
  else none
 |none=>none
def quiet:Op→Bool
 |.move _ | .binOp .. | .unOp .. | .convert .. | .field .. | .fieldAddr .. | .index .. | .indexAddr .. | .load .. | .extract .. | .nilCheck _ | .build .. | .makeInterface .. | .slice .. => true
 |.call { callee := .builtin .len,.. }=>true
 |_=>false
def putE(st:St)(d:Option Nat)(ev:Ev): St :=
 ⟨match d with|some d=>upd (mapT ev.mp st.t) d ev.val|none=>mapT ev.mp st.t,setHs (mapH ev.mp st.h) ev.hs⟩
def putV(st:St)(d:Option Nat)(p:PV): St :=
 match d with
 |some d=>⟨upd st.t d p,st.h⟩
 |none=>st
def chkK{R:Type}(c:Chk)(K:Option R): Option R :=
 match c with
 |.ok=>K
 |.c b=>bif b then K else none
def SH{T R:Type}(x:T)(f:T→Option R): Option R:=f x
def shE(cx:Ctx){R:Type}: List (Nm×Option HObj)→(List (Nm×Option HObj)→Option R)→Option R
 |[],k=>k []
 |(n,some (.row e K xs))::r,k=>bif Nat.ble 2 K.sz then cx.sh xs fun ys=>shE cx r fun l=>k ((n,some (.row e K ys))::l)else shE cx r fun l=>k ((n,some (.row e K xs))::l)
 |x::r,k=>shE cx r fun l=>k (x::l)
def wq1d8:Op→Bool
 |.store .. => true
 |_=>false
def opK(cx:Ctx){R:Type}(o:Oper)(st:St)(K:Option PV→St→Option R): Option R :=
 let u:=fun x=>useO [] (st.get x)
 match o.op with
 |.call { callee := .value f,args,.. }=>match u f,o.dst with
  |.clo g cap,some d=>callK cx g (args.toList.map u++cap) d st K
  |_,_=>none
 |.panic x=>match u x with
  |.ifc t p=>K (some (.ifc t p)) st
  |_=>none
 |.pick c a b=>match st.get c with
  |.kb x=>match x,useO [] (st.get a),useO [] (st.get b)with
   |true,.un,_=>none
   |false,_,.un=>none
   |true,p,_=>K none (putV st o.dst p)
   |false,_,p=>K none (putV st o.dst p)
  |.v .bool x=>match c with
   |.tmp s=>match useO [(s,true)] (st.get a),useO [(s,false)] (st.get b)with
    |.v K1 y,.v K2 z=>match cast K2 K1 z with
     |some z=>K none (putV st o.dst (.v K1 (cond x y z)))
     |none=>none
    |_,_=>none
   |_=>none
  |_=>none
 |op=>match evalOp cx.ty u st.h (o.dst.getD 0) op with
  |some ev=>chkK ev.chk (bif wq1d8 op then shE cx ev.hs fun hs=>K none (putE st o.dst ⟨ev.chk,ev.val,hs,ev.mp⟩)else K none (putE st o.dst ev))
  |none=>none
def putO(st:St)(d:Option Nat)(G:List (Nat×Bool))(c:Bool)(p:PV): Option St :=
 match d with
 |some d=>bif hasTag d G then none else some ⟨upd st.t d (.opt G c p),st.h⟩
 |none=>some st
def optK(cx:Ctx){R:Type}(G:List (Nat×Bool))(c:Bool)(o:Oper)(st:St)(K:Option PV→St→Option R): Option R :=
 let u:=fun x=>useO G (st.get x)
 match o.op with
 |.pick c' a b=>match c' with
  |.tmp s=>match useO G (st.get c')with
   |.v .bool x=>match useO ((s,true)::G) (st.get a),useO ((s,false)::G) (st.get b)with
    |.v K1 y,.v K2 z=>match cast K2 K1 z with
     |some z=>match putO st o.dst G c (.v K1 (cond x y z))with
      |some st'=>K none st'
      |none=>none
     |none=>none
    |_,_=>none
   |_=>none
  |_=>none
 |op=>match evalOp cx.ty u st.h (o.dst.getD 0) op with
  |some ev=>match ev.hs,ev.mp with
   |[],none=>match putO st o.dst G c ev.val with
    |some st'=>match ev.chk with
     |.ok=>K none st'
     |.c b=>bif !c || b then K none st' else none
    |none=>none
   |_,_=>none
  |none=>none
def isPick:Op→Bool
 |.pick .. => true
 |_=>false
def wqte(s:Nat): List (Nat×Bool)→List (Nat×Bool)
 |[]=>[]
 |(s',b)::r=>bif Nat.beq s' s then wqte s r else(s',b)::wqte s r
def resO(s:Nat)(w:Bool): PV→PV
 |.opt g c p=>bif tagIn s (!w) g then .tup []else match wqte s g with
  |[]=>p
  |x::r => .opt (x::r) c p
 |p=>p
def knowT(t:Nat→PV)(s:Nat)(w:Bool): Nat→PV:=fun i=>bif Nat.beq i s then .kb w else resO s w (t i)
def wq108(t:Nat→PV): List (Nat×Bool)→Option (Nat×Bool×Bool)
 |[]=>none
 |(s,w)::r=>match t s with
  |.v .bool b=>some (s,w,b)
  |_=>wq108 t r
def oneKA(cx:Ctx){R:Type}(ops:Array Oper)(o:Oper)(again:St→(Option PV→St→Option R)→Option R)(st:St)(K:Option PV→St→Option R): Option R :=
 match o.guard with
 |none=>opK cx o st K
 |some (j,w)=>match(match ops[j]? with|some oj=>oj.dst|none=>none)with
  |none=>none
  |some s=>match st.t s with
   |.kb b=>match b == w with
    |true=>opK cx o st K
    |false=>K none (putV st o.dst (.tup []))
   |.ng b=>match b == w with
    |true=>K none (putV st o.dst (.tup []))
    |false=>none
   |.tup []=>K none (putV st o.dst (.tup []))
   |.v .bool b=>bif quiet o.op || isPick o.op then optK cx [(s,w)] (b == w) o st K
    else bif b == w then opK cx o ⟨knowT st.t s w,st.h⟩ K else K none (putV ⟨knowT st.t s (!w),st.h⟩ o.dst (.tup []))
   |.opt g c (.v .bool b)=>bif quiet o.op || isPick o.op then optK cx ((s,w)::g) (c&&b == w) o st K else match wq108 st.t g with
    |some (s1,w1,b1)=>bif b1 == w1 then again ⟨knowT st.t s1 w1,st.h⟩ K else K none (putV ⟨knowT st.t s1 (!w1),st.h⟩ o.dst (.tup []))
    |none=>none
   |_=>none
def oneKn(cx:Ctx){R:Type}(ops:Array Oper)(o:Oper): Nat→St→(Option PV→St→Option R)→Option R
 |0=>oneKA cx ops o fun _ _=>none
 |n+1=>oneKA cx ops o (oneKn cx ops o n)
def oneK(cx:Ctx){R:Type}(ops:Array Oper)(o:Oper)(st:St)(K:Option PV→St→Option R): Option R:=oneKn cx ops o 6 st K
def opsK(cx:Ctx){R:Type}(ops:Array Oper): List Oper→St→(Option PV→St→Option R)→Option R
 |[],st,K=>K none st
 |o::r,st,K=>oneK cx ops o st fun e st'=>match e with
  |none=>opsK cx ops r st' K
  |some p=>K (some p) st'
def isPtr:PV→Bool
 |.ptr _ _ | .elp _ _ _ _ | .elr _ _ _ | .elq _ _ _ _ | .lp _ _ _=>true
 |_=>false
def isInt:PV→Bool
 |.v (.int _) _=>true
 |_=>false
def isStr:PV→Bool
 |.v .str _=>true
 |_=>false
def isLen:PV→Bool
 |.v .str _ | .v (.sl _) _ | .nilsl | .row _ | .bv _ _=>true
 |_=>false
mutual
def flat:PV→Bool
 |.v K _ => !K.hasSl
 |.nilsl | .nilptr | .nilif=>true
 |.agg cs=>flats cs
 |_=>false
def flats:List PV→Bool
 |[]=>true
 |p::r=>flat p&&flats r
end
def toldB:Option Ev→Bool
 |some ⟨.ok,.v .bool _,[],none⟩=>true
 |_=>false
def wqtf(ty:TypeId→Option TI)(u:Operand→PV): Op→Bool
 |.move _ | .assign _ | .pick .. | .field .. | .index .. | .indexAddr .. | .extract .. | .makeInterface .. | .build .. => true
 |.nilCheck x=>isPtr (u x)
 |.binOp op t x y _=>((isInt (u x)&&isInt (u y)) || (isStr (u x)&&isStr (u y))) || (flat (u x)&&flat (u y)&&toldB (evBin ty t op (wqez x || wqez y) (u x) (u y)))
 |.unOp .. => true
 |.fieldAddr s x f=>isPtr (u x)&&match wqtd ty s f with
  |some (_,fi) => !Nat.beq fi.size 0
  |none=>false
 |.slice t x _ _ mx=>mx.isNone&&isLen (u x)
 |.call { callee := .builtin .len,args,argTypes }=>match args.toList with
  |[x]=>argTypes.size == 1&&isLen (u x)
  |_=>false
 |_=>false
def wq136:Op→Bool
 |.move _ | .assign _ | .pick .. | .field .. | .index .. | .indexAddr .. | .extract .. | .makeInterface .. | .build .. | .nilCheck _ | .binOp .. | .unOp .. | .fieldAddr .. | .slice .. => true
 |.call { callee := .builtin .len,.. }=>true
 |_=>false
def isLoad:Op→Bool
 |.load .. => true
 |_=>false
def isGrow:Op→Bool
 |.alloc _ | .box .. | .buildSlice .. => true
 |_=>false
def wOp(o:Op): Bool := !(wq136 o || isLoad o || isGrow o)
def dsOf(ops:Array Oper): List Nat:=(List.range ops.size).filter fun i=>match ops[i]? with|some o=>wOp o.op|none=>false
def bit(m i:Nat): Bool:=Nat.beq (Nat.land (Nat.shiftRight m i) 1) 1
def setb(m i:Nat): Nat:=Nat.lor m (Nat.shiftLeft 1 i)
def wqr1(m:Nat): List Edge→Bool
 |[]=>true
 |e::r=>(!Region.binds .any e || bit m e.on)&&wqr1 m r
def wqxf(i:Nat): List Edge→Bool
 |[]=>false
 |e::r=>(Region.binds .any e&&Nat.beq e.on i) || wqxf i r
def wqtg(m:Nat): List Edge→Bool
 |[]=>false
 |e::r=>(Region.binds .any e&&bit m e.on) || wqtg m r
def freeC(ops:Array Oper)(mask i:Nat)(oi:Oper): Nat→List Oper→Bool
 |_,[]=>true
 |j,oj::r=>(Nat.beq j i || bit mask j || wqxf i oj.after.toList || oi.apart ops oj)&&freeC ops mask i oi (j+1) r
def aloneC(mask cov i:Nat): Nat→List Oper→Bool
 |_,[]=>true
 |j,oj::r=>(Nat.beq j i || bit mask j || bit cov j || !wqr1 mask oj.after.toList)&&aloneC mask cov i (j+1) r
def waitsM(i:Nat): Nat→List Oper→Nat→Nat
 |_,[],W=>W
 |j,o::r,W=>waitsM i (j+1) r (bif wqxf i o.after.toList || wqtg W o.after.toList then setb W j else W)
def lastC(mask W:Nat): Nat→List Oper→Bool
 |_,[]=>true
 |j,o::r=>(!wOp o.op || bit mask j || bit W j)&&lastC mask W (j+1) r
def allIn(mask:Nat): Nat→List Oper→Bool
 |_,[]=>true
 |j,_::r=>bit mask j&&allIn mask (j+1) r
def isKept(ks:List Nat)(o:Oper): Bool:=match o.dst with|some d=>isIn d ks|none=>false
def planOk(ks:List Nat)(ops:Array Oper): Plan→Nat→Nat→Nat→Bool
 |.done,fuel,mask,cov=>Nat.beq fuel 0&&Nat.beq cov 0&&allIn mask 0 ops.toList
 |.op i f r,n+1,mask,cov=>match ops[i]? with
  |none=>false
  |some o=>(!bit mask i&&wqr1 mask o.after.toList) &&
   (match f with
    |0=>aloneC mask cov i 0 ops.toList&&(wOp o.op || (isGrow o.op || isLoad o.op))
    |1=>Nat.beq cov 0&&(!isKept ks o&&freeC ops mask i o 0 ops.toList&&(wq136 o.op || (isLoad o.op&&lastC mask (waitsM i 0 ops.toList 0) 0 ops.toList)))
    |_=>Nat.beq cov 0&&(!isKept ks o&&freeC ops mask i o 0 ops.toList&&isLoad o.op))&&planOk ks ops r n (setb mask i) 0
 |.alt i p q,n+1,mask,cov=>match ops[i]? with
  |none=>false
  |some o=>(!bit mask i&&wqr1 mask o.after.toList&&(wOp o.op || (isGrow o.op || isLoad o.op)))&&planOk ks ops p n (setb mask i) 0&&planOk ks ops q (n+1) mask (setb cov i)
 |_,_,_,_=>false
def noSel(ops:Array Oper): Bool:=ops.toList.all fun o=>match o.op with | .select .. => false|_=>true
def tagsOf(ops:Array Oper)(o:Oper)(st:St): List (Nat×Bool) :=
 match o.guard with
 |none=>[]
 |some (j,w)=>match(match ops[j]? with|some oj=>oj.dst|none=>none)with
  |none=>[]
  |some s=>match st.t s with
   |.v .bool _=>[(s,w)]
   |.opt g _ _=>(s,w)::g
   |_=>[]
def wqjj(ops:Array Oper)(o:Oper)(st:St): Bool :=
 match o.guard with
 |none=>false
 |some (j,w)=>match(match ops[j]? with|some oj=>oj.dst|none=>none)with
  |none=>false
  |some s=>match st.t s with
   |.kb b=>b != w
   |.ng b=>b == w
   |.tup []=>true
   |_=>false
def wqeh(cx:Ctx)(ops:Array Oper)(o:Oper)(st:St): Bool :=
 wqjj ops o st || (bif isLoad o.op then(evalOp cx.ty (fun x=>useO (tagsOf ops o st) (st.get x)) st.h 0 o.op).isSome else wqtf cx.ty (fun x=>useO (tagsOf ops o st) (st.get x)) o.op)
def wq18s:PV→Option (List Nm)
 |.elp _ _ _ _=>some []
 |.ptr n _=>some [n]
 |_=>none
def wq15p(ops:Array Oper)(o:Oper)(st:St): Option (List Nm) :=
 bif wqjj ops o st then some []else match o.op with
  |.load _ a=>wq18s (useO (tagsOf ops o st) (st.get a))
  |_=>none
def touchC(cx:Ctx)(g:FuncId)(args:List PV)(st:St): List Nm :=
 match normPs st.h ⟨[],[],[],[]⟩ (cx.C.sig g) args with
 |some (_,na)=>oldsOf na.nm
 |none=>[]
def wqjk(cx:Ctx)(o:Oper)(st:St): List Nm :=
 match o.op with
 |.call { callee := .value f,args,.. }=>match useO [] (st.get f)with
  |.clo g cap=>touchC cx g (args.toList.map (fun x=>useO [] (st.get x))++cap) st
  |_=>[]
 |op=>match evalOp cx.ty (fun x=>useO [] (st.get x)) st.h (o.dst.getD 0) op with
  |some ev=>keysOf ev.hs
  |none=>[]
def touchA(cx:Ctx)(ops:Array Oper)(o:Oper)(again:St→List Nm)(st:St): List Nm :=
 match o.guard with
 |none=>wqjk cx o st
 |some (j,w)=>match(match ops[j]? with|some oj=>oj.dst|none=>none)with
  |none=>[]
  |some s=>match st.t s with
   |.v .bool _=>wqjk cx o ⟨knowT st.t s w,st.h⟩
   |.opt g _ _=>match wq108 st.t g with
    |some (s1,w1,_)=>again ⟨knowT st.t s1 w1,st.h⟩
    |none=>[]
   |_=>wqjk cx o st
def touchN(cx:Ctx)(ops:Array Oper)(o:Oper): Nat→St→List Nm
 |0=>touchA cx ops o fun _=>[]
 |n+1=>touchA cx ops o (touchN cx ops o n)
def wqgd(cx:Ctx)(ops:Array Oper)(o:Oper)(st:St): List Nm:=touchN cx ops o 6 st
def planK(cx:Ctx){R:Type}(ops:Array Oper): Plan→List Nm→St→(Option PV→St→Option R)→Option R
 |.done,_,st,K=>K none st
 |.op i f r,pr,st,K=>match ops[i]? with
  |none=>none
  |some o=>match f with
   |0=>bif disj (wqgd cx ops o st) pr then oneK cx ops o st fun e st'=>match e with
    |none=>planK cx ops r pr st' K
    |some p=>K (some p) st'
    else none
   |1=>bif wqeh cx ops o st&&disj (wqgd cx ops o st) pr then oneK cx ops o st fun e st'=>match e with
    |none=>planK cx ops r pr st' K
    |some _=>none
    else none
   |_=>match wq15p ops o st with
    |none=>none
    |some ns=>bif wqeh cx ops o st&&disj (wqgd cx ops o st) (ns++pr)then oneK cx ops o st fun e st'=>match e with
     |none=>planK cx ops r (ns++pr) st' K
     |some _=>none
     else none
 |.alt i p q,pr,st,K=>match ops[i]? with
  |none=>none
  |some o=>both (bif disj (wqgd cx ops o st) pr then oneK cx ops o st fun e st'=>match e with
   |none=>planK cx ops p pr st' K
   |some x=>K (some x) st'
   else none) (planK cx ops q pr st K)
def exOf:Option PV→Ex
 |none => .normal
 |some p => .panic p
def regK(cx:Ctx){R:Type}(id:Nat)(ops:Array Oper)(draw:Bool)(st:St)(K:Ex→St→Option R): Option R :=
 bif draw then(match look cx.plans id with
  |some l=>bif noSel ops&&planOk cx.keep ops l ops.size 0 0 then planK cx ops l [] st (fun e st'=>K (exOf e) st')else none
  |none=>none)
 else opsK cx ops ops.toList st (fun e st'=>K (exOf e) st')
def seqK{R:Type}(b:St→(Ex→St→Option R)→Option R)(K:Ex→St→Option R): Ex→St→Option R:=fun e st =>
 match e with
 |.normal=>b st K
 |e=>K e st
def blockK{R:Type}(id:Nat)(K:Ex→St→Option R): Ex→St→Option R:=fun e st =>
 match e with
 |.exit i=>bif Nat.beq i id then K .normal st else K (.exit i) st
 |e=>K e st
def normK{R:Type}(pv:List Nm)(c:Option CutSpec)(st:St)(f:St→Option R): Option R :=
 match c with
 |none=>f st
 |some c=>match norm pv c st with
  |some s=>f s
  |none=>none
def stepK{R:Type}(pv:List Nm)(c:Option CutSpec)(I:St→Option R)(K:Ex→St→Option R): Ex→St→Option R:=fun e st' =>
 match e with
 |.normal=>normK pv c st' I
 |e=>K e st'
def iter{R:Type}(pv:List Nm)(c:Option CutSpec)(body:St→(Ex→St→Option R)→Option R): Nat→St→(Ex→St→Option R)→Option R
 |0,_,_=>none
 |n+1,st,K=>body st (stepK pv c (fun s=>iter pv c body n s K) K)
def wqhp:Code→Nat
 |.region id _ _=>id
 |.seq a _=>wqhp a
 |.block _ a=>wqhp a
 |.loop a=>wqhp a
 |.scope a=>wqhp a
 |_=>1000000
def execK(cx:Ctx)(k:Nat){R:Type}: Code→St→(Ex→St→Option R)→Option R
 |.skip,st,K=>K .normal st
 |.region id ops draw,st,K=>normK cx.pv (look cx.cuts id) st fun s=>regK cx id ops draw s K
 |.seq a b,st,K=>execK cx k a st (seqK (execK cx k b) K)
 |.cond c a b,st,K=>match c with
  |.tmp s=>match st.t s with
   |.v .bool x=>bif x then execK cx k a ⟨knowT st.t s true,st.h⟩ K else execK cx k b ⟨knowT st.t s false,st.h⟩ K
   |.kb x=>match x with
    |true=>execK cx k a st K
    |false=>execK cx k b st K
   |_=>none
  |.const v=>match v with
   |.bool x=>match x with
    |true=>execK cx k a st K
    |false=>execK cx k b st K
   |_=>none
  |_=>none
 |.block id b,st,K=>execK cx k b st (blockK id K)
 |.loop b,st,K=>normK cx.pv (look cx.cuts (1000+wqhp b)) st fun s=>iter cx.pv (look cx.cuts (1000+wqhp b)) (execK cx k b) k s K
 |.exit id,st,K=>K (.exit id) st
 |.scope b,st,K=>execK cx k b st K
 |.label _,st,K=>K .normal st
 |.ret,st,K=>K .ret st
 |_,_,_=>none
end Go.Proofs.YtabkhphoacmcdaaGreatDoor.Pvm
namespace Go.Proofs.YtabkhphoacmcdaaGreatDoor.Pvm
open Go
def RowAt(w:World)(ok:Nat→Prop)(sz:Nat){α : Type}(R : α → List Value→Prop)(ad:Addr)(xs:List α): Prop :=
 ok ad.block∧ad.block<w.heap.size∧∀(i:Nat) (y : α),xs[i]? = some y→∃ c,R y c∧∀(j:Nat) (u:Value),c[j]? = some u→w.cell? (ad.add (i*sz+j))=some u
def RD(w:World)(ok:Nat→Prop): (K:Kd)→K.T→List Value→Prop
 |.int k,x,cs=>cs=[.int k x]
 |.bool,x,cs=>cs=[.bool x]
 |.str,x,cs=>cs=[.string ⟨x.toArray⟩]
 |.flt,x,cs=>cs=[.float .f64 x]
 |.nil,_,cs=>cs=[]
 |.pr a b,x,cs=>∃ c1 c2,cs=c1++c2∧RD w ok a x.1 c1∧RD w ok b x.2 c2
 |.sl e,x,cs=>∃(A:Option Addr) (cap:Nat),cs=[.slice A x.length cap]∧x.length≤cap ∧
  (x=[]∨∃ ad,A=some ad∧RowAt w ok e.sz (RD w ok e) ad x)
theorem RD.len{w:World}{ok:Nat→Prop}: ∀ {K:Kd} {x:K.T} {cs:List Value},RD w ok K x cs→cs.length=K.sz
 |.int _,_,_,h=>by simp[RD]at h;simp[h,Kd.sz]
 |.bool,_,_,h=>by simp[RD]at h;simp[h,Kd.sz]
 |.str,_,_,h=>by simp[RD]at h;simp[h,Kd.sz]
 |.flt,_,_,h=>by simp[RD]at h;simp[h,Kd.sz]
 |.nil,_,_,h=>by simp[RD]at h;simp[h,Kd.sz]
 |.sl _,_,_,h=>by obtain⟨A,cap,rfl,_⟩:=h;rfl
 |.pr a b,x,cs,h=>by
  obtain⟨c1,c2,rfl,h1,h2⟩:=h
  rw[List.length_append,RD.len h1,RD.len h2,Kd.sz]
theorem wqaj(a:Addr)(n:Nat): (a.add n).block=a.block:=by unfold Addr.add;split<;>rfl
theorem RowAt.mono {w w':World} {ok ok':Nat→Prop} {sz:Nat} {α : Type} {R R' : α → List Value→Prop} {ad:Addr} {xs:List α}
 (hb:∀ b,ok b→b<w.heap.size→ok' b∧w'.heap[b]? = w.heap[b]?) (hR:∀ y c,R y c→R' y c) (h:RowAt w ok sz R ad xs):RowAt w' ok' sz R' ad xs:=by
 obtain⟨h1,h2,h3⟩:=h
 obtain⟨ho,hw⟩:=hb _ h1 h2
 refine⟨ho,?_,fun i y hy => ?_⟩
 ·have:w'.heap[ad.block]? = some (w.heap[ad.block]):=by rw[hw];exact Array.getElem?_eq_getElem h2
  exact(Array.getElem?_eq_some_iff.1 this).1
 ·obtain⟨c,hc,hu⟩:=h3 i y hy
  refine⟨c,hR _ _ hc,fun j u hj => ?_⟩
  rw[World.cell?_of_block (w:=w) (by rw[wqaj];exact hw)]
  exact hu j u hj
theorem RD.mono{w w':World}{ok ok':Nat→Prop}(hb:∀ b,ok b→b<w.heap.size→ok' b∧w'.heap[b]? = w.heap[b]?):
 ∀ {K:Kd} {x:K.T} {cs:List Value},RD w ok K x cs→RD w' ok' K x cs
 |.int _,_,_,h=>h
 |.bool,_,_,h=>h
 |.str,_,_,h=>h
 |.flt,_,_,h=>h
 |.nil,_,_,h=>h
 |.pr a b,x,cs,h=>by
  obtain⟨c1,c2,rfl,h1,h2⟩:=h
  exact⟨c1,c2,rfl,RD.mono hb h1,RD.mono hb h2⟩
 |.sl e,x,cs,h=>by
  obtain⟨A,cap,rfl,hc,h⟩:=h
  refine⟨A,cap,rfl,hc,?_⟩
  rcases h with h|⟨ad,rfl,h⟩
  ·exact .inl h
  ·exact .inr ⟨ad,rfl,h.mono hb fun _ _=>RD.mono hb⟩
def RDs(w:World)(ok:Nat→Prop)(K:Kd): List K.T→List Value→Prop
 |[],cs=>cs=[]
 |x::r,cs=>∃ c1 c2,cs=c1++c2∧RD w ok K x c1∧RDs w ok K r c2
theorem RDs.mono{w w':World}{ok ok':Nat→Prop}(hb:∀ b,ok b→b<w.heap.size→ok' b∧w'.heap[b]? = w.heap[b]?){K:Kd}:
 ∀ {xs:List K.T} {cs:List Value},RDs w ok K xs cs→RDs w' ok' K xs cs
 |[],_,h=>h
 |_::_,_,⟨c1,c2,e,h1,h2⟩=>⟨c1,c2,e,h1.mono hb,h2.mono hb⟩
theorem RDs.length{w:World}{ok:Nat→Prop}{K:Kd}: ∀ {xs:List K.T} {cs:List Value},RDs w ok K xs cs→cs.length=xs.length*K.sz
 |[],cs,h=>by simp[RDs]at h;simp[h]
 |x::r,cs,⟨c1,c2,e,h1,h2⟩=>by rw[e,List.length_append,h1.len,h2.length,List.length_cons,Nat.add_mul];omega
theorem RDs.append{w:World}{ok:Nat→Prop}{K:Kd}: ∀ {xs ys:List K.T} {cs ds:List Value},RDs w ok K xs cs→RDs w ok K ys ds→RDs w ok K (xs++ys) (cs++ds)
 |[],_,cs,_,h,h'=>by simp[RDs]at h;subst h;simpa using h'
 |x::r,ys,cs,ds,⟨c1,c2,e,h1,h2⟩,h'=>⟨c1,c2++ds,by rw[e,List.append_assoc],h1,h2.append h'⟩
theorem RDs.get{w:World}{ok:Nat→Prop}{K:Kd}: ∀ {xs:List K.T} {cs:List Value},RDs w ok K xs cs→∀(i:Nat) (y:K.T),xs[i]? = some y →
 ∃ c,RD w ok K y c∧∀(j:Nat) (u:Value),c[j]? = some u→cs[i*K.sz+j]? = some u
 |[],_,_,i,y,h=>by simp at h
 |x::r,cs,⟨c1,c2,e,h1,h2⟩,0,y,h=>by
  simp at h;subst h
  refine⟨c1,h1,fun j u hj => ?_⟩
  rw[e,Nat.zero_mul,Nat.zero_add,List.getElem?_append_left (List.getElem?_eq_some_iff.1 hj).1]
  exact hj
 |x::r,cs,⟨c1,c2,e,h1,h2⟩,i+1,y,h=>by
  obtain⟨c,hc,hu⟩:=h2.get i y (by simpa using h)
  refine⟨c,hc,fun j u hj => ?_⟩
  rw[e,List.getElem?_append_right (by rw[h1.len,Nat.add_mul];omega),h1.len,show(i+1)*K.sz+j-K.sz=i*K.sz+j by rw[Nat.add_mul];omega]
  exact hu j u hj
structure Gh where
 bk:Nm→Nat
 rv:Nm→Value
 X:Nat→Prop
def blkOf(h:Heap)(G:Gh)(n:Nm): Option Nat :=
 match h n with
 |some (.var _ _)=>some (G.bk n)
 |some (.row _ _ _)=>(G.rv n).ownBlock
 |some (.mp _ _ _)=>some (G.bk n)
 |none=>none
def freeB(h:Heap)(G:Gh)(b:Nat): Prop:=∀ n,blkOf h G n≠some b
def okB(h:Heap)(G:Gh)(b:Nat): Prop:=freeB h G b∧¬ G.X b
def okX(h:Heap)(G:Gh)(b:Nat): Prop:=okB h G b∨G.X b
def MK.val:MK→Nat→Value
 |.it,b => .pointer (some ⟨b,0,none⟩)
 |_,b => .map (some b)
def nxtV(s:List UInt8)(p:Int): Value:=if p<(s.length:Int)then .tuple #[.bool true,.int .i64 p,.int .i32 (nxtC s p)]else .tuple #[.bool false]
mutual
def RV(h:Heap)(G:Gh)(w:World): PV→Value→Prop
 |.v K x,val=>RD w (okB h G) K x [val]
 |.kb b,val=>val = .bool b
 |.ng b,val=>val ≠ .bool b
 |.nilsl,val=>val = .slice none 0 0
 |.nilptr,val=>val = .pointer none
 |.nilif,val=>val = .nilIface
 |.nps n off,val=>val = .pointer none∨(val = .pointer (some ⟨G.bk n,off,none⟩)∧∃ t cs,h n=some (.var t cs))
 |.ptr n off,val=>val = .pointer (some ⟨G.bk n,off,none⟩)∧∃ t cs,h n=some (.var t cs)
 |.row n,val=>val=G.rv n∧∃ e K xs,h n=some (.row e K xs)
 |.elp K xs i off,val=>∃ ad,val = .pointer (some (ad.add (i*K.sz+off)))∧i<xs.length∧RowAt w (okB h G) K.sz (RD w (okB h G) K) ad xs
 |.elr n i off,val=>∃ e K xs g,h n=some (.row e K xs)∧i<xs.length∧(G.rv n).ownBlock=some g∧val = .pointer (some ⟨g,i*K.sz+off,none⟩)
 |.agg cs,val=>∃ vs:List Value,val = .agg vs.toArray∧RVs h G w cs vs
 |.ifc t p,val=>∃ u,val = .iface t u∧RV h G w p u
 |.tup ps,val=>∃ vs:List Value,val = .tuple vs.toArray∧RVs h G w ps vs
 |.clo f cap,val=>∃ vs:List Value,val = .func (.func f) #[] vs.toArray∧RVs h G w cap vs
 |.opt _ _ _,_=>False
 |.mpp n,val=>∃ ag,val=MK.val ag (G.bk n)∧∃ V es,h n=some (.mp ag V es)
 |.nxt s p,val=>0≤p∧val=nxtV s p
 |.bv K xs,val=>∃(A:Option Addr) (cap:Nat),val = .slice A xs.length cap∧xs.length≤cap∧(xs=[]∨∃ ad,A=some ad∧RowAt w (okX h G) K.sz (RD w (okB h G) K) ad xs)
 |.elq K xs i off,val=>∃ ad,val = .pointer (some (ad.add (i*K.sz+off)))∧i<xs.length∧RowAt w (okX h G) K.sz (RD w (okB h G) K) ad xs
 |.lp K x off,val=>∃ ad,val = .pointer (some (ad.add off))∧RowAt w (okX h G) K.sz (RD w (okB h G) K) ad [x]
 |.un,_=>True
def RVs(h:Heap)(G:Gh)(w:World): List PV→List Value→Prop
 |[],vs=>vs=[]
 |p::r,vs=>∃ v l,vs=v::l∧RV h G w p v∧RVs h G w r l
end
def wq6b(tm:Nat→Value)(g:List (Nat×Bool)): Prop:=∀ x∈g,tm x.1 = .bool x.2
def RT(h:Heap)(G:Gh)(w:World)(tm:Nat→Value): PV→Value→Prop
 |.opt g c p,val=>(wq6b tm g→c=true∧RV h G w p val)∧(¬ wq6b tm g→val=undef)
 |p,val=>RV h G w p val
theorem wqge{h:Heap}{G:Gh}{w:World}{tm:Nat→Value}{p:PV}{v:Value}(hp:RV h G w p v): RT h G w tm p v:=by
 cases p<;>first|exact hp|exact absurd hp (by simp[RV])
theorem RVs.length{h:Heap}{G:Gh}{w:World}: ∀ {ps:List PV} {vs:List Value},RVs h G w ps vs→vs.length=ps.length
 |[],vs,hr=>by simp[RVs]at hr;simp[hr]
 |p::r,vs,hr=>by obtain⟨v,l,rfl,_,hl⟩:=hr;simp[hl.length]
theorem RVs.get{h:Heap}{G:Gh}{w:World}: ∀ {ps:List PV} {vs:List Value},RVs h G w ps vs→∀(i:Nat) (p:PV),ps[i]? = some p→∃ v,vs[i]? = some v∧RV h G w p v
 |[],vs,hr,i,p,hp=>by simp at hp
 |q::r,vs,hr,0,p,hp=>by obtain⟨v,l,rfl,hv,hl⟩:=hr;simp at hp;subst hp;exact⟨v,by simp,hv⟩
 |q::r,vs,hr,i+1,p,hp=>by obtain⟨v,l,rfl,hv,hl⟩:=hr;obtain⟨u,hu,h2⟩:=hl.get i p (by simpa using hp);exact⟨u,by simpa using hu,h2⟩
theorem RVs.append{h:Heap}{G:Gh}{w:World}: ∀ {ps qs:List PV} {vs us:List Value},RVs h G w ps vs→RVs h G w qs us→RVs h G w (ps++qs) (vs++us)
 |[],qs,vs,us,hr,hq=>by simp[RVs]at hr;subst hr;simpa using hq
 |p::r,qs,vs,us,hr,hq=>by obtain⟨v,l,rfl,hv,hl⟩:=hr;exact⟨v,l++us,by simp,hv,hl.append hq⟩
theorem RVs.drop{h:Heap}{G:Gh}{w:World}: ∀ {ps:List PV} {vs:List Value} (n:Nat),RVs h G w ps vs→RVs h G w (ps.drop n) (vs.drop n)
 |_,_,0,hr=>by simpa using hr
 |[],vs,n+1,hr=>by simp[RVs]at hr;subst hr;simp[RVs]
 |p::r,vs,n+1,hr=>by obtain⟨v,l,rfl,hv,hl⟩:=hr;simpa using hl.drop n
theorem RVs.take{h:Heap}{G:Gh}{w:World}: ∀ {ps:List PV} {vs:List Value} (n:Nat),RVs h G w ps vs→RVs h G w (ps.take n) (vs.take n)
 |_,_,0,hr=>by simp[RVs]
 |[],vs,n+1,hr=>by simp[RVs]at hr;subst hr;simp[RVs]
 |p::r,vs,n+1,hr=>by obtain⟨v,l,rfl,hv,hl⟩:=hr;exact⟨v,l.take n,by simp,hv,hl.take n⟩
theorem RVs.set{h:Heap}{G:Gh}{w:World}: ∀ {ps:List PV} {vs:List Value} (i:Nat) {p:PV} {v:Value},RVs h G w ps vs→RV h G w p v→RVs h G w (ps.set i p) (vs.set i v)
 |[],vs,i,p,v,hr,_=>by simp[RVs]at hr;subst hr;simp[RVs]
 |q::r,vs,0,p,v,hr,hv=>by obtain⟨u,l,rfl,hu,hl⟩:=hr;exact⟨v,l,by simp,hv,hl⟩
 |q::r,vs,i+1,p,v,hr,hv=>by obtain⟨u,l,rfl,hu,hl⟩:=hr;exact⟨u,l.set i v,by simp,hu,hl.set i hv⟩
def EntsOk(h:Heap)(G:Gh)(w:World)(ag:Bool)(V:Kd): List MapEntry→List (List UInt8×V.T)→Prop
 |[],[]=>True
 |e::r,(k,x)::s=>e.key = .string ⟨k.toArray⟩∧RV h G w (mpVal ag V x) e.val∧EntsOk h G w ag V r s
 |_,_=>False
def ObOk(h:Heap)(G:Gh)(w:World)(ag:MK)(V:Kd)(es:List (List UInt8×V.T))(o:Obj): Prop :=
 (ag ≠ .it∧∃ ents clock,o = .map ents clock∧EntsOk h G w ag.isAgg V ents.toList es)∨(ag = .it∧∃ s p,itAt V es=some (s,p)∧0≤p∧o = .stringIter ⟨s.toArray⟩ p.toNat)
def RO(h:Heap)(G:Gh)(w:World)(n:Nm): HObj→Prop
 |.var t cs=>∃ vs:List Value,w.heap[G.bk n]? = some (.cells vs.toArray t (0,0))∧RVs h G w cs vs
 |.row e K xs=>∃ vs:List Value,w.ownsRow 0 e K.sz (G.rv n) xs.length vs∧RDs w (okB h G) K xs vs∧0<K.sz
 |.mp ag V es=>∃ o,w.heap[G.bk n]? = some o∧ObOk h G w ag V es o
def tmOf(a:Act)(i:Nat): Value:=a.tmps.getD i undef
structure Org where
 X:Nat→Prop
 vs:List (Nm×TypeId×Nat)
structure Rel (w0:World) (fr:Nat→Prop) (X0:Org) (n:Nat) (ds:List Deferred) (st:St) (G:Gh) (a:Act) (w:World):Prop where
 tm:∀ i,RT st.h G w (tmOf a) (st.t i) (tmOf a i)
 size:a.tmps.size=n
 obj:∀ n o,st.h n=some o→RO st.h G w n o
 dis:∀ n m b,blkOf st.h G n=some b→blkOf st.h G m=some b→n=m
 apart:∀ n b,blkOf st.h G n=some b→¬ fr b
 xfr:∀ b,G.X b→fr b
 xeq:G.X=X0.X
 org:∀ x∈X0.vs,(∃ cs,st.h x.1=some (.var x.2.1 cs))∧G.bk x.1=x.2.2
 ext:∀ b,fr b→w.heap[b]? = w0.heap[b]?
 grow:w0.heap.size≤w.heap.size
 os:w.os=w0.os
 tape:w.tape=w0.tape
 out:w.output=w0.output
 defers:a.defers=ds
end Go.Proofs.YtabkhphoacmcdaaGreatDoor.Pvm
namespace Go.Proofs.YtabkhphoacmcdaaGreatDoor.Pvm
open Go
mutual
theorem PV.mapR_row:∀ p:PV,p.mapR .row=p
 |.row m=>rfl
 |.agg cs=>by rw[PV.mapR,mapRs_row cs]
 |.tup ps=>by rw[PV.mapR,mapRs_row ps]
 |.ifc t p=>by rw[PV.mapR,PV.mapR_row p]
 |.clo g cap=>by rw[PV.mapR,mapRs_row cap]
 |.opt g c p=>by rw[PV.mapR,PV.mapR_row p]
 |.v K x=>rfl
 |.kb b=>rfl
 |.ng b=>rfl
 |.nilsl=>rfl
 |.nilptr=>rfl
 |.nilif=>rfl
 |.nps n off=>rfl
 |.ptr n off=>rfl
 |.elp K xs i off=>rfl
 |.elr n i off=>rfl
 |.mpp n=>rfl
 |.nxt s p=>rfl
 |.bv K xs=>rfl
 |.elq K xs i off=>rfl
 |.lp K x off=>rfl
 |.un=>rfl
theorem mapRs_row:∀ l:List PV,mapRs .row l=l
 |[]=>rfl
 |p::r=>by rw[mapRs,PV.mapR_row p,mapRs_row r]
end
theorem wq137(f:Nm→PV): ∀ l:List PV,mapRs f l=l.map (PV.mapR f)
 |[]=>rfl
 |p::r=>by rw[mapRs,wq137 f r];rfl
structure Carry (h:Heap) (G:Gh) (w:World) (h':Heap) (G':Gh) (w':World) (f:Nm→PV):Prop where
 blk:∀ b,okB h G b→b<w.heap.size→okB h' G' b∧w'.heap[b]? = w.heap[b]?
 var:∀ n t cs,h n=some (.var t cs)→(∃ cs',h' n=some (.var t cs'))∧G'.bk n=G.bk n
 mp:∀ n ag V es,h n=some (.mp ag V es)→(∃ es',h' n=some (.mp ag V es'))∧G'.bk n=G.bk n
 x:∀ b,G.X b→b<w.heap.size→okX h' G' b∧w'.heap[b]? = w.heap[b]?
 row:∀ n e K xs,h n=some (.row e K xs)→RV h' G' w' (f n) (G.rv n)∧∀ m,f n = .row m→∃ e' xs',h' m=some (.row e' K xs')∧xs.length≤xs'.length
theorem Carry.okX{h:Heap}{G:Gh}{w:World}{h':Heap}{G':Gh}{w':World}{f:Nm→PV}(C:Carry h G w h' G' w' f): ∀ b,okX h G b→b<w.heap.size→okX h' G' b∧w'.heap[b]? = w.heap[b]? := fun b hb hl=>by
 rcases hb with hb|hb
 ·exact⟨.inl (C.blk b hb hl).1,(C.blk b hb hl).2⟩
 ·exact C.x b hb hl
mutual
theorem RV.carry{h:Heap}{G:Gh}{w:World}{h':Heap}{G':Gh}{w':World}{f:Nm→PV}(C:Carry h G w h' G' w' f):
 ∀(p:PV) (v:Value),RV h G w p v→RV h' G' w' (p.mapR f) v
 |.v K x,v,hp=>RD.mono C.blk hp
 |.kb b,v,hp=>hp
 |.ng b,v,hp=>hp
 |.nilsl,v,hp=>hp
 |.nilptr,v,hp=>hp
 |.nilif,v,hp=>hp
 |.nps n off,v,hp=>by
  rcases hp with hp|⟨rfl,t,cs,hn⟩
  ·exact .inl hp
  ·obtain⟨⟨cs',h1⟩,h2⟩:=C.var n t cs hn
   exact .inr ⟨by rw[h2],t,cs',h1⟩
 |.ptr n off,v,hp=>by
  obtain⟨rfl,t,cs,hn⟩:=hp
  obtain⟨⟨cs',h1⟩,h2⟩:=C.var n t cs hn
  exact⟨by rw[h2],t,cs',h1⟩
 |.row n,v,hp=>by
  obtain⟨rfl,e,K,xs,hn⟩:=hp
  exact(C.row n e K xs hn).1
 |.elp K xs i off,v,hp=>by
  obtain⟨ad,rfl,hi,hr⟩:=hp
  exact⟨ad,rfl,hi,hr.mono C.blk fun _ _=>RD.mono C.blk⟩
 |.elr n i off,v,hp=>by
  obtain⟨e,K,xs,g,hn,hi,hg,rfl⟩:=hp
  obtain⟨h1,h2⟩:=C.row n e K xs hn
  rw[PV.mapR]
  split
  ·next m hm =>
   obtain⟨e',xs',h3,h4⟩:=h2 m hm
   rw[hm]at h1
   exact⟨e',K,xs',g,h3,by omega,by rw[←h1.1];exact hg,rfl⟩
  ·trivial
 |.agg cs,v,hp=>by
  obtain⟨vs,rfl,hr⟩:=hp
  exact⟨vs,rfl,RVs.carry C cs vs hr⟩
 |.ifc t p,v,hp=>by
  obtain⟨u,rfl,hr⟩:=hp
  exact⟨u,rfl,RV.carry C p u hr⟩
 |.tup ps,v,hp=>by
  obtain⟨vs,rfl,hr⟩:=hp
  exact⟨vs,rfl,RVs.carry C ps vs hr⟩
 |.clo g cap,v,hp=>by
  obtain⟨vs,rfl,hr⟩:=hp
  exact⟨vs,rfl,RVs.carry C cap vs hr⟩
 |.opt g c p,v,hp=>by simp[RV]at hp
 |.mpp n,v,hp=>by
  obtain⟨ag,rfl,V,es,hn⟩:=hp
  obtain⟨⟨es',h1⟩,h2⟩:=C.mp n ag V es hn
  exact⟨ag,by rw[h2],V,es',h1⟩
 |.nxt s p,v,hp=>hp
 |.bv K xs,v,hp=>by
  obtain⟨A,cap,rfl,hc,hr⟩:=hp
  refine⟨A,cap,rfl,hc,?_⟩
  rcases hr with hr|⟨ad,hA,hr⟩
  ·exact .inl hr
  ·exact .inr ⟨ad,hA,hr.mono C.okX fun _ _=>RD.mono C.blk⟩
 |.elq K xs i off,v,hp=>by
  obtain⟨ad,rfl,hi,hr⟩:=hp
  exact⟨ad,rfl,hi,hr.mono C.okX fun _ _=>RD.mono C.blk⟩
 |.lp K x off,v,hp=>by
  obtain⟨ad,rfl,hr⟩:=hp
  exact⟨ad,rfl,hr.mono C.okX fun _ _=>RD.mono C.blk⟩
 |.un,v,hp=>trivial
theorem RVs.carry{h:Heap}{G:Gh}{w:World}{h':Heap}{G':Gh}{w':World}{f:Nm→PV}(C:Carry h G w h' G' w' f):
 ∀(ps:List PV) (vs:List Value),RVs h G w ps vs→RVs h' G' w' (mapRs f ps) vs
 |[],vs,hp=>hp
 |p::r,vs,hp=>by
  obtain⟨v,l,rfl,hv,hl⟩:=hp
  exact⟨v,l,rfl,RV.carry C p v hv,RVs.carry C r l hl⟩
end
theorem RT.carry {h:Heap} {G:Gh} {w:World} {h':Heap} {G':Gh} {w':World} {f:Nm→PV} {tm:Nat→Value} (C:Carry h G w h' G' w' f)
 {p:PV} {v:Value} (hp:RT h G w tm p v):RT h' G' w' tm (p.mapR f) v:=by
 cases p with
 |opt g c p=>exact⟨fun hg=>⟨(hp.1 hg).1,RV.carry C p v (hp.1 hg).2⟩,hp.2⟩
 |_=>exact wqge (RV.carry C _ v hp)
theorem Carry.quiet{h:Heap}{G:Gh}{w w':World}(hb:∀ b,b<w.heap.size→w'.heap[b]? = w.heap[b]?): Carry h G w h G w' .row :=
 ⟨fun b ho hlt=>⟨ho,hb b hlt⟩,fun n t cs hn=>⟨⟨cs,hn⟩,rfl⟩,fun n ag V es hn=>⟨⟨es,hn⟩,rfl⟩,fun b hx hlt=>⟨.inr hx,hb b hlt⟩,fun n e K xs hn=>⟨⟨rfl,e,K,xs,hn⟩,fun m hm=>by cases hm;exact⟨e,xs,hn,Nat.le_refl _⟩⟩⟩
theorem wqma{a:Act}{d:Nat}{v:Value}(hd:d<a.tmps.size)(i:Nat): tmOf (a.put (some d) v) i=if i=d then v else tmOf a i:=by
 unfold tmOf Act.put
 simp only[Array.getD_eq_getD_getElem?,Array.getElem?_setIfInBounds]
 by_cases h:i=d
 ·subst h;simp[hd]
 ·simp[h,Ne.symm h]
theorem wqjl{d:Nat}: ∀ {g:List (Nat×Bool)},hasTag d g=false→∀ x∈g,x.1≠d
 |[],_,x,hx=>by cases hx
 |(s,b)::r,h,x,hx=>by
  rw[hasTag]at h
  cases hb:Nat.beq s d with
  |true=>rw[hb]at h;simp at h
  |false =>
   rw[hb]at h
   rcases List.mem_cons.1 hx with rfl|hx
   ·intro e;simp at e;subst e;simp at hb
   ·exact wqjl h x hx
theorem RT.upd {h:Heap} {G:Gh} {w:World} {a:Act} {d:Nat} {v:Value} (hd:d<a.tmps.size) {p q:PV} {u:Value} {i:Nat} (hi:i≠d)
 (hq:RT h G w (tmOf a) q u):RT h G w (tmOf (a.put (some d) v)) (killO d q) u:=by
 cases q with
 |opt g c p =>
  rw[killO]
  cases hg:hasTag d g with
  |true=>trivial
  |false =>
   have hiff:wq6b (tmOf (a.put (some d) v)) g↔wq6b (tmOf a) g:=by
    constructor
    ·intro ht x hx
     have:=ht x hx
     rwa [wqma hd,if_neg (wqjl hg x hx)]at this
    ·intro ht x hx
     rw[wqma hd,if_neg (wqjl hg x hx)]
     exact ht x hx
   exact⟨fun ht=>hq.1 (hiff.1 ht),fun ht=>hq.2 fun h=>ht (hiff.2 h)⟩
 |_=>exact wqge hq
section
variable {w0:World} {fr:Nat→Prop} {X0:Org} {n:Nat} {ds:List Deferred} {st:St} {G:Gh} {a:Act} {w:World}
theorem Rel.orgs(R:Rel w0 fr X0 n ds st G a w){h':Heap}{G':Gh}{w':World}{f:Nm→PV}(C:Carry st.h G w h' G' w' f): ∀ x∈X0.vs,(∃ cs,h' x.1=some (.var x.2.1 cs))∧G'.bk x.1=x.2.2:=by
 intro x hx
 obtain⟨⟨cs,h1⟩,h2⟩:=R.org x hx
 obtain⟨h3,h4⟩:=C.var _ _ _ h1
 exact⟨h3,h4.trans h2⟩
theorem Rel.put (R:Rel w0 fr X0 n ds st G a w) {h':Heap} {G':Gh} {w':World} {f:Nm→PV} (C:Carry st.h G w h' G' w' f)
 (obj:∀ n o,h' n=some o→RO h' G' w' n o) (dis:∀ n m b,blkOf h' G' n=some b→blkOf h' G' m=some b→n=m)
 (apart:∀ n b,blkOf h' G' n=some b→¬ fr b) (hX:G'.X=G.X) (ext:∀ b,fr b→w'.heap[b]? = w.heap[b]?) (grow:w.heap.size≤w'.heap.size)
 (os:w'.os=w.os) (tape:w'.tape=w.tape) (out:w'.output=w.output) {d:Nat} (hd:d<n) {p:PV} {v:Value} (hp:RV h' G' w' p v)
 {t':Nat→PV} (ht:∀ i,t' i=if i=d then p else killO d ((st.t i).mapR f)) :
 Rel w0 fr X0 n ds ⟨t',h'⟩ G' (a.put (some d) v) w':=by
 have hs:d<a.tmps.size:=by rw[R.size];exact hd
 refine⟨fun i => ?_,by simp[Act.put,R.size],obj,dis,apart,(fun b hb=>R.xfr b (by rw[←hX];exact hb)),hX.trans R.xeq,R.orgs C,fun b hb=>(ext b hb).trans (R.ext b hb),Nat.le_trans R.grow grow,os.trans R.os,tape.trans R.tape,out.trans R.out,R.defers⟩
 simp only[ht]
 by_cases hi:i=d
 ·subst hi
  rw[if_pos rfl,wqma hs,if_pos rfl]
  exact wqge hp
 ·rw[if_neg hi]
  have:=RT.upd (v:=v) (p:=p) hs hi (RT.carry C (R.tm i))
  rwa [wqma hs,if_neg hi]
theorem Rel.turn (R:Rel w0 fr X0 n ds st G a w) {h':Heap} {G':Gh} {w':World} {f:Nm→PV} (C:Carry st.h G w h' G' w' f)
 (obj:∀ n o,h' n=some o→RO h' G' w' n o) (dis:∀ n m b,blkOf h' G' n=some b→blkOf h' G' m=some b→n=m)
 (apart:∀ n b,blkOf h' G' n=some b→¬ fr b) (hX:G'.X=G.X) (ext:∀ b,fr b→w'.heap[b]? = w.heap[b]?) (grow:w.heap.size≤w'.heap.size)
 (os:w'.os=w.os) (tape:w'.tape=w.tape) (out:w'.output=w.output)
 {t':Nat→PV} (ht:∀ i,t' i=(st.t i).mapR f) :
 Rel w0 fr X0 n ds ⟨t',h'⟩ G' a w':=by
 refine⟨fun i => ?_,R.size,obj,dis,apart,(fun b hb=>R.xfr b (by rw[←hX];exact hb)),hX.trans R.xeq,R.orgs C,fun b hb=>(ext b hb).trans (R.ext b hb),Nat.le_trans R.grow grow,os.trans R.os,tape.trans R.tape,out.trans R.out,R.defers⟩
 simp only[ht]
 exact RT.carry C (R.tm i)
end
end Go.Proofs.YtabkhphoacmcdaaGreatDoor.Pvm
namespace Go.Proofs.YtabkhphoacmcdaaGreatDoor.Pvm
open Go
def wq109(P:Program)(t:TypeId): Bool := !P.eqGuardType P.depth t && !P.stoodInHeld t&&match P.underlying t with
 |some (.struct fs)=>fs.toList.all fun f => !(f.name == "_")
 |_=>false
structure TiOk (P:Program) (t:TypeId) (ti:TI):Prop where
 info:∃ i z,P.info? t=some i∧i.size=ti.size∧i.bytes=ti.bytes∧i.zero=some z∧z.cells.toList.map cv=ti.zero∧z.cells.size=ti.size ∧
  (∀ K,ti.kd=some K→0<K.sz∧K.sz=ti.size∧∀ w ok,RD w ok K K.zero z.cells.toList) ∧
  (match ti.k with | .struct=>∃ cs,z = .agg cs | .int k=>z = .int k 0|_=>z.cells = #[z])
 kind:∃ d,P.underlying t=some d∧match ti.k with
  |.int k=>d = .int k
  |.bool=>d = .bool
  |.str=>d = .string
  |.flt=>d = .float .f64
  |.slice=>d = .slice ti.el
  |.ptr=>d = .pointer ti.el
  |.struct=>∃ fs,d = .struct fs∧fs.toList.map (fun f=>(f.offset,f.type))=ti.fs∧∃ pl,fs.toList.mapM (fun f=>(P.info? f.type).map fun i=>(f.offset,i.size))=some pl
  |.iface=>∃ ms,d = .interface ms
  |.map=>∃ kt,d = .map kt ti.el∧P.underlying kt=some .string
  |.other=>(match d with | .struct _ | .array _ _ | .interface _=>False|_=>True)
 eqs:ti.eqs=true→ti.k = .struct→wq109 P t=true
def TyOk(P:Program)(ty:TypeId→Option TI): Prop:=∀ t ti,ty t=some ti→TiOk P t ti
structure Still (w w':World):Prop where
 blk:∀ b,b<w.heap.size→w'.heap[b]? = w.heap[b]?
 grow:w.heap.size≤w'.heap.size
 os:w'.os=w.os
 tape:w'.tape=w.tape
 out:w'.output=w.output
theorem Still.refl(w:World): Still w w:=⟨fun _ _=>rfl,Nat.le_refl _,rfl,rfl,rfl⟩
theorem Still.drew{w w':World}(h:Still w w'): Still w w'.drew:=⟨h.blk,h.grow,h.os,h.tape,h.out⟩
theorem Still.alloc{w w':World}(h:Still w w')(o:Obj): Still w (w'.alloc o) :=
 ⟨fun b hb=>(heap_alloc_old w' o (Nat.lt_of_lt_of_le hb h.grow)).trans (h.blk b hb),Nat.le_trans h.grow (by rw[show(w'.alloc o).heap.size=w'.heap.size+1 from Array.size_push ..];omega),h.os,h.tape,h.out⟩
theorem cv_ok{h:Heap}{G:Gh}{w:World}: ∀ v:Value,RV h G w (cv v) v:=by
 intro v
 unfold cv
 split<;>simp[RV,RD]
variable {P:Program} {h:Heap} {G:Gh} {w:World}
theorem wq1bw{op:BinOp}{k:IntKind}{a b:Int}{ev:Ev}(hs:wq18l op=false)(he:binInt op k a b=some ev)(hc:(match ev.chk with | .ok=>true | .c b=>b)=true)(t:TypeId):
 ∃ v,(binOp op t (.int k a) (.int k b)).run P w = .ok v w∧RV h G w ev.val v∧ev.hs=[]∧ev.mp=none:=by
 cases op<;>simp[binInt,wq18l]at he hs<;>subst he<;>simp[Ev.pure,Ev.when]at hc ⊢ <;> simp[binOp,Op.intArith,Op.intDiv,Op.intBits,Op.intCmp,RV,RD,hc,ibits]
theorem wq1bx(x:List UInt8): (⟨x.toArray⟩:ByteArray).toList=x:=by
 rw[ByteArray.toList_eq]
theorem wq1by{op:BinOp}{a b:List UInt8}{ev:Ev}(he:binStr op a b=some ev)(hc:(match ev.chk with | .ok=>true | .c b=>b)=true)(t:TypeId):
 ∃ v,(binOp op t (.string ⟨a.toArray⟩) (.string ⟨b.toArray⟩)).run P w = .ok v w∧RV h G w ev.val v∧ev.hs=[]∧ev.mp=none:=by
 cases op<;>simp[binStr]at he<;>subst he<;>simp[Ev.pure,Ev.when]at hc ⊢ <;> simp[binOp,Op.stringOp,RV,RD,wq1bx]
 have hc':=of_decide_eq_true hc
 simp only[maxN]at hc'
 have hsz:∀ l:List UInt8,(⟨l.toArray⟩:ByteArray).size=l.length:=fun _=>rfl
 simp only[hsz]
 rw[if_neg (by omega)]
 apply congrArg (fun s=>Result.ok (Value.string s) w)
 apply ByteArray.ext
 simp
theorem wq1bz{op:BinOp}{a b:Nat}{ev:Ev}(he:binFlt op a b=some ev)(hc:(match ev.chk with | .ok=>true | .c b=>b)=true)(t:TypeId):
 ∃ v,(binOp op t (.float .f64 a) (.float .f64 b)).run P w = .ok v w∧RV h G w ev.val v∧ev.hs=[]∧ev.mp=none:=by
 unfold binFlt at he
 cases hcmp:fltCmp op with
 |true =>
  rw[hcmp,cond_true]at he
  cases he
  refine⟨.bool (fltIs op a b),?_,rfl,rfl,rfl⟩
  cases op<;>first|rfl|(cases hcmp;done)
 |false =>
  rw[hcmp,cond_false]at he
  cases he
  simp only[Ev.when]at hc
  obtain⟨r,hr⟩:=Option.isSome_iff_exists.1 hc
  refine⟨.float .f64 r,?_,by simp[Ev.when,RV,RD,hr],rfl,rfl⟩
  cases op<;>first
   |(cases hcmp;done)
   |(have h9:(none:Option Nat)=some r:=hr;cases h9;done)
   |(have hr':=hr
     unfold fltAr at hr'
     simp only at hr'
     simp[binOp,Op.floatArith,hr'])
theorem wq1d9{op:UnOp}{a:PV}{v:Value}{ev:Ev}(he:unPV op a=some ev)(ha:RV h G w a v):
 ∃ u,(Op.unary op v).run P w = .ok u w∧RV h G w ev.val u∧ev.hs=[]∧ev.mp=none∧ev.chk = .ok:=by
 unfold unPV at he
 split at he<;>simp at he<;>subst he<;>simp[RV,RD]at ha<;>subst ha<;>simp[Ev.pure,Op.unary,Op.intArith,Op.intBits,RV,RD,ibits,fltNeg]
section
variable {ty:TypeId→Option TI} (T:TyOk P ty)
include T
theorem wqth{t:TypeId}{z:Nat}(he:elSz ty t=some z): ∃ e i,P.underlying t=some (.slice e)∧P.info? e=some i∧i.size=z:=by
 unfold elSz at he
 split at he
 ·next ti h1 =>
  split at he
  ·next hk =>
   split at he
   ·next ei h2 =>
    cases he
    obtain⟨d,hd,hm⟩:=(T _ _ h1).kind
    rw[hk]at hm
    obtain⟨i,z,hi,hs,_⟩:=(T _ _ h2).info
    exact⟨_,i,by rw[hd,hm],hi,hs⟩
   ·cases he
  ·cases he
 ·cases he
theorem wq10a{t e:TypeId}{K:Kd}{b:Nat}(he:elKd ty t=some (e,K,b)): P.underlying t=some (.slice e) ∧
 ∃ i z,P.info? e=some i∧i.zero=some z∧i.size=K.sz∧i.bytes=b∧0<K.sz∧z.cells.size=K.sz∧∀ w ok,RD w ok K K.zero z.cells.toList:=by
 unfold elKd at he
 split at he
 ·next ti h1 =>
  split at he
  ·next hk =>
   split at he
   ·next ei h2 =>
    split at he
    ·next K' hK =>
     simp only[Option.some.injEq,Prod.mk.injEq]at he
     obtain⟨rfl,rfl,rfl⟩:=he
     obtain⟨d,hd,hm⟩:=(T _ _ h1).kind
     rw[hk]at hm
     obtain⟨i,z,hi,hs,hb,hz,_,_,hkd,_⟩:=(T _ _ h2).info
     obtain⟨k1,k2,k3⟩:=hkd _ hK
     refine⟨by rw[hd,hm],i,z,hi,hz,by rw[hs,k2],hb,k1,?_,k3⟩
     have:=(k3 default (fun _=>True)).len
     simpa using this
    ·cases he
   ·cases he
  ·cases he
 ·cases he
theorem wqhq{t:TypeId}(he:isStrT ty t=true): P.underlying t=some .string:=by
 unfold isStrT at he
 split at he
 ·next ti h1 =>
  split at he
  ·next hk =>
   obtain⟨d,hd,hm⟩:=(T _ _ h1).kind
   rw[hk]at hm
   rw[hd,hm]
  ·cases he
 ·cases he
theorem wqes{t:TypeId}(he:wqcl ty t=true): ∃ e,P.underlying t=some (.slice e)∧P.underlying e=some (.int .u8)∧∃ i,P.info? e=some i∧i.size=1∧i.zero=some (.int .u8 0):=by
 unfold wqcl at he
 split at he
 ·next ti h1 =>
  split at he
  ·next hk =>
   split at he
   ·next ei h2 =>
    split at he
    ·next hk2 =>
     obtain⟨d,hd,hm⟩:=(T _ _ h1).kind
     rw[hk]at hm
     obtain⟨d',hd',hm'⟩:=(T _ _ h2).kind
     rw[hk2]at hm'
     obtain⟨i,z,hi,hs,_,hz0,_,hzl,_,hz⟩:=(T _ _ h2).info
     rw[hk2]at hz
     simp only at hz
     exact⟨_,by rw[hd,hm],by rw[hd',hm'],i,hi,by rw[hs,←hzl,hz];rfl,by rw[hz0,hz]⟩
    ·cases he
   ·cases he
  ·cases he
 ·cases he
theorem wqti{s:TypeId}{f o:Nat}{fi:TI}(he:wqtd ty s f=some (o,fi)): ∃ fs fl,P.underlying s=some (.struct fs)∧fs[f]? = some fl∧fl.offset=o∧TiOk P fl.type fi:=by
 unfold wqtd at he
 split at he
 ·next ti h1 =>
  split at he
  ·next hk =>
   split at he
   ·next o' ft hf =>
    split at he
    ·next fi' h2 =>
     simp only[Option.some.injEq,Prod.mk.injEq]at he
     obtain⟨rfl,rfl⟩:=he
     obtain⟨d,hd,hm⟩:=(T _ _ h1).kind
     rw[hk]at hm
     obtain⟨fs,rfl,hfs,_⟩:=hm
     rw[←hfs,List.getElem?_map]at hf
     obtain⟨fl,hfl,he⟩:=Option.map_eq_some_iff.1 hf
     simp only[Prod.mk.injEq]at he
     obtain⟨rfl,rfl⟩:=he
     exact⟨fs,fl,hd,by simpa using hfl,rfl,T _ _ h2⟩
    ·cases he
   ·cases he
  ·cases he
 ·cases he
end
theorem TiOk.size{t:TypeId}{ti:TI}(h:TiOk P t ti)(w:World): (sizeOf t).run P w = .ok ti.size w:=by
 obtain⟨i,z,hi,hs,_⟩:=h.info
 simp[sizeOf,typeInfo,hi,hs]
def TI.isAg(ti:TI): Bool:=match ti.k with | .struct=>true|_=>false
theorem TiOk.agg{t:TypeId}{ti:TI}(h:TiOk P t ti)(w:World): (isAgg t).run P w = .ok ti.isAg w:=by
 obtain⟨d,hd,hm⟩:=h.kind
 unfold isAgg TI.isAg
 simp only[Sem.run_bind,run_underlying hd,Result.andThen_ok]
 cases hk:ti.k<;>rw[hk]at hm<;>simp only at hm
 all_goals first
  |(subst hm;rfl)
  |(obtain⟨_,rfl,_⟩:=hm;rfl)
  |(obtain⟨_,rfl⟩:=hm;rfl)
  |(cases d<;>first|rfl|exact hm.elim)
section
variable {ev:Ev}
theorem wqei{p:PV}{v:Value}(he:evMove p=some ev)(hp:RV h G w p v): RV h G w ev.val v∧ev.hs=[]∧ev.mp=none∧ev.chk = .ok:=by
 unfold evMove at he
 split at he
 ·cases he
 ·cases he
 ·cases he;exact⟨hp,rfl,rfl,rfl⟩
theorem wq1f4{ti:TI}{t:TypeId}(ht:TiOk P t ti){off:Nat}{cs:List PV}{vs:List Value}{p:PV}(he:partOf ti off cs=some p)(hr:RVs h G w cs vs):
 ∃ v,(part t vs.toArray off).run P w = .ok v w∧RV h G w p v:=by
 have hag:=ht.agg w
 unfold partOf at he
 split at he
 ·next hk =>
  simp only[TI.isAg,hk]at hag
  cases hb:Nat.ble (off+ti.size) cs.length with
  |false=>rw[hb]at he;cases he
  |true =>
   rw[hb]at he;cases he
   have hb:=Nat.le_of_ble_eq_true hb
   refine⟨.agg ((vs.drop off).take ti.size).toArray,?_,(vs.drop off).take ti.size,rfl,(hr.drop off).take _⟩
   simp only[part,Sem.run_bind,hag,Result.andThen_ok,if_true,ht.size w,Sem.run_pure]
   congr 2
   apply Array.ext'
   simp[List.extract_eq_take_drop]
 ·next hk =>
  have hf:ti.isAg=false:=by unfold TI.isAg;cases hk2:ti.k<;>simp_all
  rw[hf]at hag
  obtain⟨v,hv,hp⟩:=hr.get off p he
  refine⟨v,?_,hp⟩
  simp[part,hag,hv]
theorem wq10b{o f:Nat}{fi:TI}{ty:TypeId→Option TI}(T:TyOk P ty){s:TypeId}(hf:wqtd ty s f=some (o,fi)){p:PV}{v:Value}(he:wq18n o fi p=some ev)(hp:RV h G w p v):
 ∃ u,(Instr.field s v f).run P w = .ok u w∧RV h G w ev.val u∧ev.hs=[]∧ev.mp=none∧ev.chk = .ok:=by
 unfold wq18n at he
 split at he
 ·next cs =>
  split at he
  ·next q hq =>
   obtain⟨vs,rfl,hr⟩:=hp
   obtain⟨fs,fl,hd,hfl,rfl,ht⟩:=wqti T hf
   obtain⟨u,hu,hq⟩:=wq1f4 ht hq hr
   obtain⟨h1,h2⟩:=wqei he hq
   refine⟨u,?_,h1,h2⟩
   simp[Instr.field,run_underlying hd,hfl,asAgg,hu]
  ·cases he
 ·cases he
theorem wqnm{o f:Nat}{fi:TI}{ty:TypeId→Option TI}(T:TyOk P ty){s:TypeId}(hf:wqtd ty s f=some (o,fi)){p:PV}{v:Value}(he:wqpl o fi p=some ev)(hp:RV h G w p v):
 ∃ u,(Instr.fieldAt s v f).run P w = .ok u w∧RV h G w ev.val u∧ev.hs=[]∧ev.mp=none∧ev.chk = .ok:=by
 obtain⟨fs,fl,hd,hfl,rfl,ht⟩:=wqti T hf
 unfold wqpl at he
 cases hz:Nat.beq fi.size 0 with
 |true=>rw[hz]at he;cases he
 |false =>
  rw[hz]at he
  have hz:fi.size≠0:=fun e=>by rw[e]at hz;cases hz
  have key:∀ A:Addr,(Instr.fieldAt s (.pointer (some A)) f).run P w = .ok (.pointer (some (A.add fl.offset))) w:=by
   intro A
   simp[Instr.fieldAt,run_underlying hd,hfl,Instr.sureAddr,fieldPlace,ht.size w,hz]
  simp only[cond_false]at he
  split at he<;>cases he
  ·obtain⟨rfl,hn⟩:=hp
   exact⟨_,key _,⟨by rw[Addr.add_lit],hn⟩,rfl,rfl,rfl⟩
  ·obtain⟨ad,rfl,hn⟩:=hp
   exact⟨_,key _,⟨ad,by rw[Addr.add_add,Nat.add_assoc],hn⟩,rfl,rfl,rfl⟩
  ·obtain⟨ad,rfl,hn⟩:=hp
   exact⟨_,key _,⟨ad,by rw[Addr.add_add,Nat.add_assoc],hn⟩,rfl,rfl,rfl⟩
  ·obtain⟨ad,rfl,hn⟩:=hp
   exact⟨_,key _,⟨ad,by rw[Addr.add_add],hn⟩,rfl,rfl,rfl⟩
  ·obtain⟨e,K,xs,g,hn,hi,hg,rfl⟩:=hp
   exact⟨_,key _,⟨e,K,xs,g,hn,hi,hg,by rw[Addr.add_lit,Nat.add_assoc]⟩,rfl,rfl,rfl⟩
theorem wq9j:∀ {K:Kd} {x:K.T} {c:List Value},RD w (okB h G) K x c→RVs h G w (K.cells x) c
 |.int k,x,c,hr=>by simp only[RD]at hr;subst hr;exact⟨_,[],rfl,rfl,rfl⟩
 |.bool,x,c,hr=>by simp only[RD]at hr;subst hr;exact⟨_,[],rfl,rfl,rfl⟩
 |.str,x,c,hr=>by simp only[RD]at hr;subst hr;exact⟨_,[],rfl,rfl,rfl⟩
 |.flt,x,c,hr=>by simp only[RD]at hr;subst hr;exact⟨_,[],rfl,rfl,rfl⟩
 |.nil,x,c,hr=>by simp only[RD]at hr;subst hr;rfl
 |.sl e,x,c,hr=>by
  obtain⟨A,cap,rfl,hr⟩:=hr
  exact⟨_,[],rfl,⟨A,cap,rfl,hr⟩,rfl⟩
 |.pr a b,x,c,hr=>by
  obtain⟨c1,c2,rfl,h1,h2⟩:=hr
  exact(wq9j h1).append (wq9j h2)
theorem wq1f5 {ti:TI} {t:TypeId} (ht:TiOk P t ti) {A:Addr} {off:Nat} {cs:List PV} {vs:List Value} {p:PV} (he:partOf ti off cs=some p) (hr:RVs h G w cs vs)
 (hc:∀ j u,vs[off+j]? = some u→w.cell? (A.add j)=some u):∃ v,(loadVar t A).run P w = .ok v w∧RV h G w p v:=by
 have hag:=ht.agg w
 unfold partOf at he
 split at he
 ·next hk =>
  simp only[TI.isAg,hk]at hag
  cases hb:Nat.ble (off+ti.size) cs.length with
  |false=>rw[hb]at he;cases he
  |true =>
   rw[hb]at he;cases he
   have hb:=Nat.le_of_ble_eq_true hb
   have hl:((vs.drop off).take ti.size).length=ti.size:=by rw[List.length_take,List.length_drop,hr.length];omega
   have hrun:=run_loadCells_list (P:=P) w A ((vs.drop off).take ti.size) (fun j v hj=>by
    rw[List.getElem?_take]at hj
    split at hj
    ·rw[List.getElem?_drop]at hj;exact hc j v hj
    ·cases hj)
   rw[hl]at hrun
   refine⟨.agg ((vs.drop off).take ti.size).toArray,?_,(vs.drop off).take ti.size,rfl,(hr.drop off).take _⟩
   simp only[loadVar,Sem.run_bind,hag,Result.andThen_ok,if_true,ht.size w,Sem.run_pure,hrun]
 ·next hk =>
  have hf:ti.isAg=false:=by unfold TI.isAg;cases hk2:ti.k<;>simp_all
  rw[hf]at hag
  obtain⟨v,hv,hp⟩:=hr.get off p he
  refine⟨v,?_,hp⟩
  have:=hc 0 v (by simpa using hv)
  rw[Addr.add_zero']at this
  simp[loadVar,hag,load,Sem.run,this]
end
end Go.Proofs.YtabkhphoacmcdaaGreatDoor.Pvm
namespace Go.Proofs.YtabkhphoacmcdaaGreatDoor.Pvm
open Go
variable {P:Program} {h:Heap} {G:Gh} {w:World} {ev:Ev} {ty:TypeId→Option TI}
theorem wqyn(T:TyOk P ty){ti:TI}{t:TypeId}(ht:ty t=some ti)(obj:∀ n o,h n=some o→RO h G w n o){p:PV}{v:Value}(he:evLoad ti h p=some ev)(hp:RV h G w p v):
 ∃ u,(Instr.loadAt t v).run P w = .ok u w∧RV h G w ev.val u∧ev.hs=[]∧ev.mp=none∧ev.chk = .ok:=by
 unfold evLoad at he
 split at he
 ·next cs off hcs =>
  split at he
  ·next q hq =>
   have key:∃ A vs,v = .pointer (some A)∧RVs h G w cs vs∧∀ j u,vs[off+j]? = some u→w.cell? (A.add j)=some u:=by
    unfold wq18m at hcs
    split at hcs
    ·next n o =>
     split at hcs
     ·next t' cs' hn =>
      simp only[Option.some.injEq,Prod.mk.injEq]at hcs
      obtain⟨rfl,rfl⟩:=hcs
      obtain⟨rfl,_⟩:=hp
      obtain⟨vs,hw,hr⟩:=obj _ _ hn
      refine⟨_,vs,rfl,hr,fun j u hj => ?_⟩
      rw[Addr.add_lit]
      simp only[World.cell?,hw]
      simpa using hj
     ·cases hcs
    ·next K xs i o =>
     simp only[Option.some.injEq,Prod.mk.injEq]at hcs
     obtain⟨rfl,rfl⟩:=hcs
     obtain⟨ad,rfl,hi,hb,hlt,hr⟩:=hp
     obtain⟨c,hc,hu⟩:=hr i (xs.getD i K.zero) (by simp[List.getD,hi])
     refine⟨_,c,rfl,wq9j hc,fun j u hj => ?_⟩
     rw[Addr.add_add,Nat.add_assoc]
     exact hu _ _ hj
    ·next K xs i o =>
     simp only[Option.some.injEq,Prod.mk.injEq]at hcs
     obtain⟨rfl,rfl⟩:=hcs
     obtain⟨ad,rfl,hi,hb,hlt,hr⟩:=hp
     obtain⟨c,hc,hu⟩:=hr i (xs.getD i K.zero) (by simp[List.getD,hi])
     refine⟨_,c,rfl,wq9j hc,fun j u hj => ?_⟩
     rw[Addr.add_add,Nat.add_assoc]
     exact hu _ _ hj
    ·next K x o =>
     simp only[Option.some.injEq,Prod.mk.injEq]at hcs
     obtain⟨rfl,rfl⟩:=hcs
     obtain⟨ad,rfl,hb,hlt,hr⟩:=hp
     obtain⟨c,hc,hu⟩:=hr 0 x rfl
     refine⟨_,c,rfl,wq9j hc,fun j u hj => ?_⟩
     rw[Addr.add_add]
     have:=hu _ _ hj
     rwa [Nat.zero_mul,Nat.zero_add]at this
    ·next n i o =>
     split at hcs
     ·next e K xs hn =>
      simp only[Option.some.injEq,Prod.mk.injEq]at hcs
      obtain⟨rfl,rfl⟩:=hcs
      obtain⟨e',K',xs',g,hn',hi,hg,rfl⟩:=hp
      rw[hn]at hn'
      simp only[Option.some.injEq,HObj.row.injEq]at hn'
      obtain⟨rfl,rfl,hx⟩:=hn'
      have hx:=eq_of_heq hx
      subst hx
      obtain⟨vs,hown,hr,_⟩:=obj _ _ hn
      obtain⟨c,hc,hu⟩:=hr.get i (xs.getD i K.zero) (by simp[List.getD,hi])
      refine⟨_,c,rfl,wq9j hc,fun j u hj => ?_⟩
      have:=hown.cells hg _ _ (hu _ _ hj)
      rw[Addr.add_lit]at this ⊢
      rw[←this]
      congr 2
      omega
     ·cases hcs
    ·cases hcs
   obtain⟨A,vs,rfl,hr,hc⟩:=key
   obtain⟨u,hu,hq⟩:=wq1f5 (T _ _ ht) hq hr hc
   obtain⟨h1,h2⟩:=wqei he hq
   refine⟨u,?_,h1,h2⟩
   simp[Instr.loadAt,Instr.sureAddr,hu]
  ·cases he
 ·cases he
def chkB:Chk→Bool
 |.ok=>true
 |.c b=>b
theorem wq10c{t:TypeId}(ht:P.underlying t=some .string){p q:PV}{v u:Value}(he:wq18r p q=some ev)(hp:RV h G w p v)(hq:RV h G w q u)(hc:chkB ev.chk=true):
 ∃ r,(Instr.index t v u).run P w = .ok r w∧RV h G w ev.val r∧ev.hs=[]∧ev.mp=none:=by
 unfold wq18r at he
 split at he
 ·next s k n =>
  cases he
  simp only[RV,RD,List.cons.injEq,and_true]at hp hq
  subst hp hq
  simp only[Ev.when,chkB,inb,Bool.and_eq_true,decide_eq_true_eq]at hc
  obtain⟨h0,h1⟩:=hc
  refine⟨.int .u8 (s.getD n.toNat 0).toNat,?_,rfl,rfl,rfl⟩
  have hlt:n.toNat<s.length:=by omega
  have:(⟨s.toArray⟩:ByteArray)[n.toNat]? = some (s.getD n.toNat 0):=by
   rw[getElem?_pos (⟨s.toArray⟩:ByteArray) n.toNat hlt]
   simp[List.getD,hlt]
   rfl
  simp[Instr.index,asIntOf,run_underlying ht,h0,this]
 ·cases he
theorem wq138{p:PV}{v:Value}{n:Int}(he:intOf? p=some n)(hp:RV h G w p v): ∃ k,v = .int k n:=by
 unfold intOf? at he
 split at he
 ·cases he
  simp only[RV,RD,List.cons.injEq,and_true]at hp
  exact⟨_,hp⟩
 ·cases he
theorem wqnn(T:TyOk P ty){t:TypeId}(obj:∀ n o,h n=some o→RO h G w n o){p q:PV}{v u:Value}(he:wqpn ty h t p q=some ev)(hp:RV h G w p v)(hq:RV h G w q u)(hc:chkB ev.chk=true):
 ∃ r,(Instr.indexAt t v u).run P w = .ok r w∧RV h G w ev.val r∧ev.hs=[]∧ev.mp=none:=by
 unfold wqpn at he
 split at he
 ·next K xs k n =>
  split at he
  ·next z hz =>
   obtain⟨e,i,hd,hi,hs⟩:=wqth T hz
   cases hb:Nat.beq z K.sz with
   |false=>rw[hb]at he;cases he
   |true =>
    rw[hb]at he;cases he
    have hb:=Nat.eq_of_beq_eq_true hb
    simp only[Ev.when,chkB,inb,Bool.and_eq_true,decide_eq_true_eq]at hc
    obtain⟨h0,h1⟩:=hc
    simp only[RV,RD,List.cons.injEq,and_true]at hq
    subst hq
    obtain⟨A,cap,hv,hl,hr⟩:=hp
    simp only[List.cons.injEq,and_true]at hv
    subst hv
    rcases hr with hr|⟨ad,rfl,hr⟩
    ·subst hr;simp at h1;omega
    ·refine⟨.pointer (some (ad.add (n.toNat*i.size))),?_,⟨ad,by rw[hs,hb,Nat.add_zero],by omega,hr⟩,rfl,rfl⟩
     have h1':n<(xs.length:Int):=h1
     simp[Instr.indexAt,asIntOf,run_underlying hd,h0,h1',sizeOf,typeInfo,hi]
  ·cases he
 ·next m k n =>
  split at he
  ·next e' K xs hm =>
   split at he
   ·next z hz =>
    obtain⟨e,i,hd,hi,hs⟩:=wqth T hz
    cases hb:Nat.beq z K.sz with
    |false=>rw[hb]at he;cases he
    |true =>
     rw[hb]at he;cases he
     have hb:=Nat.eq_of_beq_eq_true hb
     simp only[Ev.when,chkB,inb,Bool.and_eq_true,decide_eq_true_eq]at hc
     obtain⟨h0,h1⟩:=hc
     simp only[RV,RD,List.cons.injEq,and_true]at hq
     subst hq
     obtain⟨rfl,_⟩:=hp
     obtain⟨vs,hown,hr,_⟩:=obj _ _ hm
     rcases hown.2 with⟨hrv,h0'⟩|⟨g,cap,cur,hrv,_⟩
     ·rw[h0']at h1;simp at h1;omega
     ·refine⟨.pointer (some ⟨g,n.toNat*i.size,none⟩),?_,⟨e',K,xs,g,hm,by omega,by rw[hrv];rfl,by rw[hs,hb,Nat.add_zero]⟩,rfl,rfl⟩
      have h1':n<(xs.length:Int):=h1
      rw[hrv]
      simp[Instr.indexAt,asIntOf,run_underlying hd,h0,h1',sizeOf,typeInfo,hi,Addr.add_lit]
   ·cases he
  ·cases he
 ·next K xs k n =>
  split at he
  ·next z hz =>
   obtain⟨e,i,hd,hi,hs⟩:=wqth T hz
   cases hb:Nat.beq z K.sz with
   |false=>rw[hb]at he;cases he
   |true =>
    rw[hb]at he;cases he
    have hb:=Nat.eq_of_beq_eq_true hb
    simp only[Ev.when,chkB,inb,Bool.and_eq_true,decide_eq_true_eq]at hc
    obtain⟨h0,h1⟩:=hc
    simp only[RV,RD,List.cons.injEq,and_true]at hq
    subst hq
    obtain⟨A,cap,hv,hl,hr⟩:=hp
    subst hv
    rcases hr with hr|⟨ad,rfl,hr⟩
    ·subst hr;simp at h1;omega
    ·refine⟨.pointer (some (ad.add (n.toNat*i.size))),?_,⟨ad,by rw[hs,hb,Nat.add_zero],by omega,hr⟩,rfl,rfl⟩
     have h1':n<(xs.length:Int):=h1
     simp[Instr.indexAt,asIntOf,run_underlying hd,h0,h1',sizeOf,typeInfo,hi]
  ·cases he
 ·cases he
theorem wqtj{p:PV}{v:Value}{i:Nat}(he:wqyj p i=some ev)(hp:RV h G w p v)(hc:chkB ev.chk=true):
 ∃ r,(Instr.extract v i).run P w = .ok r w∧RV h G w ev.val r∧ev.hs=[]∧ev.mp=none:=by
 unfold wqyj at he
 split at he
 ·next ps =>
  split at he
  ·next q hq =>
   obtain⟨vs,rfl,hr⟩:=hp
   obtain⟨u,hu,hq⟩:=hr.get i q hq
   obtain⟨h1,h2⟩:=wqei he hq
   exact⟨u,by simp[Instr.extract,hu],h1,h2.1,h2.2.1⟩
  ·cases he
 ·next s p =>
  obtain⟨h0,rfl⟩:=hp
  split at he
  ·cases he
   refine⟨.bool (decide (p<(s.length:Int))),?_,rfl,rfl,rfl⟩
   unfold nxtV
   by_cases hp:p<(s.length:Int)
   ·rw[if_pos hp];simp[Instr.extract,hp]
   ·rw[if_neg hp];simp[Instr.extract,hp]
  ·cases he
   have hp:p<(s.length:Int):=by simpa [Ev.when,chkB]using hc
   refine⟨.int .i64 p,?_,rfl,rfl,rfl⟩
   simp[Instr.extract,nxtV,hp]
  ·cases he
   have hp:p<(s.length:Int):=by simpa [Ev.when,chkB]using hc
   refine⟨.int .i32 (nxtC s p),?_,rfl,rfl,rfl⟩
   simp[Instr.extract,nxtV,hp]
  ·cases he
 ·cases he
theorem wq10d(T:TyOk P ty){s:TypeId}{ti:TI}(ht:ty s=some ti){p:PV}{v:Value}(he:wq18q s ti p=some ev)(hp:RV h G w p v):
 ∃ r,(Instr.makeInterface s v).run P w = .ok r w∧RV h G w ev.val r∧ev.hs=[]∧ev.mp=none∧ev.chk = .ok:=by
 unfold wq18q at he
 split at he
 ·cases he
 ·cases he
 ·cases he
 ·next h1 h2 h3 h4 h5 =>
  cases he
  obtain⟨d,hd,hm⟩:=(T _ _ ht).kind
  refine⟨.iface s v,?_,⟨v,rfl,hp⟩,rfl,rfl,rfl⟩
  have:∀ ms,d ≠ .interface ms:=by
   intro ms hms
   subst hms
   cases hk:ti.k<;>rw[hk]at hm<;>simp at hm
   first|exact h1 hk|exact h2 hk|exact h3 hk|exact h4 hk|exact h5 hk
  cases d<;>first|exact absurd rfl (this _)|simp[Instr.makeInterface,run_underlying hd]
theorem wqkt{mx:Bool}{p q:PV}{v u:Value}(he:wqym mx p q=some ev)(hp:RV h G w p v)(hq:RV h G w q u)(ts:Array TypeId)(t:TypeId):
 ∃ r,(if mx then Builtin.max_ ts t #[v,u]else Builtin.min_ ts t #[v,u]).run P w = .ok r w∧RV h G w ev.val r∧ev.hs=[]∧ev.mp=none∧ev.chk = .ok:=by
 unfold wqym at he
 split at he
 ·next k a k' b =>
  split at he
  ·next hk =>
   subst hk
   cases he
   simp only[RV,RD,List.cons.injEq,and_true]at hp hq
   subst hp hq
   cases mx
   ·refine⟨.int k (if b<a then b else a),?_,by simp[Ev.pure,RV,RD],rfl,rfl,rfl⟩
    simp[Builtin.min_,Builtin.min2]
   ·refine⟨.int k (if b>a then b else a),?_,by simp[Ev.pure,RV,RD],rfl,rfl,rfl⟩
    simp[Builtin.max_,Builtin.max2]
  ·cases he
 ·cases he
theorem wq18t(T:TyOk P ty)(obj:∀ n o,h n=some o→RO h G w n o){p:PV}{v:Value}{t:TypeId}(he:evLen ty h t p=some ev)(hp:RV h G w p v)(r:TypeId):
 ∃ u,(Builtin.len_ #[t] r #[v]).run P w = .ok u w∧RV h G w ev.val u∧ev.hs=[]∧ev.mp=none∧ev.chk = .ok:=by
 have key:(elSz ty t).isSome=true→∀(A:Option Addr) (n c:Nat),(Builtin.len_ #[t] r #[.slice A n c]).run P w = .ok (.int .i64 n) w:=by
  intro hs A n c
  obtain⟨z,hz⟩:=Option.isSome_iff_exists.1 hs
  obtain⟨e,i,hd,_⟩:=wqth T hz
  simp[Builtin.len_,run_underlying hd,goInt]
 unfold evLen at he
 split at he
 ·next s =>
  cases hb:isStrT ty t with
  |false=>rw[hb]at he;cases he
  |true =>
   rw[hb]at he;cases he
   simp only[RV,RD,List.cons.injEq,and_true]at hp
   subst hp
   exact⟨.int .i64 s.length,by simp[Builtin.len_,run_underlying (wqhq T hb),goInt];rfl,by simp[Ev.pure,RV,RD],rfl,rfl,rfl⟩
 ·next K xs =>
  cases hb:(elSz ty t).isSome with
  |false=>rw[hb]at he;cases he
  |true =>
   rw[hb]at he;cases he
   obtain⟨A,cap,hv,_⟩:=hp
   simp only[List.cons.injEq,and_true]at hv
   subst hv
   exact⟨_,key hb _ _ _,by simp[Ev.pure,RV,RD],rfl,rfl,rfl⟩
 ·cases hb:(elSz ty t).isSome with
  |false=>rw[hb]at he;cases he
  |true =>
   rw[hb]at he;cases he
   obtain rfl:v=_:=hp
   exact⟨_,key hb _ _ _,by simp[Ev.pure,RV,RD],rfl,rfl,rfl⟩
 ·next n =>
  split at he
  ·next e K xs hn =>
   cases hb:(elSz ty t).isSome with
   |false=>rw[hb]at he;cases he
   |true =>
    rw[hb]at he;cases he
    obtain⟨rfl,_⟩:=hp
    obtain⟨vs,hown,_⟩:=obj _ _ hn
    have:∃ A c,G.rv n = .slice A xs.length c:=by
     rcases hown.2 with⟨h1,h2⟩|⟨g,cap,cur,h1,_⟩
     ·exact⟨_,_,by rw[h1,h2]⟩
     ·exact⟨_,_,h1⟩
    obtain⟨A,c,hrv⟩:=this
    rw[hrv]
    exact⟨_,key hb _ _ _,by simp[Ev.pure,RV,RD],rfl,rfl,rfl⟩
  ·cases he
 ·next K xs =>
  cases hb:(elSz ty t).isSome with
  |false=>rw[hb]at he;cases he
  |true =>
   rw[hb]at he;cases he
   obtain⟨A,cap,hv,_⟩:=hp
   subst hv
   exact⟨_,key hb _ _ _,by simp[Ev.pure,RV,RD],rfl,rfl,rfl⟩
 ·cases he
theorem wq16z(s:List UInt8)(l r:Nat): (⟨s.toArray⟩:ByteArray).extract l r=⟨((s.take r).drop l).toArray⟩:=by
 apply ByteArray.ext
 rw[ByteArray.data_extract]
 apply Array.ext'
 simp[List.extract_eq_take_drop,List.drop_take]
theorem wq10e (isSlice:Bool) (len cap:Nat) (lo hi:Option Value) (l r:Int) (hl:lo=none∧l=0∨∃ k,lo=some (.int k l)) (hr:hi=none∧r=len∨∃ k,hi=some (.int k r))
 (hb:bnd l r len=true) (hc:len≤cap):(Instr.sliceBounds isSlice len cap lo hi none).run P w = .ok (l.toNat,r.toNat,cap) w:=by
 simp only[bnd,Bool.and_eq_true,decide_eq_true_eq]at hb
 obtain⟨⟨h0,h1⟩,h2⟩:=hb
 have hr':r≤(cap:Int):=by omega
 have e1:((r.toNat:Nat):Int)=r:=by omega
 rcases hl with⟨rfl,rfl⟩|⟨k,rfl⟩<;>rcases hr with⟨rfl,rfl⟩|⟨k',rfl⟩
 ·simp[Instr.sliceBounds]
 ·simp[Instr.sliceBounds,Instr.sliceBound,asIntOf,hr',h1]
 ·have h1':l≤(len:Int):=h1
  simp[Instr.sliceBounds,Instr.sliceBound,asIntOf,h0,h1']
 ·have h4:0≤r:=by omega
  simp[Instr.sliceBounds,Instr.sliceBound,asIntOf,h0,h1,hr',h4,e1]
end Go.Proofs.YtabkhphoacmcdaaGreatDoor.Pvm
namespace Go.Proofs.YtabkhphoacmcdaaGreatDoor.Pvm
open Go
variable {P:Program} {h:Heap} {G:Gh} {w:World} {ev:Ev} {ty:TypeId→Option TI}
theorem wq1da{α : Type}(xs:List α)(l r:Int)(hb:bnd l r xs.length=true): (cut xs l r).length=r.toNat-l.toNat:=by
 simp only[bnd,Bool.and_eq_true,decide_eq_true_eq]at hb
 simp only[cut,List.length_drop,List.length_take]
 omega
theorem wqjm {t e:TypeId} {i:TypeInfo} (hd:P.underlying t=some (.slice e)) (hi:P.info? e=some i) {A:Option Addr} {len cap:Nat} {lo hi':Option Value} {l r:Int}
 (hl:lo=none∧l=0∨∃ k,lo=some (.int k l)) (hr:hi'=none∧r=len∨∃ k,hi'=some (.int k r)) (hb:bnd l r len=true) (hc:len≤cap) :
 (Instr.sliceAt t (.slice A len cap) lo hi' none).run P w = .ok (.slice (if cap=l.toNat then A else A.map (·.add (l.toNat*i.size))) (r.toNat-l.toNat) (cap-l.toNat)) w:=by
 have hbs:=wq10e (P:=P) (w:=w) true len cap lo hi' l r hl hr hb hc
 simp[Instr.sliceAt,Instr.slice,run_underlying hd,hbs,sizeOf,typeInfo,hi]
theorem wqyo {t e:TypeId} {i:TypeInfo} (hd:P.underlying t=some (.slice e)) (hi:P.info? e=some i) {A:Option Addr} {len cap:Nat} {lo:Option Value} {l r m:Int} {kr km:IntKind}
 (hl:lo=none∧l=0∨∃ k,lo=some (.int k l)) (hb:bnd l r m=true) (hm:m≤len) (hc:len≤cap) :
 (Instr.sliceAt t (.slice A len cap) lo (some (.int kr r)) (some (.int km m))).run P w = .ok (.slice (if m.toNat=l.toNat then A else A.map (·.add (l.toNat*i.size))) (r.toNat-l.toNat) (m.toNat-l.toNat)) w:=by
 simp only[bnd,Bool.and_eq_true,decide_eq_true_eq]at hb
 obtain⟨⟨h0,h1⟩,h2⟩:=hb
 have hbs:(Instr.sliceBounds true len cap lo (some (.int kr r)) (some (.int km m))).run P w = .ok (l.toNat,r.toNat,m.toNat) w:=by
  have e1:((r.toNat:Nat):Int)=r:=by omega
  have e2:((m.toNat:Nat):Int)=m:=by omega
  have h3:m≤(cap:Int):=by omega
  have h4:0≤m:=by omega
  have h5:0≤r:=by omega
  rcases hl with⟨rfl,rfl⟩|⟨k,rfl⟩
  ·simp[Instr.sliceBounds,Instr.sliceBound,asIntOf,h2,h3,h4,h5,e1,e2]
  ·simp[Instr.sliceBounds,Instr.sliceBound,asIntOf,h0,h1,h2,h3,h4,h5,e1,e2]
 simp[Instr.sliceAt,Instr.slice,run_underlying hd,hbs,sizeOf,typeInfo,hi]
theorem wq170 {ok:Nat→Prop} {K:Kd} {xs:List K.T} {A:Option Addr} {cap:Nat} {l r m:Int} (hb:bnd l r m=true) (hm:m≤xs.length) (hc:xs.length≤cap)
 (hr:xs=[]∨∃ ad,A=some ad∧RowAt w ok K.sz (RD w ok K) ad xs) :
 RD w ok (.sl K) (cut xs l r) [.slice (if m.toNat=l.toNat then A else A.map (·.add (l.toNat*K.sz))) (r.toNat-l.toNat) (m.toNat-l.toNat)]:=by
 have hb':bnd l r xs.length=true:=by
  simp only[bnd,Bool.and_eq_true,decide_eq_true_eq]at hb ⊢
  omega
 have hlen:=wq1da xs l r hb'
 simp only[bnd,Bool.and_eq_true,decide_eq_true_eq]at hb
 refine⟨_,_,by rw[hlen],by rw[hlen];omega,?_⟩
 by_cases he:cut xs l r=[]
 ·exact .inl he
 ·have hpos:0<(cut xs l r).length:=List.length_pos_iff.2 he
  rcases hr with hr|⟨ad,rfl,h1,h2,h3⟩
  ·subst hr;simp[cut]at he
  ·have hne:¬ m.toNat=l.toNat:=by omega
   rw[if_neg hne]
   refine .inr ⟨ad.add (l.toNat*K.sz),rfl,by rw[wqaj];exact h1,by rw[wqaj];exact h2,fun i y hy => ?_⟩
   have hy':xs[l.toNat+i]? = some y:=by
    simp only[cut,List.getElem?_drop,List.getElem?_take]at hy
    split at hy
    ·exact hy
    ·cases hy
   obtain⟨c,hcc,hu⟩:=h3 _ _ hy'
   refine⟨c,hcc,fun j u hj => ?_⟩
   rw[Addr.add_add,show l.toNat*K.sz+(i*K.sz+j)=(l.toNat+i)*K.sz+j by rw[Nat.add_mul];omega]
   exact hu _ _ hj
theorem wqtk {ok:Nat→Prop} {K:Kd} {xs:List K.T} {A:Option Addr} {cap:Nat} {l r:Int} (hb:bnd l r xs.length=true) (hc:xs.length≤cap)
 (hr:xs=[]∨∃ ad,A=some ad∧RowAt w ok K.sz (RD w ok K) ad xs) :
 RD w ok (.sl K) (cut xs l r) [.slice (if cap=l.toNat then A else A.map (·.add (l.toNat*K.sz))) (r.toNat-l.toNat) (cap-l.toNat)]:=by
 have hlen:=wq1da xs l r hb
 simp only[bnd,Bool.and_eq_true,decide_eq_true_eq]at hb
 refine⟨_,_,by rw[hlen],by rw[hlen];omega,?_⟩
 by_cases he:cut xs l r=[]
 ·exact .inl he
 ·have hpos:0<(cut xs l r).length:=List.length_pos_iff.2 he
  rcases hr with hr|⟨ad,rfl,h1,h2,h3⟩
  ·subst hr;simp[cut]at he
  ·have hne:¬ cap=l.toNat:=by omega
   rw[if_neg hne]
   refine .inr ⟨ad.add (l.toNat*K.sz),rfl,by rw[wqaj];exact h1,by rw[wqaj];exact h2,fun i y hy => ?_⟩
   have hy':xs[l.toNat+i]? = some y:=by
    simp only[cut,List.getElem?_drop,List.getElem?_take]at hy
    split at hy
    ·exact hy
    ·cases hy
   obtain⟨c,hcc,hu⟩:=h3 _ _ hy'
   refine⟨c,hcc,fun j u hj => ?_⟩
   rw[Addr.add_add,show l.toNat*K.sz+(i*K.sz+j)=(l.toNat+i)*K.sz+j by rw[Nat.add_mul];omega]
   exact hu _ _ hj
theorem wqlu{n:Nm}{e:TypeId}{K:Kd}{xs:List K.T}(hn:RO h G w n (.row e K xs)):
 ∃ A cap,G.rv n = .slice A xs.length cap∧xs.length≤cap∧(xs=[]∨∃ ad g cs fz,A=some ad∧ad=⟨g,0,none⟩∧(G.rv n).ownBlock=some g∧w.heap[g]? = some (.cells cs e fz) ∧
  ∀(i:Nat) (y:K.T),xs[i]? = some y→∃ c,RD w (okB h G) K y c∧∀(j:Nat) (u:Value),c[j]? = some u→w.cell? (ad.add (i*K.sz+j))=some u):=by
 obtain⟨vs,hown,hr,_⟩:=hn
 rcases hown.2 with⟨h1,h2⟩|⟨g,cap,cur,h1,_,h3,h4,_⟩
 ·exact⟨none,0,by rw[h1,h2],by omega,.inl (List.eq_nil_of_length_eq_zero h2)⟩
 ·refine⟨_,cap,h1,h4,.inr ⟨⟨g,0,none⟩,g,cur,(0,0),rfl,rfl,by rw[h1];rfl,h3,fun i y hy => ?_⟩⟩
  obtain⟨c,hc,hu⟩:=hr.get i y hy
  refine⟨c,hc,fun j u hj => ?_⟩
  exact hown.cells (by rw[h1];rfl) _ _ (hu j u hj)
theorem wq18u {s:List UInt8} {lo hi:Option Value} {l r:Int} {t:TypeId} (ht:P.underlying t=some .string) (hl:lo=none∧l=0∨∃ k,lo=some (.int k l))
 (hr:hi=none∧r=s.length∨∃ k,hi=some (.int k r)) (hb:bnd l r s.length=true) :
 (Instr.sliceAt t (.string ⟨s.toArray⟩) lo hi none).run P w = .ok (.string ⟨(cut s l r).toArray⟩) w:=by
 have hbs:=wq10e (P:=P) (w:=w) false s.length s.length lo hi l r hl hr hb (Nat.le_refl _)
 have hsz:(⟨s.toArray⟩:ByteArray).size=s.length:=rfl
 simp[Instr.sliceAt,Instr.slice,run_underlying ht,hsz,hbs,wq16z,cut]
theorem RO.lt{n:Nm}{o:HObj}(hn:h n=some o)(hr:RO h G w n o){b:Nat}(hb:blkOf h G n=some b): b<w.heap.size:=by
 unfold blkOf at hb
 rw[hn]at hb
 cases o with
 |var t cs =>
  simp only[Option.some.injEq]at hb
  subst hb
  obtain⟨vs,hw,_⟩:=hr
  exact(Array.getElem?_eq_some_iff.1 hw).1
 |row e K xs =>
  obtain⟨vs,hown,_⟩:=hr
  exact(hown.lt b hb).2
 |mp ag V es =>
  simp only[Option.some.injEq]at hb
  subst hb
  obtain⟨o,hw,_⟩:=hr
  exact(Array.getElem?_eq_some_iff.1 hw).1
theorem new_ok(obj:∀ n o,h n=some o→RO h G w n o)(hX:∀ b,G.X b→b<w.heap.size): ∀ b,w.heap.size≤b→okB h G b:=by
 intro b hb
 refine⟨fun n hn => ?_,fun hx=>by have:=hX b hx;omega⟩
 cases ho:h n with
 |none=>simp[blkOf,ho]at hn
 |some o=>have:=RO.lt ho (obj n o ho) hn;omega
theorem wqtl:∀(ns:List Int) (s:ByteArray),ns.foldl (fun r n=>r.push (UInt8.ofNat n.toNat)) s=⟨s.data++(wq4a ns).toArray⟩
 |[],s=>by apply ByteArray.ext;simp[wq4a]
 |n::r,s=>by
  rw[List.foldl_cons,wqtl r]
  apply ByteArray.ext
  simp[wq4a]
theorem wq171{ok:Nat→Prop}{l:List Int}{ad:Addr}(hr:∀(i:Nat) (y:Int),l[i]? = some y→∃ c,RD w ok (.int .u8) y c∧∀(j:Nat) (u:Value),c[j]? = some u→w.cell? (ad.add (i*(Kd.int .u8).sz+j))=some u):
 (loadCells ad l.length).run P w = .ok (l.map (Value.int .u8)).toArray w:=by
 have:=run_loadCells_list (P:=P) w ad (l.map (Value.int .u8)) (fun j v hj=>by
  rw[List.getElem?_map]at hj
  obtain⟨y,hy,rfl⟩:=Option.map_eq_some_iff.1 hj
  obtain⟨c,hc,hu⟩:=hr j y hy
  simp only[RD]at hc
  subst hc
  have:=hu 0 _ rfl
  simpa [Kd.sz]using this)
 rwa [List.length_map]at this
theorem wqyp {s r e:TypeId} (hs:P.underlying s=some (.slice e)) (he:P.underlying e=some (.int .u8)) (hd:P.underlying r=some .string) {ok:Nat→Prop} {l:List Int} {A:Option Addr} {cap:Nat}
 (hl:l=[]∧(A=none∨∃ ad,A=some ad)∨∃ ad,A=some ad∧∀(i:Nat) (y:Int),l[i]? = some y→∃ c,RD w ok (.int .u8) y c∧∀(j:Nat) (u:Value),c[j]? = some u→w.cell? (ad.add (i*(Kd.int .u8).sz+j))=some u) :
 (convert s r (.slice A l.length cap)).run P w = .ok (.string ⟨(wq4a l).toArray⟩) w:=by
 rw[run_convert_bytes_string w s r e A _ _ hs he hd]
 have key:∀ ad:Addr,(∀(i:Nat) (y:Int),l[i]? = some y→∃ c,RD w ok (.int .u8) y c∧∀(j:Nat) (u:Value),c[j]? = some u→w.cell? (ad.add (i*(Kd.int .u8).sz+j))=some u) →
  (Conv.bytesToString (.slice (some ad) l.length cap)).run P w = .ok (.string ⟨(wq4a l).toArray⟩) w:=by
  intro ad h
  rw[run_bytesToString w ad _ cap l (wq171 h),wqtl]
  congr 2
  apply ByteArray.ext
  simp
 rcases hl with⟨rfl,rfl|⟨ad,rfl⟩⟩|⟨ad,rfl,h⟩
 ·simp[Conv.bytesToString,wq4a];rfl
 ·exact key ad (fun i y hy=>by simp at hy)
 ·exact key ad h
theorem wqtm(T:TyOk P ty)(obj:∀ n o,h n=some o→RO h G w n o)(hX:∀ b,G.X b→b<w.heap.size){s r:TypeId}{p:PV}{v:Value}(he:wqyk ty h s r p=some ev)(hp:RV h G w p v)(hch:chkB ev.chk=true):
 ∃ u w',(convert s r v).run P w = .ok u w'∧Still w w'∧RV h G w' ev.val u∧ev.hs=[]∧ev.mp=none:=by
 unfold wqyk at he
 split at he
 ·next a b ha hb =>
  obtain⟨d,hd,hm⟩:=(T _ _ ha).kind
  obtain⟨d',hd',hm'⟩:=(T _ _ hb).kind
  split at he
  ·next k k' n hk =>
   cases he
   rw[hk]at hm'
   simp only[RV,RD,List.cons.injEq,and_true]at hp
   subst hp hm'
   exact⟨.int k (k.wrap n),w,by simp[convert,run_underlying hd,run_underlying hd',Conv.intToInt],.refl w,rfl,rfl,rfl⟩
  ·next n hk =>
   cases he
   rw[hk]at hm'
   simp only[RV,RD,List.cons.injEq,and_true]at hp
   subst hp hm'
   exact⟨.float .f64 (fltOf n),w,by simp[convert,run_underlying hd,run_underlying hd',Conv.intToFloat,fltOf],.refl w,rfl,rfl,rfl⟩
  ·next k b hk =>
   cases he
   rw[hk]at hm'
   simp only[RV,RD,List.cons.injEq,and_true]at hp
   subst hp hm'
   simp only[Ev.when,chkB,fltIn]at hch
   cases hn:fltI b with
   |none=>rw[hn]at hch;cases hch
   |some n =>
    rw[hn]at hch
    simp only[Bool.and_eq_true,decide_eq_true_eq]at hch
    have hn':=hn
    unfold fltI at hn'
    exact⟨.int k n,w,by simp[convert,run_underlying hd,run_underlying hd',Conv.floatToInt,hn',hch.1,hch.2],.refl w,by simp[Ev.when,RV,RD,hn],rfl,rfl⟩
  ·next l hk =>
   cases he
   rw[hk]at hm'
   simp only[RV,RD,List.cons.injEq,and_true]at hp
   subst hp hm'
   exact⟨.string ⟨l.toArray⟩,w,by simp[convert,run_underlying hd,run_underlying hd'],.refl w,rfl,rfl,rfl⟩
  ·next k' n hk =>
   cases he
   rw[hk]at hm'
   simp only[RV,RD,List.cons.injEq,and_true]at hp
   subst hp hm'
   exact⟨.string (Utf8.encode n),w,by simp[convert,run_underlying hd,run_underlying hd',Conv.intToString],.refl w,by simp[Ev.pure,RV,RD],rfl,rfl⟩
  ·next l hk =>
   cases hs:wqcl ty s with
   |false=>rw[hs]at he;cases he
   |true =>
    rw[hs]at he;cases he
    rw[hk]at hm'
    simp only at hm'
    subst hm'
    obtain⟨e,h1,h2,_⟩:=wqes T hs
    obtain⟨A,cap,hv,hc,hr⟩:=hp
    simp only[List.cons.injEq,and_true]at hv
    subst hv
    refine⟨_,w,wqyp (ok:=okB h G) h1 h2 hd' ?_,.refl w,rfl,rfl,rfl⟩
    rcases hr with hr|⟨ad,rfl,hr⟩
    ·exact .inl ⟨hr,by cases A with|none=>exact .inl rfl|some a=>exact .inr ⟨a,rfl⟩⟩
    ·exact .inr ⟨ad,rfl,hr.2.2⟩
  ·next m hk =>
   split at he
   ·next e' xs hn =>
    cases hs:wqcl ty s with
    |false=>rw[hs]at he;cases he
    |true =>
     rw[hs]at he;cases he
     rw[hk]at hm'
     simp only at hm'
     subst hm'
     obtain⟨e,h1,h2,_⟩:=wqes T hs
     obtain⟨rfl,_⟩:=hp
     obtain⟨A,cap,hrv,hc,hr⟩:=wqlu (obj _ _ hn)
     rw[hrv]
     refine⟨_,w,wqyp (ok:=okB h G) h1 h2 hd' ?_,.refl w,rfl,rfl,rfl⟩
     rcases hr with hr|⟨ad,g,cs,fz,rfl,_,_,_,hr⟩
     ·exact .inl ⟨hr,by cases A with|none=>exact .inl rfl|some a=>exact .inr ⟨a,rfl⟩⟩
     ·exact .inr ⟨ad,rfl,hr⟩
   ·cases he
  ·next hk =>
   cases hs:wqcl ty s with
   |false=>rw[hs]at he;cases he
   |true =>
    rw[hs]at he;cases he
    rw[hk]at hm'
    simp only at hm'
    subst hm'
    obtain⟨e,h1,h2,_⟩:=wqes T hs
    obtain rfl:v=_:=hp
    exact⟨_,w,wqyp (ok:=okB h G) (l:=[]) h1 h2 hd' (.inl ⟨rfl,.inl rfl⟩),.refl w,rfl,rfl,rfl⟩
  ·next l hk =>
   cases hs:(wqcl ty r&&isStrT ty s)with
   |false=>rw[hs]at he;cases he
   |true =>
    rw[hs]at he;cases he
    simp only[Bool.and_eq_true]at hs
    obtain⟨e,h1,h2,_⟩:=wqes T hs.1
    simp only[RV,RD,List.cons.injEq,and_true]at hp
    subst hp
    refine⟨_,_,Lib.run_convert_string_bytes w s r e _ hd h1 h2,⟨fun b hb=>Lib.bytesWorld_at_old w e _ b hb,by rw[Lib.bytesWorld_size];omega,rfl,rfl,rfl⟩,?_,rfl,rfl⟩
    have hsz:(⟨l.toArray⟩:ByteArray).size=l.length:=rfl
    refine⟨_,_,by rw[hsz,wq35,List.length_map],by rw[wq35,List.length_map,←hsz];exact grownCap_ge w _ _ _,.inr ⟨_,rfl,new_ok obj hX _ (Nat.le_refl _),by rw[Lib.bytesWorld_size];exact Nat.lt_succ_self _,fun i y hy => ?_⟩⟩
    rw[wq35,List.getElem?_map]at hy
    obtain⟨c,hc,rfl⟩:=Option.map_eq_some_iff.1 hy
    refine⟨_,rfl,fun j u hj => ?_⟩
    have hi:i<l.length:=(List.getElem?_eq_some_iff.1 hc).1
    cases j with
    |succ j=>simp at hj
    |zero =>
     simp only[List.getElem?_cons_zero,Option.some.injEq]at hj
     subst hj
     rw[Addr.add_lit]
     simp only[Kd.sz,Nat.mul_one,Nat.zero_add,Nat.add_zero]
     rw[Lib.bytesWorld_cell w e _ i (by rw[hsz];exact hi)]
     simp[List.getD,hc]
  ·cases he
 ·cases he
end Go.Proofs.YtabkhphoacmcdaaGreatDoor.Pvm
namespace Go.Proofs.YtabkhphoacmcdaaGreatDoor.Pvm
open Go
variable {P:Program} {h:Heap} {G:Gh} {w:World} {ev:Ev} {ty:TypeId→Option TI}
theorem wq1c0(x y:List UInt8): ((⟨x.toArray⟩:ByteArray) == ⟨y.toArray⟩)=(x == y):=by
 show(x.toArray == y.toArray)=(x == y)
 simp
theorem wq1c1{ti:TI}{t:TypeId}(ht:TiOk P t ti){a b:PV}{v u:Value}{x:Bool}(he:eqLeaf ti.k a b=some x)(ha:RV h G w a v)(hb:RV h G w b u)(d:Nat):
 (Op.equalIn (d+1) t v u).run P w = .ok x w:=by
 obtain⟨ds,hd,hm⟩:=ht.kind
 unfold eqLeaf at he
 split at he
 ·next k k1 x' k2 y' hk =>
  rw[hk]at hm
  simp only at hm
  subst hm
  split at he
  ·next hkk =>
   subst hkk
   cases he
   simp only[RV,RD,List.cons.injEq,and_true]at ha hb
   subst ha hb
   simp[Op.equalIn,run_underlying hd]
  ·cases he
 ·next x' y' hk =>
  rw[hk]at hm
  simp only at hm
  subst hm
  cases he
  simp only[RV,RD,List.cons.injEq,and_true]at ha hb
  subst ha hb
  simp[Op.equalIn,run_underlying hd]
 ·next x' y' hk =>
  rw[hk]at hm
  simp only at hm
  subst hm
  cases he
  simp only[RV,RD,List.cons.injEq,and_true]at ha hb
  subst ha hb
  simp only[Op.equalIn,run_underlying hd,Sem.run_bind,Result.andThen_ok,Sem.run_pure]
  rw[wq1c0]
 ·next x' y' hk =>
  rw[hk]at hm
  simp only at hm
  subst hm
  cases he
  simp only[RV,RD,List.cons.injEq,and_true]at ha hb
  subst ha hb
  simp[Op.equalIn,run_underlying hd,fltIs,fltC,Op.floatEq]
 ·cases he
theorem wq15q{ti:TI}{t:TypeId}(ht:TiOk P t ti){a b:PV}{x:Bool}(he:eqLeaf ti.k a b=some x){xs:Array Value}{i:Nat}{v:Value}(hv:xs[i]? = some v): (part t xs i).run P w = .ok v w:=by
 have hag:=ht.agg w
 have:ti.isAg=false:=by
  unfold TI.isAg
  cases hk:ti.k<;>rw[hk]at he<;>simp[eqLeaf]at he ⊢
 rw[this]at hag
 simp[part,hag,hv]
theorem wq10f(T:TyOk P ty){xs ys:Array Value}(d:Nat): ∀(n:Nat) (fl:List Field) (a b:List PV) (va vb:List Value) (x:Bool),(∀ f∈fl,(f.name == "_")=false) →
 wqtc ty n (fl.map fun f=>(f.offset,f.type)) a b=some x→RVs h G w a va→RVs h G w b vb→(∀ j v,va[j]? = some v→xs[n+j]? = some v)→(∀ j v,vb[j]? = some v→ys[n+j]? = some v) →
 (Op.eqFields (d+1) xs ys fl).run P w = .ok x w
 |n,[],a,b,va,vb,x,hn,he,ha,hb,h1,h2=>by
  cases a<;>cases b<;>simp[wqtc]at he
  subst he
  simp[Op.eqFields]
 |n,f::fl,a,b,va,vb,x,hn,he,ha,hb,h1,h2=>by
  cases a with
  |nil=>simp[wqtc]at he
  |cons p r =>
   cases b with
   |nil=>simp[wqtc]at he
   |cons q s =>
    simp only[List.map_cons,wqtc]at he
    cases ho:Nat.beq f.offset n with
    |false=>rw[ho]at he;cases he
    |true =>
     rw[ho]at he
     have ho:=Nat.eq_of_beq_eq_true ho
     simp only[cond_true]at he
     obtain⟨v,va,rfl,hv,hva⟩:=ha
     obtain⟨u,vb,rfl,hu,hvb⟩:=hb
     split at he
     ·next ti hti =>
      have ht:=T _ _ hti
      split at he
      ·next z hz =>
       have e1:=wq15q (w:=w) ht hz (h1 0 v rfl)
       have e2:=wq15q (w:=w) ht hz (h2 0 u rfl)
       have e3:=wq1c1 ht hz hv hu d
       rw[Nat.add_zero,←ho]at e1 e2
       have hn':f.name ≠ "_" := by simpa using hn f (by simp)
       simp only[Op.eqFields,if_pos hn',Sem.run_bind,e1,e2,e3,Result.andThen_ok]
       split at he
       ·next hfl =>
        have hfl:fl=[]:=by simpa using hfl
        subst hfl
        split at he
        ·simp only[Option.some.injEq]at he
         subst he
         cases z<;>simp[Op.eqFields]
        ·cases he
       ·next hfl =>
        split at he
        ·next y hy =>
         cases he
         have:=wq10f T d (n+1) fl r s va vb y (fun f' hf'=>hn f' (by simp[hf'])) hy hva hvb
          (fun j v hj=>by have:=h1 (j+1) v (by simpa using hj);rwa [show n+(j+1)=n+1+j by omega]at this)
          (fun j v hj=>by have:=h2 (j+1) v (by simpa using hj);rwa [show n+(j+1)=n+1+j by omega]at this)
         cases z<;>simp[this]
        ·cases he
      ·cases he
     ·cases he
theorem wq18v{p:PV}{v:Value}(he:evNil p=some ev)(hp:RV h G w p v){o:Oper}{x:Operand}(ho:o.op = .nilCheck x){ρ : Operand→Value}(hx : ρ x=v):
 (execOp ρ o).run P w = .ok (.value v) w∧RV h G w ev.val v∧ev.hs=[]∧ev.mp=none∧ev.chk = .ok:=by
 unfold evNil at he
 split at he<;>cases he
 ·obtain⟨rfl,hn⟩:=hp
  exact⟨by simp[execOp,ho,hx],⟨rfl,hn⟩,rfl,rfl,rfl⟩
 ·obtain⟨ad,rfl,hn⟩:=hp
  exact⟨by simp[execOp,ho,hx],⟨ad,rfl,hn⟩,rfl,rfl,rfl⟩
 ·obtain⟨ad,rfl,hn⟩:=hp
  exact⟨by simp[execOp,ho,hx],⟨ad,rfl,hn⟩,rfl,rfl,rfl⟩
 ·obtain⟨e,K,xs,g,h1,h2,h3,rfl⟩:=hp
  exact⟨by simp[execOp,ho,hx],⟨e,K,xs,g,h1,h2,h3,rfl⟩,rfl,rfl,rfl⟩
 ·obtain⟨vs,rfl,hn⟩:=hp
  exact⟨by simp[execOp,ho,hx],⟨vs,rfl,hn⟩,rfl,rfl,rfl⟩
theorem wq9k{op:BinOp}{t:TypeId}{x y:Operand}{a b:Value}(h1:¬ (a = .nilIface∧b = .nilIface))(h2:∀ xs ys,¬ (a = .agg xs∧b = .agg ys)): (eqGuard op t x y a b).run P w = .ok () w:=by
 unfold eqGuard
 cases op<;>simp
 all_goals
  split
  ·exact absurd ⟨rfl,rfl⟩ h1
  ·exact absurd ⟨rfl,rfl⟩ (h2 _ _)
  ·rfl
theorem wq1f6(T:TyOk P ty){t:TypeId}{ti:TI}(hti:ty t=some ti){op:BinOp}{x y:Operand}{p q:PV}{v u:Value}{b:Bool}(he:eqPV ty ti (wqez x || wqez y) p q=some b)(hp:RV h G w p v)(hq:RV h G w q u):
 (eqGuard op t x y v u).run P w = .ok () w∧(Op.equal t v u).run P w = .ok b w∧(∀ k a,v ≠ .int k a)∧(∀ k a,v ≠ .float k a)∧(∀ k a b,v ≠ .complex k a b)∧(∀ a,v ≠ .string a):=by
 have ht:=T _ _ hti
 have E:(∀ d,(Op.equalIn (d+1) t v u).run P w = .ok b w)→(Op.equal t v u).run P w = .ok b w:=fun h=>h 9999
 obtain⟨dd,hd,hm⟩:=ht.kind
 unfold eqPV at he
 cases hes:eqsOk ti with
 |false=>rw[hes]at he;cases he
 |true =>
  rw[hes,cond_true]at he
  have hpl:ti.k = .struct→wq109 P t=true:=fun h=>ht.eqs (by unfold eqsOk at hes;rw[h]at hes;exact hes) h
  generalize hk:ti.k=k at he hm hpl
  split at he
  ·simp only at hm
   subst hm
   cases he
   simp only[RV,RD,List.cons.injEq,and_true]at hp hq
   subst hp hq
   exact⟨wq9k (by simp) (by simp),E fun d=>by simp[Op.equalIn,run_underlying hd],by simp,by simp,by simp,by simp⟩
  ·next aT_ bs =>
   obtain⟨fs,rfl,hfs,_⟩:=hm
   have hpl:=hpl rfl
   simp only[wq109,hd,Bool.and_eq_true,Bool.not_eq_true',List.all_eq_true]at hpl
   obtain⟨⟨g1,g2⟩,g3⟩:=hpl
   obtain⟨va,rfl,ha⟩:=hp
   obtain⟨vb,rfl,hb⟩:=hq
   rw[←hfs]at he
   have h0:=wq10f (xs:=va.toArray) (ys:=vb.toArray) T 9998 0 fs.toList aT_ bs va vb b (fun f hf=>by simpa using g3 f hf) he ha hb (fun j v hj=>by simpa using hj) (fun j v hj=>by simpa using hj)
   refine⟨?_,?_,by simp,by simp,by simp,by simp⟩
   ·unfold eqGuard
    cases op<;>simp[program]<;>simp[Sem.run,Result.andThen,g1]
   ·have hf:P.fieldsOf t=fs:=by simp[Program.fieldsOf,hd]
    have:=run_equalIn_struct (P:=P) w 9999 t va.toArray vb.toArray (by rw[hf];exact hd) g2
    rw[hf]at this
    exact this.trans h0
  ·simp only at hm
   subst hm
   cases he
   simp only[RV]at hp hq
   subst hp hq
   exact⟨wq9k (by simp) (by simp),E fun d=>by simp[Op.equalIn,run_underlying hd],by simp,by simp,by simp,by simp⟩
  ·simp only at hm
   subst hm
   cases he
   obtain⟨rfl,_⟩:=hp
   simp only[RV]at hq
   subst hq
   exact⟨wq9k (by simp) (by simp),E fun d=>by simp[Op.equalIn,run_underlying hd],by simp,by simp,by simp,by simp⟩
  ·simp only at hm
   subst hm
   cases he
   obtain⟨rfl,_⟩:=hq
   simp only[RV]at hp
   subst hp
   exact⟨wq9k (by simp) (by simp),E fun d=>by simp[Op.equalIn,run_underlying hd],by simp,by simp,by simp,by simp⟩
  ·obtain⟨ms,rfl⟩:=hm
   simp only[RV]at hp hq
   subst hp hq
   cases hcst:(wqez x || wqez y)with
   |false=>rw[hcst]at he;cases he
   |true =>
    rw[hcst]at he
    cases he
    refine⟨?_,E fun d=>by simp[Op.equalIn,run_underlying hd],by simp,by simp,by simp,by simp⟩
    unfold eqGuard
    cases op<;>simp
    all_goals cases x<;>cases y<;>simp_all [wqez]
  ·obtain⟨ms,rfl⟩:=hm
   cases he
   obtain⟨z,rfl,_⟩:=hp
   simp only[RV]at hq
   subst hq
   exact⟨wq9k (by simp) (by simp),E fun d=>by simp[Op.equalIn,run_underlying hd],by simp,by simp,by simp,by simp⟩
  ·obtain⟨ms,rfl⟩:=hm
   cases he
   obtain⟨z,rfl,_⟩:=hq
   simp only[RV]at hp
   subst hp
   exact⟨wq9k (by simp) (by simp),E fun d=>by simp[Op.equalIn,run_underlying hd],by simp,by simp,by simp,by simp⟩
  ·cases he
theorem wq1e6 {op:BinOp} {t:TypeId} {v u:Value} {b:Bool} (n1:∀ k a,v ≠ .int k a) (n2:∀ k a,v ≠ .float k a) (n3:∀ k a b,v ≠ .complex k a b) (n4:∀ a,v ≠ .string a) (heq:(Op.equal t v u).run P w = .ok b w)
 (hr:eqRes op (some b)=some ev):∃ r,(binOp op t v u).run P w = .ok r w∧RV h G w ev.val r∧ev.hs=[]∧ev.mp=none:=by
 cases op<;>simp[eqRes]at hr<;>subst hr
 ·refine⟨.bool b,?_,rfl,rfl,rfl⟩
  cases v<;>first|exact absurd rfl (n1 _ _)|exact absurd rfl (n2 _ _)|exact absurd rfl (n3 _ _ _)|exact absurd rfl (n4 _)|simp[binOp,heq]
 ·refine⟨.bool (!b),?_,rfl,rfl,rfl⟩
  cases v<;>first|exact absurd rfl (n1 _ _)|exact absurd rfl (n2 _ _)|exact absurd rfl (n3 _ _ _)|exact absurd rfl (n4 _)|simp[binOp,heq]
theorem wq139(T:TyOk P ty){op:BinOp}{t:TypeId}{x y:Operand}{p q:PV}{v u:Value}(he:evBin ty t op (wqez x || wqez y) p q=some ev)(hp:RV h G w p v)(hq:RV h G w q u)(hc:chkB ev.chk=true):
 (eqGuard op t x y v u).run P w = .ok () w∧∃ r,(binOp op t v u).run P w = .ok r w∧RV h G w ev.val r∧ev.hs=[]∧ev.mp=none:=by
 unfold evBin at he
 split at he
 ·next k a k' b =>
  simp only[RV,RD,List.cons.injEq,and_true]at hp hq
  subst hp hq
  refine⟨wq9k (by simp) (by simp),?_⟩
  split at he
  ·cases he
   simp only[Ev.when,chkB,decide_eq_true_eq]at hc
   have:¬ b<(0:Int):=Int.not_lt.2 hc
   exact⟨.int k (ishl k a b),by simp[binOp,Op.shift,this,ishl],rfl,rfl,rfl⟩
  ·cases he
   simp only[Ev.when,chkB,decide_eq_true_eq]at hc
   have:¬ b<(0:Int):=Int.not_lt.2 hc
   exact⟨.int k (ishr k a b),by simp[binOp,Op.shift,this,ishr],rfl,rfl,rfl⟩
  ·next h1 h2 =>
   split at he
   ·next hk =>
    subst hk
    have hs:wq18l op=false:=by cases op<;>first|rfl|exact absurd rfl h1|exact absurd rfl h2
    obtain⟨r,hr⟩:=wq1bw (P:=P) (h:=h) (G:=G) (w:=w) hs he (by unfold chkB at hc;exact hc) t
    exact⟨r,hr⟩
   ·cases he
 ·next a b =>
  simp only[RV,RD,List.cons.injEq,and_true]at hp hq
  subst hp hq
  exact⟨wq9k (by simp) (by simp),wq1by (P:=P) (h:=h) (G:=G) (w:=w) he (by unfold chkB at hc;exact hc) t⟩
 ·next a b =>
  simp only[RV,RD,List.cons.injEq,and_true]at hp hq
  subst hp hq
  exact⟨wq9k (by simp) (by simp),wq1bz (P:=P) (h:=h) (G:=G) (w:=w) he (by unfold chkB at hc;exact hc) t⟩
 ·split at he
  ·next ti hti =>
   cases hb:eqPV ty ti (wqez x || wqez y) p q with
   |none=>rw[hb]at he;cases op<;>cases he
   |some b =>
    rw[hb]at he
    obtain⟨e1,e2,n1,n2,n3,n4⟩:=wq1f6 (op:=op) T hti hb hp hq
    exact⟨e1,wq1e6 n1 n2 n3 n4 e2 he⟩
  ·cases he
end Go.Proofs.YtabkhphoacmcdaaGreatDoor.Pvm
namespace Go.Proofs.YtabkhphoacmcdaaGreatDoor.Pvm
open Go
variable {P:Program} {h:Heap} {G:Gh} {w:World} {ev:Ev} {ty:TypeId→Option TI}
theorem cvs_ok(vs:List Value): RVs h G w (vs.map cv) vs:=by
 induction vs with
 |nil=>rfl
 |cons v r ih=>exact⟨v,r,rfl,cv_ok v,ih⟩
theorem TiOk.zeros{t:TypeId}{ti:TI}(ht:TiOk P t ti): ∃ z,(zeroValue t).run P w = .ok z w∧RVs h G w ti.zero z.cells.toList∧RV h G w (zeroOf ti) z:=by
 obtain⟨i,z,hi,_,_,hz,hzl,hsz,_,hzz⟩:=ht.info
 refine⟨z,by simp[zeroValue,typeInfo,hi,hz],by rw[←hzl];exact cvs_ok _,?_⟩
 unfold zeroOf
 split
 ·next hk =>
  rw[hk]at hzz
  obtain⟨cs,rfl⟩:=hzz
  exact⟨cs.toList,by simp,by rw[←hzl];exact cvs_ok _⟩
 ·next hk =>
  have:z.cells = #[z]:=by
   cases hk2:ti.k<;>rw[hk2]at hzz hk<;>first|exact hzz|exact absurd rfl hk|(subst hzz;rfl)
  rw[this]at hzl
  rw[←hzl]
  exact cv_ok z
def setV(vs:List Value)(off:Nat): List Value→List Value
 |[]=>vs
 |v::r=>setV (vs.set off v) (off+1) r
theorem wqt6:∀ {new:List PV} {us:List Value} {cs:List PV} {vs:List Value} (off:Nat),RVs h G w new us→RVs h G w cs vs→RVs h G w (setAt cs off new) (setV vs off us)
 |[],us,cs,vs,off,hn,hr=>by simp[RVs]at hn;subst hn;simpa [setAt,setV]using hr
 |p::r,us,cs,vs,off,hn,hr=>by
  obtain⟨v,l,rfl,hv,hl⟩:=hn
  exact wqt6 (off+1) hl (hr.set off hv)
theorem wqt7(off:Nat): ∀(us:List Value) (k:Nat) (cells:Array Value),((us.zipIdx k).foldl (fun cs x=>cs.setIfInBounds (off+x.2) x.1) cells).toList=setV cells.toList (off+k) us
 |[],k,cells=>rfl
 |v::r,k,cells=>by
  rw[List.zipIdx_cons,List.foldl_cons,wqt7 off r (k+1),setV]
  simp[Nat.add_assoc]
theorem wqet:∀(us:List Value) (off:Nat) (vs:List Value),(setV vs off us).length=vs.length
 |[],_,_=>rfl
 |v::r,off,vs=>by rw[setV,wqet r,List.length_set]
theorem RD.one{ok:Nat→Prop}: ∀ {K:Kd} {x:K.T} {cs:List Value},RD w ok K x cs→∀ u∈cs,u.oneCell'=true
 |.int _,_,_,h,u,hu=>by simp only[RD]at h;subst h;simp at hu;subst hu;rfl
 |.bool,_,_,h,u,hu=>by simp only[RD]at h;subst h;simp at hu;subst hu;rfl
 |.str,_,_,h,u,hu=>by simp only[RD]at h;subst h;simp at hu;subst hu;rfl
 |.flt,_,_,h,u,hu=>by simp only[RD]at h;subst h;simp at hu;subst hu;rfl
 |.nil,_,_,h,u,hu=>by simp only[RD]at h;subst h;simp at hu
 |.sl _,_,_,h,u,hu=>by obtain⟨A,cap,rfl,_⟩:=h;simp at hu;subst hu;rfl
 |.pr a b,x,cs,h,u,hu=>by
  obtain⟨c1,c2,rfl,h1,h2⟩:=h
  rcases List.mem_append.1 hu with hu|hu
  ·exact RD.one h1 u hu
  ·exact RD.one h2 u hu
theorem RDs.one{ok:Nat→Prop}{K:Kd}: ∀ {xs:List K.T} {cs:List Value},RDs w ok K xs cs→∀ u∈cs,u.oneCell'=true
 |[],cs,h,u,hu=>by simp[RDs]at h;subst h;cases hu
 |x::r,cs,⟨c1,c2,e,h1,h2⟩,u,hu=>by
  subst e
  rcases List.mem_append.1 hu with hu|hu
  ·exact h1.one u hu
  ·exact h2.one u hu
theorem wq13a(obj:∀ n o,h n=some o→RO h G w n o){q:PV}{u:Value}(hq:isLeaf q=true)(hu:RV h G w q u): u.oneCell'=true:=by
 cases q with
 |v K x=>exact RD.one hu u (by simp)
 |row n =>
  obtain⟨rfl,e,K,xs,hn⟩:=hu
  obtain⟨A,cap,hrv,_⟩:=wqlu (obj _ _ hn)
  rw[hrv];rfl
 |kb b=>obtain rfl:u=_:=hu;rfl
 |nilsl=>obtain rfl:u=_:=hu;rfl
 |nilptr=>obtain rfl:u=_:=hu;rfl
 |nilif=>obtain rfl:u=_:=hu;rfl
 |nps n off=>rcases hu with hu|⟨hu,_⟩<;>subst hu<;>rfl
 |ptr n off=>obtain⟨rfl,_⟩:=hu;rfl
 |elp K xs i off=>obtain⟨ad,rfl,_⟩:=hu;rfl
 |bv K xs=>obtain⟨A,cap,rfl,_⟩:=hu;rfl
 |elq K xs i off=>obtain⟨ad,rfl,_⟩:=hu;rfl
 |lp K x off=>obtain⟨ad,rfl,_⟩:=hu;rfl
 |elr n i off=>obtain⟨_,_,_,_,_,_,_,rfl⟩:=hu;rfl
 |ifc t p=>obtain⟨_,rfl,_⟩:=hu;rfl
 |clo f c=>obtain⟨_,rfl,_⟩:=hu;rfl
 |mpp n=>obtain⟨ag,rfl,_⟩:=hu;cases ag<;>rfl
 |nxt s p=>simp[isLeaf]at hq
 |agg cs=>simp[isLeaf]at hq
 |tup cs=>simp[isLeaf]at hq
 |un=>simp[isLeaf]at hq
 |ng b=>simp[isLeaf]at hq
 |opt g c p=>simp[isLeaf]at hq
theorem wq15r(obj:∀ n o,h n=some o→RO h G w n o): ∀ {cs:List PV} {vs:List Value},leafs cs=true→RVs h G w cs vs→∀ u∈vs,u.oneCell'=true
 |[],vs,_,hr,u,hu=>by simp[RVs]at hr;subst hr;cases hu
 |p::r,vs,hl,hr,u,hu=>by
  obtain⟨v,l,rfl,hv,hr⟩:=hr
  simp only[leafs,Bool.and_eq_true]at hl
  rcases List.mem_cons.1 hu with rfl|hu
  ·exact wq13a obj hl.1 hv
  ·exact wq15r obj hl.2 hr u hu
theorem wqpo(obj:∀ n o,h n=some o→RO h G w n o){p:PV}{v:Value}(hl:leafs (cellsOf p)=true)(hp:RV h G w p v): RVs h G w (cellsOf p) v.cells.toList∧∀ u∈v.cells.toList,u.oneCell'=true:=by
 by_cases hag:∃ cs,p = .agg cs
 ·obtain⟨cs,rfl⟩:=hag
  obtain⟨vs,rfl,hr⟩:=hp
  exact⟨by simpa [Value.cells,cellsOf]using hr,by simpa [Value.cells]using wq15r obj hl hr⟩
 ·have hc:cellsOf p=[p]:=by cases p<;>first|rfl|exact absurd ⟨_,rfl⟩ hag
  rw[hc]at hl ⊢
  simp only[leafs,Bool.and_true]at hl
  have h1:=wq13a obj hl hp
  have hv:v.cells = #[v]:=by cases v<;>first|rfl|simp[Value.oneCell']at h1
  rw[hv]
  exact⟨⟨v,[],rfl,hp,rfl⟩,by simpa using h1⟩
theorem wq15s(obj:∀ n o,h n=some o→RO h G w n o){p:PV}{v:Value}(hl:leafs (cellsOf p)=true)(hp:RV h G w p v): v.cells.size=(cellsOf p).length:=by
 have:=(wqpo obj hl hp).1.length
 simpa using this
theorem wq18w(obj:∀ n o,h n=some o→RO h G w n o){place place':Nat→Option (Nat×Nat)}(hpl:∀ i x,place i=some x→place' i=some x){u:Operand→PV}{ρ : Operand→Value}(hu:∀ x,RV h G w (u x) (ρ x)):
 ∀(parts:List (Nat×Operand)) (cs:List PV) (cells:Array Value) (r:List PV),
 fillP place cs (parts.map fun(i,x)=>(i,u x))=some r→RVs h G w cs cells.toList →
 ∃ out,Instr.fill place' cells (parts.map fun(i,x)=>(i,ρ x))=some out∧RVs h G w r out.toList
 |[],cs,cells,r,he,hr=>by cases he;exact⟨cells,rfl,hr⟩
 |(i,x)::rest,cs,cells,r,he,hr=>by
  simp only[List.map_cons,fillP]at he
  split at he
  ·next off n hp =>
   cases hb:(leafs (cellsOf (u x))&&Nat.beq (cellsOf (u x)).length n&&Nat.ble (off+n) cs.length)with
   |false=>rw[hb]at he;cases he
   |true =>
    rw[hb,cond_true]at he
    simp only[Bool.and_eq_true]at hb
    obtain⟨⟨h1,h2⟩,h3⟩:=hb
    have h2:=Nat.eq_of_beq_eq_true h2
    have h3:=Nat.le_of_ble_eq_true h3
    obtain⟨c1,c2⟩:=wqpo obj h1 (hu x)
    have hsz:=wq15s obj h1 (hu x)
    have hl:=hr.length
    have e1:¬ ((ρ x).cells.size≠n || decide (off+(ρ x).cells.size>cells.size))=true:=by
     simp only[Array.length_toList]at hl
     simp;omega
    simp only[List.map_cons,Instr.fill,hpl _ _ hp]
    rw[if_neg (by simpa using e1)]
    refine wq18w obj hpl hu rest _ _ r he ?_
    have hv:=wqt7 off (ρ x).cells.toList 0 cells
    rw[Nat.add_zero]at hv
    have e2:((ρ x).cells.zipIdx.foldl (fun cs x=>cs.setIfInBounds (off+x.2) x.1) cells).toList=setV cells.toList off (ρ x).cells.toList:=by
     rw[←hv,←Array.foldl_toList,Array.toList_zipIdx]
    show RVs h G w _ (Array.foldl (fun cs x=>cs.setIfInBounds (off+x.2) x.1) cells (ρ x).cells.zipIdx).toList
    rw[e2]
    exact wqt6 off c1 hr
  ·cases he
theorem wq10g (T:TyOk P ty) (obj:∀ n o,h n=some o→RO h G w n o) {s:TypeId} {ti:TI} (hs:ty s=some ti) {u:Operand→PV} {ρ : Operand→Value} (hu:∀ x,RV h G w (u x) (ρ x)) {parts:Array (Nat×Operand)}
 (he:wq18p ty ti (parts.toList.map fun(i,x)=>(i,u x))=some ev) :
 ∃ r,(Instr.build s (parts.map fun(i,x)=>(i,ρ x))).run P w = .ok r w∧RV h G w ev.val r∧ev.hs=[]∧ev.mp=none∧ev.chk = .ok:=by
 unfold wq18p at he
 split at he
 ·next hk =>
  split at he
  ·next cs hcs =>
   cases he
   have ht:=T _ _ hs
   obtain⟨d,hd,hm⟩:=ht.kind
   rw[hk]at hm
   obtain⟨fs,rfl,hfs,pl,hpl⟩:=hm
   obtain⟨i,z,hi,h1,_,hz,hzl,hsz,_,_⟩:=ht.info
   have hplace:∀ i x,wq18o ty ti.fs i=some x→pl.toArray[i]? = some x:=by
    intro i x hx
    unfold wq18o at hx
    split at hx
    ·next off t ht =>
     split at hx
     ·next ti' hti' =>
      cases hx
      rw[←hfs,List.getElem?_map]at ht
      obtain⟨fl,hfl,he⟩:=Option.map_eq_some_iff.1 ht
      simp only[Prod.mk.injEq]at he
      obtain⟨rfl,rfl⟩:=he
      obtain⟨j,zz,hj,hj2,_⟩:=(T _ _ hti').info
      have:∀(l:List Field) (p:List (Nat×Nat)),l.mapM (fun f=>(P.info? f.type).map fun i=>(f.offset,i.size))=some p→∀(k:Nat) (f:Field),l[k]? = some f→p[k]? = (P.info? f.type).map fun i=>(f.offset,i.size):=by
       intro l
       induction l with
       |nil=>intro p hp k f hf;simp at hf
       |cons a l ih =>
        intro p hp k f hf
        simp only[List.mapM_cons,Option.bind_eq_bind,Option.pure_def]at hp
        cases ha:P.info? a.type with
        |none=>simp[ha]at hp
        |some ia =>
         cases hr:l.mapM (fun f=>(P.info? f.type).map fun i=>(f.offset,i.size))with
         |none=>simp[ha,hr]at hp
         |some rest =>
          simp[ha,hr]at hp
          subst hp
          cases k with
          |zero=>simp at hf;subst hf;simp[ha]
          |succ k=>simp at hf ⊢;exact ih rest hr k f hf
      have:=this fs.toList pl hpl i fl hfl
      simp[this,hj,hj2]
     ·cases hx
    ·cases hx
   obtain⟨out,ho,hr⟩:=wq18w obj hplace hu parts.toList ti.zero z.cells cs hcs (by rw[←hzl];exact cvs_ok _)
   refine⟨.agg out,run_build w s _ out ?_,⟨out.toList,by simp,hr⟩,rfl,rfl,rfl⟩
   unfold Program.built
   rw[hi,hd]
   simp only[hz,hpl,Array.toList_map]
   exact ho
  ·cases he
 ·cases he
theorem wqxg(T:TyOk P ty){aT_:TypeId}{ti:TI}(hs:ty aT_=some ti){ok:Bool}{p:PV}{v:Value}{xt:TypeId}(he:wq132 ti aT_ ok p=some ev)(hp:RV h G w p v):
 ∃ r,(Instr.typeAssert v xt aT_ ok).run P w = .ok r w∧RV h G w ev.val r∧ev.hs=[]∧ev.mp=none∧ev.chk = .ok:=by
 have ht:=T _ _ hs
 obtain⟨d,hd,hm⟩:=ht.kind
 obtain⟨z,hz,_,hz2⟩:=ht.zeros (h:=h) (G:=G) (w:=w)
 have hni:ti.k ≠ .iface→∀ ms,d ≠ .interface ms:=by
  intro hk ms hms
  subst hms
  cases hk2:ti.k<;>rw[hk2]at hm<;>simp at hm
  exact hk hk2
 unfold wq132 at he
 split at he
 ·cases he
 ·next hk =>
  have hd':=hni hk
  split at he
  ·next s q =>
   obtain⟨u,rfl,hq⟩:=hp
   cases hb:Nat.beq s aT_ with
   |true =>
    rw[hb]at he
    have hb:=Nat.eq_of_beq_eq_true hb
    subst hb
    cases he
    cases ok
    ·refine⟨u,?_,hq,rfl,rfl,rfl⟩
     cases d<;>first|exact absurd rfl (hd' _)|simp[Instr.typeAssert,run_underlying hd]
    ·refine⟨.tuple #[u,.bool true],?_,⟨[u,.bool true],rfl,u,_,rfl,hq,_,_,rfl,rfl,rfl⟩,rfl,rfl,rfl⟩
     cases d<;>first|exact absurd rfl (hd' _)|simp[Instr.typeAssert,run_underlying hd]
   |false =>
    rw[hb]at he
    cases ok with
    |false=>cases he
    |true =>
     cases he
     have hb:¬ s=aT_:=fun e=>by subst e;simp at hb
     refine⟨.tuple #[z,.bool false],?_,⟨[z,.bool false],rfl,z,_,rfl,hz2,_,_,rfl,rfl,rfl⟩,rfl,rfl,rfl⟩
     cases d<;>first|exact absurd rfl (hd' _)|simp[Instr.typeAssert,run_underlying hd,hb,hz]
  ·cases ok with
   |false=>cases he
   |true =>
    cases he
    obtain rfl:v=_:=hp
    refine⟨.tuple #[z,.bool false],?_,⟨[z,.bool false],rfl,z,_,rfl,hz2,_,_,rfl,rfl,rfl⟩,rfl,rfl,rfl⟩
    cases d<;>first|exact absurd rfl (hd' _)|simp[Instr.typeAssert,run_underlying hd,hz]
  ·cases he
end Go.Proofs.YtabkhphoacmcdaaGreatDoor.Pvm
namespace Go.Proofs.YtabkhphoacmcdaaGreatDoor.Pvm
open Go
variable {P:Program} {h:Heap} {G:Gh} {w:World} {ev:Ev} {ty:TypeId→Option TI}
theorem wqej{u:Operand→PV}{ρ : Operand→Value}(hu:∀ x,RV h G w (u x) (ρ x)){o:Option Operand}{d n:Int}(he:optInt u o d=some n): o.map ρ = none∧n=d∨∃ k,o.map ρ = some (.int k n):=by
 cases o with
 |none=>cases he;exact .inl ⟨rfl,rfl⟩
 |some x =>
  obtain⟨k,hk⟩:=wq138 he (hu x)
  exact .inr ⟨k,by simp[hk]⟩
theorem wq10h (T:TyOk P ty) {u:Operand→PV} {ρ : Operand→Value} (hu:∀ x,RV h G w (u x) (ρ x)) {xt:TypeId} {x:Operand} {lo hi:Option Operand} (he:wq107 ty h xt (u x) (optInt u lo) (optInt u hi)=some ev)
 (hc:chkB ev.chk=true) (h1:ev.hs=[]) :
 ∃ r,(Instr.sliceAt xt (ρ x) (lo.map ρ) (hi.map ρ) none).run P w = .ok r w∧RV h G w ev.val r∧ev.mp=none:=by
 have hx:=hu x
 unfold wq107 at he
 split at he
 ·next s hs =>
  rw[hs]at hx
  cases hb:isStrT ty xt with
  |false=>rw[hb]at he;cases he
  |true =>
   rw[hb,cond_true]at he
   unfold wq133 at he
   split at he
   ·next l r hl hr =>
    cases he
    simp only[RV,RD,List.cons.injEq,and_true]at hx
    rw[hx]
    exact⟨_,wq18u (wqhq T hb) (wqej hu hl) (wqej hu hr) hc,rfl,rfl⟩
   ·cases he
 ·next K xs hs =>
  rw[hs]at hx
  split at he
  ·next z hz =>
   obtain⟨e,i,hd,hi',hsz⟩:=wqth T hz
   cases hb:Nat.beq z K.sz with
   |false=>rw[hb]at he;cases he
   |true =>
    rw[hb,cond_true]at he
    have hb:=Nat.eq_of_beq_eq_true hb
    unfold wqpm at he
    split at he
    ·next l r hl hr =>
     cases he
     obtain⟨A,cap,hv,hcap,hrow⟩:=hx
     simp only[List.cons.injEq,and_true]at hv
     rw[hv]
     refine⟨_,wqjm hd hi' (wqej hu hl) (wqej hu hr) hc hcap,?_,rfl⟩
     rw[hsz,hb]
     exact wqtk hc hcap hrow
    ·cases he
  ·cases he
 ·next n hs =>
  split at he
  ·split at he
   ·next z hz =>
    cases hb:Nat.beq z _ with
    |false=>rw[hb]at he;cases he
    |true =>
     rw[hb,cond_true]at he
     unfold wq134 at he
     split at he
     ·cases he;cases h1
     ·cases he
   ·cases he
  ·cases he
 ·next hs =>
  rw[hs]at hx
  split at he
  ·next e K b hz =>
   obtain⟨hd,i,z,hi',_,hsz,_⟩:=wq10a T hz
   unfold wqpm at he
   split at he
   ·next l r hl hr =>
    cases he
    have hv : ρ x = .slice none 0 0:=hx
    rw[hv]
    refine⟨_,wqjm hd hi' (wqej hu hl) (wqej hu hr) hc (Nat.le_refl _),?_,rfl⟩
    rw[hsz]
    exact wqtk (xs:=[]) hc (Nat.le_refl _) (.inl rfl)
   ·cases he
  ·cases he
 ·cases he
theorem wqxh (T:TyOk P ty) {u:Operand→PV} {ρ : Operand→Value} (hu:∀ x,RV h G w (u x) (ρ x)) {xt:TypeId} {x hi mx:Operand} {lo:Option Operand}
 (he:wq135 ty xt (u x) (optInt u lo 0) (optInt u (some hi) 0) (optInt u (some mx) 0)=some ev) (hc:chkB ev.chk=true) :
 ∃ r,(Instr.sliceAt xt (ρ x) (lo.map ρ) (some (ρ hi)) (some (ρ mx))).run P w = .ok r w∧RV h G w ev.val r∧ev.hs=[]∧ev.mp=none:=by
 have hx:=hu x
 unfold wq135 at he
 split at he
 ·next K xs l r m hs hl hr hm =>
  rw[hs]at hx
  split at he
  ·next z hz =>
   obtain⟨e,i,hd,hi',hsz⟩:=wqth T hz
   cases hb:Nat.beq z K.sz with
   |false=>rw[hb]at he;cases he
   |true =>
    rw[hb,cond_true]at he
    have hb:=Nat.eq_of_beq_eq_true hb
    cases he
    obtain⟨A,cap,hv,hcap,hrow⟩:=hx
    simp only[List.cons.injEq,and_true]at hv
    rw[hv]
    obtain⟨kr,er⟩:=wq138 hr (hu hi)
    obtain⟨km,em⟩:=wq138 hm (hu mx)
    have hc':(bnd l r m&&decide (m≤xs.length))=true:=hc
    simp only[Bool.and_eq_true,decide_eq_true_eq]at hc'
    rw[er,em]
    refine⟨_,wqyo hd hi' (wqej hu hl) hc'.1 hc'.2 hcap,?_,rfl,rfl⟩
    rw[hsz,hb]
    exact wq170 hc'.1 hc'.2 hcap hrow
  ·cases he
 ·cases he
theorem wq13b(T:TyOk P ty){s:TypeId}{ag:MK}{V:Kd}(hm:mapKd ty s=some (ag,V)): ag ≠ .it∧∃ kt el z,P.underlying s=some (.map kt el)∧P.underlying kt=some .string∧(∀ w,(zeroValue el).run P w = .ok z w)∧∀(h:Heap) (G:Gh) (w:World),RV h G w (mpVal ag.isAgg V V.zero) z:=by
 unfold mapKd at hm
 split at hm
 ·next ti hti =>
  split at hm
  ·next hk =>
   split at hm
   ·next ei hei =>
    split at hm
    ·next V' hV =>
     cases hm
     have hT:=T _ _ hti
     have hE:=T _ _ hei
     obtain⟨d,hd,hkk⟩:=hT.kind
     rw[hk]at hkk
     obtain⟨kt,rfl,hkt⟩:=hkk
     obtain⟨i,z,hi,hsz,hby,hz,hcv,hzs,hkd,hsh⟩:=hE.info
     obtain⟨k1,k2,k3⟩:=hkd _ hV
     refine⟨by cases ei.k<;>simp,kt,ti.el,z,hd,hkt,fun w=>by simp[zeroValue,typeInfo,hi,hz],fun h G w => ?_⟩
     have hc:=wq9j (h:=h) (G:=G) (k3 w (okB h G))
     unfold mpVal MK.isAgg
     cases hek:ei.k with
     |struct =>
      rw[hek]at hsh
      obtain⟨cs,rfl⟩:=hsh
      simp only[cond_true]
      exact⟨cs.toList,rfl,hc⟩
     |_ =>
      have hz1:z.cells = #[z]:=by
       rw[hek]at hsh
       first
        |exact hsh
        |(subst hsh;rfl)
      rw[hz1]at hc
      simp only[cond_false]
      have hl:=hc.length
      cases hcs:V.cells V.zero with
      |nil=>rw[hcs]at hl;simp at hl
      |cons p r =>
       cases r with
       |nil =>
        rw[hcs]at hc
        obtain⟨v,l,e1,e2,e3⟩:=hc
        simp only[List.cons.injEq]at e1
        obtain⟨rfl,_⟩:=e1
        exact e2
       |cons q r=>rw[hcs]at hl;simp at hl
    ·cases hm
   ·cases hm
  ·cases hm
 ·cases hm
theorem wq18x(a b:List UInt8): ((⟨a.toArray⟩:ByteArray) == ⟨b.toArray⟩)=(a == b):=by
 show(a.toArray == b.toArray)=(a == b)
 simp
theorem wqtn{ag:Bool}{V:Kd}(key:List UInt8): ∀(ents:List MapEntry) (es:List (List UInt8×V.T)) (i:Nat),EntsOk h G w ag V ents es →
 ∃ r,Instr.findNow .string (.string ⟨key.toArray⟩) ents i=some r∧match r with
  |none=>mhas V key es=false∧mget V key es=V.zero
  |some (j,v)=>mhas V key es=true∧RV h G w (mpVal ag V (mget V key es)) v
 |[],[],i,_=>⟨none,rfl,rfl,rfl⟩
 |[],_::_,i,h=>h.elim
 |_::_,[],i,h=>h.elim
 |e::r,(k,x)::s,i,⟨h1,h2,h3⟩=>by
  unfold Instr.findNow
  rw[h1]
  have hs:Instr.sameNow .string (.string ⟨key.toArray⟩) (.string ⟨k.toArray⟩)=some (key == k):=by
   show some ((⟨key.toArray⟩:ByteArray) == ⟨k.toArray⟩)=_
   rw[wq18x]
  rw[hs,mhas,mget]
  cases key == k with
  |true=>exact⟨_,rfl,rfl,h2⟩
  |false=>exact wqtn key r s (i+1) h3
theorem wq172(T:TyOk P ty)(obj:∀ n o,h n=some o→RO h G w n o){s:TypeId}{ag:MK}{V:Kd}(hm:mapKd ty s=some (ag,V)){ok:Bool}{x i:PV}{vx vi:Value}(he:wqyi h ag V ok x i=some ev)(hx:RV h G w x vx)(hi:RV h G w i vi):
 ∃ v,(Instr.lookup s vx vi ok).run P w = .ok v w∧Still w w∧RV h G w ev.val v:=by
 unfold wqyi at he
 split at he
 ·next n key =>
  split at he
  ·next ag' V' es hn =>
   split at he
   ·next hc =>
    obtain⟨rfl,rfl⟩:=hc
    cases he
    obtain⟨hni,kt,el,z,h1,h2,h3,h4⟩:=wq13b T hm
    obtain⟨ag2,rfl,V2,es2,hn2⟩:=hx
    rw[hn]at hn2
    simp only[Option.some.injEq,HObj.mp.injEq]at hn2
    obtain⟨rfl,_,_⟩:=hn2
    have hi:vi = .string ⟨key.toArray⟩:=by simpa [RV,RD]using hi
    subst hi
    obtain⟨o,hw,hO⟩:=obj _ _ hn
    rcases hO with⟨_,ents,clock,rfl,hE⟩|⟨hit,_⟩
    rotate_left
    ·exact absurd hit hni
    have hval:MK.val ag (G.bk n) = .map (some (G.bk n)):=by cases ag<;>first|rfl|exact absurd rfl hni
    rw[hval]
    obtain⟨r,hr,hs⟩:=wqtn (h:=h) (G:=G) (w:=w) key ents.toList es 0 hE
    have hck:∀ b,(Instr.checkKey b 10000 kt (.string ⟨key.toArray⟩)).run P w = .ok () w:=by
     intro b
     unfold Instr.checkKey
     rw[Sem.run_bind,run_underlying h2,Result.andThen_ok]
     rfl
    have hfk:(Instr.findKey kt (.string ⟨key.toArray⟩) ents.toList).run P w = .ok r w:=by
     simp[Instr.findKey,run_underlying h2,hr]
    have hgo:(getObj (G.bk n)).run P w = .ok (.map ents clock) w:=by
     simp[getObj,Sem.run,hw]
    cases r with
    |none =>
     obtain⟨s1,s2⟩:=hs
     refine⟨if ok then .tuple #[z,.bool false]else z,?_,Still.refl w,?_⟩
     ·simp[Instr.lookup,run_underlying h1,hgo,hck,hfk,h3]
     ·rw[s1,s2]
      cases ok with
      |true=>exact⟨[z,.bool false],rfl,_,_,rfl,h4 h G w,_,_,rfl,rfl,rfl⟩
      |false=>exact h4 h G w
    |some q =>
     obtain⟨j,v⟩:=q
     obtain⟨s1,s2⟩:=hs
     refine⟨if ok then .tuple #[v,.bool true]else v,?_,Still.refl w,?_⟩
     ·simp[Instr.lookup,run_underlying h1,hgo,hck,hfk]
     ·rw[s1]
      cases ok with
      |true=>exact⟨[v,.bool true],rfl,_,_,rfl,s2,_,_,rfl,rfl,rfl⟩
      |false=>exact s2
   ·cases he
  ·cases he
 ·cases he
theorem wqto (T:TyOk P ty) (obj:∀ n o,h n=some o→RO h G w n o) (hX:∀ b,G.X b→b<w.heap.size) {u:Operand→PV} {ρ : Operand→Value} (hu:∀ x,RV h G w (u x) (ρ x)) {o:Oper} {d:Nat}
 (he:evalOp ty u h d o.op=some ev) (hc:chkB ev.chk=true) (h1:ev.hs=[]) (h2:ev.mp=none) :
 ∃ v w',(execOp ρ o).run P w = .ok (.value v) w'∧Still w w'∧RV h G w' ev.val v:=by
 unfold evalOp at he
 split at he
 ·next x ho=>exact⟨ρ x,w,by simp[execOp,ho],.refl w,(wqei he (hu x)).1⟩
 ·next x ho=>exact⟨ρ x,w,by simp[execOp,ho],.refl w,(wqei he (hu x)).1⟩
 ·next op t x y yt ho =>
  obtain⟨e1,r,e2,e3,_⟩:=wq139 (P:=P) T he (hu x) (hu y) hc
  exact⟨r,w,by simp[execOp,ho,e1,e2],.refl w,e3⟩
 ·next op t x ho =>
  obtain⟨r,e2,e3,_⟩:=wq1d9 (P:=P) he (hu x)
  exact⟨r,w,by simp[execOp,ho,e2],.refl w,e3⟩
 ·next x i ho =>
  obtain⟨r,e2,e3,_⟩:=wqtj (P:=P) he (hu x) hc
  exact⟨r,w,by simp[execOp,ho,e2],.refl w,e3⟩
 ·next x ho =>
  obtain⟨e2,e3,_⟩:=wq18v (P:=P) he (hu x) ho rfl
  exact⟨ρ x,w,e2,.refl w,e3⟩
 ·next s x f ho =>
  split at he
  ·next o' fi hf =>
   obtain⟨r,e2,e3,_⟩:=wqnm (P:=P) T hf he (hu x)
   exact⟨r,w,by simp[execOp,ho,e2],.refl w,e3⟩
  ·cases he
 ·next s x f ho =>
  split at he
  ·next o' fi hf =>
   obtain⟨r,e2,e3,_⟩:=wq10b (P:=P) T hf he (hu x)
   exact⟨r,w,by simp[execOp,ho,e2],.refl w,e3⟩
  ·cases he
 ·next s parts ho =>
  split at he
  ·next ti hs =>
   obtain⟨r,e2,e3,_⟩:=wq10g (P:=P) T obj hs hu he
   exact⟨r,w,by simp only[execOp,ho,Sem.run_bind,e2];rfl,.refl w,e3⟩
  ·cases he
 ·next s x ho =>
  split at he
  ·next ti hs =>
   obtain⟨r,e2,e3,_⟩:=wq10d (P:=P) T hs he (hu x)
   exact⟨r,w,by simp only[execOp,ho,Sem.run_bind,e2];rfl,.refl w,e3⟩
  ·cases he
 ·next x xt aT_ ok ho =>
  split at he
  ·next ti hs =>
   obtain⟨r,e2,e3,_⟩:=wqxg (P:=P) (xt:=xt) T hs he (hu x)
   exact⟨r,w,by simp only[execOp,ho,Sem.run_bind,e2];rfl,.refl w,e3⟩
  ·cases he
 ·next f first caps ho =>
  cases hb:Nat.beq first.size 0 with
  |false=>rw[hb]at he;cases he
  |true =>
   rw[hb]at he;cases he
   have hb:=Nat.eq_of_beq_eq_true hb
   have hf:first = #[]:=Array.eq_empty_of_size_eq_zero hb
   subst hf
   refine⟨_,w,by simp only[execOp,ho,Sem.run_bind,Instr.makeFunc];rfl,.refl w,?_⟩
   refine⟨caps.toList.map ρ,by simp;apply Array.ext';simp,?_⟩
   have:∀ l:List Operand,RVs h G w (l.map u) (l.map ρ):=by
    intro l
    induction l with
    |nil=>rfl
    |cons x r ih=>exact⟨_,_,rfl,hu x,ih⟩
   exact this _
 ·next t x i ho =>
  cases hb:isStrT ty t with
  |false=>rw[hb]at he;cases he
  |true =>
   rw[hb,cond_true]at he
   obtain⟨r,e2,e3,_⟩:=wq10c (P:=P) (wqhq T hb) he (hu x) (hu i) hc
   exact⟨r,w,by simp only[execOp,ho,Sem.run_bind,e2];rfl,.refl w,e3⟩
 ·next xt x lo hi ho =>
  obtain⟨r,e2,e3,_⟩:=wq10h (P:=P) T hu he hc h1
  exact⟨r,w,by simp only[execOp,ho,Sem.run_bind,Option.map_none,e2];rfl,.refl w,e3⟩
 ·next xt x lo hi mx ho =>
  obtain⟨r,e2,e3,_⟩:=wqxh (P:=P) T hu he hc
  exact⟨r,w,by simp only[execOp,ho,Sem.run_bind,Option.map_some,e2];rfl,.refl w,e3⟩
 ·next t x i ho =>
  obtain⟨r,e2,e3,_⟩:=wqnn (P:=P) T obj he (hu x) (hu i) hc
  exact⟨r,w,by simp only[execOp,ho,Sem.run_bind,e2];rfl,.refl w,e3⟩
 ·next s a ho =>
  split at he
  ·next ti hs =>
   obtain⟨r,e2,e3,_⟩:=wqyn (P:=P) T hs obj he (hu a)
   exact⟨r,w,by simp only[execOp,ho,Sem.run_bind,e2];rfl,.refl w,e3⟩
  ·cases he
 ·next s a x ho =>
  exfalso
  split at he
  ·unfold wq15n at he
   cases hb:(leafs (cellsOf (u x))&&Nat.beq (cellsOf (u x)).length _)with
   |false=>rw[hb]at he;cases he
   |true =>
    rw[hb,cond_true]at he
    split at he
    ·split at he
     ·cases hb2:Nat.ble _ _ with
      |false=>rw[hb2]at he;cases he
      |true=>rw[hb2]at he;cases he;cases h1
     ·cases he
    ·split at he
     ·cases hb2:Nat.ble _ _ with
      |false=>rw[hb2]at he;cases he
      |true =>
       rw[hb2,cond_true]at he
       split at he
       ·cases hb3:isIn _ _ with
        |true=>rw[hb3]at he;cases he
        |false=>rw[hb3]at he;cases he;simp at h1
       ·cases he
     ·cases he
    ·cases he
  ·cases he
 ·next s ho =>
  exfalso
  split at he
  ·unfold wq15o at he
   split at he
   ·cases he;cases h1
   ·cases he
  ·cases he
 ·next s x ho =>
  exfalso
  unfold evBox at he
  cases hb:leafs (cellsOf (u x))with
  |false=>rw[hb]at he;cases he
  |true =>
   rw[hb,cond_true]at he
   split at he
   ·cases he;cases h1
   ·cases he
 ·next s n parts ho =>
  exfalso
  split at he
  ·unfold wqho at he
   split at he
   ·split at he
    ·cases hb:(_&&_)with
     |false=>rw[hb]at he;cases he
     |true=>rw[hb,cond_true]at he;cases he;simp at h1
    ·cases he
   ·cases he
  ·cases he
 ·next s l c ho =>
  exfalso
  split at he
  ·unfold evMake at he
   split at he
   ·split at he
    ·cases he;simp at h1
    ·cases he
   ·cases he
  ·cases he
 ·next s r x ho =>
  split at he
  ·next ev' hm =>
   cases he
   exfalso
   unfold evMark at hm
   split at hm
   ·cases hb:(_&&_)with
    |false=>rw[hb]at hm;cases hm
    |true =>
     rw[hb,cond_true]at hm
     split at hm
     ·cases hm;cases h1
     ·cases hm
   ·cases hm
  ·obtain⟨v,w',e1,e2,e3,_⟩:=wqtm (P:=P) T obj hX he (hu x) hc
   exact⟨v,w',by simp only[execOp,ho,Sem.run_bind,e1];rfl,e2,e3⟩
 ·next s ho =>
  exfalso
  split at he
  ·unfold wqt5 at he
   split at he
   ·cases he;cases h1
   ·cases he
  ·cases he
 ·next t x ho =>
  exfalso
  cases hb:isStrT ty t with
  |false=>rw[hb]at he;cases he
  |true =>
   rw[hb,cond_true]at he
   unfold wq15m at he
   split at he
   ·split at he
    ·cases he;cases h1
    ·cases he
   ·cases he
 ·next x ho =>
  exfalso
  unfold evNext at he
  split at he
  ·split at he
   ·split at he
    ·cases he;cases h1
    ·cases he
   ·cases he
  ·cases he
 ·next s x i ok ho =>
  split at he
  ·next ag V hm =>
   obtain⟨v,e1,e2,e3⟩:=wq172 (P:=P) T obj hm he (hu x) (hu i)
   exact⟨v,w,by simp only[execOp,ho,Sem.run_bind,e1];rfl,e2,e3⟩
  ·cases he
 ·next s x i p ho =>
  exfalso
  split at he
  ·unfold wqks at he
   split at he
   ·split at he
    ·split at he
     ·cases hb:(_&&_)with
      |false=>rw[hb]at he;cases he
      |true=>rw[hb,cond_true]at he;cases he;cases h1
     ·cases he
    ·cases he
   ·cases he
  ·cases he
 ·next b args ts ho =>
  unfold evCall at he
  split at he
  ·next x t ha ht =>
   obtain⟨v,e1,e2,_⟩:=wq18t (P:=P) T obj he (hu x) o.type
   have ha':args = #[x]:=by apply Array.ext';simpa using ha
   have ht':ts = #[t]:=by apply Array.ext';simpa using ht
   subst ha' ht'
   exact⟨v,w,by simp[execOp,ho,resolve,invoke,builtin,e1],.refl w,e2⟩
  ·next x y t t' ha ht =>
   exfalso
   split at he
   ·cases hb:srcT ty (u y) t t' _ with
    |false=>rw[hb]at he;cases he
    |true =>
     rw[hb,cond_true]at he
     unfold wqyl at he
     split at he
     ·split at he
      ·split at he
       ·cases he;cases h1
       ·cases he
      ·split at he
       ·split at he
        ·cases hb2:(_&&_)with
         |false=>rw[hb2]at he;cases he
         |true=>rw[hb2,cond_true]at he;cases he;cases h1
        ·cases he
       ·cases he
      ·cases he
     ·cases he
   ·cases he
  ·next x y ha =>
   obtain⟨v,e1,e2,_⟩:=wqkt (P:=P) he (hu x) (hu y) ts o.type
   have ha':args = #[x,y]:=by apply Array.ext';simpa using ha
   subst ha'
   simp only[Bool.false_eq_true,if_false]at e1
   exact⟨v,w,by simp[execOp,ho,resolve,invoke,builtin,e1],.refl w,e2⟩
  ·next x y ha =>
   obtain⟨v,e1,e2,_⟩:=wqkt (P:=P) he (hu x) (hu y) ts o.type
   have ha':args = #[x,y]:=by apply Array.ext';simpa using ha
   subst ha'
   simp only[if_true]at e1
   exact⟨v,w,by simp[execOp,ho,resolve,invoke,builtin,e1],.refl w,e2⟩
  ·cases he
 ·cases he
end Go.Proofs.YtabkhphoacmcdaaGreatDoor.Pvm
namespace Go.Proofs.YtabkhphoacmcdaaGreatDoor.Pvm
open Go
variable {P:Program} {h:Heap} {G:Gh} {w:World} {ev:Ev} {ty:TypeId→Option TI}
structure Dis (h:Heap) (G:Gh) (w:World):Prop where
 inj:∀ n m b,blkOf h G n=some b→blkOf h G m=some b→n=m
 xo:∀ n b,blkOf h G n=some b→¬ G.X b
 xlt:∀ b,G.X b→b<w.heap.size
structure Loud (h:Heap) (G:Gh) (w:World) (h':Heap) (mp:Option (PV→PV)) (G':Gh) (w':World):Prop where
 f:∃ f,(mp=none∧f=PV.row∨mp=some (PV.mapR f))∧Carry h G w h' G' w' f
 obj:∀ n o,h' n=some o→RO h' G' w' n o
 dis:∀ n m b,blkOf h' G' n=some b→blkOf h' G' m=some b→n=m
 blk:∀ b,b<w.heap.size→freeB h G b→w'.heap[b]? = w.heap[b]?
 X:G'.X=G.X
 new:∀ n b,blkOf h' G' n=some b→(∃ m,blkOf h G m=some b)∨w.heap.size≤b
 grow:w.heap.size≤w'.heap.size
 os:w'.os=w.os
 tape:w'.tape=w.tape
 out:w'.output=w.output
def VarKept(h:Heap)(G:Gh)(w w':World)(tn:List Nm): Prop:=∀ n t cs,h n=some (.var t cs)→n ∉ tn→w'.heap[G.bk n]? = w.heap[G.bk n]?
theorem VarKept.ext(obj:∀ n o,h n=some o→RO h G w n o){w':World}(hb:∀ b,b<w.heap.size→w'.heap[b]? = w.heap[b]?)(tn:List Nm): VarKept h G w w' tn:=fun n t cs hn _=>by
 obtain⟨vs,hw,_⟩:=obj n _ hn
 exact hb _ (Array.getElem?_eq_some_iff.1 hw).1
structure Kept (h:Heap) (G:Gh) (w:World) (h':Heap) (G':Gh) (w':World) (tn:List Nm):Prop where
 blk:∀ b,b<w.heap.size→freeB h G b→w'.heap[b]? = w.heap[b]?
 var:VarKept h G w w' tn
 new:∀ n b,blkOf h' G' n=some b→(∃ m,blkOf h G m=some b)∨w.heap.size≤b
 vars:∀ n t cs,h n=some (.var t cs)→(∃ cs',h' n=some (.var t cs'))∧G'.bk n=G.bk n
 grow:w.heap.size≤w'.heap.size
theorem Loud.kept{h':Heap}{mp:Option (PV→PV)}{G':Gh}{w':World}{tn:List Nm}(L:Loud h G w h' mp G' w')(V:VarKept h G w w' tn): Kept h G w h' G' w' tn:=by
 obtain⟨f,_,C⟩:=L.f
 exact⟨L.blk,V,L.new,C.var,L.grow⟩
theorem Kept.refl(h:Heap)(G:Gh)(w:World)(tn:List Nm): Kept h G w h G w tn:=⟨fun _ _ _=>rfl,fun _ _ _ _ _=>rfl,fun n b h => .inl ⟨n,h⟩,fun n t cs h=>⟨⟨cs,h⟩,rfl⟩,Nat.le_refl _⟩
theorem Loud.toDis{h':Heap}{mp:Option (PV→PV)}{G':Gh}{w':World}(L:Loud h G w h' mp G' w')(D:Dis h G w): Dis h' G' w':=by
 refine⟨L.dis,fun n b hn hx => ?_,fun b hx=>Nat.lt_of_lt_of_le (D.xlt b (by rw[←L.X];exact hx)) L.grow⟩
 rw[L.X]at hx
 rcases L.new n b hn with⟨m,hm⟩|hlt
 ·exact D.xo m b hm hx
 ·have:=D.xlt b hx;omega
section
variable {w0:World} {fr:Nat→Prop} {X0:Org} {n:Nat} {ds:List Deferred} {st:St} {a:Act}
theorem Rel.lt(R:Rel w0 fr X0 n ds st G a w){b:Nat}(hb:fr b)(hf:∀ b,fr b→b<w0.heap.size): b<w.heap.size∧freeB st.h G b :=
 ⟨Nat.lt_of_lt_of_le (hf b hb) R.grow,fun m hm=>R.apart m b hm hb⟩
theorem Rel.loud(R:Rel w0 fr X0 n ds st G a w)(hf:∀ b,fr b→b<w0.heap.size){h':Heap}{mp:Option (PV→PV)}{G':Gh}{w':World}(L:Loud st.h G w h' mp G' w'){d:Nat}(hd:d<n){p:PV}{v:Value}(hp:RV h' G' w' p v):
 Rel w0 fr X0 n ds ⟨upd (mapT mp st.t) d p,h'⟩ G' (a.put (some d) v) w':=by
 obtain⟨f,hmp,C⟩:=L.f
 refine R.put C L.obj L.dis (fun m b hm hb => ?_) L.X (fun b hb => ?_) L.grow L.os L.tape L.out hd hp (fun i => ?_)
 ·rcases L.new m b hm with⟨k,hk⟩|hlt
  ·exact R.apart k b hk hb
  ·have:=(R.lt hb hf).1;omega
 ·obtain⟨h1,h2⟩:=R.lt hb hf
  exact L.blk b h1 h2
 ·unfold upd
  by_cases hi:i=d
  ·subst hi;simp
  ·have:Nat.beq i d=false:=by cases hb:Nat.beq i d with|false=>rfl|true=>exact absurd (Nat.eq_of_beq_eq_true hb) hi
   rw[this,cond_false,if_neg hi]
   rcases hmp with⟨rfl,rfl⟩|rfl
   ·rw[PV.mapR_row];rfl
   ·rfl
theorem Rel.loud0(R:Rel w0 fr X0 n ds st G a w)(hf:∀ b,fr b→b<w0.heap.size){h':Heap}{mp:Option (PV→PV)}{G':Gh}{w':World}(L:Loud st.h G w h' mp G' w'):
 Rel w0 fr X0 n ds ⟨mapT mp st.t,h'⟩ G' a w':=by
 obtain⟨f,hmp,C⟩:=L.f
 refine R.turn C L.obj L.dis (fun m b hm hb => ?_) L.X (fun b hb => ?_) L.grow L.os L.tape L.out (fun i => ?_)
 ·rcases L.new m b hm with⟨k,hk⟩|hlt
  ·exact R.apart k b hk hb
  ·have:=(R.lt hb hf).1;omega
 ·obtain⟨h1,h2⟩:=R.lt hb hf
  exact L.blk b h1 h2
 ·rcases hmp with⟨rfl,rfl⟩|rfl
  ·rw[PV.mapR_row];rfl
  ·rfl
end
theorem wqgf(o:HObj): mapO (PV.mapR .row) o=o:=by
 cases o with
 |var t cs=>simp only[mapO];rw[←wq137,mapRs_row]
 |row e K xs=>rfl
 |mp ag V es=>rfl
theorem wqtp(f:Nm→PV): ∀ a b:List PV,mapRs f (a++b)=mapRs f a++mapRs f b
 |[],b=>rfl
 |p::a,b=>by rw[List.cons_append,mapRs,mapRs,wqtp f a b];rfl
theorem wqtq(f:Nm→PV): ∀(V:Kd) (x:V.T),mapRs f (V.cells x)=V.cells x
 |.pr a b,x=>by rw[Kd.cells,wqtp,wqtq f a,wqtq f b]
 |.nil,_=>rfl
 |.int _,_=>rfl
 |.bool,_=>rfl
 |.str,_=>rfl
 |.flt,_=>rfl
 |.sl _,_=>rfl
theorem wq18y(f:Nm→PV)(ag:Bool)(V:Kd)(x:V.T): (mpVal ag V x).mapR f=mpVal ag V x:=by
 unfold mpVal
 have h:=wqtq f V x
 cases ag with
 |true=>simp only[cond_true];rw[PV.mapR,h]
 |false =>
  simp only[cond_false]
  revert h
  cases V.cells x with
  |nil=>intro _;rfl
  |cons p r =>
   cases r with
   |nil =>
    intro h
    simp only[mapRs,List.cons.injEq,and_true]at h
    exact h
   |cons q r=>intro _;rfl
theorem EntsOk.carry{h':Heap}{G':Gh}{w':World}{f:Nm→PV}(C:Carry h G w h' G' w' f){ag:Bool}{V:Kd}: ∀ {ents:List MapEntry} {es:List (List UInt8×V.T)},EntsOk h G w ag V ents es→EntsOk h' G' w' ag V ents es
 |[],[],_=>trivial
 |[],_::_,hE=>hE.elim
 |_::_,[],hE=>hE.elim
 |e::r,(k,x)::s,⟨h1,h2,h3⟩=>⟨h1,by have:=RV.carry C _ _ h2;rwa [wq18y]at this,EntsOk.carry C h3⟩
theorem ObOk.carry{h':Heap}{G':Gh}{w':World}{f:Nm→PV}(C:Carry h G w h' G' w' f){ag:MK}{V:Kd}{es:List (List UInt8×V.T)}{o:Obj}: ObOk h G w ag V es o→ObOk h' G' w' ag V es o
 |.inl ⟨h1,ents,clock,h2,h3⟩ => .inl ⟨h1,ents,clock,h2,h3.carry C⟩
 |.inr hh => .inr hh
theorem RO.carry {h':Heap} {G':Gh} {w':World} {f:Nm→PV} (C:Carry h G w h' G' w' f) {n:Nm} {o:HObj} (hn:h n=some o) (hr:RO h G w n o)
 (hb:∀ b,blkOf h G n=some b→w'.heap[b]? = w.heap[b]?) (h1:G'.bk n=G.bk n) (h2:G'.rv n=G.rv n):RO h' G' w' n (mapO (PV.mapR f) o):=by
 cases o with
 |var t cs =>
  obtain⟨vs,hw,hv⟩:=hr
  refine⟨vs,?_,?_⟩
  ·rw[h1,hb _ (by simp[blkOf,hn])];exact hw
  ·show RVs h' G' w' (cs.map (PV.mapR f)) vs
   rw[←wq137]
   exact RVs.carry C cs vs hv
 |row e K xs =>
  obtain⟨vs,hown,hv,hp⟩:=hr
  refine⟨vs,⟨hown.1,?_⟩,hv.mono C.blk,hp⟩
  rw[h2]
  rcases hown.2 with hn0|⟨g,cap,cur,e1,e2,e3,rest⟩
  ·exact .inl hn0
  ·refine .inr ⟨g,cap,cur,e1,e2,?_,rest⟩
   rw[hb g (by simp[blkOf,hn,e1,Value.ownBlock])]
   exact e3
 |mp ag V es =>
  obtain⟨ob,hw,hE⟩:=hr
  exact⟨ob,by rw[h1,hb _ (by simp[blkOf,hn])];exact hw,hE.carry C⟩
theorem wq2o(n m:Nm)(o:Option HObj): setH h n o m=if m=n then o else h m:=by
 unfold setH
 by_cases hm:m=n
 ·subst hm;simp
 ·have:Nat.beq m n=false:=by cases hb:Nat.beq m n with|false=>rfl|true=>exact absurd (Nat.eq_of_beq_eq_true hb) hm
  rw[this,cond_false,if_neg hm]
def Gh.set(G:Gh)(n:Nm)(b:Nat)(v:Value): Gh:=⟨fun m=>if m=n then b else G.bk m,fun m=>if m=n then v else G.rv m,G.X⟩
theorem Gh.set_bk(n m:Nm)(b:Nat)(v:Value): (G.set n b v).bk m=if m=n then b else G.bk m:=rfl
theorem Gh.set_rv(n m:Nm)(b:Nat)(v:Value): (G.set n b v).rv m=if m=n then v else G.rv m:=rfl
theorem wqmb (obj:∀ n o,h n=some o→RO h G w n o) (dis:Dis h G w) {nm:Nm} (hnm:h nm=none) {o:HObj} {w':World} (S:Still w w') {b:Nat} {v:Value}
 (ho:(∀ c,okB h G c→c<w.heap.size→True)→RO (setH h nm (some o)) (G.set nm b v) w' nm o) (hb:∀ c,blkOf (setH h nm (some o)) (G.set nm b v) nm=some c→w.heap.size≤c) :
 Loud h G w (setH h nm (some o)) none (G.set nm b v) w':=by
 have hblk:∀ n,n≠nm→blkOf (setH h nm (some o)) (G.set nm b v) n=blkOf h G n:=by
  intro n hn
  simp only[blkOf,wq2o,if_neg hn,Gh.set_bk,Gh.set_rv]
 have hok:∀ c,okB h G c→c<w.heap.size→okB (setH h nm (some o)) (G.set nm b v) c:=by
  intro c hc hlt
  refine⟨fun n hn => ?_,hc.2⟩
  by_cases hnn:n=nm
  ·subst hnn;have:=hb c hn;omega
  ·rw[hblk n hnn]at hn;exact hc.1 n hn
 have C:Carry h G w (setH h nm (some o)) (G.set nm b v) w' .row:=by
  refine⟨fun c hc hlt=>⟨hok c hc hlt,S.blk c hlt⟩,fun n t cs hn => ?_,fun n ag V es hn => ?_,fun b hx hlt=>⟨.inr hx,S.blk b hlt⟩,fun n e K xs hn => ?_⟩
  ·have hnn:n≠nm:=fun e=>by subst e;rw[hnm]at hn;cases hn
   exact⟨⟨cs,by rw[wq2o,if_neg hnn];exact hn⟩,by rw[Gh.set_bk,if_neg hnn]⟩
  ·have hnn:n≠nm:=fun e=>by subst e;rw[hnm]at hn;cases hn
   exact⟨⟨es,by rw[wq2o,if_neg hnn];exact hn⟩,by rw[Gh.set_bk,if_neg hnn]⟩
  ·have hnn:n≠nm:=fun e=>by subst e;rw[hnm]at hn;cases hn
   refine⟨⟨by rw[Gh.set_rv,if_neg hnn],e,K,xs,by rw[wq2o,if_neg hnn];exact hn⟩,fun m hm => ?_⟩
   cases hm
   exact⟨e,xs,by rw[wq2o,if_neg hnn];exact hn,Nat.le_refl _⟩
 refine⟨⟨.row,.inl ⟨rfl,rfl⟩,C⟩,fun n o' hn => ?_,fun n m c h1 h2 => ?_,fun c hc _=>S.blk c hc,rfl,fun n c hn => ?_,S.grow,S.os,S.tape,S.out⟩
 ·rw[wq2o]at hn
  by_cases hnn:n=nm
  ·subst hnn;rw[if_pos rfl]at hn;cases hn;exact ho (fun _ _ _=>trivial)
  ·rw[if_neg hnn]at hn
   have:=RO.carry C hn (obj n o' hn) (fun c hc=>S.blk c (RO.lt hn (obj n o' hn) hc)) (by rw[Gh.set_bk,if_neg hnn]) (by rw[Gh.set_rv,if_neg hnn])
   rwa [wqgf]at this
 ·by_cases hn:n=nm<;>by_cases hm:m=nm
  ·rw[hn,hm]
  ·subst hn
   rw[hblk m hm]at h2
   cases hmo:h m with
   |none=>simp[blkOf,hmo]at h2
   |some om=>have:=RO.lt hmo (obj m om hmo) h2;have:=hb c h1;omega
  ·subst hm
   rw[hblk n hn]at h1
   cases hno:h n with
   |none=>simp[blkOf,hno]at h1
   |some on=>have:=RO.lt hno (obj n on hno) h1;have:=hb c h2;omega
  ·rw[hblk n hn]at h1
   rw[hblk m hm]at h2
   exact dis.inj n m c h1 h2
 ·by_cases hnn:n=nm
  ·subst hnn;exact .inr (hb c hn)
  ·rw[hblk n hnn]at hn;exact .inl ⟨n,hn⟩
theorem wqbd{K K':Kd}{x:K.T}{y:K'.T}(hc:cast K K' x=some y): ∃ e:K=K',y=e ▸ x:=by
 unfold cast at hc
 split at hc
 ·next e=>cases hc;exact⟨e,rfl⟩
 ·cases hc
theorem RowAt.cells{ok:Nat→Prop}{K:Kd}: ∀ {xs:List K.T} {ad:Addr},(∀(i:Nat) (y:K.T),xs[i]? = some y→∃ c,RD w ok K y c∧∀(j:Nat) (u:Value),c[j]? = some u→w.cell? (ad.add (i*K.sz+j))=some u) →
 ∃ news,RDs w ok K xs news∧∀ j u,news[j]? = some u→w.cell? (ad.add j)=some u
 |[],ad,_=>⟨[],rfl,fun j u hj=>by simp at hj⟩
 |x::r,ad,hr=>by
  obtain⟨c,hc,hu⟩:=hr 0 x rfl
  obtain⟨l,hl,hlu⟩:=RowAt.cells (xs:=r) (ad:=ad.add K.sz) (fun i y hy=>by
   obtain⟨c',hc',hu'⟩:=hr (i+1) y hy
   refine⟨c',hc',fun j u hj => ?_⟩
   rw[Addr.add_add,show K.sz+(i*K.sz+j)=(i+1)*K.sz+j by rw[Nat.add_mul];omega]
   exact hu' j u hj)
  refine⟨c++l,⟨c,l,rfl,hc,hl⟩,fun j u hj => ?_⟩
  by_cases hjc:j<c.length
  ·rw[List.getElem?_append_left hjc]at hj
   have:=hu j u hj
   rwa [Nat.zero_mul,Nat.zero_add]at this
  ·rw[List.getElem?_append_right (by omega)]at hj
   have:=hlu _ u hj
   rw[Addr.add_add,hc.len,show K.sz+(j-K.sz)=j by rw[hc.len]at hjc;omega]at this
   exact this
theorem wqpp {t e:TypeId} {i:TypeInfo} (hd:P.underlying t=some (.slice e)) (hi:P.info? e=some i) {size n:Nat} {v:Value} {xs:List Value} {base:Nat} (hown:w.ownsRow base e size v n xs) {A:Option Addr} {c:Nat} (r:TypeId)
 (hA:A=none):(Builtin.append_ #[t,t] r #[v,.slice A 0 c]).run P w = .ok v w:=by
 subst hA
 rcases hown.2 with⟨rfl,rfl⟩|⟨g,cap,cur,rfl,_,_,hn,_⟩
 ·simp[Builtin.append_,run_underlying hd,sizeOf,typeInfo,hi,Builtin.lenOf,Builtin.firstCells]
 ·simp[Builtin.append_,run_underlying hd,sizeOf,typeInfo,hi,Builtin.lenOf,Builtin.firstCells,hn,storeCells]
theorem wqr2(w:World)(ok:Nat→Prop): ∀ s:List UInt8,RDs w ok (.int .u8) (wq35 s) (s.map fun b=>Value.int .u8 b.toNat)
 |[]=>rfl
 |b::r=>⟨[_],_,rfl,rfl,wqr2 w ok r⟩
theorem wq13c {t e r:TypeId} {i:TypeInfo} {z:Value} {size bytes:Nat} (ht:P.underlying t=some (.slice e)) (hi:P.info? e=some i) (hz:i.zero=some z) (hsize:i.size=size) (hby:i.bytes=bytes) (hzs:z.cells.size=size) (hsz:0<size)
 {v:Value} {n:Nat} {xs:List Value} (hown:w.ownsRow 0 e size v n xs) {a:Addr} {m c:Nat} {news:List Value} (hl:news.length=m*size) (hnews:∀ j u,news[j]? = some u→w.cell? (a.add j)=some u) (h1:∀ u∈news,u.oneCell'=true)
 (h63:n+m≤maxLen) (hbytes:(n+m)*bytes≤140737488355328) {v':Value} {w':World} (hr:(Builtin.append_ #[t,t] r #[v,.slice (some a) m c]).run P w = .ok v' w') :
 ∀ k,v'.ownBlock=some k→v.ownBlock=some k∨w.heap.size≤k:=by
 intro k hk
 rcases hown.2 with⟨rfl,rfl⟩|⟨g,cap,cur,rfl,_,hg,hnc,hcm,hcs,htake⟩
 ·have hx:xs=[]:=List.eq_nil_of_length_eq_zero (by simpa using hown.1)
  subst hx
  obtain⟨v2,w2,e1,e2,_⟩:=run_append_own (P:=P) w w.heap.size t r e i z size bytes ht hi hz hsize hby hzs hsz _ 0 [] (World.ownsRow_nil w w.heap.size e size) a m c news hl hnews h1 h63 hbytes (Nat.le_refl _)
  rw[hr]at e1
  cases e1
  exact .inr (e2.lt k hk).1
 ·by_cases hroom:n+m≤cap
  ·have hfit:n*i.size+news.length≤cur.size:=by rw[hl,hcs,hsize,←Nat.add_mul];exact Nat.mul_le_mul_right _ hroom
   have:=run_append_room (P:=P) w t r e i ht hi g n cap cur hg a m c news (by rw[hsize];exact hl) hnews h1 hroom hfit
   rw[hr]at this
   cases this
   exact .inl hk
  ·have h63':((n+m:Nat):Int)≤9223372036854775807:=by simp only[maxLen]at h63;omega
   have:=run_append_grow (P:=P) w t r e i z ht hi hz ⟨g,0,none⟩ n cap xs (by rw[hsize];exact hown.1) (hown.cells (g:=g) rfl) a m c news (by rw[hsize];exact hl) hnews (by omega) h63' (growslice_fits (by omega) (by rw[hby];exact hbytes))
   rw[hr]at this
   cases this
   simp only[Value.ownBlock,Option.some.injEq]at hk
   subst hk
   exact .inr (Nat.le_refl _)
theorem wqtr {t u e r:TypeId} {i:TypeInfo} (ht:P.underlying t=some (.slice e)) (hu:P.underlying u=some .string) (hi:P.info? e=some i) (hz:i.zero=some (.int .u8 0)) (hsize:i.size=1) (hby:i.bytes=1)
 {v:Value} {n:Nat} {xs:List Value} (hown:w.ownsRow 0 e 1 v n xs) {s:ByteArray}
 (h63:n+s.size≤maxLen) (hbytes:n+s.size≤140737488355328) {v':Value} {w':World} (hr:(Builtin.append_ #[t,u] r #[v,.string s]).run P w = .ok v' w') :
 ∀ k,v'.ownBlock=some k→v.ownBlock=some k∨w.heap.size≤k:=by
 intro k hk
 rcases hown.2 with⟨rfl,rfl⟩|⟨g,cap,cur,rfl,_,hg,hnc,hcm,hcs,htake⟩
 ·have hx:xs=[]:=List.eq_nil_of_length_eq_zero (by simpa using hown.1)
  subst hx
  obtain⟨v2,w2,e1,e2,_⟩:=Lib.run_append_own_string (P:=P) w w.heap.size t u r e i ht hu hi hz hsize hby _ 0 [] (World.ownsRow_nil w w.heap.size e 1) s h63 hbytes (Nat.le_refl _)
  rw[hr]at e1
  cases e1
  exact .inr (e2.lt k hk).1
 ·by_cases hroom:n+s.size≤cap
  ·have:=Lib.run_append_room_string (P:=P) w t u r e i ht hu hi hsize g n cap cur hg s hroom (by rw[hcs];omega)
   rw[hr]at this
   cases this
   exact .inl hk
  ·have h63':((n+s.size:Nat):Int)≤9223372036854775807:=by simp only[maxLen]at h63;omega
   have:=Lib.run_append_grow_string (P:=P) w t u r e i _ ht hu hi hz ⟨g,0,none⟩ n cap xs (by rw[hsize];exact hown.1) (hown.cells (g:=g) rfl) s (by omega) h63' (growslice_fits (by omega) (by rw[hby];omega))
   rw[hr]at this
   cases this
   simp only[Value.ownBlock,Option.some.injEq]at hk
   subst hk
   exact .inr (Nat.le_refl _)
theorem wq10i (T:TyOk P ty) (obj:∀ n o,h n=some o→RO h G w n o) {t t' e r:TypeId} {K:Kd} {b:Nat} (hk:elKd ty t=some (e,K,b)) {v:Value} {n:Nat} {xs:List Value} (hown:w.ownsRow 0 e K.sz v n xs)
 {y:PV} {s:Value} (hy:RV h G w y s) {ys:List K.T} (hs:srcOf h K y=some ys) (ht:srcT ty y t t' b=true) (hf:fits n ys.length b=true) :
 ∃ news v' w',(Builtin.append_ #[t,t'] r #[v,s]).run P w = .ok v' w'∧RDs w (okB h G) K ys news∧w'.ownsRow 0 e K.sz v' (n+ys.length) (xs++news)∧w.grownBy w' v.ownBlock∧∀ k,v'.ownBlock=some k→v.ownBlock=some k∨w.heap.size≤k:=by
 obtain⟨hd,i,z,hi,hz,hsz,hby,hpos,hzs,hz0⟩:=wq10a T hk
 simp only[fits,Bool.and_eq_true,decide_eq_true_eq]at hf
 obtain⟨f1,f2⟩:=hf
 have f1:n+ys.length≤maxLen:=by simpa [maxLen,maxN]using f1
 have slc:t=t'→∀(A:Option Addr) (cap:Nat),s = .slice A ys.length cap→(ys=[]∨∃ ad,A=some ad∧∀(i:Nat) (y:K.T),ys[i]? = some y→∃ c,RD w (okB h G) K y c∧∀(j:Nat) (u:Value),c[j]? = some u→w.cell? (ad.add (i*K.sz+j))=some u) →
  ∃ news v' w',(Builtin.append_ #[t,t'] r #[v,s]).run P w = .ok v' w'∧RDs w (okB h G) K ys news∧w'.ownsRow 0 e K.sz v' (n+ys.length) (xs++news)∧w.grownBy w' v.ownBlock∧∀ k,v'.ownBlock=some k→v.ownBlock=some k∨w.heap.size≤k:=by
  intro htt A cap hsv hr
  subst htt hsv
  have main:∀ ad:Addr,A=some ad→(∀(i:Nat) (y:K.T),ys[i]? = some y→∃ c,RD w (okB h G) K y c∧∀(j:Nat) (u:Value),c[j]? = some u→w.cell? (ad.add (i*K.sz+j))=some u) →
   ∃ news v' w',(Builtin.append_ #[t,t] r #[v,.slice A ys.length cap]).run P w = .ok v' w'∧RDs w (okB h G) K ys news∧w'.ownsRow 0 e K.sz v' (n+ys.length) (xs++news)∧w.grownBy w' v.ownBlock∧∀ k,v'.ownBlock=some k→v.ownBlock=some k∨w.heap.size≤k:=by
   intro ad hA hr2
   subst hA
   obtain⟨news,h1,h2⟩:=RowAt.cells hr2
   obtain⟨v',w',e1,e2,e3,_⟩:=run_append_own (P:=P) w 0 t r e i z K.sz b hd hi hz hsz hby hzs hpos v n xs hown ad ys.length cap news h1.length h2 h1.one f1 f2 (Nat.zero_le _)
   exact⟨news,v',w',e1,h1,e2,e3,wq13c hd hi hz hsz hby hzs hpos hown h1.length h2 h1.one f1 f2 e1⟩
  rcases hr with hr|⟨ad,hA,hr⟩
  ·cases hA:A with
   |none =>
    subst hr
    have:=wqpp (P:=P) hd hi hown (A:=none) (c:=cap) r rfl
    exact⟨[],v,w,this,rfl,by simpa using hown,⟨rfl,rfl,rfl,Nat.le_refl _,fun _ _ _=>rfl⟩,fun k hk => .inl hk⟩
   |some ad =>
    have:=main ad hA (by subst hr;intro i y hy;simp at hy)
    rwa [hA]at this
  ·exact main ad hA hr
 unfold srcOf at hs
 split at hs
 ·next K' xs' =>
  obtain⟨hK,hx⟩:=wqbd hs
  have hK:K'=K:=by injection hK
  subst hK
  subst hx
  have htt:t=t':=Nat.eq_of_beq_eq_true (by simpa [srcT]using ht)
  obtain⟨A,cap,hv,_,hr⟩:=hy
  simp only[List.cons.injEq,and_true]at hv
  refine slc htt A cap hv ?_
  rcases hr with hr|⟨ad,hA,hr⟩
  ·exact .inl hr
  ·exact .inr ⟨ad,hA,hr.2.2⟩
 ·next l =>
  obtain⟨hK,hx⟩:=wqbd hs
  have hK:Kd.int .u8=K:=by injection hK
  subst hK
  subst hx
  simp only[srcT,Bool.and_eq_true]at ht
  obtain⟨⟨t1,t2⟩,t3⟩:=ht
  have t3:=Nat.eq_of_beq_eq_true t3
  subst t3
  obtain⟨e',hd',_,i',hi',hs1,hz1⟩:=wqes T t2
  rw[hd]at hd'
  simp only[Option.some.injEq,TypeDesc.slice.injEq]at hd'
  subst hd'
  rw[hi]at hi'
  cases hi'
  simp only[RV,RD,List.cons.injEq,and_true]at hy
  subst hy
  have hsl:(⟨l.toArray⟩:ByteArray).size=(wq35 l).length:=by simp[wq35];rfl
  have f1':n+(⟨l.toArray⟩:ByteArray).size≤maxLen:=by rw[hsl];exact f1
  have f2':n+(⟨l.toArray⟩:ByteArray).size≤140737488355328:=by rw[hsl];simpa using f2
  obtain⟨v',w',e1,e2,e3,_⟩:=Lib.run_append_own_string (P:=P) w 0 t t' r e i hd (wqhq T t1) hi hz1 hs1 hby v n xs hown _ f1' f2' (Nat.zero_le _)
  rw[hsl]at e2
  refine⟨_,v',w',e1,?_,e2,e3,wqtr hd (wqhq T t1) hi hz1 hs1 hby hown f1' f2' e1⟩
  have:=wqr2 w (okB h G) l
  simpa [Lib.strCells]using this
 ·next m =>
  split at hs
  ·next e' K' xs' hm =>
   obtain⟨hK,hx⟩:=wqbd hs
   have hK:K'=K:=by injection hK
   subst hK
   subst hx
   have htt:t=t':=Nat.eq_of_beq_eq_true (by simpa [srcT]using ht)
   obtain⟨rfl,_⟩:=hy
   obtain⟨A,cap,hrv,_,hr⟩:=wqlu (obj _ _ hm)
   refine slc htt A cap hrv ?_
   rcases hr with hr|⟨ad,g,cs,fz,hA,_,_,_,hr⟩
   ·exact .inl hr
   ·exact .inr ⟨ad,hA,hr⟩
  ·cases hs
 ·cases hs
  have htt:t=t':=Nat.eq_of_beq_eq_true (by simpa [srcT]using ht)
  exact slc htt none 0 hy (.inl rfl)
 ·cases hs
end Go.Proofs.YtabkhphoacmcdaaGreatDoor.Pvm
namespace Go.Proofs.YtabkhphoacmcdaaGreatDoor.Pvm
open Go
variable {P:Program} {h:Heap} {G:Gh} {w:World} {ev:Ev} {ty:TypeId→Option TI}
theorem wqts(l r:List (Nm×Option HObj)): ∀ h:Heap,setHs h (l++r)=setHs (setHs h l) r:=by
 induction l with
 |nil=>intro h;rfl
 |cons x l ih=>intro h;obtain⟨n,o⟩:=x;exact ih _
theorem wq7o{n:Nm}: ∀ {l:List Nm},isIn n l=true↔n∈l
 |[]=>by simp[isIn]
 |m::r=>by
  rw[isIn,List.mem_cons]
  by_cases hm:m=n
  ·subst hm;simp
  ·have:Nat.beq m n=false:=by cases hb:Nat.beq m n with|false=>rfl|true=>exact absurd (Nat.eq_of_beq_eq_true hb) hm
   rw[this,cond_false,wq7o]
   simp[Ne.symm hm]
theorem wqmc:∀(l:List Nm) (h:Heap) (n:Nm),setHs h (wq83 l) n=if n∈l then none else h n
 |[],h,n=>by simp[wq83,setHs]
 |m::r,h,n=>by
  rw[wq83,setHs,wqmc r,wq2o]
  by_cases h1:n∈r
  ·simp[h1]
  ·by_cases h2:n=m
   ·subst h2;simp
   ·simp[h1,h2]
def RowsIn(h:Heap)(l:List Nm): Prop:=∀ n∈l,∃ e K xs,h n=some (.row e K xs)
def frzF(h:Heap)(l:List Nm): Nm→PV:=fun m=>bif isIn m l then(match h m with
 |some (.row _ K xs) => .v (.sl K) xs
 |_ => .un)else .row m
theorem wq1db(l:List Nm): ∃ f,(frz h l=none∧f=PV.row∨frz h l=some (PV.mapR f))∧∀ m,f m=frzF h l m:=by
 cases l with
 |nil=>exact⟨.row,.inl ⟨rfl,rfl⟩,fun m=>rfl⟩
 |cons n r=>exact⟨frzF h (n::r),.inr rfl,fun m=>rfl⟩
theorem wq1e7(l:List Nm)(n:Nm): ∃ f:Nm→PV,(∀ m,f m=frzF h l m)∧mapH (frz h l) h n=(h n).map (mapO (PV.mapR f)):=by
 cases l with
 |nil=>exact⟨.row,fun m=>rfl,by cases hn:h n<;>simp[frz,mapH,hn,wqgf]⟩
 |cons m r=>exact⟨frzF h (m::r),fun m=>rfl,by cases hn:h n<;>simp[frz,mapH,hn]<;>rfl⟩
def wqac(h:Heap)(l:List Nm): Heap:=setHs (mapH (frz h l) h) (wq83 l)
theorem wq97(l:List Nm)(n:Nm): wqac h l n=if n∈l then none else(h n).map (mapO (PV.mapR (frzF h l))):=by
 unfold wqac
 rw[wqmc]
 obtain⟨f,hf,e⟩:=wq1e7 (h:=h) l n
 have:f=frzF h l:=funext hf
 rw[e,this]
theorem wq84(l:List Nm)(n:Nm): blkOf (wqac h l) G n=if n∈l then none else blkOf h G n:=by
 unfold blkOf
 rw[wq97]
 by_cases hn:n∈l
 ·simp[hn]
 ·simp only[if_neg hn]
  cases hh:h n with
  |none=>rfl
  |some o=>cases o<;>rfl
theorem wqku(obj:∀ n o,h n=some o→RO h G w n o)(dis:Dis h G w){l:List Nm}(hl:RowsIn h l):
 Loud h G w (wqac h l) (frz h l) G w:=by
 have hok:∀ c,okB h G c→okB (wqac h l) G c:=by
  intro c hc
  refine⟨fun n hn => ?_,hc.2⟩
  rw[wq84]at hn
  split at hn
  ·cases hn
  ·exact hc.1 n hn
 have hrow:∀ m e K xs,m∈l→h m=some (.row e K xs)→RV (wqac h l) G w (.v (.sl K) xs) (G.rv m):=by
  intro m e K xs hm hr
  obtain⟨A,cap,hrv,hcap,hrr⟩:=wqlu (obj _ _ hr)
  refine⟨A,cap,by rw[hrv],hcap,?_⟩
  rcases hrr with hrr|⟨ad,g,cs,fz,hA,had,hg,hgh,hrr⟩
  ·exact .inl hrr
  ·refine .inr ⟨ad,hA,?_,?_,fun i y hy => ?_⟩
   ·subst had
    refine⟨fun n hn => ?_,dis.xo m g (by simp[blkOf,hr,hg])⟩
    rw[wq84]at hn
    split at hn
    ·cases hn
    ·next hnl =>
     have:=dis.inj n m g hn (by simp[blkOf,hr,hg])
     subst this
     exact hnl hm
   ·subst had;exact(Array.getElem?_eq_some_iff.1 hgh).1
   ·obtain⟨c,hc,hu⟩:=hrr i y hy
    exact⟨c,hc.mono fun b hb _=>⟨hok b hb,rfl⟩,hu⟩
 have C:Carry h G w (wqac h l) G w (frzF h l):=by
  refine⟨fun b hb _=>⟨hok b hb,rfl⟩,fun n t cs hn=>⟨?_,rfl⟩,fun n ag V es hn=>⟨?_,rfl⟩,fun b hx _=>⟨.inr hx,rfl⟩,fun n e K xs hn => ?_⟩
  ·have:n ∉ l:=fun hm=>by obtain⟨e,K,xs,hr⟩:=hl n hm;rw[hn]at hr;cases hr
   exact⟨_,by rw[wq97,if_neg this,hn];rfl⟩
  ·have:n ∉ l:=fun hm=>by obtain⟨e,K,xs,hr⟩:=hl n hm;rw[hn]at hr;cases hr
   exact⟨_,by rw[wq97,if_neg this,hn];rfl⟩
  ·by_cases hm:n∈l
   ·have hf:frzF h l n = .v (.sl K) xs:=by simp[frzF,wq7o.2 hm,hn]
    rw[hf]
    exact⟨hrow n e K xs hm hn,fun m hm=>by cases hm⟩
   ·have hi:isIn n l=false:=by cases hb:isIn n l with|false=>rfl|true=>exact absurd (wq7o.1 hb) hm
    have hf:frzF h l n = .row n:=by simp[frzF,hi]
    have hh:wqac h l n=some (.row e K xs):=by rw[wq97,if_neg hm,hn];rfl
    rw[hf]
    exact⟨⟨rfl,e,K,xs,hh⟩,fun m hm=>by cases hm;exact⟨e,xs,hh,Nat.le_refl _⟩⟩
 refine⟨?_,fun n o hn => ?_,fun n m b h1 h2 => ?_,fun _ _ _=>rfl,rfl,fun n b hn => ?_,Nat.le_refl _,rfl,rfl,rfl⟩
 ·obtain⟨f,hf,he⟩:=wq1db (h:=h) l
  exact⟨f,hf,by rw[show f=frzF h l from funext he];exact C⟩
 ·rw[wq97]at hn
  split at hn
  ·cases hn
  ·next hm =>
   obtain⟨o',ho',rfl⟩:=Option.map_eq_some_iff.1 hn
   exact RO.carry C ho' (obj n o' ho') (fun _ _=>rfl) rfl rfl
 ·rw[wq84]at h1 h2
  split at h1
  ·cases h1
  ·split at h2
   ·cases h2
   ·exact dis.inj n m b h1 h2
 ·rw[wq84]at hn
  split at hn
  ·cases hn
  ·exact .inl ⟨n,hn⟩
theorem wqhr(w:World)(a:Addr)(n:Nat){b:Nat}(hb:b≠a.block): (w.freeze a n).heap[b]? = w.heap[b]? := by
 unfold World.freeze
 split
 ·rfl
 ·simp only[Array.getElem?_modify]
  rw[if_neg (fun e=>hb e.symm)]
theorem wq173(w:World)(a:Addr)(n:Nat): (w.freeze a n).heap.size=w.heap.size:=by
 unfold World.freeze
 split
 ·rfl
 ·simp
theorem wq174(w:World)(a:Addr)(n:Nat)(x:Addr): (w.freeze a n).cell? x=w.cell? x:=by
 by_cases hb:x.block=a.block
 ·unfold World.freeze
  split
  ·rfl
  ·unfold World.cell?
   simp only[Array.getElem?_modify]
   rw[if_pos hb.symm,hb]
   cases hh:w.heap[a.block]? with
   |none=>rfl
   |some o=>cases o<;>rfl
 ·exact World.cell?_of_block (wqhr w a n hb)
theorem wqyq(w:World)(a:Addr)(n:Nat): (w.freeze a n).os=w.os∧(w.freeze a n).tape=w.tape∧(w.freeze a n).output=w.output:=by
 unfold World.freeze
 split<;>exact⟨rfl,rfl,rfl⟩
theorem wq1c2 (obj:∀ n o,h n=some o→RO h G w n o) (dis:Dis h G w) {m0:Nm} {e0:TypeId} {K0:Kd} {xs0:List K0.T} (hm0:h m0=some (.row e0 K0 xs0)) {g0:Nat} (hg0:(G.rv m0).ownBlock=some g0) {w':World}
 (hne:∀ b,b≠g0→w'.heap[b]? = w.heap[b]?) (hce:∀ a:Addr,a.block=g0→w'.cell? a=w.cell? a) (hsz:w'.heap.size=w.heap.size) (hos:w'.os=w.os) (htp:w'.tape=w.tape) (hout:w'.output=w.output) :
 Loud h G w (wqac h [m0]) (frz h [m0]) G w'∧RV (wqac h [m0]) G w' (.v (.sl K0) xs0) (G.rv m0):=by
 have hbm:blkOf h G m0=some g0:=by simp[blkOf,hm0,hg0]
 have hok:∀ c,okB h G c→okB (wqac h [m0]) G c∧w'.heap[c]? = w.heap[c]? := by
  intro c hc
  refine⟨⟨fun n hn => ?_,hc.2⟩,hne c fun e=>hc.1 m0 (by rw[hbm,e])⟩
  rw[wq84]at hn
  split at hn
  ·cases hn
  ·exact hc.1 n hn
 have hrow:RV (wqac h [m0]) G w' (.v (.sl K0) xs0) (G.rv m0):=by
  obtain⟨A,cap,hrv,hcap,hrr⟩:=wqlu (obj _ _ hm0)
  refine⟨A,cap,by rw[hrv],hcap,?_⟩
  rcases hrr with hrr|⟨ad,g,cs,fz,hA,had,hg,hgh,hrr⟩
  ·exact .inl hrr
  ·obtain rfl:g0=g:=by rw[hg0]at hg;exact Option.some.inj hg
   refine .inr ⟨ad,hA,?_,?_,fun i y hy => ?_⟩
   ·subst had
    refine⟨fun n hn => ?_,dis.xo m0 g0 hbm⟩
    rw[wq84]at hn
    split at hn
    ·cases hn
    ·next hnl =>
     have:=dis.inj n m0 g0 hn hbm
     subst this
     exact hnl (by simp)
   ·subst had;rw[hsz];exact(Array.getElem?_eq_some_iff.1 hgh).1
   ·obtain⟨c,hc,hu⟩:=hrr i y hy
    exact⟨c,hc.mono fun b hb _=>hok b hb,fun j u hj=>by rw[hce _ (by rw[wqaj,had])];exact hu j u hj⟩
 have C:Carry h G w (wqac h [m0]) G w' (frzF h [m0]):=by
  refine⟨fun b hb _=>hok b hb,fun n t cs hn=>⟨?_,rfl⟩,fun n ag V es hn=>⟨?_,rfl⟩,fun b hx _=>⟨.inr hx,hne b fun e=>dis.xo m0 g0 hbm (e ▸ hx)⟩,fun n e K xs hn => ?_⟩
  ·have:n ∉ [m0]:=fun hm=>by rw[List.mem_singleton.1 hm,hm0]at hn;cases hn
   exact⟨_,by rw[wq97,if_neg this,hn];rfl⟩
  ·have:n ∉ [m0]:=fun hm=>by rw[List.mem_singleton.1 hm,hm0]at hn;cases hn
   exact⟨_,by rw[wq97,if_neg this,hn];rfl⟩
  ·by_cases hm:n∈[m0]
   ·have hmm:=List.mem_singleton.1 hm
    subst hmm
    rw[hm0]at hn;cases hn
    have hf:frzF h [n] n = .v (.sl K0) xs0:=by simp[frzF,wq7o.2 hm,hm0]
    rw[hf]
    exact⟨hrow,fun m hm=>by cases hm⟩
   ·have hi:isIn n [m0]=false:=by cases hb:isIn n [m0]with|false=>rfl|true=>exact absurd (wq7o.1 hb) hm
    have hf:frzF h [m0] n = .row n:=by simp[frzF,hi]
    have hh:wqac h [m0] n=some (.row e K xs):=by rw[wq97,if_neg hm,hn];rfl
    rw[hf]
    exact⟨⟨rfl,e,K,xs,hh⟩,fun m hm=>by cases hm;exact⟨e,xs,hh,Nat.le_refl _⟩⟩
 refine⟨⟨?_,fun n o hn => ?_,fun n m b h1 h2 => ?_,fun b _ hb=>hne b fun e=>hb m0 (by rw[hbm,e]),rfl,fun n b hn => ?_,by rw[hsz];exact Nat.le_refl _,hos,htp,hout⟩,hrow⟩
 ·obtain⟨f,hf,he⟩:=wq1db (h:=h) [m0]
  exact⟨f,hf,by rw[show f=frzF h [m0]from funext he];exact C⟩
 ·rw[wq97]at hn
  split at hn
  ·cases hn
  ·next hm =>
   obtain⟨o',ho',rfl⟩:=Option.map_eq_some_iff.1 hn
   exact RO.carry C ho' (obj n o' ho') (fun b hb=>hne b fun e=>by
    have:=dis.inj n m0 b hb (by rw[hbm,e])
    exact hm (by simp[this])) rfl rfl
 ·rw[wq84]at h1 h2
  split at h1
  ·cases h1
  ·split at h2
   ·cases h2
   ·exact dis.inj n m b h1 h2
 ·rw[wq84]at hn
  split at hn
  ·cases hn
  ·exact .inl ⟨n,hn⟩
theorem Loud.then{h1 h2:Heap}{mp:Option (PV→PV)}{G1 G2:Gh}{w1 w2:World}(A:Loud h G w h1 mp G1 w1)(B:Loud h1 G1 w1 h2 none G2 w2): Loud h G w h2 mp G2 w2:=by
 obtain⟨f,hf,C⟩:=A.f
 obtain⟨g,hg,D⟩:=B.f
 have hg:g = .row:=by rcases hg with⟨_,hg⟩|hg;exact hg;cases hg
 subst hg
 refine⟨⟨f,hf,?_⟩,B.obj,B.dis,fun b hb ho => ?_,B.X.trans A.X,fun n b hn => ?_,Nat.le_trans A.grow B.grow,B.os.trans A.os,B.tape.trans A.tape,B.out.trans A.out⟩
 ·refine⟨fun b ho hlt => ?_,fun n t cs hn => ?_,fun n ag V es hn => ?_,fun b hx hlt=>(by obtain⟨a1,a2⟩:=C.x b hx hlt;obtain⟨b1,b2⟩:=D.okX b a1 (Nat.lt_of_lt_of_le hlt A.grow);exact⟨b1,b2.trans a2⟩),fun n e K xs hn => ?_⟩
  ·obtain⟨a1,a2⟩:=C.blk b ho hlt
   obtain⟨b1,b2⟩:=D.blk b a1 (Nat.lt_of_lt_of_le hlt A.grow)
   exact⟨b1,b2.trans a2⟩
  ·obtain⟨⟨cs1,a1⟩,a2⟩:=C.var n t cs hn
   obtain⟨⟨cs2,b1⟩,b2⟩:=D.var n t cs1 a1
   exact⟨⟨cs2,b1⟩,b2.trans a2⟩
  ·obtain⟨⟨es1,a1⟩,a2⟩:=C.mp n ag V es hn
   obtain⟨⟨es2,b1⟩,b2⟩:=D.mp n ag V es1 a1
   exact⟨⟨es2,b1⟩,b2.trans a2⟩
  ·obtain⟨a1,a2⟩:=C.row n e K xs hn
   have:=RV.carry D _ _ a1
   rw[PV.mapR_row]at this
   refine⟨this,fun m hm => ?_⟩
   obtain⟨e',xs',h3,h4⟩:=a2 m hm
   obtain⟨e2,xs2,h5,h6⟩:=(D.row m e' K xs' h3).2 m rfl
   exact⟨e2,xs2,h5,Nat.le_trans h4 h6⟩
 ·refine(B.blk b (Nat.lt_of_lt_of_le hb A.grow) (fun n hn => ?_)).trans (A.blk b hb ho)
  rcases A.new n b hn with⟨m,hm⟩|hlt
  ·exact ho m hm
  ·omega
 ·rcases B.new n b hn with⟨m,hm⟩|hlt
  ·exact A.new m b hm
  ·exact .inr (Nat.le_trans A.grow hlt)
theorem Still.carry{w':World}(S:Still w w'){h':Heap}{G':Gh}{mp:Option (PV→PV)}(L:Loud h G w h' none G' w'){p:PV}{v:Value}(hp:RV h G w p v): RV h' G' w' p v:=by
 obtain⟨g,hg,D⟩:=L.f
 have hg:g = .row:=by rcases hg with⟨_,hg⟩|hg;exact hg;cases hg
 subst hg
 have:=RV.carry D _ _ hp
 rwa [PV.mapR_row]at this
theorem wq18z(T:TyOk P ty)(obj:∀ n o,h n=some o→RO h G w n o)(dis:Dis h G w){s:TypeId}{ti:TI}(hs:ty s=some ti){d:Nat}(he:wq15o ti s h d=some ev):
 ∃ v G' w',(Instr.alloc s true (.tuple #[])).run P w = .ok v w'∧Loud h G w (setHs (mapH ev.mp h) ev.hs) ev.mp G' w'∧RV (setHs (mapH ev.mp h) ev.hs) G' w' ev.val v∧ev.chk = .ok∧VarKept h G w w' (keysOf ev.hs):=by
 unfold wq15o at he
 split at he
 ·next hnm =>
  cases he
  obtain⟨z,hz,hr,_⟩:=(T _ _ hs).zeros (h:=h) (G:=G) (w:=w)
  have hrun:(Instr.alloc s true (.tuple #[])).run P w = .ok (.pointer (some ⟨w.heap.size,0,none⟩)) (w.alloc (.cells z.cells s)):=by
   simp[Instr.alloc,hz,newVar,newRow]
  have L:=wqmb (o := .var s ti.zero) (w':=w.alloc (.cells z.cells s)) (b:=w.heap.size) (v:=default) obj dis hnm ((Still.refl w).alloc _) (fun _=>by
   obtain⟨i,z',hi,_,_,hz',hzl,_⟩:=(T _ _ hs).info
   have:z=z':=by
    have h2:(zeroValue s).run P w = .ok z' w:=by simp[zeroValue,typeInfo,hi,hz']
    rw[hz]at h2
    cases h2;rfl
   subst this
   exact⟨z.cells.toList,by rw[Gh.set_bk,if_pos rfl];simpa using heap_alloc_new w _,by rw[←hzl];exact cvs_ok _⟩) (fun c hc=>by
   simp only[blkOf,wq2o,if_pos,Gh.set_bk,Option.some.injEq]at hc
   omega)
  refine⟨_,_,_,hrun,L,?_,rfl,VarKept.ext obj (fun b hb=>heap_alloc_old w _ hb) _⟩
  exact⟨by rw[Gh.set_bk,if_pos rfl],s,ti.zero,by simp[setHs,wq2o]⟩
 ·cases he
theorem wq1e8(obj:∀ n o,h n=some o→RO h G w n o)(dis:Dis h G w){s:TypeId}{d:Nat}{p:PV}{v:Value}(he:evBox s h d p=some ev)(hp:RV h G w p v):
 ∃ r G' w',(Instr.box s v).run P w = .ok r w'∧Loud h G w (setHs (mapH ev.mp h) ev.hs) ev.mp G' w'∧RV (setHs (mapH ev.mp h) ev.hs) G' w' ev.val r∧ev.chk = .ok∧VarKept h G w w' (keysOf ev.hs):=by
 unfold evBox at he
 cases hb:leafs (cellsOf p)with
 |false=>rw[hb]at he;cases he
 |true =>
  rw[hb,cond_true]at he
  split at he
  ·next hnm =>
   cases he
   have hrun:(Instr.box s v).run P w = .ok (.pointer (some ⟨w.heap.size,0,none⟩)) (w.alloc (.cells v.cells s)):=by
    simp[Instr.box,newVar,newRow]
   have hcells:=(wqpo obj hb hp).1
   have L:=wqmb (o := .var s (cellsOf p)) (w':=w.alloc (.cells v.cells s)) (b:=w.heap.size) (v:=default) obj dis hnm ((Still.refl w).alloc _) (fun _=>by
    refine⟨v.cells.toList,by rw[Gh.set_bk,if_pos rfl];simpa using heap_alloc_new w _,?_⟩
    have C:Carry h G w (setH h (wq43 d) (some (.var s (cellsOf p)))) (G.set (wq43 d) w.heap.size default) (w.alloc (.cells v.cells s)) .row:=by
     refine⟨fun c hc hlt=>⟨⟨fun n hn => ?_,hc.2⟩,heap_alloc_old w _ hlt⟩,fun n t cs hn => ?_,fun n ag V es hn => ?_,fun b hx hlt=>⟨.inr hx,heap_alloc_old w _ hlt⟩,fun n e K xs hn => ?_⟩
     ·by_cases hnn:n=wq43 d
      ·subst hnn;simp only[blkOf,wq2o,if_pos,Gh.set_bk,Option.some.injEq]at hn;omega
      ·simp only[blkOf,wq2o,if_neg hnn,Gh.set_bk,Gh.set_rv]at hn;exact hc.1 n hn
     ·have hnn:n≠wq43 d:=fun e=>by subst e;rw[hnm]at hn;cases hn
      exact⟨⟨cs,by rw[wq2o,if_neg hnn];exact hn⟩,by rw[Gh.set_bk,if_neg hnn]⟩
     ·have hnn:n≠wq43 d:=fun e=>by subst e;rw[hnm]at hn;cases hn
      exact⟨⟨es,by rw[wq2o,if_neg hnn];exact hn⟩,by rw[Gh.set_bk,if_neg hnn]⟩
     ·have hnn:n≠wq43 d:=fun e=>by subst e;rw[hnm]at hn;cases hn
      refine⟨⟨by rw[Gh.set_rv,if_neg hnn],e,K,xs,by rw[wq2o,if_neg hnn];exact hn⟩,fun m hm => ?_⟩
      cases hm
      exact⟨e,xs,by rw[wq2o,if_neg hnn];exact hn,Nat.le_refl _⟩
    have:=RVs.carry C _ _ hcells
    rwa [mapRs_row]at this) (fun c hc=>by
    simp only[blkOf,wq2o,if_pos,Gh.set_bk,Option.some.injEq]at hc
    omega)
   refine⟨_,_,_,hrun,L,?_,rfl,VarKept.ext obj (fun b hb=>heap_alloc_old w _ hb) _⟩
   exact⟨by rw[Gh.set_bk,if_pos rfl],s,cellsOf p,by simp[setHs,wq2o]⟩
  ·cases he
end Go.Proofs.YtabkhphoacmcdaaGreatDoor.Pvm
namespace Go.Proofs.YtabkhphoacmcdaaGreatDoor.Pvm
open Go
variable {P:Program} {h:Heap} {G:Gh} {w:World} {ev:Ev} {ty:TypeId→Option TI}
def okF(h:Heap)(G:Gh)(l:List Nm)(b:Nat): Prop:=okB (wqac h l) G b
theorem wq10j (obj:∀ n o,h n=some o→RO h G w n o) (dis:Dis h G w) {K:Kd} {p:PV} {x:K.T} {f l:List Nm} {v:Value} (he:leaf h K p=some (x,f)) (hf:∀ n∈f,n∈l) (hl:RowsIn h l)
 (hp:RV h G w p v):RD w (okF h G l) K x [v]∧RowsIn h f:=by
 have L:=wqku obj dis hl
 have mono:∀ b,okB h G b→b<w.heap.size→okF h G l b∧w.heap[b]? = w.heap[b]? := by
  obtain⟨g,_,C⟩:=L.f
  exact C.blk
 unfold leaf at he
 split at he
 ·next K' y =>
  obtain⟨z,hz,he⟩:=Option.map_eq_some_iff.1 he
  simp only[Prod.mk.injEq]at he
  obtain⟨rfl,rfl⟩:=he
  obtain⟨rfl,rfl⟩:=wqbd hz
  exact⟨RD.mono mono hp,fun n hn=>by cases hn⟩
 ·next b =>
  obtain⟨z,hz,he⟩:=Option.map_eq_some_iff.1 he
  simp only[Prod.mk.injEq]at he
  obtain⟨rfl,rfl⟩:=he
  obtain⟨rfl,rfl⟩:=wqbd hz
  obtain rfl:v=_:=hp
  exact⟨rfl,fun n hn=>by cases hn⟩
 ·split at he
  ·cases he
   obtain rfl:v=_:=hp
   exact⟨⟨none,0,rfl,Nat.le_refl _,.inl rfl⟩,fun n hn=>by cases hn⟩
  ·cases he
 ·next n =>
  split at he
  ·next e K' xs hn =>
   obtain⟨z,hz,he⟩:=Option.map_eq_some_iff.1 he
   simp only[Prod.mk.injEq]at he
   obtain⟨rfl,rfl⟩:=he
   obtain⟨rfl,rfl⟩:=wqbd hz
   obtain⟨rfl,_⟩:=hp
   refine⟨?_,fun m hm=>by simp at hm;subst hm;exact⟨e,K',_,hn⟩⟩
   obtain⟨g,hg,C⟩:=L.f
   have:=(C.row n e K' _ hn).1
   have hfe:g n = .v (.sl K') z:=by
    have hmem:=hf n (by simp)
    rcases hg with⟨h1,_⟩|h1
    ·cases l with
     |nil=>cases hmem
     |cons a r=>cases h1
    ·cases l with
     |nil=>cases hmem
     |cons a r =>
      have e2:PV.mapR g (.row n)=(PV.mapR (frzF h (a::r))) (.row n):=by
       have:frz h (a::r)=some (PV.mapR (frzF h (a::r))):=rfl
       rw[this]at h1
       injection h1 with h1
       rw[h1]
      have e3:g n=frzF h (a::r) n:=e2
      rw[e3]
      simp[frzF,wq7o.2 hmem,hn]
   rw[hfe]at this
   exact this
  ·cases he
 ·cases he
theorem dec_ok(obj:∀ n o,h n=some o→RO h G w n o)(dis:Dis h G w){l:List Nm}(hl:RowsIn h l):
 ∀(K:Kd) {cs:List PV} {x:K.T} {r:List PV} {f:List Nm} {vs:List Value},K.dec h cs=some (x,r,f)→(∀ n∈f,n∈l)→RVs h G w cs vs→∃ c1 c2,vs=c1++c2∧RD w (okF h G l) K x c1∧RVs h G w r c2∧RowsIn h f
 |.pr a b,cs,x,r,f,vs,he,hf,hr=>by
  simp only[Kd.dec]at he
  split at he
  ·next x1 r1 f1 h1 =>
   split at he
   ·next y r' f' h2 =>
    simp only[Option.some.injEq,Prod.mk.injEq]at he
    obtain⟨rfl,rfl,rfl⟩:=he
    obtain⟨c1,c2,rfl,d1,d2,d3⟩:=dec_ok obj dis hl a h1 (fun n hn=>hf n (by simp[hn])) hr
    obtain⟨c3,c4,rfl,d4,d5,d6⟩:=dec_ok obj dis hl b h2 (fun n hn=>hf n (by simp[hn])) d2
    refine⟨c1++c3,c4,by simp,⟨c1,c3,rfl,d1,d4⟩,d5,fun n hn => ?_⟩
    rcases List.mem_append.1 hn with hn|hn
    ·exact d3 n hn
    ·exact d6 n hn
   ·cases he
  ·cases he
 |.nil,cs,x,r,f,vs,he,hf,hr=>by
  simp only[Kd.dec,Option.some.injEq,Prod.mk.injEq]at he
  obtain⟨_,rfl,rfl⟩:=he
  exact⟨[],vs,rfl,rfl,hr,fun n hn=>by cases hn⟩
 |.int k,[],x,r,f,vs,he,hf,hr=>by simp[Kd.dec]at he
 |.bool,[],x,r,f,vs,he,hf,hr=>by simp[Kd.dec]at he
 |.str,[],x,r,f,vs,he,hf,hr=>by simp[Kd.dec]at he
 |.flt,[],x,r,f,vs,he,hf,hr=>by simp[Kd.dec]at he
 |.sl e,[],x,r,f,vs,he,hf,hr=>by simp[Kd.dec]at he
 |.int k,c::cs,x,r,f,vs,he,hf,hr=>by
  obtain⟨v,vs,rfl,hv,hr⟩:=hr
  simp only[Kd.dec]at he
  split at he
  ·next y g hy =>
   simp only[Option.some.injEq,Prod.mk.injEq]at he
   obtain⟨rfl,rfl,rfl⟩:=he
   obtain⟨d1,d2⟩:=wq10j obj dis hy hf hl hv
   exact⟨[v],vs,rfl,d1,hr,d2⟩
  ·cases he
 |.bool,c::cs,x,r,f,vs,he,hf,hr=>by
  obtain⟨v,vs,rfl,hv,hr⟩:=hr
  simp only[Kd.dec]at he
  split at he
  ·next y g hy =>
   simp only[Option.some.injEq,Prod.mk.injEq]at he
   obtain⟨rfl,rfl,rfl⟩:=he
   obtain⟨d1,d2⟩:=wq10j obj dis hy hf hl hv
   exact⟨[v],vs,rfl,d1,hr,d2⟩
  ·cases he
 |.str,c::cs,x,r,f,vs,he,hf,hr=>by
  obtain⟨v,vs,rfl,hv,hr⟩:=hr
  simp only[Kd.dec]at he
  split at he
  ·next y g hy =>
   simp only[Option.some.injEq,Prod.mk.injEq]at he
   obtain⟨rfl,rfl,rfl⟩:=he
   obtain⟨d1,d2⟩:=wq10j obj dis hy hf hl hv
   exact⟨[v],vs,rfl,d1,hr,d2⟩
  ·cases he
 |.flt,c::cs,x,r,f,vs,he,hf,hr=>by
  obtain⟨v,vs,rfl,hv,hr⟩:=hr
  simp only[Kd.dec]at he
  split at he
  ·next y g hy =>
   simp only[Option.some.injEq,Prod.mk.injEq]at he
   obtain⟨rfl,rfl,rfl⟩:=he
   obtain⟨d1,d2⟩:=wq10j obj dis hy hf hl hv
   exact⟨[v],vs,rfl,d1,hr,d2⟩
  ·cases he
 |.sl e,c::cs,x,r,f,vs,he,hf,hr=>by
  obtain⟨v,vs,rfl,hv,hr⟩:=hr
  simp only[Kd.dec]at he
  split at he
  ·next y g hy =>
   simp only[Option.some.injEq,Prod.mk.injEq]at he
   obtain⟨rfl,rfl,rfl⟩:=he
   obtain⟨d1,d2⟩:=wq10j obj dis hy hf hl hv
   exact⟨[v],vs,rfl,d1,hr,d2⟩
  ·cases he
theorem wqkv{K:Kd}{p:PV}{x:K.T}{f:List Nm}(he:leaf h K p=some (x,f)): RowsIn h f:=by
 unfold leaf at he
 split at he
 ·obtain⟨z,hz,he⟩:=Option.map_eq_some_iff.1 he
  simp only[Prod.mk.injEq]at he
  obtain⟨rfl,rfl⟩:=he
  intro n hn;cases hn
 ·obtain⟨z,hz,he⟩:=Option.map_eq_some_iff.1 he
  simp only[Prod.mk.injEq]at he
  obtain⟨rfl,rfl⟩:=he
  intro n hn;cases hn
 ·split at he
  ·cases he;intro n hn;cases hn
  ·cases he
 ·next n =>
  split at he
  ·next e K' xs hn =>
   obtain⟨z,hz,he⟩:=Option.map_eq_some_iff.1 he
   simp only[Prod.mk.injEq]at he
   obtain⟨rfl,rfl⟩:=he
   intro m hm
   simp at hm
   subst hm
   exact⟨e,K',xs,hn⟩
  ·cases he
 ·cases he
theorem wqyr:∀(K:Kd) {cs:List PV} {x:K.T} {r:List PV} {f:List Nm},K.dec h cs=some (x,r,f)→RowsIn h f
 |.pr a b,cs,x,r,f,he=>by
  simp only[Kd.dec]at he
  split at he
  ·next x1 r1 f1 h1 =>
   split at he
   ·next y r' f' h2 =>
    simp only[Option.some.injEq,Prod.mk.injEq]at he
    obtain⟨rfl,rfl,rfl⟩:=he
    intro n hn
    rcases List.mem_append.1 hn with hn|hn
    ·exact wqyr a h1 n hn
    ·exact wqyr b h2 n hn
   ·cases he
  ·cases he
 |.nil,cs,x,r,f,he=>by
  simp only[Kd.dec,Option.some.injEq,Prod.mk.injEq]at he
  obtain⟨_,rfl,rfl⟩:=he
  intro n hn;cases hn
 |.int k,[],x,r,f,he=>by simp[Kd.dec]at he
 |.bool,[],x,r,f,he=>by simp[Kd.dec]at he
 |.str,[],x,r,f,he=>by simp[Kd.dec]at he
 |.flt,[],x,r,f,he=>by simp[Kd.dec]at he
 |.sl e,[],x,r,f,he=>by simp[Kd.dec]at he
 |.int k,c::cs,x,r,f,he=>by
  simp only[Kd.dec]at he
  split at he
  ·next y g hy=>simp only[Option.some.injEq,Prod.mk.injEq]at he;obtain⟨rfl,rfl,rfl⟩:=he;exact wqkv hy
  ·cases he
 |.bool,c::cs,x,r,f,he=>by
  simp only[Kd.dec]at he
  split at he
  ·next y g hy=>simp only[Option.some.injEq,Prod.mk.injEq]at he;obtain⟨rfl,rfl,rfl⟩:=he;exact wqkv hy
  ·cases he
 |.str,c::cs,x,r,f,he=>by
  simp only[Kd.dec]at he
  split at he
  ·next y g hy=>simp only[Option.some.injEq,Prod.mk.injEq]at he;obtain⟨rfl,rfl,rfl⟩:=he;exact wqkv hy
  ·cases he
 |.flt,c::cs,x,r,f,he=>by
  simp only[Kd.dec]at he
  split at he
  ·next y g hy=>simp only[Option.some.injEq,Prod.mk.injEq]at he;obtain⟨rfl,rfl,rfl⟩:=he;exact wqkv hy
  ·cases he
 |.sl e,c::cs,x,r,f,he=>by
  simp only[Kd.dec]at he
  split at he
  ·next y g hy=>simp only[Option.some.injEq,Prod.mk.injEq]at he;obtain⟨rfl,rfl,rfl⟩:=he;exact wqkv hy
  ·cases he
theorem wqys{K:Kd}{cs:List PV}{x:K.T}{f:List Nm}(he:K.decAll h cs=some (x,f)): K.dec h cs=some (x,[],f):=by
 unfold Kd.decAll at he
 split at he
 ·next y g hd =>
  simp only[Option.some.injEq,Prod.mk.injEq]at he
  obtain⟨rfl,rfl⟩:=he
  exact hd
 ·cases he
theorem wqt8 (obj:∀ n o,h n=some o→RO h G w n o) (dis:Dis h G w) {l:List Nm} (hl:RowsIn h l) {K:Kd} {cs:List PV} {x:K.T} {f:List Nm} {vs:List Value}
 (he:K.decAll h cs=some (x,f)) (hf:∀ n∈f,n∈l) (hr:RVs h G w cs vs):RD w (okF h G l) K x vs:=by
 obtain⟨c1,c2,rfl,d1,d2,_⟩:=dec_ok obj dis hl K (wqys he) hf hr
 simp only[RVs]at d2
 subst d2
 simpa using d1
theorem wq10k{K:Kd}: ∀ {k:Nat} {parts:List (Nat×PV)} {xs:List K.T} {f:List Nm},elems h K k parts=some (xs,f)→RowsIn h f
 |k,[],xs,f,he=>by
  simp only[elems,Option.some.injEq,Prod.mk.injEq]at he
  obtain⟨rfl,rfl⟩:=he
  intro n hn;cases hn
 |k,(i,p)::r,xs,f,he=>by
  simp only[elems]at he
  cases hb:(Nat.beq i k&&leafs (cellsOf p))with
  |false=>rw[hb]at he;cases he
  |true =>
   rw[hb,cond_true]at he
   split at he
   ·next x f1 l f2 h1 h2 =>
    simp only[Option.some.injEq,Prod.mk.injEq]at he
    obtain⟨rfl,rfl⟩:=he
    intro n hn
    rcases List.mem_append.1 hn with hn|hn
    ·exact wqyr K (wqys h1) n hn
    ·exact wq10k h2 n hn
   ·cases he
theorem wq190(pre us mid post:List Value)(hm:mid.length=us.length): setV (pre++mid++post) pre.length us=pre++us++post:=by
 induction us generalizing pre mid with
 |nil=>have:mid=[]:=List.eq_nil_of_length_eq_zero hm;subst this;rfl
 |cons u us ih =>
  cases mid with
  |nil=>cases hm
  |cons m mid =>
   rw[setV]
   have e:(pre++(m::mid)++post).set pre.length u=(pre++[u])++mid++post:=by
    rw[List.append_assoc,List.set_append_right _ _ (Nat.le_refl _)]
    simp
   rw[e]
   have:=ih (pre++[u]) mid (by simpa using hm)
   rw[List.length_append,List.length_singleton]at this
   rw[this]
   simp
theorem wq191(obj:∀ n o,h n=some o→RO h G w n o)(dis:Dis h G w){l:List Nm}(hl:RowsIn h l){K:Kd}{u:Operand→PV}{ρ : Operand→Value}(hu:∀ x,RV h G w (u x) (ρ x)):
 ∀(parts:List (Nat×Operand)) (k:Nat) (xs:List K.T) (f:List Nm) (pre:List Value) (cells:Array Value),elems h K k (parts.map fun(i,x)=>(i,u x))=some (xs,f)→(∀ n∈f,n∈l) →
 pre.length=k*K.sz→(∃ rest,cells.toList=pre++rest∧rest.length=parts.length*K.sz) →
 ∃ out vs,Instr.fill (fun i=>some (i*K.sz,K.sz)) cells (parts.map fun(i,x)=>(i,ρ x))=some out∧out.toList=pre++vs∧RDs w (okF h G l) K xs vs
 |[],k,xs,f,pre,cells,he,hf,hp,⟨rest,hc,hr⟩=>by
  simp only[List.map_nil,elems,Option.some.injEq,Prod.mk.injEq]at he
  obtain⟨rfl,rfl⟩:=he
  have:rest=[]:=List.eq_nil_of_length_eq_zero (by simpa using hr)
  subst this
  exact⟨cells,[],rfl,hc,rfl⟩
 |(i,x)::parts,k,xs,f,pre,cells,he,hf,hp,⟨rest,hc,hr⟩=>by
  simp only[List.map_cons,elems]at he
  cases hb:(Nat.beq i k&&leafs (cellsOf (u x)))with
  |false=>rw[hb]at he;cases he
  |true =>
   rw[hb,cond_true]at he
   simp only[Bool.and_eq_true]at hb
   obtain⟨hi,hlf⟩:=hb
   have hi:=Nat.eq_of_beq_eq_true hi
   subst hi
   split at he
   ·next y f1 l2 f2 h1 h2 =>
    simp only[Option.some.injEq,Prod.mk.injEq]at he
    obtain⟨rfl,rfl⟩:=he
    obtain⟨c1,c2⟩:=wqpo obj hlf (hu x)
    have d1:=wqt8 obj dis hl h1 (fun n hn=>hf n (by simp[hn])) c1
    have hsz:(ρ x).cells.size=K.sz:=by have:=d1.len;simpa using this
    rw[List.length_cons,Nat.add_mul,Nat.one_mul]at hr
    have hcl:cells.size=pre.length+rest.length:=by have:=congrArg List.length hc;simpa using this
    obtain⟨mid,post,hmp,hm1⟩:∃ mid post,rest=mid++post∧mid.length=K.sz:=⟨rest.take K.sz,rest.drop K.sz,by simp,by simp;omega⟩
    subst hmp
    rw[List.length_append]at hr
    simp only[List.map_cons,Instr.fill]
    have hno:¬ ((ρ x).cells.size≠K.sz || decide (i*K.sz+(ρ x).cells.size>cells.size))=true:=by
     rw[List.length_append]at hcl
     simp[hsz];omega
    rw[if_neg (by simpa using hno)]
    have hv:=wqt7 (i*K.sz) (ρ x).cells.toList 0 cells
    rw[Nat.add_zero]at hv
    have e2:(Array.foldl (fun cs x=>cs.setIfInBounds (i*K.sz+x.2) x.1) cells (ρ x).cells.zipIdx).toList=pre++(ρ x).cells.toList++post:=by
     rw[←Array.foldl_toList,Array.toList_zipIdx,hv,hc,←hp]
     have:=wq190 pre (ρ x).cells.toList mid post (by rw[hm1];simpa using hsz.symm)
     rw[←this,List.append_assoc]
    obtain⟨out,vs,h3,h4,h5⟩:=wq191 obj dis hl hu parts (i+1) l2 f2 (pre++(ρ x).cells.toList) (Array.foldl (fun cs x=>cs.setIfInBounds (i*K.sz+x.2) x.1) cells (ρ x).cells.zipIdx) h2 (fun n hn=>hf n (by simp[hn]))
     (by rw[List.length_append,hp,Array.length_toList,hsz,Nat.add_mul,Nat.one_mul]) ⟨post,e2,by omega⟩
    exact⟨out,(ρ x).cells.toList++vs,h3,by rw[h4,List.append_assoc],_,_,rfl,d1,h5⟩
   ·cases he
theorem run_build {P:Program} (w:World) (t e:TypeId) (n:Nat) (parts:Array (Nat×Value)) (out:Array Value) (ie:TypeInfo) (z:Value) (hd:P.underlying t=some (.slice e)) (hi:P.info? e=some ie) (hz:ie.zero=some z)
 (hsm:¬ n*ie.size>2 ^ 24) (hpos:0<ie.size) (hp:parts.size=n) (h:Instr.fill (fun i=>some (i*ie.size,ie.size)) ((Array.range (n*ie.size)).map (z.cells[· % z.cells.size]!)) parts.toList=some out) :
 (Instr.buildSlice t n parts).run P w = .ok (.slice (some ⟨w.heap.size,0,none⟩) n n) (w.alloc (.cells out e)):=by
 by_cases b3:n=0
 ·subst b3
  have hp:parts = #[]:=Array.eq_empty_of_size_eq_zero hp
  subst hp
  have e0:Array.range 0 = #[]:=rfl
  rw[Nat.zero_mul,e0]at h
  simp only[List.map_toArray,List.map_nil,Instr.fill,Option.some.injEq]at h
  have ho:out = #[]:=by rw[←h]
  subst ho
  simp[Instr.buildSlice,run_underlying hd,sizeOf,typeInfo,hi,Instr.fill,newRow,e0]
 ·exact run_buildSlice w t e n parts out ie z hd hi hz hsm (Nat.mul_ne_zero b3 (by omega)) h
theorem wqwf (T:TyOk P ty) (obj:∀ n o,h n=some o→RO h G w n o) (dis:Dis h G w) {s e:TypeId} {K:Kd} {b d n:Nat} (hk:elKd ty s=some (e,K,b)) {u:Operand→PV} {ρ : Operand→Value}
 (hu:∀ x,RV h G w (u x) (ρ x)) {parts:Array (Nat×Operand)} (he:wqho h d e K n (parts.toList.map fun(i,x)=>(i,u x))=some ev) :
 ∃ r G' w',(Instr.buildSlice s n (parts.map fun(i,x)=>(i,ρ x))).run P w = .ok r w'∧Loud h G w (setHs (mapH ev.mp h) ev.hs) ev.mp G' w'∧RV (setHs (mapH ev.mp h) ev.hs) G' w' ev.val r∧ev.chk = .ok∧VarKept h G w w' (keysOf ev.hs):=by
 obtain⟨hd,i,z,hi,hz,hsz,hby,hpos,hzs,hz0⟩:=wq10a T hk
 unfold wqho at he
 split at he
 ·next hnm =>
  split at he
  ·next xs f hel =>
   cases hb:(Nat.beq (parts.toList.map fun(i,x)=>(i,u x)).length n&&Nat.ble (n*K.sz) 16777216)with
   |false=>rw[hb]at he;cases he
   |true =>
    rw[hb,cond_true]at he
    cases he
    simp only[Bool.and_eq_true,Bool.not_eq_true']at hb
    obtain⟨b1,b2⟩:=hb
    have b1:=Nat.eq_of_beq_eq_true b1
    have b2:=Nat.le_of_ble_eq_true b2
    rw[List.length_map]at b1
    have hl:=wq10k hel
    let cells0:Array Value:=(Array.range (n*K.sz)).map (z.cells[· % z.cells.size]!)
    obtain⟨out,vs,h1,h2,h3⟩:=wq191 obj dis hl hu parts.toList 0 xs f [] cells0 hel (fun n hn=>hn) (by simp) ⟨cells0.toList,rfl,by simp[cells0,b1]⟩
    rw[List.nil_append]at h2
    have hrun:=run_build (P:=P) w s e n (parts.map fun(i,x)=>(i,ρ x)) out i z hd hi hz (by rw[hsz];omega) (by rw[hsz];exact hpos) (by simpa using b1) (by rw[hsz,Array.toList_map];exact h1)
    have A:=wqku (w:=w) obj dis hl
    have S:Still w (w.alloc (.cells out e)):=(Still.refl w).alloc _
    have hnm':wqac h f (wq43 d)=none:=by rw[wq97];split;rfl;rw[hnm];rfl
    have hxl:xs.length=n:=by
     have e1:=h3.length
     have e2:(Instr.fill (fun i=>some (i*K.sz,K.sz)) cells0 (parts.toList.map fun(i,x)=>(i,ρ x)))=some out:=h1
     have:out.size=n*K.sz:=by
      have key:∀(l:List (Nat×Value)) (c o:Array Value),Instr.fill (fun i=>some (i*K.sz,K.sz)) c l=some o→o.size=c.size:=by
       intro l
       induction l with
       |nil=>intro c o hh;cases hh;rfl
       |cons x l ih =>
        intro c o hh
        simp only[Instr.fill]at hh
        split at hh
        ·cases hh
        ·rw[ih _ _ hh]
         have:=wqet x.2.cells.toList (x.1*K.sz) c.toList
         have e3:=wqt7 (x.1*K.sz) x.2.cells.toList 0 c
         rw[Nat.add_zero]at e3
         have e4:(Array.foldl (fun cs y=>cs.setIfInBounds (x.1*K.sz+y.2) y.1) c x.2.cells.zipIdx).toList=setV c.toList (x.1*K.sz) x.2.cells.toList:=by
          rw[←Array.foldl_toList,Array.toList_zipIdx,e3]
         have:=congrArg List.length e4
         rw[wqet]at this
         simpa using this
      rw[key _ _ _ h1]
      simp[cells0]
     have e5:vs.length=out.size:=by rw[←h2];simp
     rw[e5,this]at e1
     exact(Nat.eq_of_mul_eq_mul_right hpos e1).symm
    have hv0:(G.set (wq43 d) 0 (.slice (some ⟨w.heap.size,0,none⟩) n n)).rv (wq43 d) = .slice (some ⟨w.heap.size,0,none⟩) n n:=by rw[Gh.set_rv,if_pos rfl]
    have B:=wqmb (o := .row e K xs) (w':=w.alloc (.cells out e)) (b:=0) (v := .slice (some ⟨w.heap.size,0,none⟩) n n) A.obj (A.toDis dis) hnm' S (fun _=>by
     refine⟨vs,⟨by rw[h3.length],.inr ⟨w.heap.size,n,out,by rw[hv0,hxl],Nat.zero_le _,heap_alloc_new w _,by omega,by simp only[maxLen];have:=Nat.le_mul_of_pos_right n hpos;omega,?_,?_⟩⟩,?_,hpos⟩
     ·have:=congrArg List.length h2;rw[Array.length_toList,h3.length,hxl]at this;exact this
     ·rw[h2,hxl,←hxl,←h3.length,List.take_length]
     ·refine RDs.mono (fun c hc hlt=>⟨⟨fun m hm => ?_,hc.2⟩,S.blk c hlt⟩) h3
      by_cases hmn:m=wq43 d
      ·subst hmn
       simp only[blkOf,wq2o,if_pos,hv0,Value.ownBlock,Option.some.injEq]at hm
       omega
      ·simp only[blkOf,wq2o,if_neg hmn,Gh.set_bk,Gh.set_rv]at hm
       exact hc.1 m hm) (fun c hc=>by
     simp only[blkOf,wq2o,if_pos,hv0,Value.ownBlock,Option.some.injEq]at hc
     omega)
    have e1:setHs (mapH (frz h f) h) (wq83 f++[(wq43 d,some (.row e K xs))])=setH (wqac h f) (wq43 d) (some (.row e K xs)):=by
     rw[wqts];rfl
    refine⟨_,G.set (wq43 d) 0 (.slice (some ⟨w.heap.size,0,none⟩) n n),_,hrun,?_,?_,rfl,VarKept.ext obj (fun b hb=>heap_alloc_old w _ hb) _⟩
    ·show Loud h G w (setHs (mapH (frz h f) h) (wq83 f++[(wq43 d,some (.row e K xs))])) (frz h f) _ _
     rw[e1]
     exact A.then B
    ·show RV (setHs (mapH (frz h f) h) (wq83 f++[(wq43 d,some (.row e K xs))])) _ _ (.row (wq43 d)) _
     rw[e1]
     exact⟨by rw[hv0],e,K,xs,by rw[wq2o,if_pos rfl]⟩
  ·cases he
 ·cases he
theorem wq192{ok:Nat→Prop}{K:Kd}{z:Value}(h0:RD w ok K K.zero z.cells.toList)(hs:z.cells.size=K.sz)(hp:0<K.sz)(m:Nat):
 ∀ l,l*K.sz≤m→RDs w ok K (List.replicate l K.zero) ((madeCells z.cells m).toList.take (l*K.sz))
 |0,_=>by simp[RDs]
 |l+1,hl=>by
  rw[Nat.add_mul,Nat.one_mul]at hl ⊢
  rw[List.replicate_succ',List.take_add]
  refine RDs.append (wq192 h0 hs hp m l (by omega)) ⟨z.cells.toList,[],?_,h0,rfl⟩
  rw[List.append_nil]
  apply List.ext_getElem
  ·simp[madeCells,hs];omega
  ·intro j h1 h2
   have h2':j<K.sz:=by rw[←hs];simpa using h2
   have e:(l*K.sz+j) % z.cells.size=j:=by rw[hs,Nat.mul_add_mod',Nat.mod_eq_of_lt h2']
   simp only[List.getElem_take,List.getElem_drop,Array.getElem_toList,madeCells,Array.getElem_map,Array.getElem_range,e]
   rw[getElem!_pos z.cells j (by rw[hs];exact h2')]
theorem wq1c3 (T:TyOk P ty) (obj:∀ n o,h n=some o→RO h G w n o) (dis:Dis h G w) {s e:TypeId} {K:Kd} {b d:Nat} (hk:elKd ty s=some (e,K,b)) {n c:PV} {u v:Value}
 (he:evMake h d e K b n c=some ev) (hn:RV h G w n u) (hv:RV h G w c v) (hc:chkB ev.chk=true) :
 ∃ r G' w',(Instr.makeSlice s u v).run P w = .ok r w'∧Loud h G w (setHs (mapH ev.mp h) ev.hs) ev.mp G' w'∧RV (setHs (mapH ev.mp h) ev.hs) G' w' ev.val r∧VarKept h G w w' (keysOf ev.hs):=by
 obtain⟨hd,i,z,hi,hz,hsz,hby,hpos,hzs,hz0⟩:=wq10a T hk
 unfold evMake at he
 split at he
 ·next k x k' y =>
  split at he
  ·next hnm =>
   cases he
   have hm:mkB x y b=true:=hc
   simp only[mkB,Bool.and_eq_true,decide_eq_true_eq]at hm
   obtain⟨⟨⟨m1,m2⟩,m3⟩,m4⟩:=hm
   simp only[RV,RD,List.cons.injEq,and_true]at hn hv
   subst hn hv
   have hrun:=run_make (P:=P) w s e i z hd hi hz k k' x y m1 m2 (by rw[hby];exact m3) m4
   have S:Still w (w.alloc (.cells (madeCells z.cells (y.toNat*i.size)) e)):=(Still.refl w).alloc _
   have hv0:(G.set (wq43 d) 0 (.slice (some ⟨w.heap.size,0,none⟩) x.toNat y.toNat)).rv (wq43 d) = .slice (some ⟨w.heap.size,0,none⟩) x.toNat y.toNat:=by rw[Gh.set_rv,if_pos rfl]
   have hzl:(zeros K x).length=x.toNat:=by simp[zeros]
   have hle:x.toNat*K.sz≤y.toNat*i.size:=by rw[hsz];exact Nat.mul_le_mul_right _ (by omega)
   have B:=wqmb (o := .row e K (zeros K x)) (w':=w.alloc (.cells (madeCells z.cells (y.toNat*i.size)) e)) (b:=0) (v := .slice (some ⟨w.heap.size,0,none⟩) x.toNat y.toNat) obj dis hnm S (fun _=>by
    refine⟨(madeCells z.cells (y.toNat*i.size)).toList.take (x.toNat*K.sz),⟨?_,.inr ⟨w.heap.size,y.toNat,madeCells z.cells (y.toNat*i.size),by rw[hv0,hzl],Nat.zero_le _,heap_alloc_new w _,by rw[hzl];omega,by simp only[maxLen];omega,?_,?_⟩⟩,?_,hpos⟩
    ·rw[List.length_take,hzl,Array.length_toList,size_madeCells];omega
    ·rw[size_madeCells,hsz]
    ·rw[hzl]
    ·exact wq192 (hz0 _ _) hzs hpos _ _ hle) (fun c hc=>by
    simp only[blkOf,wq2o,if_pos,hv0,Value.ownBlock,Option.some.injEq]at hc
    omega)
   refine⟨_,_,_,hrun,B,?_,VarKept.ext obj (fun b hb=>heap_alloc_old w _ hb) _⟩
   exact⟨by rw[hv0],e,K,zeros K x,by simp[setHs,wq2o]⟩
  ·cases he
 ·cases he
end Go.Proofs.YtabkhphoacmcdaaGreatDoor.Pvm
end
