/- The Go function ConfigParses returns true for every slice of bytes. -/
import Derived.WalkKit
import Derived.Below
import Derived.DataElems
import Derived.Deep.Draws
import Derived.Laws.Slices
import Derived.Lib.ConvBytes
import Derived.Laws.StructEq
import Derived.Lib.AppendStr
import Derived.Great.BuildSlice
import Derived.Laws.MakeOwn
set_option linter.unusedVariables false
set_option linter.unusedSimpArgs false
set_option linter.unusedSectionVars false
noncomputable section
namespace Go.Proofs.YtabkhphoacmcdaaGreatDoor.Pvm
section
open Go
inductive Kd where
 |int (k:IntKind)|bool|str|flt
 |sl (e:Kd)|pr (a b:Kd)|nil
 deriving DecidableEq
@[reducible] def Kd.T:Kd->Type
 |.int _=>Int
 |.bool=>Bool
 |.str=>List UInt8
 |.flt=>Nat
 |.sl e=>List e.T
 |.pr a b=>a.T×b.T
 |.nil=>Unit
def Kd.sz:Kd->Nat
 |.pr a b=>a.sz+b.sz
 |.nil=>0
 |_=>1
def Kd.zero:(K:Kd)->K.T
 |.int _=>(0:Int)
 |.bool=>false
 |.str=>([]:List UInt8)
 |.flt=>(0:Nat)
 |.sl e=>([]:List e.T)
 |.pr a b=>(a.zero,b.zero)
 |.nil=>()
abbrev Nm:=Nat
inductive PV where
 |v (K:Kd) (x:K.T)
 |kb (b:Bool)
 |ng (b:Bool)
 |nilsl|nilptr|nilif
 |nps (n:Nm) (off:Nat)
 |ptr (n:Nm) (off:Nat)
 |row (n:Nm)
 |elp (K:Kd) (xs:List K.T) (i:Nat) (off:Nat)
 |elr (n:Nm) (i:Nat) (off:Nat)
 |agg (cs:List PV)
 |ifc (t:TypeId) (p:PV)
 |tup (ps:List PV)
 |clo (f:FuncId) (cap:List PV)
 |opt (g:List (Nat×Bool)) (c:Bool) (p:PV)
 |mpp (n:Nm)
 |nxt (s:List UInt8) (p:Int)
 |bv (K:Kd) (xs:List K.T)
 |elq (K:Kd) (xs:List K.T) (i:Nat) (off:Nat)
 |lp (K:Kd) (x:K.T) (off:Nat)
 |un
inductive MK where
 |one|agg|it
deriving DecidableEq
def MK.isAgg:MK->Bool
 |.agg=>true
 |_=>false
inductive HObj where
 |var (t:TypeId) (cs:List PV)
 |row (e:TypeId) (K:Kd) (xs:List K.T)
 |mp (ag:MK) (V:Kd) (es:List (List UInt8×V.T))
abbrev Je:=Nm->Option HObj
structure St where
 t:Nat->PV
 h:Je
inductive TK where
 |int (k:IntKind)|bool|str|flt|slice|ptr|struct|iface|map|other
structure TI where
 k:TK
 size:Nat
 bytes:Nat
 kd:Option Kd
 zero:List PV
 fs:List (Nat×TypeId)
 el:TypeId
 eqs:Bool
inductive Chk where
 |ok
 |c (b:Bool)
structure Ev where
 chk:Chk
 val:PV
 hs:List (Nm×Option HObj)
 mp:Option (PV->PV)
def Ev.pure(p:PV): Ev:=⟨.ok,p,[],none⟩
def Ev.when(b:Bool)(p:PV): Ev:=⟨.c b,p,[],none⟩
def Jx{α : Type}(l:List (Nat × α))(n:Nat): Option α :=
 match l with
 |[]=>none
 |(m,x)::r=>bif Nat.beq m n then some x else Jx r n
def U1(h:Je)(n:Nm)(o:Option HObj): Je:=fun m=>bif Nat.beq m n then o else h m
def JO(h:Je): List (Nm×Option HObj)->Je
 |[]=>h
 |(n,o)::r=>JO (U1 h n o) r
def J2s(d:Nat): List (Nat×Bool)->Bool
 |[]=>false
 |(s,_)::r=>bif Nat.beq s d then true else J2s d r
def JfZ(d:Nat): PV->PV
 |.opt g c p=>bif J2s d g then .un else .opt g c p
 |p=>p
def upd(t:Nat->PV)(d:Nat)(p:PV): Nat->PV:=fun i=>bif Nat.beq i d then p else JfZ d (t i)
def cv:Value->PV
 |.int k n => .v (.int k) n
 |.bool b => .v .bool b
 |.float .f64 b => .v .flt b
 |.string s => .v .str s.data.toList
 |.slice none 0 0 => .nilsl
 |.pointer none => .nilptr
 |.nilIface => .nilif
 |_ => .un
def St.get(s:St): Operand->PV
 |.tmp i=>s.t i
 |.const v=>cv v
 |.func f => .clo f []
 |.global _ => .un
def J2v(s:Nat)(b:Bool): List (Nat×Bool)->Bool
 |[]=>false
 |(s',b')::r=>bif Nat.beq s' s&&(b' == b)then true else J2v s b r
def JaS(G:List (Nat×Bool)): List (Nat×Bool)->Bool
 |[]=>true
 |(s,b)::r=>J2v s b G&&JaS G r
def QG(G:List (Nat×Bool)): PV->PV
 |.opt g _ p=>bif JaS G g then p else .un
 |.kb b => .v .bool b
 |.ng _ => .un
 |p=>p
def QU(K K':Kd)(x:K.T): Option K'.T :=
 if h:K=K' then some (h ▸ x)else none
def Kd.cells:(K:Kd)->K.T->List PV
 |.pr a b,x=>a.cells x.1++b.cells x.2
 |.nil,_=>[]
 |.int k,x=>[.v (.int k) x]
 |.bool,x=>[.v .bool x]
 |.str,x=>[.v .str x]
 |.flt,x=>[.v .flt x]
 |.sl e,x=>[.v (.sl e) x]
def leaf(h:Je)(K:Kd): PV->Option (K.T×List Nm)
 |.v K' x=>(QU K' K x).map fun y=>(y,[])
 |.kb b=>(QU .bool K b).map fun y=>(y,[])
 |.nilsl=>match K with
  |.sl _=>some ([],[])
  |_=>none
 |.row n=>match h n with
  |some (.row _ K' xs)=>(QU (.sl K') K xs).map fun y=>(y,[n])
  |_=>none
 |_=>none
def Kd.dec(h:Je): (K:Kd)->List PV->Option (K.T×List PV×List Nm)
 |.pr a b,cs=>match a.dec h cs with
  |some (x,r,f)=>match b.dec h r with
   |some (y,r',f')=>some ((x,y),r',f++f')
   |none=>none
  |none=>none
 |.nil,cs=>some ((),cs,[])
 |K,c::r=>match leaf h K c with
  |some (x,f)=>some (x,r,f)
  |none=>none
 |_,[]=>none
def Kd.decAll(h:Je)(K:Kd)(cs:List PV): Option (K.T×List Nm) :=
 match K.dec h cs with
 |some (x,[],f)=>some (x,f)
 |_=>none
def cellsOf:PV->List PV
 |.agg cs=>cs
 |p=>[p]
mutual
def PV.mapR(f:Nm->PV): PV->PV
 |.row m=>f m
 |.agg cs => .agg (mapRs f cs)
 |.tup ps => .tup (mapRs f ps)
 |.ifc t p => .ifc t (p.mapR f)
 |.clo g cap => .clo g (mapRs f cap)
 |.opt g c p => .opt g c (p.mapR f)
 |.v K x => .v K x
 |.kb b => .kb b
 |.ng b => .ng b
 |.nilsl => .nilsl
 |.nilptr => .nilptr
 |.nilif => .nilif
 |.nps n off => .nps n off
 |.ptr n off => .ptr n off
 |.elp K xs i off => .elp K xs i off
 |.elr n i off=>match f n with
  |.row m => .elr m i off
  |_ => .un
 |.mpp n => .mpp n
 |.nxt s p => .nxt s p
 |.bv K xs => .bv K xs
 |.elq K xs i off => .elq K xs i off
 |.lp K x off => .lp K x off
 |.un => .un
def mapRs(f:Nm->PV): List PV->List PV
 |[]=>[]
 |p::r=>p.mapR f::mapRs f r
end
def QV(n:Nm): List Nm->Bool
 |[]=>false
 |m::r=>bif Nat.beq m n then true else QV n r
def frz(h:Je)(l:List Nm): Option (PV->PV) :=
 match l with
 |[]=>none
 |l=>some (PV.mapR fun m=>bif QV m l then(match h m with
  |some (.row _ K xs) => .v (.sl K) xs
  |_ => .un)else .row m)
def J2w(n:Nm): PV->PV:=PV.mapR fun m=>bif Nat.beq m n then .un else .row m
def Ze:List Nm->List (Nm×Option HObj)
 |[]=>[]
 |n::r=>(n,none)::Ze r
def J2F(f:Option (PV->PV))(t:Nat->PV): Nat->PV :=
 match f with
 |none=>t
 |some f=>fun i=>f (t i)
def J1J(f:PV->PV): HObj->HObj
 |.var t cs => .var t (cs.map f)
 |o=>o
def JU(f:Option (PV->PV))(h:Je): Je :=
 match f with
 |none=>h
 |some f=>fun n=>match h n with
  |some o=>some (J1J f o)
  |none=>none
def ZD(op:BinOp)(k:IntKind)(x y:Int): Int :=
 let a:=BitVec.ofInt k.bits x
 let b:=BitVec.ofInt k.bits y
 k.wrap (match op with
  |.and=>a &&& b
  |.or=>a ||| b
  |.xor=>a ^^^ b
  |_=>a &&& ~~~b).toNat
def Jn8(k:IntKind)(x y:Int): Int:=k.wrap (x*2 ^ (min y.toNat k.bits))
def Jn9(k:IntKind)(x y:Int): Int:=x.fdiv (2 ^ (min y.toNat k.bits))
def J1f:Nat:=9223372036854775807
def Ye(a b:List UInt8): Bool:=decide (a.length+b.length≤J1f)
def JlW:BinOp->Bool
 |.shl=>true
 |.shr=>true
 |_=>false
def Jms(op:BinOp)(k:IntKind)(a b:Int): Option Ev :=
 match op with
 |.add=>some (.pure (.v (.int k) (k.wrap (a+b))))
 |.sub=>some (.pure (.v (.int k) (k.wrap (a-b))))
 |.mul=>some (.pure (.v (.int k) (k.wrap (a*b))))
 |.quo=>some (.when (b != 0) (.v (.int k) (k.wrap (a.tdiv b))))
 |.rem=>some (.when (b != 0) (.v (.int k) (a.tmod b)))
 |.and=>some (.pure (.v (.int k) (ZD .and k a b)))
 |.or=>some (.pure (.v (.int k) (ZD .or k a b)))
 |.xor=>some (.pure (.v (.int k) (ZD .xor k a b)))
 |.andNot=>some (.pure (.v (.int k) (ZD .andNot k a b)))
 |.eql=>some (.pure (.v .bool (a == b)))
 |.neq=>some (.pure (.v .bool (a != b)))
 |.lss=>some (.pure (.v .bool (decide (a<b))))
 |.leq=>some (.pure (.v .bool (decide (a≤b))))
 |.gtr=>some (.pure (.v .bool (decide (a>b))))
 |.geq=>some (.pure (.v .bool (decide (a≥b))))
 |_=>none
def Jmt(op:BinOp)(a b:List UInt8): Option Ev :=
 match op with
 |.add=>some (.when (Ye a b) (.v .str (a++b)))
 |.eql=>some (.pure (.v .bool (a == b)))
 |.neq=>some (.pure (.v .bool (!(a == b))))
 |.lss=>some (.pure (.v .bool (Op.bytesLess a b)))
 |.leq=>some (.pure (.v .bool (Op.bytesLess a b || a == b)))
 |.gtr=>some (.pure (.v .bool (!(Op.bytesLess a b || a == b))))
 |.geq=>some (.pure (.v .bool (!(Op.bytesLess a b))))
 |_=>none
def Jq(op:BinOp)(a b:Nat): Option Nat :=
 match op with
 |.add=>FloatKind.f64.format.add a b
 |.sub=>FloatKind.f64.format.sub a b
 |.mul=>FloatKind.f64.format.mul a b
 |.quo=>FloatKind.f64.format.div a b
 |_=>none
def QW(a b:Nat): Option Ordering:=FloatKind.f64.format.order a b
def Jr(op:BinOp)(a b:Nat): Bool :=
 match op with
 |.eql=>QW a b == some .eq
 |.neq=>QW a b != some .eq
 |.lss=>QW a b == some .lt
 |.leq=>QW a b == some .lt || QW a b == some .eq
 |.gtr=>QW a b == some .gt
 |_=>QW a b == some .gt || QW a b == some .eq
def Jvf:BinOp->Bool
 |.eql=>true
 |.neq=>true
 |.lss=>true
 |.leq=>true
 |.gtr=>true
 |.geq=>true
 |_=>false
def Jmu(op:BinOp)(a b:Nat): Option Ev :=
 bif Jvf op then some (.pure (.v .bool (Jr op a b)))else some (.when (Jq op a b).isSome (.v .flt ((Jq op a b).getD 0)))
def Jo(n:Int): Nat:=FloatKind.f64.nearest n
def JX(b:Nat): Option Int:=(FloatKind.f64.decode b).toInt .zero
def J2x(k:IntKind)(b:Nat): Bool :=
 match JX b with
 |some n=>decide (k.min≤n)&&decide (n≤k.max)
 |none=>false
def Ul(b:Nat): Nat:=Op.negFloat .f64 b
def JaT(k:TK)(a b:PV): Option Bool :=
 match k,a,b with
 |.int _,.v (.int k1) x,.v (.int k2) y=>if k1=k2 then some (@BEq.beq Int _ x y)else none
 |.bool,.v .bool x,.v .bool y=>some (@BEq.beq Bool _ x y)
 |.str,.v .str x,.v .str y=>some (@BEq.beq (List UInt8) _ x y)
 |.flt,.v .flt x,.v .flt y=>some (Jr .eql x y)
 |_,_,_=>none
noncomputable def J5t(ty:TypeId->Option TI): Nat->List (Nat×TypeId)->List PV->List PV->Option Bool
 |_,[],[],[]=>some true
 |n,(o,t)::fs,a::r,b::s=>bif Nat.beq o n then match ty t with
  |some ti=>match JaT ti.k a b with
   |some x=>match fs with
    |[]=>match r,s with
     |[],[]=>some x
     |_,_=>none
    |fs=>match J5t ty (n+1) fs r s with
     |some y=>some (x&&y)
     |none=>none
   |none=>none
  |none=>none
  else none
 |_,_,_,_=>none
def JmL(op:BinOp)(b:Option Bool): Option Ev :=
 match op,b with
 |.eql,some b=>some (.pure (.v .bool b))
 |.neq,some b=>some (.pure (.v .bool (!b)))
 |_,_=>none
def JmM(ti:TI): Bool :=
 match ti.k with
 |.struct=>ti.eqs
 |_=>true
def Jgh(ty:TypeId->Option TI)(ti:TI)(cst:Bool)(a b:PV): Option Bool :=
 bif JmM ti then match ti.k,a,b with
  |.bool,.v .bool x,.v .bool y=>some (x == y)
  |.struct,.agg xs,.agg ys=>J5t ty 0 ti.fs xs ys
  |.ptr,.nilptr,.nilptr=>some true
  |.ptr,.ptr _ _,.nilptr=>some false
  |.ptr,.nilptr,.ptr _ _=>some false
  |.iface,.nilif,.nilif=>bif cst then some true else none
  |.iface,.ifc _ _,.nilif=>some false
  |.iface,.nilif,.ifc _ _=>some false
  |_,_,_=>none
 else none
def Zg:Operand->Bool
 |.const _=>true
 |_=>false
def Jna(op:UnOp)(a:PV): Option Ev :=
 match op,a with
 |.neg,.v (.int k) x=>some (.pure (.v (.int k) (k.wrap (0-x))))
 |.xor,.v (.int k) x=>some (.pure (.v (.int k) (ZD .xor k (if k.signed then -1 else k.max) x)))
 |.not,.v .bool x=>some (.pure (.v .bool (!x)))
 |.neg,.v .flt x=>some (.pure (.v .flt (Ul x)))
 |_,_=>none
def Js(s:List UInt8): List Int:=s.map fun b=>(b.toNat:Int)
def Q5(l:List Int): List UInt8:=l.map fun n=>UInt8.ofNat n.toNat
def J3v(ti:TI)(off:Nat)(cs:List PV): Option PV :=
 match ti.k with
 |.struct=>bif Nat.ble (off+ti.size) cs.length then some (.agg ((cs.drop off).take ti.size))else none
 |_=>cs[off]?
def J8N(cs:List PV)(off:Nat)(new:List PV): List PV :=
 match new with
 |[]=>cs
 |p::r=>J8N (cs.set off p) (off+1) r
def J3w:PV->Bool
 |.agg _=>false
 |.tup _=>false
 |.nxt _ _=>false
 |.un=>false
 |.ng _=>false
 |.opt _ _ _=>false
 |_=>true
def UG:List PV->Bool
 |[]=>true
 |p::r=>J3w p&&UG r
def Jg0(place:Nat->Option (Nat×Nat))(cs:List PV): List (Nat×PV)->Option (List PV)
 |[]=>some cs
 |(i,p)::r=>match place i with
  |some (off,n)=>bif UG (cellsOf p)&&Nat.beq (cellsOf p).length n&&Nat.ble (off+n) cs.length then Jg0 place (J8N cs off (cellsOf p)) r else none
  |none=>none
def JmN(h:Je)(K:Kd): PV->Option (List K.T)
 |.v (.sl K') xs=>QU (.sl K') (.sl K) xs
 |.v .str s=>QU (.sl (.int .u8)) (.sl K) (Js s)
 |.row n=>match h n with
  |some (.row _ K' xs)=>QU (.sl K') (.sl K) xs
  |_=>none
 |.nilsl=>some []
 |_=>none
def JvZ(n:Nm): PV->Bool
 |.row m => !Nat.beq m n
 |_=>true
def Ju(n m b:Nat): Bool:=decide (n+m≤J1f)&&decide ((n+m)*b≤140737488355328)
def JlX(h:Je): PV->Option (List PV×Nat)
 |.ptr n off=>match h n with
  |some (.var _ cs)=>some (cs,off)
  |_=>none
 |.elp K xs i off=>some (K.cells (xs.getD i K.zero),off)
 |.elq K xs i off=>some (K.cells (xs.getD i K.zero),off)
 |.lp K x off=>some (K.cells x,off)
 |.elr n i off=>match h n with
  |some (.row _ K xs)=>some (K.cells (xs.getD i K.zero),off)
  |_=>none
 |_=>none
def Q7(d:Nat): Nm:=(d+1)*100
def ZE(h:Je)(K:Kd): Nat->List (Nat×PV)->Option (List K.T×List Nm)
 |_,[]=>some ([],[])
 |k,(i,p)::r=>bif Nat.beq i k&&UG (cellsOf p)then match K.decAll h (cellsOf p),ZE h K (k+1) r with
  |some (x,f),some (l,f')=>some (x::l,f++f')
  |_,_=>none
  else none
def bnd(lo hi n:Int): Bool:=decide (0≤lo)&&decide (lo≤hi)&&decide (hi≤n)
def cut{α : Type}(xs:List α)(lo hi:Int): List α := (xs.take hi.toNat).drop lo.toNat
def inb(i n:Int): Bool:=decide (0≤i)&&decide (i<n)
def intOf? : PV->Option Int
 |.v (.int _) n=>some n
 |_=>none
def J06(u:Operand->PV)(o:Option Operand)(d:Int): Option Int :=
 match o with
 |none=>some d
 |some x=>intOf? (u x)
def YD(ty:TypeId->Option TI)(t:TypeId): Option Nat :=
 match ty t with
 |some ti=>match ti.k with
  |.slice=>match ty ti.el with
   |some ei=>some ei.size
   |none=>none
  |_=>none
 |none=>none
def J1K(ty:TypeId->Option TI)(t:TypeId): Option (TypeId×Kd×Nat) :=
 match ty t with
 |some ti=>match ti.k with
  |.slice=>match ty ti.el with
   |some ei=>match ei.kd with
    |some K=>some (ti.el,K,ei.bytes)
    |none=>none
   |none=>none
  |_=>none
 |none=>none
def YA(ty:TypeId->Option TI)(t:TypeId): Bool :=
 match ty t with
 |some ti=>match ti.k with
  |.str=>true
  |_=>false
 |none=>false
def J5u(ty:TypeId->Option TI)(s:TypeId)(f:Nat): Option (Nat×TI) :=
 match ty s with
 |some ti=>match ti.k with
  |.struct=>match ti.fs[f]? with
   |some (o,ft)=>match ty ft with
    |some fi=>some (o,fi)
    |none=>none
   |none=>none
  |_=>none
 |none=>none
def JfE(ti:TI): PV :=
 match ti.k with
 |.struct => .agg ti.zero
 |_=>ti.zero.headD .un
def UH(ag:Bool)(V:Kd)(x:V.T): PV :=
 bif ag then .agg (V.cells x)else match V.cells x with
  |[p]=>p
  |_ => .un
def Yv(V:Kd)(key:List UInt8): List (List UInt8×V.T)->V.T
 |[]=>V.zero
 |(k,x)::r=>bif key == k then x else Yv V key r
def J5V(V:Kd)(key:List UInt8): List (List UInt8×V.T)->Bool
 |[]=>false
 |(k,_)::r=>bif key == k then true else J5V V key r
def Z2(V:Kd)(key:List UInt8)(y:V.T): List (List UInt8×V.T)->List (List UInt8×V.T)
 |[]=>[(key,y)]
 |(k,x)::r=>bif key == k then(key,y)::r else(k,x)::Z2 V key y r
def JeZ(h:Je)(d:Nat)(ag:MK)(V:Kd): Option Ev :=
 match h (Q7 d)with
 |none=>some ⟨.ok,.mpp (Q7 d),[(Q7 d,some (.mp ag V []))],none⟩
 |some _=>none
def Jf7(h:Je)(ag':MK)(V':Kd)(ok:Bool)(x i:PV): Option Ev :=
 match x,i with
 |.mpp n,.v .str key=>match h n with
  |some (.mp ag V es)=>if V'=V∧ag'=ag then some (.pure (bif ok then .tup [UH ag.isAgg V (Yv V key es),.v .bool (J5V V key es)]else UH ag.isAgg V (Yv V key es)))else none
  |_=>none
 |_,_=>none
def Jbg:PV->MK
 |.agg _ => .agg
 |_ => .one
def JeG(h:Je)(x i p:PV): Option Ev :=
 match x,i with
 |.mpp n,.v .str key=>match h n with
  |some (.mp ag V es)=>match V.decAll h (cellsOf p)with
   |some (y,[])=>bif decide (Jbg p=ag)&&UG (cellsOf p)then some ⟨.ok,.un,[(n,some (.mp ag V (Z2 V key y es)))],none⟩else none
   |_=>none
  |_=>none
 |_,_=>none
def J8Y(s:List UInt8)(p:Int): Int:=((Utf8.decode ⟨s.toArray⟩ p.toNat).2:Nat)
def YE(s:List UInt8)(p:Int): Int:=((Utf8.decode ⟨s.toArray⟩ p.toNat).1:Nat)
def Z3(s:List UInt8)(p:Int): Int:=bif decide (p<(s.length:Int))then p+J8Y s p else p
def J8Z(V:Kd)(es:List (List UInt8×V.T)): Option (List UInt8×Int) :=
 match V,es with
 |.int .i64,[(s,p)]=>some (s,p)
 |_,_=>none
def Jfq(h:Je)(d:Nat)(x:PV): Option Ev :=
 match x with
 |.v .str s=>match h (Q7 d)with
  |none=>some ⟨.ok,.mpp (Q7 d),[(Q7 d,some (.mp .it (.int .i64) [(s,(0:Int))]))],none⟩
  |some _=>none
 |_=>none
def JfF(h:Je)(x:PV): Option Ev :=
 match x with
 |.mpp n=>match h n with
  |some (.mp .it V es)=>match J8Z V es with
   |some (s,p)=>some ⟨.ok,.nxt s p,[(n,some (.mp .it (.int .i64) [(s,Z3 s p)]))],none⟩
   |none=>none
  |_=>none
 |_=>none
def J5M(ty:TypeId->Option TI)(t:TypeId): Option (MK×Kd) :=
 match ty t with
 |some ti=>match ti.k with
  |.map=>match ty ti.el with
   |some ei=>match ei.kd with
    |some V=>some ((match ei.k with | .struct=>MK.agg|_=>MK.one),V)
    |none=>none
   |none=>none
  |_=>none
 |none=>none
def J5C:PV->Option Ev
 |.un=>none
 |.opt _ _ _=>none
 |p=>some (.pure p)
def Jb6(ty:TypeId->Option TI)(t:TypeId)(op:BinOp)(cst:Bool)(a b:PV): Option Ev :=
 match a,b with
 |.v (.int k) x,.v (.int k') y=>match op with
  |.shl=>some (.when (decide (0≤y)) (.v (.int k) (Jn8 k x y)))
  |.shr=>some (.when (decide (0≤y)) (.v (.int k) (Jn9 k x y)))
  |op=>if k=k' then Jms op k x y else none
 |.v .str x,.v .str y=>Jmt op x y
 |.v .flt x,.v .flt y=>Jmu op x y
 |a,b=>match ty t with
  |some ti=>JmL op (Jgh ty ti cst a b)
  |none=>none
def JkX(p:PV)(i:Nat): Option Ev :=
 match p with
 |.tup ps=>match ps[i]? with
  |some p=>J5C p
  |none=>none
 |.nxt s p=>match i with
  |0=>some (.pure (.v .bool (decide (p<(s.length:Int)))))
  |1=>some (.when (decide (p<(s.length:Int))) (.v (.int .i64) p))
  |2=>some (.when (decide (p<(s.length:Int))) (.v (.int .i32) (YE s p)))
  |_=>none
 |_=>none
def JmO(p:PV): Option Ev :=
 match p with
 |.ptr n off=>some (.pure (.ptr n off))
 |.elp K xs i off=>some (.pure (.elp K xs i off))
 |.lp K x off=>some (.pure (.lp K x off))
 |.elr n i off=>some (.pure (.elr n i off))
 |.clo f cap=>some (.pure (.clo f cap))
 |_=>none
def JjY(o:Nat)(fi:TI)(p:PV): Option Ev :=
 bif Nat.beq fi.size 0 then none else match p with
  |.ptr n off=>some (.pure (.ptr n (off+o)))
  |.elp K xs i off=>some (.pure (.elp K xs i (off+o)))
  |.elq K xs i off=>some (.pure (.elq K xs i (off+o)))
  |.lp K x off=>some (.pure (.lp K x (off+o)))
  |.elr n i off=>some (.pure (.elr n i (off+o)))
  |_=>none
def JlY(o:Nat)(fi:TI)(p:PV): Option Ev :=
 match p with
 |.agg cs=>match J3v fi o cs with
  |some p=>J5C p
  |none=>none
 |_=>none
def JlZ(ty:TypeId->Option TI)(fs:List (Nat×TypeId))(i:Nat): Option (Nat×Nat) :=
 match fs[i]? with
 |some (off,t)=>match ty t with
  |some ti=>some (off,ti.size)
  |none=>none
 |none=>none
def Jm0(ty:TypeId->Option TI)(ti:TI)(parts:List (Nat×PV)): Option Ev :=
 match ti.k with
 |.struct=>match Jg0 (JlZ ty ti.fs) ti.zero parts with
  |some cs=>some (.pure (.agg cs))
  |none=>none
 |_=>none
def Jm1(s:TypeId)(ti:TI)(p:PV): Option Ev :=
 match ti.k,p with
 |.iface,_=>none
 |_,.un=>none
 |_,.opt _ _ _=>none
 |_,p=>some (.pure (.ifc s p))
def Jlr(ti:TI)(aT_:TypeId)(ok:Bool)(p:PV): Option Ev :=
 match ti.k with
 |.iface=>none
 |_=>match p with
  |.ifc s p=>bif Nat.beq s aT_ then some (.pure (bif ok then .tup [p,.v .bool true]else p))
   else bif ok then some (.pure (.tup [JfE ti,.v .bool false]))else none
  |.nilif=>bif ok then some (.pure (.tup [JfE ti,.v .bool false]))else none
  |_=>none
def Jm2(x i:PV): Option Ev :=
 match x,i with
 |.v .str s,.v (.int _) n=>some (.when (inb n s.length) (.v (.int .u8) ((s.getD n.toNat 0).toNat:Int)))
 |_,_=>none
def Jls(s:List UInt8)(l r:Option Int): Option Ev :=
 match l,r with
 |some l,some r=>some (.when (bnd l r s.length) (.v .str (cut s l r)))
 |_,_=>none
def J8q(K:Kd)(xs:List K.T)(l r:Option Int): Option Ev :=
 match l,r with
 |some l,some r=>some (.when (bnd l r xs.length) (.v (.sl K) (cut xs l r)))
 |_,_=>none
def Jlt(h:Je)(n:Nm)(K:Kd)(xs:List K.T)(l r:Option Int): Option Ev :=
 match l,r with
 |some l,some r=>some ⟨.c (bnd l r xs.length),.v (.sl K) (cut xs l r),[(n,none)],frz h [n]⟩
 |_,_=>none
def JaF(ty:TypeId->Option TI)(h:Je)(xt:TypeId)(x:PV)(l r:Int->Option Int): Option Ev :=
 match x with
 |.v .str s=>bif YA ty xt then Jls s (l 0) (r s.length)else none
 |.v (.sl K) xs=>match YD ty xt with
  |some z=>bif Nat.beq z K.sz then J8q K xs (l 0) (r xs.length)else none
  |none=>none
 |.row n=>match h n with
  |some (.row _ K xs)=>match YD ty xt with
   |some z=>bif Nat.beq z K.sz then Jlt h n K xs (l 0) (r xs.length)else none
   |none=>none
  |_=>none
 |.nilsl=>match J1K ty xt with
  |some (_,K,_)=>J8q K [] (l 0) (r 0)
  |none=>none
 |_=>none
def JjZ(ty:TypeId->Option TI)(h:Je)(t:TypeId)(x i:PV): Option Ev :=
 match x,i with
 |.v (.sl K) xs,.v (.int _) n=>match YD ty t with
  |some z=>bif Nat.beq z K.sz then some (.when (inb n xs.length) (.elp K xs n.toNat 0))else none
  |none=>none
 |.row m,.v (.int _) n=>match h m with
  |some (.row _ K xs)=>match YD ty t with
   |some z=>bif Nat.beq z K.sz then some (.when (inb n xs.length) (.elr m n.toNat 0))else none
   |none=>none
  |_=>none
 |.bv K xs,.v (.int _) n=>match YD ty t with
  |some z=>bif Nat.beq z K.sz then some (.when (inb n xs.length) (.elq K xs n.toNat 0))else none
  |none=>none
 |_,_=>none
def J8H(ti:TI)(h:Je)(a:PV): Option Ev :=
 match JlX h a with
 |some (cs,off)=>match J3v ti off cs with
  |some p=>J5C p
  |none=>none
 |none=>none
def Jfr(ti:TI)(h:Je)(a p:PV): Option Ev :=
 bif UG (cellsOf p)&&Nat.beq (cellsOf p).length ti.size then match a with
  |.ptr n off=>match h n with
   |some (.var t cs)=>bif Nat.ble (off+ti.size) cs.length then
    some ⟨.ok,.un,[(n,some (.var t (J8N cs off (cellsOf p))))],none⟩else none
   |_=>none
  |.elr n i off=>match h n with
   |some (.row e K xs)=>bif Nat.ble (off+ti.size) K.sz then
    (match K.decAll h (J8N (K.cells (xs.getD i K.zero)) off (cellsOf p))with
    |some (y,f)=>bif QV n f then none else some ⟨.ok,.un,Ze f++[(n,some (.row e K (xs.set i y)))],frz h f⟩
    |none=>none)else none
   |_=>none
  |_=>none
 else none
def Jfs(ti:TI)(s:TypeId)(h:Je)(d:Nat): Option Ev :=
 match h (Q7 d)with
 |none=>some ⟨.ok,.ptr (Q7 d) 0,[(Q7 d,some (.var s ti.zero))],none⟩
 |some _=>none
def Jg1(s:TypeId)(h:Je)(d:Nat)(p:PV): Option Ev :=
 bif UG (cellsOf p)then match h (Q7 d)with
  |none=>some ⟨.ok,.ptr (Q7 d) 0,[(Q7 d,some (.var s (cellsOf p)))],none⟩
  |some _=>none
 else none
def Jeq(h:Je)(d:Nat)(e:TypeId)(K:Kd)(n:Nat)(parts:List (Nat×PV)): Option Ev :=
 match h (Q7 d)with
 |none=>match ZE h K 0 parts with
  |some (xs,f)=>bif Nat.beq parts.length n&&Nat.ble (n*K.sz) 16777216 then some ⟨.ok,.row (Q7 d),Ze f++[(Q7 d,some (.row e K xs))],frz h f⟩else none
  |none=>none
 |some _=>none
def mkB(x y:Int)(b:Nat): Bool:=decide (0≤x)&&decide (x≤y)&&decide ((b:Int)*y≤281474976710656)&&decide (y≤9223372036854775807)
def zeros(K:Kd)(x:Int): List K.T:=List.replicate x.toNat K.zero
def JfG(h:Je)(d:Nat)(e:TypeId)(K:Kd)(b:Nat)(n c:PV): Option Ev :=
 match n,c with
 |.v (.int _) x,.v (.int _) y=>match h (Q7 d)with
  |none=>some ⟨.c (mkB x y b),.row (Q7 d),[(Q7 d,some (.row e K (zeros K x)))],none⟩
  |some _=>none
 |_,_=>none
def Jlu(ty:TypeId->Option TI)(xt:TypeId)(x:PV)(l r m:Option Int): Option Ev :=
 match x,l,r,m with
 |.v (.sl K) xs,some l,some r,some m=>match YD ty xt with
  |some z=>bif Nat.beq z K.sz then some (.when (bnd l r m&&decide (m≤xs.length)) (.v (.sl K) (cut xs l r)))else none
  |none=>none
 |_,_,_,_=>none
def J04(ty:TypeId->Option TI)(t:TypeId): Bool :=
 match ty t with
 |some ti=>match ti.k with
  |.slice=>match ty ti.el with
   |some ei=>match ei.k with
    |.int .u8=>true
    |_=>false
   |none=>false
  |_=>false
 |none=>false
def JkY(ty:TypeId->Option TI)(h:Je)(s r:TypeId)(x:PV): Option Ev :=
 match ty s,ty r with
 |some a,some b=>match b.k,x with
  |.int k,.v (.int _) n=>some (.pure (.v (.int k) (k.wrap n)))
  |.flt,.v (.int _) n=>some (.pure (.v .flt (Jo n)))
  |.int k,.v .flt b=>some (.when (J2x k b) (.v (.int k) ((JX b).getD 0)))
  |.str,.v .str l=>some (.pure (.v .str l))
  |.str,.v (.int _) n=>some (.pure (.v .str (Utf8.encode n).data.toList))
  |.str,.v (.sl (.int .u8)) l=>bif J04 ty s then some (.pure (.v .str (Q5 l)))else none
  |.str,.row m=>match h m with
   |some (.row _ (.int .u8) xs)=>bif J04 ty s then some (.pure (.v .str (Q5 xs)))else none
   |_=>none
  |.str,.nilsl=>bif J04 ty s then some (.pure (.v .str []))else none
  |.slice,.v .str l=>bif J04 ty r&&YA ty s then some (.pure (.v (.sl (.int .u8)) (Js l)))else none
  |_,_=>match a.k with
   |_=>none
 |_,_=>none
def JfH(ty:TypeId->Option TI)(h:Je)(s r:TypeId)(x:PV): Option Ev :=
 match x with
 |.row m=>bif Nat.beq s r&&J04 ty s then(match h m with
  |some (.row _ (.int .u8) (y::ys))=>some ⟨.ok,.v (.sl (.int .u8)) (y::ys),[(m,none)],frz h [m]⟩
  |_=>none)else none
 |_=>none
def Jf8(h:Je)(d:Nat)(e:TypeId)(K:Kd)(bytes:Nat)(x y:PV): Option Ev :=
 match JmN h K y with
 |some ys=>match x with
  |.nilsl=>match h (Q7 d)with
   |none=>some ⟨.c (Ju 0 ys.length bytes),.row (Q7 d),[(Q7 d,some (.row e K ys))],none⟩
   |some _=>none
  |.row n=>match h n with
   |some (.row e' K' xs)=>match QU (.sl K') (.sl K) xs with
    |some xs=>bif JvZ n y&&Nat.beq e' e then some ⟨.c (Ju xs.length ys.length bytes),.row n,[(n,some (.row e K (xs++ys)))],some (J2w n)⟩else none
    |none=>none
   |_=>none
  |_=>none
 |none=>none
def Jf9(mx:Bool)(x y:PV): Option Ev :=
 match x,y with
 |.v (.int k) a,.v (.int k') b=>if k=k' then some (.pure (.v (.int k) (bif mx then(if b>a then b else a)else(if b<a then b else a))))else none
 |_,_=>none
def J2G(ty:TypeId->Option TI)(y:PV)(t t':TypeId)(b:Nat): Bool :=
 match y with
 |.v .str _=>YA ty t'&&J04 ty t&&Nat.beq b 1
 |_=>Nat.beq t t'
def JmP(ty:TypeId->Option TI)(h:Je)(t:TypeId)(p:PV): Option Ev :=
 match p with
 |.v .str s=>bif YA ty t then some (.pure (.v (.int .i64) (s.length:Int)))else none
 |.v (.sl _) xs=>bif (YD ty t).isSome then some (.pure (.v (.int .i64) (xs.length:Int)))else none
 |.nilsl=>bif (YD ty t).isSome then some (.pure (.v (.int .i64) (0:Int)))else none
 |.row n=>match h n with
  |some (.row _ _ xs)=>bif (YD ty t).isSome then some (.pure (.v (.int .i64) (xs.length:Int)))else none
  |_=>none
 |.bv _ xs=>bif (YD ty t).isSome then some (.pure (.v (.int .i64) (xs.length:Int)))else none
 |_=>none
def Jmv(ty:TypeId->Option TI)(u:Operand->PV)(h:Je)(d:Nat)(b:Builtin)(args:List Operand)(ts:List TypeId): Option Ev :=
 match b,args,ts with
 |.len,[x],[t]=>JmP ty h t (u x)
 |.append,[x,y],[t,t']=>match J1K ty t with
  |some (e,K,b)=>bif J2G ty (u y) t t' b then Jf8 h d e K b (u x) (u y)else none
  |none=>none
 |.min,[x,y],_=>Jf9 false (u x) (u y)
 |.max,[x,y],_=>Jf9 true (u x) (u y)
 |_,_,_=>none
def Zh(ty:TypeId->Option TI)(u:Operand->PV)(h:Je)(d:Nat)(op:Op): Option Ev :=
 match op with
 |.move x=>J5C (u x)
 |.assign x=>J5C (u x)
 |.binOp op t x y _=>Jb6 ty t op (Zg x || Zg y) (u x) (u y)
 |.unOp op _ x=>Jna op (u x)
 |.extract x i=>JkX (u x) i
 |.nilCheck x=>JmO (u x)
 |.fieldAddr s x f=>match J5u ty s f with
  |some (o,fi)=>JjY o fi (u x)
  |none=>none
 |.field s x f=>match J5u ty s f with
  |some (o,fi)=>JlY o fi (u x)
  |none=>none
 |.build s parts=>match ty s with
  |some ti=>Jm0 ty ti (parts.toList.map fun(i,x)=>(i,u x))
  |none=>none
 |.makeInterface s x=>match ty s with
  |some ti=>Jm1 s ti (u x)
  |none=>none
 |.typeAssert x _ aT_ ok=>match ty aT_ with
  |some ti=>Jlr ti aT_ ok (u x)
  |none=>none
 |.makeFunc (.func f) first caps=>bif Nat.beq first.size 0 then some (.pure (.clo f (caps.toList.map u)))else none
 |.index t x i=>bif YA ty t then Jm2 (u x) (u i)else none
 |.slice xt x lo hi none=>JaF ty h xt (u x) (J06 u lo) (J06 u hi)
 |.slice xt x lo (some hi) (some mx)=>Jlu ty xt (u x) (J06 u lo 0) (J06 u (some hi) 0) (J06 u (some mx) 0)
 |.indexAddr t x i=>JjZ ty h t (u x) (u i)
 |.load s a=>match ty s with
  |some ti=>J8H ti h (u a)
  |none=>none
 |.store s a x=>match ty s with
  |some ti=>Jfr ti h (u a) (u x)
  |none=>none
 |.alloc s=>match ty s with
  |some ti=>Jfs ti s h d
  |none=>none
 |.box s x=>Jg1 s h d (u x)
 |.buildSlice s n parts=>match J1K ty s with
  |some (e,K,_)=>Jeq h d e K n (parts.toList.map fun(i,x)=>(i,u x))
  |none=>none
 |.makeSlice s l c=>match J1K ty s with
  |some (e,K,b)=>JfG h d e K b (u l) (u c)
  |none=>none
 |.convert s r x=>match JfH ty h s r (u x)with
  |some ev=>some ev
  |none=>JkY ty h s r (u x)
 |.makeMap s none=>match J5M ty s with
  |some (ag,V)=>JeZ h d ag V
  |none=>none
 |.range t x=>bif YA ty t then Jfq h d (u x)else none
 |.next x true=>JfF h (u x)
 |.lookup s x i ok=>match J5M ty s with
  |some (ag,V)=>Jf7 h ag V ok (u x) (u i)
  |none=>none
 |.mapUpdate s x i p=>match J5M ty s with
  |some _=>JeG h (u x) (u i) (u p)
  |none=>none
 |.call { callee := .builtin b,args,argTypes }=>Jmv ty u h d b args.toList argTypes.toList
 |_=>none
end
section
open Go
inductive LS where
 |any
 |sl (K:Kd)
 |own (nm:Nm) (e:TypeId) (K:Kd)
 |obj (nm:Nm) (cs:List LS)
 |ag (cs:List LS)
 |clo (cs:List LS)
 |nps (nm:Nm) (off:Nat)
 |mpo (nm:Nm) (ag:MK) (V:Kd)
 |bor (K:Kd)
 |lend (K:Kd)
structure CutSpec where
 live:List (Nat×LS)
 objs:List (Nm×LS)
inductive Out where
 |ret (ps:List PV) (hs:List (Nm×HObj))
 |pan (p:PV) (hs:List (Nm×HObj))
inductive Ex where
 |normal
 |exit (id:Nat)
 |ret
 |panic (p:PV)
structure CTab where
 sig:FuncId->List LS
 run:FuncId->{R:Type}->List PV->List (Nm×HObj)->(Out->Option R)->Option R
def CTab.nil:CTab:=⟨fun _=>[],fun _ {_} _ _ _=>none⟩
noncomputable def CTab.add(f:FuncId)(s:List LS)(run:{R:Type}->List PV->List (Nm×HObj)->(Out->Option R)->Option R)(C:CTab): CTab :=
 ⟨fun g=>bif Nat.beq g f then s else C.sig g,fun g {_} ps hp K=>bif Nat.beq g f then run ps hp K else C.run g ps hp K⟩
inductive Plan where
 |done
 |op (i f:Nat) (r:Plan)
 |alt (i:Nat) (p q:Plan)
def Plan.of:List (Nat×Nat)->Plan->Plan
 |[],p=>p
 |(i,f)::r,p => .op i f (Plan.of r p)
def J1L{R:Type}(a b:Option R): Option R:=@ite _ (a=b) (Classical.propDecidable _) a none
inductive Shp where
 |o
 |b (s t:Shp)
def J90{R:Type}: Shp->Option R->Option R
 |.o,x=>x
 |.b s t,x=>J1L (J90 s x) (J90 t x)
structure Ctx where
 ty:TypeId->Option TI
 cuts:List (Nat×CutSpec)
 C:CTab
 keep:List Nat
 pv:List Nm
 plans:List (Nat×Plan)
 sh:{T R:Type}->T->(T->Option R)->Option R
structure NA where
 nm:List (Nm×Option Nm)
 hp:List (Nm×HObj)
 fr:List Nm
 br:List Nm
def J3B(n:Nm): List (Nm×Option Nm)->Bool
 |[]=>false
 |(_,some m)::r=>bif Nat.beq m n then true else J3B n r
 |(_,none)::r=>J3B n r
def J2y(n:Nm): List (Nm×Option Nm)->Option Nm
 |[]=>none
 |(k,some m)::r=>bif Nat.beq m n then some k else J2y n r
 |(_,none)::r=>J2y n r
def J8O(k:Nm): List (Nm×Option Nm)->Option (Option Nm)
 |[]=>none
 |(k',m)::r=>bif Nat.beq k' k then some m else J8O k r
mutual
def Q0(h:Je): PV->Option (PV×List Nm)
 |.v K x=>some (.v K x,[])
 |.kb b=>some (.v .bool b,[])
 |.nilsl=>some (.nilsl,[])
 |.nilptr=>some (.nilptr,[])
 |.nilif=>some (.nilif,[])
 |.row n=>match h n with
  |some (.row _ K xs)=>some (.v (.sl K) xs,[n])
  |_=>none
 |.agg cs=>match purePs h cs with
  |some (cs,f)=>some (.agg cs,f)
  |none=>none
 |.ifc t p=>match Q0 h p with
  |some (p,f)=>some (.ifc t p,f)
  |none=>none
 |.elp K xs i off=>some (.elp K xs i off,[])
 |_=>none
def purePs(h:Je): List PV->Option (List PV×List Nm)
 |[]=>some ([],[])
 |p::r=>match Q0 h p,purePs h r with
  |some (p,f),some (r,f')=>some (p::r,f++f')
  |_,_=>none
end
mutual
def Qs(h:Je)(na:NA): LS->PV->Option (PV×NA)
 |.any,p=>match Q0 h p with
  |some (p,f)=>some (p,{ na with fr:=na.fr++f })
  |none=>none
 |.sl K,p=>match leaf h (.sl K) p with
  |some (xs,f)=>some (.v (.sl K) xs,{ na with fr:=na.fr++f })
  |none=>none
 |.own nm e K,p=>match p with
  |.nilsl=>bif Nat.ble 1 K.sz then some (.row nm,{ na with nm:=na.nm++[(nm,none)],hp:=na.hp++[(nm,.row e K [])] })else none
  |.row m=>match h m with
   |some (.row e' K' xs)=>bif J3B m na.nm then none else match QU (.sl K') (.sl K) xs with
    |some xs=>bif Nat.beq e' e then some (.row nm,{ na with nm:=na.nm++[(nm,some m)],hp:=na.hp++[(nm,.row e K xs)] })else none
    |none=>none
   |_=>none
  |_=>none
 |.obj nm cs,p=>match p with
  |.ptr n off=>match J2y n na.nm with
   |some k=>some (.ptr k off,na)
   |none=>match h n with
    |some (.var t ps)=>match normPs h { na with nm:=na.nm++[(nm,some n)] } cs ps with
     |some (ps,na)=>some (.ptr nm off,{ na with hp:=na.hp++[(nm,.var t ps)] })
     |none=>none
    |_=>none
  |_=>none
 |.nps nm o0,p=>match p with
  |.nilptr=>some (.nps nm o0,na)
  |.nps n off=>match J2y n na.nm with
   |some k=>bif Nat.beq off o0 then some (.nps k o0,na)else none
   |none=>none
  |.ptr n off=>match J2y n na.nm with
   |some k=>bif Nat.beq off o0 then some (.nps k o0,na)else none
   |none=>none
  |_=>none
 |.mpo nm ag V,p=>match p with
  |.mpp m=>match h m with
   |some (.mp ag' V' es)=>bif J3B m na.nm then none else match QU (.sl (.pr .str V')) (.sl (.pr .str V)) es with
    |some es=>bif decide (ag'=ag)then some (.mpp nm,{ na with nm:=na.nm++[(nm,some m)],hp:=na.hp++[(nm,.mp ag V es)] })else none
    |none=>none
   |_=>none
  |_=>none
 |.bor K,p=>match p with
  |.bv K' xs=>match QU (.sl K') (.sl K) xs with
   |some xs=>some (.bv K xs,na)
   |none=>none
  |.v (.sl K') xs=>match QU (.sl K') (.sl K) xs with
   |some xs=>some (.bv K xs,na)
   |none=>none
  |.nilsl=>some (.bv K [],na)
  |.row m=>match h m with
   |some (.row _ K' xs)=>match QU (.sl K') (.sl K) xs with
    |some xs=>some (.bv K xs,{ na with br:=m::na.br })
    |none=>none
   |_=>none
  |_=>none
 |.lend K,p=>match p with
  |.lp K' x off=>match QU K' K x with
   |some x=>bif Nat.beq off 0 then some (.lp K x 0,na)else none
   |none=>none
  |.ptr n off=>match h n with
   |some (.var _ cs)=>match K.decAll h ((cs.drop off).take K.sz)with
    |some (x,[])=>some (.lp K x 0,{ na with br:=n::na.br })
    |_=>none
   |_=>none
  |_=>none
 |.ag cs,p=>match p with
  |.agg ps=>match normPs h na cs ps with
   |some (ps,na)=>some (.agg ps,na)
   |none=>none
  |_=>none
 |.clo cs,p=>match p with
  |.clo f ps=>match normPs h na cs ps with
   |some (ps,na)=>some (.clo f ps,na)
   |none=>none
  |_=>none
def normPs(h:Je)(na:NA): List LS->List PV->Option (List PV×NA)
 |[],[]=>some ([],na)
 |s::ss,p::ps=>match Qs h na s p with
  |some (p,na)=>match normPs h na ss ps with
   |some (ps,na)=>some (p::ps,na)
   |none=>none
  |none=>none
 |_,_=>none
end
def normSlots(h:Je)(t:Nat->PV)(na:NA): List (Nat×LS)->Option (List (Nat×PV)×NA)
 |[]=>some ([],na)
 |(i,s)::r=>match Qs h na s (t i)with
  |some (p,na)=>match normSlots h t na r with
   |some (l,na)=>some ((i,p)::l,na)
   |none=>none
  |none=>none
def normObjs(h:Je)(na:NA): List (Nm×LS)->Option NA
 |[]=>some na
 |(n,s)::r=>match Qs h na s (.ptr n 0)with
  |some (_,na)=>normObjs h na r
  |none=>none
def mkT(l:List (Nat×PV)): Nat->PV:=fun i=>(Jx l i).getD .un
def mkH(l:List (Nm×HObj)): Je:=fun n=>Jx l n
def J3t:List Nat->Bool
 |[]=>true
 |n::r => !QV n r&&J3t r
def Uf:List (Nm×Option Nm)->List Nm
 |[]=>[]
 |(_,some m)::r=>m::Uf r
 |(_,none)::r=>Uf r
def JH{α : Type}: List (Nat × α)->List Nat
 |[]=>[]
 |(n,_)::r=>n::JH r
def YF(l r:List Nat): Bool :=
 match l with
 |[]=>true
 |n::l => !QV n r&&YF l r
def J2H(l r:List Nat): Bool :=
 match l with
 |[]=>true
 |n::l=>QV n r&&J2H l r
def J1M(na:NA): Bool :=
 J3t (JH na.nm)&&J3t (Uf na.nm)&&J3t (JH na.hp)&&J2H (JH na.nm) (JH na.hp)&&J2H (JH na.hp) (JH na.nm)&&YF na.fr (Uf na.nm)&&YF na.br (Uf na.nm)
def J3J(nm:List (Nm×Option Nm)): List Nm->Bool
 |[]=>true
 |n::r=>(match J8O n nm with|some (some m)=>Nat.beq m n|_=>false)&&J3J nm r
def norm(pv:List Nm)(c:CutSpec)(st:St): Option St :=
 match normObjs st.h ⟨[],[],[],[]⟩ c.objs with
 |some na=>match normSlots st.h st.t na c.live with
  |some (l,na)=>bif J1M na&&J3J na.nm pv then some ⟨mkT l,mkH na.hp⟩else none
  |none=>none
 |none=>none
def J5N(d:Nat)(nm:List (Nm×Option Nm))(k:Nm): Nm :=
 match J8O k nm with
 |some (some m)=>m
 |_=>(d+1)*100+1+k
mutual
def PV.ren(f:Nm->Nm): PV->PV
 |.row m => .row (f m)
 |.ptr n off => .ptr (f n) off
 |.elr n i off => .elr (f n) i off
 |.agg cs => .agg (rens f cs)
 |.tup ps => .tup (rens f ps)
 |.ifc t p => .ifc t (p.ren f)
 |.clo g cap => .clo g (rens f cap)
 |.opt g c p => .opt g c (p.ren f)
 |.v K x => .v K x
 |.kb b => .kb b
 |.ng b => .ng b
 |.nilsl => .nilsl
 |.nilptr => .nilptr
 |.nilif => .nilif
 |.nps n off => .nps (f n) off
 |.elp K xs i off => .elp K xs i off
 |.mpp n => .mpp (f n)
 |.nxt s p => .nxt s p
 |.bv _ _ => .un
 |.elq _ _ _ _ => .un
 |.lp _ _ _ => .un
 |.un => .un
def rens(f:Nm->Nm): List PV->List PV
 |[]=>[]
 |p::r=>p.ren f::rens f r
end
def J0B(f:Nm->Nm): HObj->HObj
 |.var t cs => .var t (rens f cs)
 |o=>o
def J91(f:Nm->Nm): List (Nm×HObj)->List (Nm×Option HObj)
 |[]=>[]
 |(n,o)::r=>(f n,some (J0B f o))::J91 f r
def Kd.hasSl:Kd->Bool
 |.sl _=>true
 |.pr a b=>a.hasSl || b.hasSl
 |_=>false
mutual
def PV.hasSl:PV->Bool
 |.v K _=>K.hasSl
 |.elp _ _ _ _=>true
 |.agg cs=>hasSls cs
 |.tup ps=>hasSls ps
 |.ifc _ p=>p.hasSl
 |.clo _ cap=>hasSls cap
 |.opt _ _ p=>p.hasSl
 |_=>false
def hasSls:List PV->Bool
 |[]=>false
 |p::r=>p.hasSl || hasSls r
end
def JaU:HObj->Bool
 |.var _ cs=>hasSls cs
 |.row _ K _=>K.hasSl
 |.mp _ V _=>V.hasSl
def J5D:List (Nm×HObj)->Bool
 |[]=>false
 |(_,o)::r=>JaU o || J5D r
def J15(hp:List (Nm×HObj)): List (Nm×Option Nm)->List Nm
 |[]=>[]
 |(k,some m)::r=>match Jx hp k with
  |some (.row _ _ _)=>m::J15 hp r
  |_=>J15 hp r
 |(_,none)::r=>J15 hp r
def J3q(hp hs:List (Nm×HObj)): List (Nm×Option Nm)->Bool
 |[]=>true
 |(k,some _)::r=>(match Jx hp k,Jx hs k with
  |some (.var _ _),none=>false
  |some (.mp _ _ _),none=>false
  |_,_=>true)&&J3q hp hs r
 |(_,none)::r=>J3q hp hs r
def Zi(h:Je)(rs l:List Nm): Nm->PV:=fun m=>bif QV m rs then .un else bif QV m l then(match h m with
 |some (.row _ K xs) => .v (.sl K) xs
 |_ => .un)else .row m
def J2z(h:Je)(rs l:List Nm): Option (PV->PV) :=
 match rs,l with
 |[],[]=>none
 |rs,l=>some (PV.mapR (Zi h rs l))
def JaV(h:Je)(d:Nat)(nm:List (Nm×Option Nm)): List (Nm×HObj)->Bool
 |[]=>true
 |(k,_)::r=>(match J8O k nm with
  |some (some _)=>true
  |_=>(match h ((d+1)*100+1+k)with|none=>true|some _=>false)&&Nat.ble k 98)&&JaV h d nm r
def Jbh(st:St)(d:Nat)(na:NA)(hs:List (Nm×HObj))(sl:Bool): Option St :=
 bif JaV st.h d na.nm hs&&J3q na.hp hs na.nm&&J3t (JH hs)then
  let l:=bif sl then na.fr else[]
  let rs:=J15 na.hp na.nm
  some ⟨J2F (J2z st.h rs l) st.t,JO (JO (JU (J2z st.h rs l) st.h) (Ze (rs++l))) (J91 (J5N d na.nm) hs)⟩
 else none
def J5O:List PV->PV
 |[p]=>p
 |ps => .tup ps
def JmQ(cx:Ctx){R:Type}(g:FuncId)(args:List PV)(d:Nat)(st:St)(K:Option PV->St->Option R): Option R :=
 match normPs st.h ⟨[],[],[],[]⟩ (cx.C.sig g) args with
 |some (ps,na)=>bif J1M na then cx.C.run g ps na.hp fun o=>match o with
  |.ret rs hs=>match Jbh st d na hs (hasSls rs || J5D hs)with
   |some st'=>K none ⟨upd st'.t d (J5O (rens (J5N d na.nm) rs)),st'.h⟩
   |none=>none
  |.pan p hs=>match Jbh st d na hs (p.hasSl || J5D hs)with
   |some st'=>K (some (p.ren (J5N d na.nm))) st'
   |none=>none
  else none
 |none=>none
def quiet:Op->Bool
 |.move _ | .binOp .. | .unOp .. | .convert .. | .field .. | .fieldAddr .. | .index .. | .indexAddr .. | .load .. | .extract .. | .nilCheck _ | .build .. | .makeInterface .. | .slice .. => true
 |.call { callee := .builtin .len,.. }=>true
 |_=>false
def putE(st:St)(d:Option Nat)(ev:Ev): St :=
 ⟨match d with|some d=>upd (J2F ev.mp st.t) d ev.val|none=>J2F ev.mp st.t,JO (JU ev.mp st.h) ev.hs⟩
def putV(st:St)(d:Option Nat)(p:PV): St :=
 match d with
 |some d=>⟨upd st.t d p,st.h⟩
 |none=>st
def Jgi{R:Type}(c:Chk)(K:Option R): Option R :=
 match c with
 |.ok=>K
 |.c b=>bif b then K else none
def SH{T R:Type}(x:T)(f:T->Option R): Option R:=f x
def shE(cx:Ctx){R:Type}: List (Nm×Option HObj)->(List (Nm×Option HObj)->Option R)->Option R
 |[],k=>k []
 |(n,some (.row e K xs))::r,k=>bif Nat.ble 2 K.sz then cx.sh xs fun ys=>shE cx r fun l=>k ((n,some (.row e K ys))::l)else shE cx r fun l=>k ((n,some (.row e K xs))::l)
 |x::r,k=>shE cx r fun l=>k (x::l)
def Jur:Op->Bool
 |.store .. => true
 |_=>false
def opK(cx:Ctx){R:Type}(o:Oper)(st:St)(K:Option PV->St->Option R): Option R :=
 let u:=fun x=>QG [] (st.get x)
 match o.op with
 |.call { callee := .value f,args,.. }=>match u f,o.dst with
  |.clo g cap,some d=>JmQ cx g (args.toList.map u++cap) d st K
  |_,_=>none
 |.panic x=>match u x with
  |.ifc t p=>K (some (.ifc t p)) st
  |_=>none
 |.pick c a b=>match st.get c with
  |.kb x=>match x,QG [] (st.get a),QG [] (st.get b)with
   |true,.un,_=>none
   |false,_,.un=>none
   |true,p,_=>K none (putV st o.dst p)
   |false,_,p=>K none (putV st o.dst p)
  |.v .bool x=>match c with
   |.tmp s=>match QG [(s,true)] (st.get a),QG [(s,false)] (st.get b)with
    |.v K1 y,.v K2 z=>match QU K2 K1 z with
     |some z=>K none (putV st o.dst (.v K1 (cond x y z)))
     |none=>none
    |_,_=>none
   |_=>none
  |_=>none
 |op=>match Zh cx.ty u st.h (o.dst.getD 0) op with
  |some ev=>Jgi ev.chk (bif Jur op then shE cx ev.hs fun hs=>K none (putE st o.dst ⟨ev.chk,ev.val,hs,ev.mp⟩)else K none (putE st o.dst ev))
  |none=>none
def putO(st:St)(d:Option Nat)(G:List (Nat×Bool))(c:Bool)(p:PV): Option St :=
 match d with
 |some d=>bif J2s d G then none else some ⟨upd st.t d (.opt G c p),st.h⟩
 |none=>some st
def Jbi(cx:Ctx){R:Type}(G:List (Nat×Bool))(c:Bool)(o:Oper)(st:St)(K:Option PV->St->Option R): Option R :=
 let u:=fun x=>QG G (st.get x)
 match o.op with
 |.pick c' a b=>match c' with
  |.tmp s=>match QG G (st.get c')with
   |.v .bool x=>match QG ((s,true)::G) (st.get a),QG ((s,false)::G) (st.get b)with
    |.v K1 y,.v K2 z=>match QU K2 K1 z with
     |some z=>match putO st o.dst G c (.v K1 (cond x y z))with
      |some st'=>K none st'
      |none=>none
     |none=>none
    |_,_=>none
   |_=>none
  |_=>none
 |op=>match Zh cx.ty u st.h (o.dst.getD 0) op with
  |some ev=>match ev.hs,ev.mp with
   |[],none=>match putO st o.dst G c ev.val with
    |some st'=>match ev.chk with
     |.ok=>K none st'
     |.c b=>bif !c || b then K none st' else none
    |none=>none
   |_,_=>none
  |none=>none
def JfI:Op->Bool
 |.pick .. => true
 |_=>false
def J5v(s:Nat): List (Nat×Bool)->List (Nat×Bool)
 |[]=>[]
 |(s',b)::r=>bif Nat.beq s' s then J5v s r else(s',b)::J5v s r
def Jnb(s:Nat)(w:Bool): PV->PV
 |.opt g c p=>bif J2v s (!w) g then .tup []else match J5v s g with
  |[]=>p
  |x::r => .opt (x::r) c p
 |p=>p
def Zj(t:Nat->PV)(s:Nat)(w:Bool): Nat->PV:=fun i=>bif Nat.beq i s then .kb w else Jnb s w (t i)
def JaG(t:Nat->PV): List (Nat×Bool)->Option (Nat×Bool×Bool)
 |[]=>none
 |(s,w)::r=>match t s with
  |.v .bool b=>some (s,w,b)
  |_=>JaG t r
def Jg2(cx:Ctx){R:Type}(ops:Array Oper)(o:Oper)(again:St->(Option PV->St->Option R)->Option R)(st:St)(K:Option PV->St->Option R): Option R :=
 match o.guard with
 |none=>opK cx o st K
 |some (j,w)=>match(match ops[j]? with|some oj=>oj.dst|none=>none)with
  |none=>none
  |some s=>match st.t s with
   |.kb b=>match b == w with
    |true=>opK cx o st K
    |false=>K none (putV st o.dst (.tup []))
   |.ng b=>match b == w with
    |true=>K none (putV st o.dst (.tup []))
    |false=>none
   |.tup []=>K none (putV st o.dst (.tup []))
   |.v .bool b=>bif quiet o.op || JfI o.op then Jbi cx [(s,w)] (b == w) o st K
    else bif b == w then opK cx o ⟨Zj st.t s w,st.h⟩ K else K none (putV ⟨Zj st.t s (!w),st.h⟩ o.dst (.tup []))
   |.opt g c (.v .bool b)=>bif quiet o.op || JfI o.op then Jbi cx ((s,w)::g) (c&&b == w) o st K else match JaG st.t g with
    |some (s1,w1,b1)=>bif b1 == w1 then again ⟨Zj st.t s1 w1,st.h⟩ K else K none (putV ⟨Zj st.t s1 (!w1),st.h⟩ o.dst (.tup []))
    |none=>none
   |_=>none
def Jg3(cx:Ctx){R:Type}(ops:Array Oper)(o:Oper): Nat->St->(Option PV->St->Option R)->Option R
 |0=>Jg2 cx ops o fun _ _=>none
 |n+1=>Jg2 cx ops o (Jg3 cx ops o n)
def J5W(cx:Ctx){R:Type}(ops:Array Oper)(o:Oper)(st:St)(K:Option PV->St->Option R): Option R:=Jg3 cx ops o 6 st K
def Jgj(cx:Ctx){R:Type}(ops:Array Oper): List Oper->St->(Option PV->St->Option R)->Option R
 |[],st,K=>K none st
 |o::r,st,K=>J5W cx ops o st fun e st'=>match e with
  |none=>Jgj cx ops r st' K
  |some p=>K (some p) st'
def JmR:PV->Bool
 |.ptr _ _ | .elp _ _ _ _ | .elr _ _ _ | .elq _ _ _ _ | .lp _ _ _=>true
 |_=>false
def Jg4:PV->Bool
 |.v (.int _) _=>true
 |_=>false
def Jg5:PV->Bool
 |.v .str _=>true
 |_=>false
def Jg6:PV->Bool
 |.v .str _ | .v (.sl _) _ | .nilsl | .row _ | .bv _ _=>true
 |_=>false
mutual
def Un:PV->Bool
 |.v K _ => !K.hasSl
 |.nilsl | .nilptr | .nilif=>true
 |.agg cs=>flats cs
 |_=>false
def flats:List PV->Bool
 |[]=>true
 |p::r=>Un p&&flats r
end
def JmS:Option Ev->Bool
 |some ⟨.ok,.v .bool _,[],none⟩=>true
 |_=>false
def Jay(ty:TypeId->Option TI)(u:Operand->PV): Op->Bool
 |.move _ | .assign _ | .pick .. | .field .. | .index .. | .indexAddr .. | .extract .. | .makeInterface .. | .build .. => true
 |.nilCheck x=>JmR (u x)
 |.binOp op t x y _=>((Jg4 (u x)&&Jg4 (u y)) || (Jg5 (u x)&&Jg5 (u y))) || (Un (u x)&&Un (u y)&&JmS (Jb6 ty t op (Zg x || Zg y) (u x) (u y)))
 |.unOp .. => true
 |.fieldAddr s x f=>JmR (u x)&&match J5u ty s f with
  |some (_,fi) => !Nat.beq fi.size 0
  |none=>false
 |.slice t x _ _ mx=>mx.isNone&&Jg6 (u x)
 |.call { callee := .builtin .len,args,argTypes }=>match args.toList with
  |[x]=>argTypes.size == 1&&Jg6 (u x)
  |_=>false
 |_=>false
def Jlv:Op->Bool
 |.move _ | .assign _ | .pick .. | .field .. | .index .. | .indexAddr .. | .extract .. | .makeInterface .. | .build .. | .nilCheck _ | .binOp .. | .unOp .. | .fieldAddr .. | .slice .. => true
 |.call { callee := .builtin .len,.. }=>true
 |_=>false
def Yo:Op->Bool
 |.load .. => true
 |_=>false
def J2t:Op->Bool
 |.alloc _ | .box .. | .buildSlice .. => true
 |_=>false
def wOp(o:Op): Bool := !(Jlv o || Yo o || J2t o)
def ZJ(ops:Array Oper): List Nat:=(List.range ops.size).filter fun i=>match ops[i]? with|some o=>wOp o.op|none=>false
def bit(m i:Nat): Bool:=Nat.beq (Nat.land (Nat.shiftRight m i) 1) 1
def J1N(m i:Nat): Nat:=Nat.lor m (Nat.shiftLeft 1 i)
def J3u(m:Nat): List Edge->Bool
 |[]=>true
 |e::r=>(!Region.binds .any e || bit m e.on)&&J3u m r
def J8z(i:Nat): List Edge->Bool
 |[]=>false
 |e::r=>(Region.binds .any e&&Nat.beq e.on i) || J8z i r
def Jaz(m:Nat): List Edge->Bool
 |[]=>false
 |e::r=>(Region.binds .any e&&bit m e.on) || Jaz m r
def J5P(ops:Array Oper)(mask i:Nat)(oi:Oper): Nat->List Oper->Bool
 |_,[]=>true
 |j,oj::r=>(Nat.beq j i || bit mask j || J8z i oj.after.toList || oi.apart ops oj)&&J5P ops mask i oi (j+1) r
def J8I(mask cov i:Nat): Nat->List Oper->Bool
 |_,[]=>true
 |j,oj::r=>(Nat.beq j i || bit mask j || bit cov j || !J3u mask oj.after.toList)&&J8I mask cov i (j+1) r
def JaW(i:Nat): Nat->List Oper->Nat->Nat
 |_,[],W=>W
 |j,o::r,W=>JaW i (j+1) r (bif J8z i o.after.toList || Jaz W o.after.toList then J1N W j else W)
def J8P(mask W:Nat): Nat->List Oper->Bool
 |_,[]=>true
 |j,o::r=>(!wOp o.op || bit mask j || bit W j)&&J8P mask W (j+1) r
def Jb7(mask:Nat): Nat->List Oper->Bool
 |_,[]=>true
 |j,_::r=>bit mask j&&Jb7 mask (j+1) r
def JfJ(ks:List Nat)(o:Oper): Bool:=match o.dst with|some d=>QV d ks|none=>false
def J16(ks:List Nat)(ops:Array Oper): Plan->Nat->Nat->Nat->Bool
 |.done,fuel,mask,cov=>Nat.beq fuel 0&&Nat.beq cov 0&&Jb7 mask 0 ops.toList
 |.op i f r,n+1,mask,cov=>match ops[i]? with
  |none=>false
  |some o=>(!bit mask i&&J3u mask o.after.toList) &&
   (match f with
    |0=>J8I mask cov i 0 ops.toList&&(wOp o.op || (J2t o.op || Yo o.op))
    |1=>Nat.beq cov 0&&(!JfJ ks o&&J5P ops mask i o 0 ops.toList&&(Jlv o.op || (Yo o.op&&J8P mask (JaW i 0 ops.toList 0) 0 ops.toList)))
    |_=>Nat.beq cov 0&&(!JfJ ks o&&J5P ops mask i o 0 ops.toList&&Yo o.op))&&J16 ks ops r n (J1N mask i) 0
 |.alt i p q,n+1,mask,cov=>match ops[i]? with
  |none=>false
  |some o=>(!bit mask i&&J3u mask o.after.toList&&(wOp o.op || (J2t o.op || Yo o.op)))&&J16 ks ops p n (J1N mask i) 0&&J16 ks ops q (n+1) mask (J1N cov i)
 |_,_,_,_=>false
def Jg7(ops:Array Oper): Bool:=ops.toList.all fun o=>match o.op with | .select .. => false|_=>true
def J5E(ops:Array Oper)(o:Oper)(st:St): List (Nat×Bool) :=
 match o.guard with
 |none=>[]
 |some (j,w)=>match(match ops[j]? with|some oj=>oj.dst|none=>none)with
  |none=>[]
  |some s=>match st.t s with
   |.v .bool _=>[(s,w)]
   |.opt g _ _=>(s,w)::g
   |_=>[]
def J3r(ops:Array Oper)(o:Oper)(st:St): Bool :=
 match o.guard with
 |none=>false
 |some (j,w)=>match(match ops[j]? with|some oj=>oj.dst|none=>none)with
  |none=>false
  |some s=>match st.t s with
   |.kb b=>b != w
   |.ng b=>b == w
   |.tup []=>true
   |_=>false
def J2l(cx:Ctx)(ops:Array Oper)(o:Oper)(st:St): Bool :=
 J3r ops o st || (bif Yo o.op then(Zh cx.ty (fun x=>QG (J5E ops o st) (st.get x)) st.h 0 o.op).isSome else Jay cx.ty (fun x=>QG (J5E ops o st) (st.get x)) o.op)
def Jm3:PV->Option (List Nm)
 |.elp _ _ _ _=>some []
 |.ptr n _=>some [n]
 |_=>none
def Jft(ops:Array Oper)(o:Oper)(st:St): Option (List Nm) :=
 bif J3r ops o st then some []else match o.op with
  |.load _ a=>Jm3 (QG (J5E ops o st) (st.get a))
  |_=>none
def JaX(cx:Ctx)(g:FuncId)(args:List PV)(st:St): List Nm :=
 match normPs st.h ⟨[],[],[],[]⟩ (cx.C.sig g) args with
 |some (_,na)=>Uf na.nm
 |none=>[]
def J14(cx:Ctx)(o:Oper)(st:St): List Nm :=
 match o.op with
 |.call { callee := .value f,args,.. }=>match QG [] (st.get f)with
  |.clo g cap=>JaX cx g (args.toList.map (fun x=>QG [] (st.get x))++cap) st
  |_=>[]
 |op=>match Zh cx.ty (fun x=>QG [] (st.get x)) st.h (o.dst.getD 0) op with
  |some ev=>JH ev.hs
  |none=>[]
def J17(cx:Ctx)(ops:Array Oper)(o:Oper)(again:St->List Nm)(st:St): List Nm :=
 match o.guard with
 |none=>J14 cx o st
 |some (j,w)=>match(match ops[j]? with|some oj=>oj.dst|none=>none)with
  |none=>[]
  |some s=>match st.t s with
   |.v .bool _=>J14 cx o ⟨Zj st.t s w,st.h⟩
   |.opt g _ _=>match JaG st.t g with
    |some (s1,w1,_)=>again ⟨Zj st.t s1 w1,st.h⟩
    |none=>[]
   |_=>J14 cx o st
def JfK(cx:Ctx)(ops:Array Oper)(o:Oper): Nat->St->List Nm
 |0=>J17 cx ops o fun _=>[]
 |n+1=>J17 cx ops o (JfK cx ops o n)
def J1y(cx:Ctx)(ops:Array Oper)(o:Oper)(st:St): List Nm:=JfK cx ops o 6 st
def J1b(cx:Ctx){R:Type}(ops:Array Oper): Plan->List Nm->St->(Option PV->St->Option R)->Option R
 |.done,_,st,K=>K none st
 |.op i f r,pr,st,K=>match ops[i]? with
  |none=>none
  |some o=>match f with
   |0=>bif YF (J1y cx ops o st) pr then J5W cx ops o st fun e st'=>match e with
    |none=>J1b cx ops r pr st' K
    |some p=>K (some p) st'
    else none
   |1=>bif J2l cx ops o st&&YF (J1y cx ops o st) pr then J5W cx ops o st fun e st'=>match e with
    |none=>J1b cx ops r pr st' K
    |some _=>none
    else none
   |_=>match Jft ops o st with
    |none=>none
    |some ns=>bif J2l cx ops o st&&YF (J1y cx ops o st) (ns++pr)then J5W cx ops o st fun e st'=>match e with
     |none=>J1b cx ops r (ns++pr) st' K
     |some _=>none
     else none
 |.alt i p q,pr,st,K=>match ops[i]? with
  |none=>none
  |some o=>J1L (bif YF (J1y cx ops o st) pr then J5W cx ops o st fun e st'=>match e with
   |none=>J1b cx ops p pr st' K
   |some x=>K (some x) st'
   else none) (J1b cx ops q pr st K)
def Jgk:Option PV->Ex
 |none => .normal
 |some p => .panic p
def Jnc(cx:Ctx){R:Type}(id:Nat)(ops:Array Oper)(draw:Bool)(st:St)(K:Ex->St->Option R): Option R :=
 bif draw then(match Jx cx.plans id with
  |some l=>bif Jg7 ops&&J16 cx.keep ops l ops.size 0 0 then J1b cx ops l [] st (fun e st'=>K (Jgk e) st')else none
  |none=>none)
 else Jgj cx ops ops.toList st (fun e st'=>K (Jgk e) st')
def Jwh{R:Type}(b:St->(Ex->St->Option R)->Option R)(K:Ex->St->Option R): Ex->St->Option R:=fun e st =>
 match e with
 |.normal=>b st K
 |e=>K e st
def Jmw{R:Type}(id:Nat)(K:Ex->St->Option R): Ex->St->Option R:=fun e st =>
 match e with
 |.exit i=>bif Nat.beq i id then K .normal st else K (.exit i) st
 |e=>K e st
def J8Q{R:Type}(pv:List Nm)(c:Option CutSpec)(st:St)(f:St->Option R): Option R :=
 match c with
 |none=>f st
 |some c=>match norm pv c st with
  |some s=>f s
  |none=>none
def JmT{R:Type}(pv:List Nm)(c:Option CutSpec)(I:St->Option R)(K:Ex->St->Option R): Ex->St->Option R:=fun e st' =>
 match e with
 |.normal=>J8Q pv c st' I
 |e=>K e st'
def Jbj{R:Type}(pv:List Nm)(c:Option CutSpec)(body:St->(Ex->St->Option R)->Option R): Nat->St->(Ex->St->Option R)->Option R
 |0,_,_=>none
 |n+1,st,K=>body st (JmT pv c (fun s=>Jbj pv c body n s K) K)
def J2p:Code->Nat
 |.region id _ _=>id
 |.seq a _=>J2p a
 |.block _ a=>J2p a
 |.loop a=>J2p a
 |.scope a=>J2p a
 |_=>1000000
def QR(cx:Ctx)(k:Nat){R:Type}: Code->St->(Ex->St->Option R)->Option R
 |.skip,st,K=>K .normal st
 |.region id ops draw,st,K=>J8Q cx.pv (Jx cx.cuts id) st fun s=>Jnc cx id ops draw s K
 |.seq a b,st,K=>QR cx k a st (Jwh (QR cx k b) K)
 |.cond c a b,st,K=>match c with
  |.tmp s=>match st.t s with
   |.v .bool x=>bif x then QR cx k a ⟨Zj st.t s true,st.h⟩ K else QR cx k b ⟨Zj st.t s false,st.h⟩ K
   |.kb x=>match x with
    |true=>QR cx k a st K
    |false=>QR cx k b st K
   |_=>none
  |.const v=>match v with
   |.bool x=>match x with
    |true=>QR cx k a st K
    |false=>QR cx k b st K
   |_=>none
  |_=>none
 |.block id b,st,K=>QR cx k b st (Jmw id K)
 |.loop b,st,K=>J8Q cx.pv (Jx cx.cuts (1000+J2p b)) st fun s=>Jbj cx.pv (Jx cx.cuts (1000+J2p b)) (QR cx k b) k s K
 |.exit id,st,K=>K (.exit id) st
 |.scope b,st,K=>QR cx k b st K
 |.label _,st,K=>K .normal st
 |.ret,st,K=>K .ret st
 |_,_,_=>none
end
section
open Go
def RowAt(w:World)(ok:Nat->Prop)(sz:Nat){α : Type}(R : α -> List Value->Prop)(ad:Addr)(xs:List α): Prop :=
 ok ad.block∧ad.block<w.heap.size∧∀(i:Nat) (y : α),xs[i]? = some y->∃ c,R y c∧∀(j:Nat) (u:Value),c[j]? = some u->w.cell? (ad.add (i*sz+j))=some u
def RD(w:World)(ok:Nat->Prop): (K:Kd)->K.T->List Value->Prop
 |.int k,x,cs=>cs=[.int k x]
 |.bool,x,cs=>cs=[.bool x]
 |.str,x,cs=>cs=[.string ⟨x.toArray⟩]
 |.flt,x,cs=>cs=[.float .f64 x]
 |.nil,_,cs=>cs=[]
 |.pr a b,x,cs=>∃ c1 c2,cs=c1++c2∧RD w ok a x.1 c1∧RD w ok b x.2 c2
 |.sl e,x,cs=>∃(A:Option Addr) (cap:Nat),cs=[.slice A x.length cap]∧x.length≤cap ∧
  (x=[]∨∃ ad,A=some ad∧RowAt w ok e.sz (RD w ok e) ad x)
theorem RD.len{w:World}{ok:Nat->Prop}: ∀ {K:Kd} {x:K.T} {cs:List Value},RD w ok K x cs->cs.length=K.sz
 |.int _,_,_,h=>by simp[RD]at h;simp[h,Kd.sz]
 |.bool,_,_,h=>by simp[RD]at h;simp[h,Kd.sz]
 |.str,_,_,h=>by simp[RD]at h;simp[h,Kd.sz]
 |.flt,_,_,h=>by simp[RD]at h;simp[h,Kd.sz]
 |.nil,_,_,h=>by simp[RD]at h;simp[h,Kd.sz]
 |.sl _,_,_,h=>by obtain⟨A,cap,rfl,_⟩:=h;rfl
 |.pr a b,x,cs,h=>by
  obtain⟨c1,c2,rfl,h1,h2⟩:=h
  rw[List.length_append,RD.len h1,RD.len h2,Kd.sz]
theorem J0s(a:Addr)(n:Nat): (a.add n).block=a.block:=by unfold Addr.add;split<;>rfl
theorem RowAt.mono {w w':World} {ok ok':Nat->Prop} {sz:Nat} {α : Type} {R R' : α -> List Value->Prop} {ad:Addr} {xs:List α}
 (hb:∀ b,ok b->b<w.heap.size->ok' b∧w'.heap[b]? = w.heap[b]?) (hR:∀ y c,R y c->R' y c) (h:RowAt w ok sz R ad xs):RowAt w' ok' sz R' ad xs:=by
 obtain⟨h1,h2,h3⟩:=h
 obtain⟨ho,hw⟩:=hb _ h1 h2
 refine⟨ho,?_,fun i y hy => ?_⟩
 ·have:w'.heap[ad.block]? = some (w.heap[ad.block]):=by rw[hw];exact Array.getElem?_eq_getElem h2
  exact(Array.getElem?_eq_some_iff.1 this).1
 ·obtain⟨c,hc,hu⟩:=h3 i y hy
  refine⟨c,hR _ _ hc,fun j u hj => ?_⟩
  rw[World.cell?_of_block (w:=w) (by rw[J0s];exact hw)]
  exact hu j u hj
theorem RD.mono{w w':World}{ok ok':Nat->Prop}(hb:∀ b,ok b->b<w.heap.size->ok' b∧w'.heap[b]? = w.heap[b]?):
 ∀ {K:Kd} {x:K.T} {cs:List Value},RD w ok K x cs->RD w' ok' K x cs
 |.int _,_,_,h=>h
 |.bool,_,_,h=>h
 |.str,_,_,h=>h
 |.flt,_,_,h=>h
 |.nil,_,_,h=>h
 |.pr a b,x,cs,h=>by
  obtain⟨c1,c2,rfl,h1,h2⟩:=h
  exact⟨c1,c2,rfl,RD.mono hb h1,RD.mono hb h2⟩
 |.sl e,x,cs,h=>by
  obtain⟨A,cap,rfl,hc,h⟩:=h
  refine⟨A,cap,rfl,hc,?_⟩
  rcases h with h|⟨ad,rfl,h⟩
  ·exact .inl h
  ·exact .inr ⟨ad,rfl,h.mono hb fun _ _=>RD.mono hb⟩
def RDs(w:World)(ok:Nat->Prop)(K:Kd): List K.T->List Value->Prop
 |[],cs=>cs=[]
 |x::r,cs=>∃ c1 c2,cs=c1++c2∧RD w ok K x c1∧RDs w ok K r c2
theorem RDs.mono{w w':World}{ok ok':Nat->Prop}(hb:∀ b,ok b->b<w.heap.size->ok' b∧w'.heap[b]? = w.heap[b]?){K:Kd}:
 ∀ {xs:List K.T} {cs:List Value},RDs w ok K xs cs->RDs w' ok' K xs cs
 |[],_,h=>h
 |_::_,_,⟨c1,c2,e,h1,h2⟩=>⟨c1,c2,e,h1.mono hb,h2.mono hb⟩
theorem RDs.length{w:World}{ok:Nat->Prop}{K:Kd}: ∀ {xs:List K.T} {cs:List Value},RDs w ok K xs cs->cs.length=xs.length*K.sz
 |[],cs,h=>by simp[RDs]at h;simp[h]
 |x::r,cs,⟨c1,c2,e,h1,h2⟩=>by rw[e,List.length_append,h1.len,h2.length,List.length_cons,Nat.add_mul];omega
theorem RDs.append{w:World}{ok:Nat->Prop}{K:Kd}: ∀ {xs ys:List K.T} {cs ds:List Value},RDs w ok K xs cs->RDs w ok K ys ds->RDs w ok K (xs++ys) (cs++ds)
 |[],_,cs,_,h,h'=>by simp[RDs]at h;subst h;simpa using h'
 |x::r,ys,cs,ds,⟨c1,c2,e,h1,h2⟩,h'=>⟨c1,c2++ds,by rw[e,List.append_assoc],h1,h2.append h'⟩
theorem RDs.get{w:World}{ok:Nat->Prop}{K:Kd}: ∀ {xs:List K.T} {cs:List Value},RDs w ok K xs cs->∀(i:Nat) (y:K.T),xs[i]? = some y ->
 ∃ c,RD w ok K y c∧∀(j:Nat) (u:Value),c[j]? = some u->cs[i*K.sz+j]? = some u
 |[],_,_,i,y,h=>by simp at h
 |x::r,cs,⟨c1,c2,e,h1,h2⟩,0,y,h=>by
  simp at h;subst h
  refine⟨c1,h1,fun j u hj => ?_⟩
  rw[e,Nat.zero_mul,Nat.zero_add,List.getElem?_append_left (List.getElem?_eq_some_iff.1 hj).1]
  exact hj
 |x::r,cs,⟨c1,c2,e,h1,h2⟩,i+1,y,h=>by
  obtain⟨c,hc,hu⟩:=h2.get i y (by simpa using h)
  refine⟨c,hc,fun j u hj => ?_⟩
  rw[e,List.getElem?_append_right (by rw[h1.len,Nat.add_mul];omega),h1.len,show(i+1)*K.sz+j-K.sz=i*K.sz+j by rw[Nat.add_mul];omega]
  exact hu j u hj
structure Gh where
 bk:Nm->Nat
 rv:Nm->Value
 X:Nat->Prop
def Jd(h:Je)(G:Gh)(n:Nm): Option Nat :=
 match h n with
 |some (.var _ _)=>some (G.bk n)
 |some (.row _ _ _)=>(G.rv n).ownBlock
 |some (.mp _ _ _)=>some (G.bk n)
 |none=>none
def J3C(h:Je)(G:Gh)(b:Nat): Prop:=∀ n,Jd h G n≠some b
def okB(h:Je)(G:Gh)(b:Nat): Prop:=J3C h G b∧¬ G.X b
def okX(h:Je)(G:Gh)(b:Nat): Prop:=okB h G b∨G.X b
def MK.val:MK->Nat->Value
 |.it,b => .pointer (some ⟨b,0,none⟩)
 |_,b => .map (some b)
def J3K(s:List UInt8)(p:Int): Value:=if p<(s.length:Int)then .tuple #[.bool true,.int .i64 p,.int .i32 (YE s p)]else .tuple #[.bool false]
mutual
def RV(h:Je)(G:Gh)(w:World): PV->Value->Prop
 |.v K x,val=>RD w (okB h G) K x [val]
 |.kb b,val=>val = .bool b
 |.ng b,val=>val ≠ .bool b
 |.nilsl,val=>val = .slice none 0 0
 |.nilptr,val=>val = .pointer none
 |.nilif,val=>val = .nilIface
 |.nps n off,val=>val = .pointer none∨(val = .pointer (some ⟨G.bk n,off,none⟩)∧∃ t cs,h n=some (.var t cs))
 |.ptr n off,val=>val = .pointer (some ⟨G.bk n,off,none⟩)∧∃ t cs,h n=some (.var t cs)
 |.row n,val=>val=G.rv n∧∃ e K xs,h n=some (.row e K xs)
 |.elp K xs i off,val=>∃ ad,val = .pointer (some (ad.add (i*K.sz+off)))∧i<xs.length∧RowAt w (okB h G) K.sz (RD w (okB h G) K) ad xs
 |.elr n i off,val=>∃ e K xs g,h n=some (.row e K xs)∧i<xs.length∧(G.rv n).ownBlock=some g∧val = .pointer (some ⟨g,i*K.sz+off,none⟩)
 |.agg cs,val=>∃ vs:List Value,val = .agg vs.toArray∧RVs h G w cs vs
 |.ifc t p,val=>∃ u,val = .iface t u∧RV h G w p u
 |.tup ps,val=>∃ vs:List Value,val = .tuple vs.toArray∧RVs h G w ps vs
 |.clo f cap,val=>∃ vs:List Value,val = .func (.func f) #[] vs.toArray∧RVs h G w cap vs
 |.opt _ _ _,_=>False
 |.mpp n,val=>∃ ag,val=MK.val ag (G.bk n)∧∃ V es,h n=some (.mp ag V es)
 |.nxt s p,val=>0≤p∧val=J3K s p
 |.bv K xs,val=>∃(A:Option Addr) (cap:Nat),val = .slice A xs.length cap∧xs.length≤cap∧(xs=[]∨∃ ad,A=some ad∧RowAt w (okX h G) K.sz (RD w (okB h G) K) ad xs)
 |.elq K xs i off,val=>∃ ad,val = .pointer (some (ad.add (i*K.sz+off)))∧i<xs.length∧RowAt w (okX h G) K.sz (RD w (okB h G) K) ad xs
 |.lp K x off,val=>∃ ad,val = .pointer (some (ad.add off))∧RowAt w (okX h G) K.sz (RD w (okB h G) K) ad [x]
 |.un,_=>True
def RVs(h:Je)(G:Gh)(w:World): List PV->List Value->Prop
 |[],vs=>vs=[]
 |p::r,vs=>∃ v l,vs=v::l∧RV h G w p v∧RVs h G w r l
end
def Uj(tm:Nat->Value)(g:List (Nat×Bool)): Prop:=∀ x∈g,tm x.1 = .bool x.2
def RT(h:Je)(G:Gh)(w:World)(tm:Nat->Value): PV->Value->Prop
 |.opt g c p,val=>(Uj tm g->c=true∧RV h G w p val)∧(¬ Uj tm g->val=undef)
 |p,val=>RV h G w p val
theorem J1z{h:Je}{G:Gh}{w:World}{tm:Nat->Value}{p:PV}{v:Value}(hp:RV h G w p v): RT h G w tm p v:=by
 cases p<;>first|exact hp|exact absurd hp (by simp[RV])
theorem RVs.length{h:Je}{G:Gh}{w:World}: ∀ {ps:List PV} {vs:List Value},RVs h G w ps vs->vs.length=ps.length
 |[],vs,hr=>by simp[RVs]at hr;simp[hr]
 |p::r,vs,hr=>by obtain⟨v,l,rfl,_,hl⟩:=hr;simp[hl.length]
theorem RVs.get{h:Je}{G:Gh}{w:World}: ∀ {ps:List PV} {vs:List Value},RVs h G w ps vs->∀(i:Nat) (p:PV),ps[i]? = some p->∃ v,vs[i]? = some v∧RV h G w p v
 |[],vs,hr,i,p,hp=>by simp at hp
 |q::r,vs,hr,0,p,hp=>by obtain⟨v,l,rfl,hv,hl⟩:=hr;simp at hp;subst hp;exact⟨v,by simp,hv⟩
 |q::r,vs,hr,i+1,p,hp=>by obtain⟨v,l,rfl,hv,hl⟩:=hr;obtain⟨u,hu,h2⟩:=hl.get i p (by simpa using hp);exact⟨u,by simpa using hu,h2⟩
theorem RVs.append{h:Je}{G:Gh}{w:World}: ∀ {ps qs:List PV} {vs us:List Value},RVs h G w ps vs->RVs h G w qs us->RVs h G w (ps++qs) (vs++us)
 |[],qs,vs,us,hr,hq=>by simp[RVs]at hr;subst hr;simpa using hq
 |p::r,qs,vs,us,hr,hq=>by obtain⟨v,l,rfl,hv,hl⟩:=hr;exact⟨v,l++us,by simp,hv,hl.append hq⟩
theorem RVs.drop{h:Je}{G:Gh}{w:World}: ∀ {ps:List PV} {vs:List Value} (n:Nat),RVs h G w ps vs->RVs h G w (ps.drop n) (vs.drop n)
 |_,_,0,hr=>by simpa using hr
 |[],vs,n+1,hr=>by simp[RVs]at hr;subst hr;simp[RVs]
 |p::r,vs,n+1,hr=>by obtain⟨v,l,rfl,hv,hl⟩:=hr;simpa using hl.drop n
theorem RVs.take{h:Je}{G:Gh}{w:World}: ∀ {ps:List PV} {vs:List Value} (n:Nat),RVs h G w ps vs->RVs h G w (ps.take n) (vs.take n)
 |_,_,0,hr=>by simp[RVs]
 |[],vs,n+1,hr=>by simp[RVs]at hr;subst hr;simp[RVs]
 |p::r,vs,n+1,hr=>by obtain⟨v,l,rfl,hv,hl⟩:=hr;exact⟨v,l.take n,by simp,hv,hl.take n⟩
theorem RVs.set{h:Je}{G:Gh}{w:World}: ∀ {ps:List PV} {vs:List Value} (i:Nat) {p:PV} {v:Value},RVs h G w ps vs->RV h G w p v->RVs h G w (ps.set i p) (vs.set i v)
 |[],vs,i,p,v,hr,_=>by simp[RVs]at hr;subst hr;simp[RVs]
 |q::r,vs,0,p,v,hr,hv=>by obtain⟨u,l,rfl,hu,hl⟩:=hr;exact⟨v,l,by simp,hv,hl⟩
 |q::r,vs,i+1,p,v,hr,hv=>by obtain⟨u,l,rfl,hu,hl⟩:=hr;exact⟨u,l.set i v,by simp,hu,hl.set i hv⟩
def EntsOk(h:Je)(G:Gh)(w:World)(ag:Bool)(V:Kd): List MapEntry->List (List UInt8×V.T)->Prop
 |[],[]=>True
 |e::r,(k,x)::s=>e.key = .string ⟨k.toArray⟩∧RV h G w (UH ag V x) e.val∧EntsOk h G w ag V r s
 |_,_=>False
def ObOk(h:Je)(G:Gh)(w:World)(ag:MK)(V:Kd)(es:List (List UInt8×V.T))(o:Obj): Prop :=
 (ag ≠ .it∧∃ ents clock,o = .map ents clock∧EntsOk h G w ag.isAgg V ents.toList es)∨(ag = .it∧∃ s p,J8Z V es=some (s,p)∧0≤p∧o = .stringIter ⟨s.toArray⟩ p.toNat)
def RO(h:Je)(G:Gh)(w:World)(n:Nm): HObj->Prop
 |.var t cs=>∃ vs:List Value,w.heap[G.bk n]? = some (.cells vs.toArray t (0,0))∧RVs h G w cs vs
 |.row e K xs=>∃ vs:List Value,w.ownsRow 0 e K.sz (G.rv n) xs.length vs∧RDs w (okB h G) K xs vs∧0<K.sz
 |.mp ag V es=>∃ o,w.heap[G.bk n]? = some o∧ObOk h G w ag V es o
def JW(a:Act)(i:Nat): Value:=a.tmps.getD i undef
structure Org where
 X:Nat->Prop
 vs:List (Nm×TypeId×Nat)
structure Rel (w0:World) (fr:Nat->Prop) (X0:Org) (n:Nat) (ds:List Deferred) (st:St) (G:Gh) (a:Act) (w:World):Prop where
 tm:∀ i,RT st.h G w (JW a) (st.t i) (JW a i)
 size:a.tmps.size=n
 obj:∀ n o,st.h n=some o->RO st.h G w n o
 dis:∀ n m b,Jd st.h G n=some b->Jd st.h G m=some b->n=m
 apart:∀ n b,Jd st.h G n=some b->¬ fr b
 xfr:∀ b,G.X b->fr b
 xeq:G.X=X0.X
 org:∀ x∈X0.vs,(∃ cs,st.h x.1=some (.var x.2.1 cs))∧G.bk x.1=x.2.2
 ext:∀ b,fr b->w.heap[b]? = w0.heap[b]?
 grow:w0.heap.size≤w.heap.size
 os:w.os=w0.os
 tape:w.tape=w0.tape
 out:w.output=w0.output
 defers:a.defers=ds
end
section
open Go
mutual
theorem PV.mapR_row:∀ p:PV,p.mapR .row=p
 |.row m=>rfl
 |.agg cs=>by rw[PV.mapR,mapRs_row cs]
 |.tup ps=>by rw[PV.mapR,mapRs_row ps]
 |.ifc t p=>by rw[PV.mapR,PV.mapR_row p]
 |.clo g cap=>by rw[PV.mapR,mapRs_row cap]
 |.opt g c p=>by rw[PV.mapR,PV.mapR_row p]
 |.v K x=>rfl
 |.kb b=>rfl
 |.ng b=>rfl
 |.nilsl=>rfl
 |.nilptr=>rfl
 |.nilif=>rfl
 |.nps n off=>rfl
 |.ptr n off=>rfl
 |.elp K xs i off=>rfl
 |.elr n i off=>rfl
 |.mpp n=>rfl
 |.nxt s p=>rfl
 |.bv K xs=>rfl
 |.elq K xs i off=>rfl
 |.lp K x off=>rfl
 |.un=>rfl
theorem mapRs_row:∀ l:List PV,mapRs .row l=l
 |[]=>rfl
 |p::r=>by rw[mapRs,PV.mapR_row p,mapRs_row r]
end
theorem Jlw(f:Nm->PV): ∀ l:List PV,mapRs f l=l.map (PV.mapR f)
 |[]=>rfl
 |p::r=>by rw[mapRs,Jlw f r];rfl
structure Carry (h:Je) (G:Gh) (w:World) (h':Je) (G':Gh) (w':World) (f:Nm->PV):Prop where
 blk:∀ b,okB h G b->b<w.heap.size->okB h' G' b∧w'.heap[b]? = w.heap[b]?
 var:∀ n t cs,h n=some (.var t cs)->(∃ cs',h' n=some (.var t cs'))∧G'.bk n=G.bk n
 mp:∀ n ag V es,h n=some (.mp ag V es)->(∃ es',h' n=some (.mp ag V es'))∧G'.bk n=G.bk n
 x:∀ b,G.X b->b<w.heap.size->okX h' G' b∧w'.heap[b]? = w.heap[b]?
 row:∀ n e K xs,h n=some (.row e K xs)->RV h' G' w' (f n) (G.rv n)∧∀ m,f n = .row m->∃ e' xs',h' m=some (.row e' K xs')∧xs.length≤xs'.length
theorem Carry.okX{h:Je}{G:Gh}{w:World}{h':Je}{G':Gh}{w':World}{f:Nm->PV}(C:Carry h G w h' G' w' f): ∀ b,okX h G b->b<w.heap.size->okX h' G' b∧w'.heap[b]? = w.heap[b]? := fun b hb hl=>by
 rcases hb with hb|hb
 ·exact⟨.inl (C.blk b hb hl).1,(C.blk b hb hl).2⟩
 ·exact C.x b hb hl
mutual
theorem RV.carry{h:Je}{G:Gh}{w:World}{h':Je}{G':Gh}{w':World}{f:Nm->PV}(C:Carry h G w h' G' w' f):
 ∀(p:PV) (v:Value),RV h G w p v->RV h' G' w' (p.mapR f) v
 |.v K x,v,hp=>RD.mono C.blk hp
 |.kb b,v,hp=>hp
 |.ng b,v,hp=>hp
 |.nilsl,v,hp=>hp
 |.nilptr,v,hp=>hp
 |.nilif,v,hp=>hp
 |.nps n off,v,hp=>by
  rcases hp with hp|⟨rfl,t,cs,hn⟩
  ·exact .inl hp
  ·obtain⟨⟨cs',h1⟩,h2⟩:=C.var n t cs hn
   exact .inr ⟨by rw[h2],t,cs',h1⟩
 |.ptr n off,v,hp=>by
  obtain⟨rfl,t,cs,hn⟩:=hp
  obtain⟨⟨cs',h1⟩,h2⟩:=C.var n t cs hn
  exact⟨by rw[h2],t,cs',h1⟩
 |.row n,v,hp=>by
  obtain⟨rfl,e,K,xs,hn⟩:=hp
  exact(C.row n e K xs hn).1
 |.elp K xs i off,v,hp=>by
  obtain⟨ad,rfl,hi,hr⟩:=hp
  exact⟨ad,rfl,hi,hr.mono C.blk fun _ _=>RD.mono C.blk⟩
 |.elr n i off,v,hp=>by
  obtain⟨e,K,xs,g,hn,hi,hg,rfl⟩:=hp
  obtain⟨h1,h2⟩:=C.row n e K xs hn
  rw[PV.mapR]
  split
  ·next m hm =>
   obtain⟨e',xs',h3,h4⟩:=h2 m hm
   rw[hm]at h1
   exact⟨e',K,xs',g,h3,by omega,by rw[←h1.1];exact hg,rfl⟩
  ·trivial
 |.agg cs,v,hp=>by
  obtain⟨vs,rfl,hr⟩:=hp
  exact⟨vs,rfl,RVs.carry C cs vs hr⟩
 |.ifc t p,v,hp=>by
  obtain⟨u,rfl,hr⟩:=hp
  exact⟨u,rfl,RV.carry C p u hr⟩
 |.tup ps,v,hp=>by
  obtain⟨vs,rfl,hr⟩:=hp
  exact⟨vs,rfl,RVs.carry C ps vs hr⟩
 |.clo g cap,v,hp=>by
  obtain⟨vs,rfl,hr⟩:=hp
  exact⟨vs,rfl,RVs.carry C cap vs hr⟩
 |.opt g c p,v,hp=>by simp[RV]at hp
 |.mpp n,v,hp=>by
  obtain⟨ag,rfl,V,es,hn⟩:=hp
  obtain⟨⟨es',h1⟩,h2⟩:=C.mp n ag V es hn
  exact⟨ag,by rw[h2],V,es',h1⟩
 |.nxt s p,v,hp=>hp
 |.bv K xs,v,hp=>by
  obtain⟨A,cap,rfl,hc,hr⟩:=hp
  refine⟨A,cap,rfl,hc,?_⟩
  rcases hr with hr|⟨ad,hA,hr⟩
  ·exact .inl hr
  ·exact .inr ⟨ad,hA,hr.mono C.okX fun _ _=>RD.mono C.blk⟩
 |.elq K xs i off,v,hp=>by
  obtain⟨ad,rfl,hi,hr⟩:=hp
  exact⟨ad,rfl,hi,hr.mono C.okX fun _ _=>RD.mono C.blk⟩
 |.lp K x off,v,hp=>by
  obtain⟨ad,rfl,hr⟩:=hp
  exact⟨ad,rfl,hr.mono C.okX fun _ _=>RD.mono C.blk⟩
 |.un,v,hp=>trivial
theorem RVs.carry{h:Je}{G:Gh}{w:World}{h':Je}{G':Gh}{w':World}{f:Nm->PV}(C:Carry h G w h' G' w' f):
 ∀(ps:List PV) (vs:List Value),RVs h G w ps vs->RVs h' G' w' (mapRs f ps) vs
 |[],vs,hp=>hp
 |p::r,vs,hp=>by
  obtain⟨v,l,rfl,hv,hl⟩:=hp
  exact⟨v,l,rfl,RV.carry C p v hv,RVs.carry C r l hl⟩
end
theorem RT.carry {h:Je} {G:Gh} {w:World} {h':Je} {G':Gh} {w':World} {f:Nm->PV} {tm:Nat->Value} (C:Carry h G w h' G' w' f)
 {p:PV} {v:Value} (hp:RT h G w tm p v):RT h' G' w' tm (p.mapR f) v:=by
 cases p with
 |opt g c p=>exact⟨fun hg=>⟨(hp.1 hg).1,RV.carry C p v (hp.1 hg).2⟩,hp.2⟩
 |_=>exact J1z (RV.carry C _ v hp)
theorem Carry.quiet{h:Je}{G:Gh}{w w':World}(hb:∀ b,b<w.heap.size->w'.heap[b]? = w.heap[b]?): Carry h G w h G w' .row :=
 ⟨fun b ho hlt=>⟨ho,hb b hlt⟩,fun n t cs hn=>⟨⟨cs,hn⟩,rfl⟩,fun n ag V es hn=>⟨⟨es,hn⟩,rfl⟩,fun b hx hlt=>⟨.inr hx,hb b hlt⟩,fun n e K xs hn=>⟨⟨rfl,e,K,xs,hn⟩,fun m hm=>by cases hm;exact⟨e,xs,hn,Nat.le_refl _⟩⟩⟩
theorem J5p{a:Act}{d:Nat}{v:Value}(hd:d<a.tmps.size)(i:Nat): JW (a.put (some d) v) i=if i=d then v else JW a i:=by
 unfold JW Act.put
 simp only[Array.getD_eq_getD_getElem?,Array.getElem?_setIfInBounds]
 by_cases h:i=d
 ·subst h;simp[hd]
 ·simp[h,Ne.symm h]
theorem Jaj{d:Nat}: ∀ {g:List (Nat×Bool)},J2s d g=false->∀ x∈g,x.1≠d
 |[],_,x,hx=>by cases hx
 |(s,b)::r,h,x,hx=>by
  rw[J2s]at h
  cases hb:Nat.beq s d with
  |true=>rw[hb]at h;simp at h
  |false =>
   rw[hb]at h
   rcases List.mem_cons.1 hx with rfl|hx
   ·intro e;simp at e;subst e;simp at hb
   ·exact Jaj h x hx
theorem RT.upd {h:Je} {G:Gh} {w:World} {a:Act} {d:Nat} {v:Value} (hd:d<a.tmps.size) {p q:PV} {u:Value} {i:Nat} (hi:i≠d)
 (hq:RT h G w (JW a) q u):RT h G w (JW (a.put (some d) v)) (JfZ d q) u:=by
 cases q with
 |opt g c p =>
  rw[JfZ]
  cases hg:J2s d g with
  |true=>trivial
  |false =>
   have hiff:Uj (JW (a.put (some d) v)) g↔Uj (JW a) g:=by
    constructor
    ·intro ht x hx
     have:=ht x hx
     rwa [J5p hd,if_neg (Jaj hg x hx)]at this
    ·intro ht x hx
     rw[J5p hd,if_neg (Jaj hg x hx)]
     exact ht x hx
   exact⟨fun ht=>hq.1 (hiff.1 ht),fun ht=>hq.2 fun h=>ht (hiff.2 h)⟩
 |_=>exact J1z hq
section
variable {w0:World} {fr:Nat->Prop} {X0:Org} {n:Nat} {ds:List Deferred} {st:St} {G:Gh} {a:Act} {w:World}
theorem Rel.orgs(R:Rel w0 fr X0 n ds st G a w){h':Je}{G':Gh}{w':World}{f:Nm->PV}(C:Carry st.h G w h' G' w' f): ∀ x∈X0.vs,(∃ cs,h' x.1=some (.var x.2.1 cs))∧G'.bk x.1=x.2.2:=by
 intro x hx
 obtain⟨⟨cs,h1⟩,h2⟩:=R.org x hx
 obtain⟨h3,h4⟩:=C.var _ _ _ h1
 exact⟨h3,h4.trans h2⟩
theorem Rel.put (R:Rel w0 fr X0 n ds st G a w) {h':Je} {G':Gh} {w':World} {f:Nm->PV} (C:Carry st.h G w h' G' w' f)
 (obj:∀ n o,h' n=some o->RO h' G' w' n o) (dis:∀ n m b,Jd h' G' n=some b->Jd h' G' m=some b->n=m)
 (apart:∀ n b,Jd h' G' n=some b->¬ fr b) (hX:G'.X=G.X) (ext:∀ b,fr b->w'.heap[b]? = w.heap[b]?) (grow:w.heap.size≤w'.heap.size)
 (os:w'.os=w.os) (tape:w'.tape=w.tape) (out:w'.output=w.output) {d:Nat} (hd:d<n) {p:PV} {v:Value} (hp:RV h' G' w' p v)
 {t':Nat->PV} (ht:∀ i,t' i=if i=d then p else JfZ d ((st.t i).mapR f)) :
 Rel w0 fr X0 n ds ⟨t',h'⟩ G' (a.put (some d) v) w':=by
 have hs:d<a.tmps.size:=by rw[R.size];exact hd
 refine⟨fun i => ?_,by simp[Act.put,R.size],obj,dis,apart,(fun b hb=>R.xfr b (by rw[←hX];exact hb)),hX.trans R.xeq,R.orgs C,fun b hb=>(ext b hb).trans (R.ext b hb),Nat.le_trans R.grow grow,os.trans R.os,tape.trans R.tape,out.trans R.out,R.defers⟩
 simp only[ht]
 by_cases hi:i=d
 ·subst hi
  rw[if_pos rfl,J5p hs,if_pos rfl]
  exact J1z hp
 ·rw[if_neg hi]
  have:=RT.upd (v:=v) (p:=p) hs hi (RT.carry C (R.tm i))
  rwa [J5p hs,if_neg hi]
theorem Rel.turn (R:Rel w0 fr X0 n ds st G a w) {h':Je} {G':Gh} {w':World} {f:Nm->PV} (C:Carry st.h G w h' G' w' f)
 (obj:∀ n o,h' n=some o->RO h' G' w' n o) (dis:∀ n m b,Jd h' G' n=some b->Jd h' G' m=some b->n=m)
 (apart:∀ n b,Jd h' G' n=some b->¬ fr b) (hX:G'.X=G.X) (ext:∀ b,fr b->w'.heap[b]? = w.heap[b]?) (grow:w.heap.size≤w'.heap.size)
 (os:w'.os=w.os) (tape:w'.tape=w.tape) (out:w'.output=w.output)
 {t':Nat->PV} (ht:∀ i,t' i=(st.t i).mapR f) :
 Rel w0 fr X0 n ds ⟨t',h'⟩ G' a w':=by
 refine⟨fun i => ?_,R.size,obj,dis,apart,(fun b hb=>R.xfr b (by rw[←hX];exact hb)),hX.trans R.xeq,R.orgs C,fun b hb=>(ext b hb).trans (R.ext b hb),Nat.le_trans R.grow grow,os.trans R.os,tape.trans R.tape,out.trans R.out,R.defers⟩
 simp only[ht]
 exact RT.carry C (R.tm i)
end
end
section
open Go
def JaH(P:Program)(t:TypeId): Bool := !P.eqGuardType P.depth t && !P.stoodInHeld t&&match P.underlying t with
 |some (.struct fs)=>fs.toList.all fun f => !(f.name == "_")
 |_=>false
structure TiOk (P:Program) (t:TypeId) (ti:TI):Prop where
 info:∃ i z,P.info? t=some i∧i.size=ti.size∧i.bytes=ti.bytes∧i.zero=some z∧z.cells.toList.map cv=ti.zero∧z.cells.size=ti.size ∧
  (∀ K,ti.kd=some K->0<K.sz∧K.sz=ti.size∧∀ w ok,RD w ok K K.zero z.cells.toList) ∧
  (match ti.k with | .struct=>∃ cs,z = .agg cs | .int k=>z = .int k 0|_=>z.cells = #[z])
 kind:∃ d,P.underlying t=some d∧match ti.k with
  |.int k=>d = .int k
  |.bool=>d = .bool
  |.str=>d = .string
  |.flt=>d = .float .f64
  |.slice=>d = .slice ti.el
  |.ptr=>d = .pointer ti.el
  |.struct=>∃ fs,d = .struct fs∧fs.toList.map (fun f=>(f.offset,f.type))=ti.fs∧∃ pl,fs.toList.mapM (fun f=>(P.info? f.type).map fun i=>(f.offset,i.size))=some pl
  |.iface=>∃ ms,d = .interface ms
  |.map=>∃ kt,d = .map kt ti.el∧P.underlying kt=some .string
  |.other=>(match d with | .struct _ | .array _ _ | .interface _=>False|_=>True)
 eqs:ti.eqs=true->ti.k = .struct->JaH P t=true
def Qg(P:Program)(ty:TypeId->Option TI): Prop:=∀ t ti,ty t=some ti->TiOk P t ti
structure Still (w w':World):Prop where
 blk:∀ b,b<w.heap.size->w'.heap[b]? = w.heap[b]?
 grow:w.heap.size≤w'.heap.size
 os:w'.os=w.os
 tape:w'.tape=w.tape
 out:w'.output=w.output
theorem Still.refl(w:World): Still w w:=⟨fun _ _=>rfl,Nat.le_refl _,rfl,rfl,rfl⟩
theorem Still.drew{w w':World}(h:Still w w'): Still w w'.drew:=⟨h.blk,h.grow,h.os,h.tape,h.out⟩
theorem Still.alloc{w w':World}(h:Still w w')(o:Obj): Still w (w'.alloc o) :=
 ⟨fun b hb=>(heap_alloc_old w' o (Nat.lt_of_lt_of_le hb h.grow)).trans (h.blk b hb),Nat.le_trans h.grow (by rw[show(w'.alloc o).heap.size=w'.heap.size+1 from Array.size_push ..];omega),h.os,h.tape,h.out⟩
theorem JmU{h:Je}{G:Gh}{w:World}: ∀ v:Value,RV h G w (cv v) v:=by
 intro v
 unfold cv
 split<;>simp[RV,RD]
variable {P:Program} {h:Je} {G:Gh} {w:World}
theorem JGl{op:BinOp}{k:IntKind}{a b:Int}{ev:Ev}(hs:JlW op=false)(he:Jms op k a b=some ev)(hc:(match ev.chk with | .ok=>true | .c b=>b)=true)(t:TypeId):
 ∃ v,(binOp op t (.int k a) (.int k b)).run P w = .ok v w∧RV h G w ev.val v∧ev.hs=[]∧ev.mp=none:=by
 cases op<;>simp[Jms,JlW]at he hs<;>subst he<;>simp[Ev.pure,Ev.when]at hc ⊢ <;> simp[binOp,Op.intArith,Op.intDiv,Op.intBits,Op.intCmp,RV,RD,hc,ZD]
theorem JGm(x:List UInt8): (⟨x.toArray⟩:ByteArray).toList=x:=by
 rw[ByteArray.toList_eq]
theorem JGn{op:BinOp}{a b:List UInt8}{ev:Ev}(he:Jmt op a b=some ev)(hc:(match ev.chk with | .ok=>true | .c b=>b)=true)(t:TypeId):
 ∃ v,(binOp op t (.string ⟨a.toArray⟩) (.string ⟨b.toArray⟩)).run P w = .ok v w∧RV h G w ev.val v∧ev.hs=[]∧ev.mp=none:=by
 cases op<;>simp[Jmt]at he<;>subst he<;>simp[Ev.pure,Ev.when]at hc ⊢ <;> simp[binOp,Op.stringOp,RV,RD,JGm]
 have hc':=of_decide_eq_true hc
 simp only[J1f]at hc'
 have hsz:∀ l:List UInt8,(⟨l.toArray⟩:ByteArray).size=l.length:=fun _=>rfl
 simp only[hsz]
 rw[if_neg (by omega)]
 apply congrArg (fun s=>Result.ok (Value.string s) w)
 apply ByteArray.ext
 simp
theorem JGo{op:BinOp}{a b:Nat}{ev:Ev}(he:Jmu op a b=some ev)(hc:(match ev.chk with | .ok=>true | .c b=>b)=true)(t:TypeId):
 ∃ v,(binOp op t (.float .f64 a) (.float .f64 b)).run P w = .ok v w∧RV h G w ev.val v∧ev.hs=[]∧ev.mp=none:=by
 unfold Jmu at he
 cases hcmp:Jvf op with
 |true =>
  rw[hcmp,cond_true]at he
  cases he
  refine⟨.bool (Jr op a b),?_,rfl,rfl,rfl⟩
  cases op<;>first|rfl|(cases hcmp;done)
 |false =>
  rw[hcmp,cond_false]at he
  cases he
  simp only[Ev.when]at hc
  obtain⟨r,hr⟩:=Option.isSome_iff_exists.1 hc
  refine⟨.float .f64 r,?_,by simp[Ev.when,RV,RD,hr],rfl,rfl⟩
  cases op<;>first
   |(cases hcmp;done)
   |(have h9:(none:Option Nat)=some r:=hr;cases h9;done)
   |(have hr':=hr
     unfold Jq at hr'
     simp only at hr'
     simp[binOp,Op.floatArith,hr'])
theorem Jus{op:UnOp}{a:PV}{v:Value}{ev:Ev}(he:Jna op a=some ev)(ha:RV h G w a v):
 ∃ u,(Op.unary op v).run P w = .ok u w∧RV h G w ev.val u∧ev.hs=[]∧ev.mp=none∧ev.chk = .ok:=by
 unfold Jna at he
 split at he<;>simp at he<;>subst he<;>simp[RV,RD]at ha<;>subst ha<;>simp[Ev.pure,Op.unary,Op.intArith,Op.intBits,RV,RD,ZD,Ul]
section
variable {ty:TypeId->Option TI} (T:Qg P ty)
include T
theorem J5w{t:TypeId}{z:Nat}(he:YD ty t=some z): ∃ e i,P.underlying t=some (.slice e)∧P.info? e=some i∧i.size=z:=by
 unfold YD at he
 split at he
 ·next ti h1 =>
  split at he
  ·next hk =>
   split at he
   ·next ei h2 =>
    cases he
    obtain⟨d,hd,hm⟩:=(T _ _ h1).kind
    rw[hk]at hm
    obtain⟨i,z,hi,hs,_⟩:=(T _ _ h2).info
    exact⟨_,i,by rw[hd,hm],hi,hs⟩
   ·cases he
  ·cases he
 ·cases he
theorem JaI{t e:TypeId}{K:Kd}{b:Nat}(he:J1K ty t=some (e,K,b)): P.underlying t=some (.slice e) ∧
 ∃ i z,P.info? e=some i∧i.zero=some z∧i.size=K.sz∧i.bytes=b∧0<K.sz∧z.cells.size=K.sz∧∀ w ok,RD w ok K K.zero z.cells.toList:=by
 unfold J1K at he
 split at he
 ·next ti h1 =>
  split at he
  ·next hk =>
   split at he
   ·next ei h2 =>
    split at he
    ·next K' hK =>
     simp only[Option.some.injEq,Prod.mk.injEq]at he
     obtain⟨rfl,rfl,rfl⟩:=he
     obtain⟨d,hd,hm⟩:=(T _ _ h1).kind
     rw[hk]at hm
     obtain⟨i,z,hi,hs,hb,hz,_,_,hkd,_⟩:=(T _ _ h2).info
     obtain⟨k1,k2,k3⟩:=hkd _ hK
     refine⟨by rw[hd,hm],i,z,hi,hz,by rw[hs,k2],hb,k1,?_,k3⟩
     have:=(k3 default (fun _=>True)).len
     simpa using this
    ·cases he
   ·cases he
  ·cases he
 ·cases he
theorem J5m{t:TypeId}(he:YA ty t=true): P.underlying t=some .string:=by
 unfold YA at he
 split at he
 ·next ti h1 =>
  split at he
  ·next hk =>
   obtain⟨d,hd,hm⟩:=(T _ _ h1).kind
   rw[hk]at hm
   rw[hd,hm]
  ·cases he
 ·cases he
theorem J7X{t:TypeId}(he:J04 ty t=true): ∃ e,P.underlying t=some (.slice e)∧P.underlying e=some (.int .u8)∧∃ i,P.info? e=some i∧i.size=1∧i.zero=some (.int .u8 0):=by
 unfold J04 at he
 split at he
 ·next ti h1 =>
  split at he
  ·next hk =>
   split at he
   ·next ei h2 =>
    split at he
    ·next hk2 =>
     obtain⟨d,hd,hm⟩:=(T _ _ h1).kind
     rw[hk]at hm
     obtain⟨d',hd',hm'⟩:=(T _ _ h2).kind
     rw[hk2]at hm'
     obtain⟨i,z,hi,hs,_,hz0,_,hzl,_,hz⟩:=(T _ _ h2).info
     rw[hk2]at hz
     simp only at hz
     exact⟨_,by rw[hd,hm],by rw[hd',hm'],i,hi,by rw[hs,←hzl,hz];rfl,by rw[hz0,hz]⟩
    ·cases he
   ·cases he
  ·cases he
 ·cases he
theorem Jkr{s:TypeId}{f o:Nat}{fi:TI}(he:J5u ty s f=some (o,fi)): ∃ fs fl,P.underlying s=some (.struct fs)∧fs[f]? = some fl∧fl.offset=o∧TiOk P fl.type fi:=by
 unfold J5u at he
 split at he
 ·next ti h1 =>
  split at he
  ·next hk =>
   split at he
   ·next o' ft hf =>
    split at he
    ·next fi' h2 =>
     simp only[Option.some.injEq,Prod.mk.injEq]at he
     obtain⟨rfl,rfl⟩:=he
     obtain⟨d,hd,hm⟩:=(T _ _ h1).kind
     rw[hk]at hm
     obtain⟨fs,rfl,hfs,_⟩:=hm
     rw[←hfs,List.getElem?_map]at hf
     obtain⟨fl,hfl,he⟩:=Option.map_eq_some_iff.1 hf
     simp only[Prod.mk.injEq]at he
     obtain⟨rfl,rfl⟩:=he
     exact⟨fs,fl,hd,by simpa using hfl,rfl,T _ _ h2⟩
    ·cases he
   ·cases he
  ·cases he
 ·cases he
end
theorem TiOk.size{t:TypeId}{ti:TI}(h:TiOk P t ti)(w:World): (sizeOf t).run P w = .ok ti.size w:=by
 obtain⟨i,z,hi,hs,_⟩:=h.info
 simp[sizeOf,typeInfo,hi,hs]
def TI.isAg(ti:TI): Bool:=match ti.k with | .struct=>true|_=>false
theorem TiOk.agg{t:TypeId}{ti:TI}(h:TiOk P t ti)(w:World): (isAgg t).run P w = .ok ti.isAg w:=by
 obtain⟨d,hd,hm⟩:=h.kind
 unfold isAgg TI.isAg
 simp only[Sem.run_bind,run_underlying hd,Result.andThen_ok]
 cases hk:ti.k<;>rw[hk]at hm<;>simp only at hm
 all_goals first
  |(subst hm;rfl)
  |(obtain⟨_,rfl,_⟩:=hm;rfl)
  |(obtain⟨_,rfl⟩:=hm;rfl)
  |(cases d<;>first|rfl|exact hm.elim)
section
variable {ev:Ev}
theorem J2m{p:PV}{v:Value}(he:J5C p=some ev)(hp:RV h G w p v): RV h G w ev.val v∧ev.hs=[]∧ev.mp=none∧ev.chk = .ok:=by
 unfold J5C at he
 split at he
 ·cases he
 ·cases he
 ·cases he;exact⟨hp,rfl,rfl,rfl⟩
theorem JHY{ti:TI}{t:TypeId}(ht:TiOk P t ti){off:Nat}{cs:List PV}{vs:List Value}{p:PV}(he:J3v ti off cs=some p)(hr:RVs h G w cs vs):
 ∃ v,(part t vs.toArray off).run P w = .ok v w∧RV h G w p v:=by
 have hag:=ht.agg w
 unfold J3v at he
 split at he
 ·next hk =>
  simp only[TI.isAg,hk]at hag
  cases hb:Nat.ble (off+ti.size) cs.length with
  |false=>rw[hb]at he;cases he
  |true =>
   rw[hb]at he;cases he
   have hb:=Nat.le_of_ble_eq_true hb
   refine⟨.agg ((vs.drop off).take ti.size).toArray,?_,(vs.drop off).take ti.size,rfl,(hr.drop off).take _⟩
   simp only[part,Sem.run_bind,hag,Result.andThen_ok,if_true,ht.size w,Sem.run_pure]
   congr 2
   apply Array.ext'
   simp[List.extract_eq_take_drop]
 ·next hk =>
  have hf:ti.isAg=false:=by unfold TI.isAg;cases hk2:ti.k<;>simp_all
  rw[hf]at hag
  obtain⟨v,hv,hp⟩:=hr.get off p he
  refine⟨v,?_,hp⟩
  simp[part,hag,hv]
theorem Js5{o f:Nat}{fi:TI}{ty:TypeId->Option TI}(T:Qg P ty){s:TypeId}(hf:J5u ty s f=some (o,fi)){p:PV}{v:Value}(he:JlY o fi p=some ev)(hp:RV h G w p v):
 ∃ u,(Instr.field s v f).run P w = .ok u w∧RV h G w ev.val u∧ev.hs=[]∧ev.mp=none∧ev.chk = .ok:=by
 unfold JlY at he
 split at he
 ·next cs =>
  split at he
  ·next q hq =>
   obtain⟨vs,rfl,hr⟩:=hp
   obtain⟨fs,fl,hd,hfl,rfl,ht⟩:=Jkr T hf
   obtain⟨u,hu,hq⟩:=JHY ht hq hr
   obtain⟨h1,h2⟩:=J2m he hq
   refine⟨u,?_,h1,h2⟩
   simp[Instr.field,run_underlying hd,hfl,asAgg,hu]
  ·cases he
 ·cases he
theorem Jpe{o f:Nat}{fi:TI}{ty:TypeId->Option TI}(T:Qg P ty){s:TypeId}(hf:J5u ty s f=some (o,fi)){p:PV}{v:Value}(he:JjY o fi p=some ev)(hp:RV h G w p v):
 ∃ u,(Instr.fieldAt s v f).run P w = .ok u w∧RV h G w ev.val u∧ev.hs=[]∧ev.mp=none∧ev.chk = .ok:=by
 obtain⟨fs,fl,hd,hfl,rfl,ht⟩:=Jkr T hf
 unfold JjY at he
 cases hz:Nat.beq fi.size 0 with
 |true=>rw[hz]at he;cases he
 |false =>
  rw[hz]at he
  have hz:fi.size≠0:=fun e=>by rw[e]at hz;cases hz
  have key:∀ A:Addr,(Instr.fieldAt s (.pointer (some A)) f).run P w = .ok (.pointer (some (A.add fl.offset))) w:=by
   intro A
   simp[Instr.fieldAt,run_underlying hd,hfl,Instr.sureAddr,fieldPlace,ht.size w,hz]
  simp only[cond_false]at he
  split at he<;>cases he
  ·obtain⟨rfl,hn⟩:=hp
   exact⟨_,key _,⟨by rw[Addr.add_lit],hn⟩,rfl,rfl,rfl⟩
  ·obtain⟨ad,rfl,hn⟩:=hp
   exact⟨_,key _,⟨ad,by rw[Addr.add_add,Nat.add_assoc],hn⟩,rfl,rfl,rfl⟩
  ·obtain⟨ad,rfl,hn⟩:=hp
   exact⟨_,key _,⟨ad,by rw[Addr.add_add,Nat.add_assoc],hn⟩,rfl,rfl,rfl⟩
  ·obtain⟨ad,rfl,hn⟩:=hp
   exact⟨_,key _,⟨ad,by rw[Addr.add_add],hn⟩,rfl,rfl,rfl⟩
  ·obtain⟨e,K,xs,g,hn,hi,hg,rfl⟩:=hp
   exact⟨_,key _,⟨e,K,xs,g,hn,hi,hg,by rw[Addr.add_lit,Nat.add_assoc]⟩,rfl,rfl,rfl⟩
theorem J02:∀ {K:Kd} {x:K.T} {c:List Value},RD w (okB h G) K x c->RVs h G w (K.cells x) c
 |.int k,x,c,hr=>by simp only[RD]at hr;subst hr;exact⟨_,[],rfl,rfl,rfl⟩
 |.bool,x,c,hr=>by simp only[RD]at hr;subst hr;exact⟨_,[],rfl,rfl,rfl⟩
 |.str,x,c,hr=>by simp only[RD]at hr;subst hr;exact⟨_,[],rfl,rfl,rfl⟩
 |.flt,x,c,hr=>by simp only[RD]at hr;subst hr;exact⟨_,[],rfl,rfl,rfl⟩
 |.nil,x,c,hr=>by simp only[RD]at hr;subst hr;rfl
 |.sl e,x,c,hr=>by
  obtain⟨A,cap,rfl,hr⟩:=hr
  exact⟨_,[],rfl,⟨A,cap,rfl,hr⟩,rfl⟩
 |.pr a b,x,c,hr=>by
  obtain⟨c1,c2,rfl,h1,h2⟩:=hr
  exact(J02 h1).append (J02 h2)
theorem JHZ {ti:TI} {t:TypeId} (ht:TiOk P t ti) {A:Addr} {off:Nat} {cs:List PV} {vs:List Value} {p:PV} (he:J3v ti off cs=some p) (hr:RVs h G w cs vs)
 (hc:∀ j u,vs[off+j]? = some u->w.cell? (A.add j)=some u):∃ v,(loadVar t A).run P w = .ok v w∧RV h G w p v:=by
 have hag:=ht.agg w
 unfold J3v at he
 split at he
 ·next hk =>
  simp only[TI.isAg,hk]at hag
  cases hb:Nat.ble (off+ti.size) cs.length with
  |false=>rw[hb]at he;cases he
  |true =>
   rw[hb]at he;cases he
   have hb:=Nat.le_of_ble_eq_true hb
   have hl:((vs.drop off).take ti.size).length=ti.size:=by rw[List.length_take,List.length_drop,hr.length];omega
   have hrun:=run_loadCells_list (P:=P) w A ((vs.drop off).take ti.size) (fun j v hj=>by
    rw[List.getElem?_take]at hj
    split at hj
    ·rw[List.getElem?_drop]at hj;exact hc j v hj
    ·cases hj)
   rw[hl]at hrun
   refine⟨.agg ((vs.drop off).take ti.size).toArray,?_,(vs.drop off).take ti.size,rfl,(hr.drop off).take _⟩
   simp only[loadVar,Sem.run_bind,hag,Result.andThen_ok,if_true,ht.size w,Sem.run_pure,hrun]
 ·next hk =>
  have hf:ti.isAg=false:=by unfold TI.isAg;cases hk2:ti.k<;>simp_all
  rw[hf]at hag
  obtain⟨v,hv,hp⟩:=hr.get off p he
  refine⟨v,?_,hp⟩
  have:=hc 0 v (by simpa using hv)
  rw[Addr.add_zero']at this
  simp[loadVar,hag,load,Sem.run,this]
end
end
section
open Go
variable {P:Program} {h:Je} {G:Gh} {w:World} {ev:Ev} {ty:TypeId->Option TI}
theorem JkZ(T:Qg P ty){ti:TI}{t:TypeId}(ht:ty t=some ti)(obj:∀ n o,h n=some o->RO h G w n o){p:PV}{v:Value}(he:J8H ti h p=some ev)(hp:RV h G w p v):
 ∃ u,(Instr.loadAt t v).run P w = .ok u w∧RV h G w ev.val u∧ev.hs=[]∧ev.mp=none∧ev.chk = .ok:=by
 unfold J8H at he
 split at he
 ·next cs off hcs =>
  split at he
  ·next q hq =>
   have key:∃ A vs,v = .pointer (some A)∧RVs h G w cs vs∧∀ j u,vs[off+j]? = some u->w.cell? (A.add j)=some u:=by
    unfold JlX at hcs
    split at hcs
    ·next n o =>
     split at hcs
     ·next t' cs' hn =>
      simp only[Option.some.injEq,Prod.mk.injEq]at hcs
      obtain⟨rfl,rfl⟩:=hcs
      obtain⟨rfl,_⟩:=hp
      obtain⟨vs,hw,hr⟩:=obj _ _ hn
      refine⟨_,vs,rfl,hr,fun j u hj => ?_⟩
      rw[Addr.add_lit]
      simp only[World.cell?,hw]
      simpa using hj
     ·cases hcs
    ·next K xs i o =>
     simp only[Option.some.injEq,Prod.mk.injEq]at hcs
     obtain⟨rfl,rfl⟩:=hcs
     obtain⟨ad,rfl,hi,hb,hlt,hr⟩:=hp
     obtain⟨c,hc,hu⟩:=hr i (xs.getD i K.zero) (by simp[List.getD,hi])
     refine⟨_,c,rfl,J02 hc,fun j u hj => ?_⟩
     rw[Addr.add_add,Nat.add_assoc]
     exact hu _ _ hj
    ·next K xs i o =>
     simp only[Option.some.injEq,Prod.mk.injEq]at hcs
     obtain⟨rfl,rfl⟩:=hcs
     obtain⟨ad,rfl,hi,hb,hlt,hr⟩:=hp
     obtain⟨c,hc,hu⟩:=hr i (xs.getD i K.zero) (by simp[List.getD,hi])
     refine⟨_,c,rfl,J02 hc,fun j u hj => ?_⟩
     rw[Addr.add_add,Nat.add_assoc]
     exact hu _ _ hj
    ·next K x o =>
     simp only[Option.some.injEq,Prod.mk.injEq]at hcs
     obtain⟨rfl,rfl⟩:=hcs
     obtain⟨ad,rfl,hb,hlt,hr⟩:=hp
     obtain⟨c,hc,hu⟩:=hr 0 x rfl
     refine⟨_,c,rfl,J02 hc,fun j u hj => ?_⟩
     rw[Addr.add_add]
     have:=hu _ _ hj
     rwa [Nat.zero_mul,Nat.zero_add]at this
    ·next n i o =>
     split at hcs
     ·next e K xs hn =>
      simp only[Option.some.injEq,Prod.mk.injEq]at hcs
      obtain⟨rfl,rfl⟩:=hcs
      obtain⟨e',K',xs',g,hn',hi,hg,rfl⟩:=hp
      rw[hn]at hn'
      simp only[Option.some.injEq,HObj.row.injEq]at hn'
      obtain⟨rfl,rfl,hx⟩:=hn'
      have hx:=eq_of_heq hx
      subst hx
      obtain⟨vs,hown,hr,_⟩:=obj _ _ hn
      obtain⟨c,hc,hu⟩:=hr.get i (xs.getD i K.zero) (by simp[List.getD,hi])
      refine⟨_,c,rfl,J02 hc,fun j u hj => ?_⟩
      have:=hown.cells hg _ _ (hu _ _ hj)
      rw[Addr.add_lit]at this ⊢
      rw[←this]
      congr 2
      omega
     ·cases hcs
    ·cases hcs
   obtain⟨A,vs,rfl,hr,hc⟩:=key
   obtain⟨u,hu,hq⟩:=JHZ (T _ _ ht) hq hr hc
   obtain⟨h1,h2⟩:=J2m he hq
   refine⟨u,?_,h1,h2⟩
   simp[Instr.loadAt,Instr.sureAddr,hu]
  ·cases he
 ·cases he
def U5:Chk->Bool
 |.ok=>true
 |.c b=>b
theorem Js6{t:TypeId}(ht:P.underlying t=some .string){p q:PV}{v u:Value}(he:Jm2 p q=some ev)(hp:RV h G w p v)(hq:RV h G w q u)(hc:U5 ev.chk=true):
 ∃ r,(Instr.index t v u).run P w = .ok r w∧RV h G w ev.val r∧ev.hs=[]∧ev.mp=none:=by
 unfold Jm2 at he
 split at he
 ·next s k n =>
  cases he
  simp only[RV,RD,List.cons.injEq,and_true]at hp hq
  subst hp hq
  simp only[Ev.when,U5,inb,Bool.and_eq_true,decide_eq_true_eq]at hc
  obtain⟨h0,h1⟩:=hc
  refine⟨.int .u8 (s.getD n.toNat 0).toNat,?_,rfl,rfl,rfl⟩
  have hlt:n.toNat<s.length:=by omega
  have:(⟨s.toArray⟩:ByteArray)[n.toNat]? = some (s.getD n.toNat 0):=by
   rw[getElem?_pos (⟨s.toArray⟩:ByteArray) n.toNat hlt]
   simp[List.getD,hlt]
   rfl
  simp[Instr.index,asIntOf,run_underlying ht,h0,this]
 ·cases he
theorem Jlx{p:PV}{v:Value}{n:Int}(he:intOf? p=some n)(hp:RV h G w p v): ∃ k,v = .int k n:=by
 unfold intOf? at he
 split at he
 ·cases he
  simp only[RV,RD,List.cons.injEq,and_true]at hp
  exact⟨_,hp⟩
 ·cases he
theorem Jpf(T:Qg P ty){t:TypeId}(obj:∀ n o,h n=some o->RO h G w n o){p q:PV}{v u:Value}(he:JjZ ty h t p q=some ev)(hp:RV h G w p v)(hq:RV h G w q u)(hc:U5 ev.chk=true):
 ∃ r,(Instr.indexAt t v u).run P w = .ok r w∧RV h G w ev.val r∧ev.hs=[]∧ev.mp=none:=by
 unfold JjZ at he
 split at he
 ·next K xs k n =>
  split at he
  ·next z hz =>
   obtain⟨e,i,hd,hi,hs⟩:=J5w T hz
   cases hb:Nat.beq z K.sz with
   |false=>rw[hb]at he;cases he
   |true =>
    rw[hb]at he;cases he
    have hb:=Nat.eq_of_beq_eq_true hb
    simp only[Ev.when,U5,inb,Bool.and_eq_true,decide_eq_true_eq]at hc
    obtain⟨h0,h1⟩:=hc
    simp only[RV,RD,List.cons.injEq,and_true]at hq
    subst hq
    obtain⟨A,cap,hv,hl,hr⟩:=hp
    simp only[List.cons.injEq,and_true]at hv
    subst hv
    rcases hr with hr|⟨ad,rfl,hr⟩
    ·subst hr;simp at h1;omega
    ·refine⟨.pointer (some (ad.add (n.toNat*i.size))),?_,⟨ad,by rw[hs,hb,Nat.add_zero],by omega,hr⟩,rfl,rfl⟩
     have h1':n<(xs.length:Int):=h1
     simp[Instr.indexAt,asIntOf,run_underlying hd,h0,h1',sizeOf,typeInfo,hi]
  ·cases he
 ·next m k n =>
  split at he
  ·next e' K xs hm =>
   split at he
   ·next z hz =>
    obtain⟨e,i,hd,hi,hs⟩:=J5w T hz
    cases hb:Nat.beq z K.sz with
    |false=>rw[hb]at he;cases he
    |true =>
     rw[hb]at he;cases he
     have hb:=Nat.eq_of_beq_eq_true hb
     simp only[Ev.when,U5,inb,Bool.and_eq_true,decide_eq_true_eq]at hc
     obtain⟨h0,h1⟩:=hc
     simp only[RV,RD,List.cons.injEq,and_true]at hq
     subst hq
     obtain⟨rfl,_⟩:=hp
     obtain⟨vs,hown,hr,_⟩:=obj _ _ hm
     rcases hown.2 with⟨hrv,h0'⟩|⟨g,cap,cur,hrv,_⟩
     ·rw[h0']at h1;simp at h1;omega
     ·refine⟨.pointer (some ⟨g,n.toNat*i.size,none⟩),?_,⟨e',K,xs,g,hm,by omega,by rw[hrv];rfl,by rw[hs,hb,Nat.add_zero]⟩,rfl,rfl⟩
      have h1':n<(xs.length:Int):=h1
      rw[hrv]
      simp[Instr.indexAt,asIntOf,run_underlying hd,h0,h1',sizeOf,typeInfo,hi,Addr.add_lit]
   ·cases he
  ·cases he
 ·next K xs k n =>
  split at he
  ·next z hz =>
   obtain⟨e,i,hd,hi,hs⟩:=J5w T hz
   cases hb:Nat.beq z K.sz with
   |false=>rw[hb]at he;cases he
   |true =>
    rw[hb]at he;cases he
    have hb:=Nat.eq_of_beq_eq_true hb
    simp only[Ev.when,U5,inb,Bool.and_eq_true,decide_eq_true_eq]at hc
    obtain⟨h0,h1⟩:=hc
    simp only[RV,RD,List.cons.injEq,and_true]at hq
    subst hq
    obtain⟨A,cap,hv,hl,hr⟩:=hp
    subst hv
    rcases hr with hr|⟨ad,rfl,hr⟩
    ·subst hr;simp at h1;omega
    ·refine⟨.pointer (some (ad.add (n.toNat*i.size))),?_,⟨ad,by rw[hs,hb,Nat.add_zero],by omega,hr⟩,rfl,rfl⟩
     have h1':n<(xs.length:Int):=h1
     simp[Instr.indexAt,asIntOf,run_underlying hd,h0,h1',sizeOf,typeInfo,hi]
  ·cases he
 ·cases he
theorem Jqw{p:PV}{v:Value}{i:Nat}(he:JkX p i=some ev)(hp:RV h G w p v)(hc:U5 ev.chk=true):
 ∃ r,(Instr.extract v i).run P w = .ok r w∧RV h G w ev.val r∧ev.hs=[]∧ev.mp=none:=by
 unfold JkX at he
 split at he
 ·next ps =>
  split at he
  ·next q hq =>
   obtain⟨vs,rfl,hr⟩:=hp
   obtain⟨u,hu,hq⟩:=hr.get i q hq
   obtain⟨h1,h2⟩:=J2m he hq
   exact⟨u,by simp[Instr.extract,hu],h1,h2.1,h2.2.1⟩
  ·cases he
 ·next s p =>
  obtain⟨h0,rfl⟩:=hp
  split at he
  ·cases he
   refine⟨.bool (decide (p<(s.length:Int))),?_,rfl,rfl,rfl⟩
   unfold J3K
   by_cases hp:p<(s.length:Int)
   ·rw[if_pos hp];simp[Instr.extract,hp]
   ·rw[if_neg hp];simp[Instr.extract,hp]
  ·cases he
   have hp:p<(s.length:Int):=by simpa [Ev.when,U5]using hc
   refine⟨.int .i64 p,?_,rfl,rfl,rfl⟩
   simp[Instr.extract,J3K,hp]
  ·cases he
   have hp:p<(s.length:Int):=by simpa [Ev.when,U5]using hc
   refine⟨.int .i32 (YE s p),?_,rfl,rfl,rfl⟩
   simp[Instr.extract,J3K,hp]
  ·cases he
 ·cases he
theorem Js7(T:Qg P ty){s:TypeId}{ti:TI}(ht:ty s=some ti){p:PV}{v:Value}(he:Jm1 s ti p=some ev)(hp:RV h G w p v):
 ∃ r,(Instr.makeInterface s v).run P w = .ok r w∧RV h G w ev.val r∧ev.hs=[]∧ev.mp=none∧ev.chk = .ok:=by
 unfold Jm1 at he
 split at he
 ·cases he
 ·cases he
 ·cases he
 ·next h1 h2 h3 h4 h5 =>
  cases he
  obtain⟨d,hd,hm⟩:=(T _ _ ht).kind
  refine⟨.iface s v,?_,⟨v,rfl,hp⟩,rfl,rfl,rfl⟩
  have:∀ ms,d ≠ .interface ms:=by
   intro ms hms
   subst hms
   cases hk:ti.k<;>rw[hk]at hm<;>simp at hm
   first|exact h1 hk|exact h2 hk|exact h3 hk|exact h4 hk|exact h5 hk
  cases d<;>first|exact absurd rfl (this _)|simp[Instr.makeInterface,run_underlying hd]
theorem JeH{mx:Bool}{p q:PV}{v u:Value}(he:Jf9 mx p q=some ev)(hp:RV h G w p v)(hq:RV h G w q u)(ts:Array TypeId)(t:TypeId):
 ∃ r,(if mx then Builtin.max_ ts t #[v,u]else Builtin.min_ ts t #[v,u]).run P w = .ok r w∧RV h G w ev.val r∧ev.hs=[]∧ev.mp=none∧ev.chk = .ok:=by
 unfold Jf9 at he
 split at he
 ·next k a k' b =>
  split at he
  ·next hk =>
   subst hk
   cases he
   simp only[RV,RD,List.cons.injEq,and_true]at hp hq
   subst hp hq
   cases mx
   ·refine⟨.int k (if b<a then b else a),?_,by simp[Ev.pure,RV,RD],rfl,rfl,rfl⟩
    simp[Builtin.min_,Builtin.min2]
   ·refine⟨.int k (if b>a then b else a),?_,by simp[Ev.pure,RV,RD],rfl,rfl,rfl⟩
    simp[Builtin.max_,Builtin.max2]
  ·cases he
 ·cases he
theorem JtI(T:Qg P ty)(obj:∀ n o,h n=some o->RO h G w n o){p:PV}{v:Value}{t:TypeId}(he:JmP ty h t p=some ev)(hp:RV h G w p v)(r:TypeId):
 ∃ u,(Builtin.len_ #[t] r #[v]).run P w = .ok u w∧RV h G w ev.val u∧ev.hs=[]∧ev.mp=none∧ev.chk = .ok:=by
 have key:(YD ty t).isSome=true->∀(A:Option Addr) (n c:Nat),(Builtin.len_ #[t] r #[.slice A n c]).run P w = .ok (.int .i64 n) w:=by
  intro hs A n c
  obtain⟨z,hz⟩:=Option.isSome_iff_exists.1 hs
  obtain⟨e,i,hd,_⟩:=J5w T hz
  simp[Builtin.len_,run_underlying hd,goInt]
 unfold JmP at he
 split at he
 ·next s =>
  cases hb:YA ty t with
  |false=>rw[hb]at he;cases he
  |true =>
   rw[hb]at he;cases he
   simp only[RV,RD,List.cons.injEq,and_true]at hp
   subst hp
   exact⟨.int .i64 s.length,by simp[Builtin.len_,run_underlying (J5m T hb),goInt];rfl,by simp[Ev.pure,RV,RD],rfl,rfl,rfl⟩
 ·next K xs =>
  cases hb:(YD ty t).isSome with
  |false=>rw[hb]at he;cases he
  |true =>
   rw[hb]at he;cases he
   obtain⟨A,cap,hv,_⟩:=hp
   simp only[List.cons.injEq,and_true]at hv
   subst hv
   exact⟨_,key hb _ _ _,by simp[Ev.pure,RV,RD],rfl,rfl,rfl⟩
 ·cases hb:(YD ty t).isSome with
  |false=>rw[hb]at he;cases he
  |true =>
   rw[hb]at he;cases he
   obtain rfl:v=_:=hp
   exact⟨_,key hb _ _ _,by simp[Ev.pure,RV,RD],rfl,rfl,rfl⟩
 ·next n =>
  split at he
  ·next e K xs hn =>
   cases hb:(YD ty t).isSome with
   |false=>rw[hb]at he;cases he
   |true =>
    rw[hb]at he;cases he
    obtain⟨rfl,_⟩:=hp
    obtain⟨vs,hown,_⟩:=obj _ _ hn
    have:∃ A c,G.rv n = .slice A xs.length c:=by
     rcases hown.2 with⟨h1,h2⟩|⟨g,cap,cur,h1,_⟩
     ·exact⟨_,_,by rw[h1,h2]⟩
     ·exact⟨_,_,h1⟩
    obtain⟨A,c,hrv⟩:=this
    rw[hrv]
    exact⟨_,key hb _ _ _,by simp[Ev.pure,RV,RD],rfl,rfl,rfl⟩
  ·cases he
 ·next K xs =>
  cases hb:(YD ty t).isSome with
  |false=>rw[hb]at he;cases he
  |true =>
   rw[hb]at he;cases he
   obtain⟨A,cap,hv,_⟩:=hp
   subst hv
   exact⟨_,key hb _ _ _,by simp[Ev.pure,RV,RD],rfl,rfl,rfl⟩
 ·cases he
theorem JEq(s:List UInt8)(l r:Nat): (⟨s.toArray⟩:ByteArray).extract l r=⟨((s.take r).drop l).toArray⟩:=by
 apply ByteArray.ext
 rw[ByteArray.data_extract]
 apply Array.ext'
 simp[List.extract_eq_take_drop,List.drop_take]
theorem Js8 (isSlice:Bool) (len cap:Nat) (lo hi:Option Value) (l r:Int) (hl:lo=none∧l=0∨∃ k,lo=some (.int k l)) (hr:hi=none∧r=len∨∃ k,hi=some (.int k r))
 (hb:bnd l r len=true) (hc:len≤cap):(Instr.sliceBounds isSlice len cap lo hi none).run P w = .ok (l.toNat,r.toNat,cap) w:=by
 simp only[bnd,Bool.and_eq_true,decide_eq_true_eq]at hb
 obtain⟨⟨h0,h1⟩,h2⟩:=hb
 have hr':r≤(cap:Int):=by omega
 have e1:((r.toNat:Nat):Int)=r:=by omega
 rcases hl with⟨rfl,rfl⟩|⟨k,rfl⟩<;>rcases hr with⟨rfl,rfl⟩|⟨k',rfl⟩
 ·simp[Instr.sliceBounds]
 ·simp[Instr.sliceBounds,Instr.sliceBound,asIntOf,hr',h1]
 ·have h1':l≤(len:Int):=h1
  simp[Instr.sliceBounds,Instr.sliceBound,asIntOf,h0,h1']
 ·have h4:0≤r:=by omega
  simp[Instr.sliceBounds,Instr.sliceBound,asIntOf,h0,h1,hr',h4,e1]
end
section
open Go
variable {P:Program} {h:Je} {G:Gh} {w:World} {ev:Ev} {ty:TypeId->Option TI}
theorem Jut{α : Type}(xs:List α)(l r:Int)(hb:bnd l r xs.length=true): (cut xs l r).length=r.toNat-l.toNat:=by
 simp only[bnd,Bool.and_eq_true,decide_eq_true_eq]at hb
 simp only[cut,List.length_drop,List.length_take]
 omega
theorem JiX {t e:TypeId} {i:TypeInfo} (hd:P.underlying t=some (.slice e)) (hi:P.info? e=some i) {A:Option Addr} {len cap:Nat} {lo hi':Option Value} {l r:Int}
 (hl:lo=none∧l=0∨∃ k,lo=some (.int k l)) (hr:hi'=none∧r=len∨∃ k,hi'=some (.int k r)) (hb:bnd l r len=true) (hc:len≤cap) :
 (Instr.sliceAt t (.slice A len cap) lo hi' none).run P w = .ok (.slice (if cap=l.toNat then A else A.map (·.add (l.toNat*i.size))) (r.toNat-l.toNat) (cap-l.toNat)) w:=by
 have hbs:=Js8 (P:=P) (w:=w) true len cap lo hi' l r hl hr hb hc
 simp[Instr.sliceAt,Instr.slice,run_underlying hd,hbs,sizeOf,typeInfo,hi]
theorem JBs {t e:TypeId} {i:TypeInfo} (hd:P.underlying t=some (.slice e)) (hi:P.info? e=some i) {A:Option Addr} {len cap:Nat} {lo:Option Value} {l r m:Int} {kr km:IntKind}
 (hl:lo=none∧l=0∨∃ k,lo=some (.int k l)) (hb:bnd l r m=true) (hm:m≤len) (hc:len≤cap) :
 (Instr.sliceAt t (.slice A len cap) lo (some (.int kr r)) (some (.int km m))).run P w = .ok (.slice (if m.toNat=l.toNat then A else A.map (·.add (l.toNat*i.size))) (r.toNat-l.toNat) (m.toNat-l.toNat)) w:=by
 simp only[bnd,Bool.and_eq_true,decide_eq_true_eq]at hb
 obtain⟨⟨h0,h1⟩,h2⟩:=hb
 have hbs:(Instr.sliceBounds true len cap lo (some (.int kr r)) (some (.int km m))).run P w = .ok (l.toNat,r.toNat,m.toNat) w:=by
  have e1:((r.toNat:Nat):Int)=r:=by omega
  have e2:((m.toNat:Nat):Int)=m:=by omega
  have h3:m≤(cap:Int):=by omega
  have h4:0≤m:=by omega
  have h5:0≤r:=by omega
  rcases hl with⟨rfl,rfl⟩|⟨k,rfl⟩
  ·simp[Instr.sliceBounds,Instr.sliceBound,asIntOf,h2,h3,h4,h5,e1,e2]
  ·simp[Instr.sliceBounds,Instr.sliceBound,asIntOf,h0,h1,h2,h3,h4,h5,e1,e2]
 simp[Instr.sliceAt,Instr.slice,run_underlying hd,hbs,sizeOf,typeInfo,hi]
theorem JEr {ok:Nat->Prop} {K:Kd} {xs:List K.T} {A:Option Addr} {cap:Nat} {l r m:Int} (hb:bnd l r m=true) (hm:m≤xs.length) (hc:xs.length≤cap)
 (hr:xs=[]∨∃ ad,A=some ad∧RowAt w ok K.sz (RD w ok K) ad xs) :
 RD w ok (.sl K) (cut xs l r) [.slice (if m.toNat=l.toNat then A else A.map (·.add (l.toNat*K.sz))) (r.toNat-l.toNat) (m.toNat-l.toNat)]:=by
 have hb':bnd l r xs.length=true:=by
  simp only[bnd,Bool.and_eq_true,decide_eq_true_eq]at hb ⊢
  omega
 have hlen:=Jut xs l r hb'
 simp only[bnd,Bool.and_eq_true,decide_eq_true_eq]at hb
 refine⟨_,_,by rw[hlen],by rw[hlen];omega,?_⟩
 by_cases he:cut xs l r=[]
 ·exact .inl he
 ·have hpos:0<(cut xs l r).length:=List.length_pos_iff.2 he
  rcases hr with hr|⟨ad,rfl,h1,h2,h3⟩
  ·subst hr;simp[cut]at he
  ·have hne:¬ m.toNat=l.toNat:=by omega
   rw[if_neg hne]
   refine .inr ⟨ad.add (l.toNat*K.sz),rfl,by rw[J0s];exact h1,by rw[J0s];exact h2,fun i y hy => ?_⟩
   have hy':xs[l.toNat+i]? = some y:=by
    simp only[cut,List.getElem?_drop,List.getElem?_take]at hy
    split at hy
    ·exact hy
    ·cases hy
   obtain⟨c,hcc,hu⟩:=h3 _ _ hy'
   refine⟨c,hcc,fun j u hj => ?_⟩
   rw[Addr.add_add,show l.toNat*K.sz+(i*K.sz+j)=(l.toNat+i)*K.sz+j by rw[Nat.add_mul];omega]
   exact hu _ _ hj
theorem Jks {ok:Nat->Prop} {K:Kd} {xs:List K.T} {A:Option Addr} {cap:Nat} {l r:Int} (hb:bnd l r xs.length=true) (hc:xs.length≤cap)
 (hr:xs=[]∨∃ ad,A=some ad∧RowAt w ok K.sz (RD w ok K) ad xs) :
 RD w ok (.sl K) (cut xs l r) [.slice (if cap=l.toNat then A else A.map (·.add (l.toNat*K.sz))) (r.toNat-l.toNat) (cap-l.toNat)]:=by
 have hlen:=Jut xs l r hb
 simp only[bnd,Bool.and_eq_true,decide_eq_true_eq]at hb
 refine⟨_,_,by rw[hlen],by rw[hlen];omega,?_⟩
 by_cases he:cut xs l r=[]
 ·exact .inl he
 ·have hpos:0<(cut xs l r).length:=List.length_pos_iff.2 he
  rcases hr with hr|⟨ad,rfl,h1,h2,h3⟩
  ·subst hr;simp[cut]at he
  ·have hne:¬ cap=l.toNat:=by omega
   rw[if_neg hne]
   refine .inr ⟨ad.add (l.toNat*K.sz),rfl,by rw[J0s];exact h1,by rw[J0s];exact h2,fun i y hy => ?_⟩
   have hy':xs[l.toNat+i]? = some y:=by
    simp only[cut,List.getElem?_drop,List.getElem?_take]at hy
    split at hy
    ·exact hy
    ·cases hy
   obtain⟨c,hcc,hu⟩:=h3 _ _ hy'
   refine⟨c,hcc,fun j u hj => ?_⟩
   rw[Addr.add_add,show l.toNat*K.sz+(i*K.sz+j)=(l.toNat+i)*K.sz+j by rw[Nat.add_mul];omega]
   exact hu _ _ hj
theorem J1C{n:Nm}{e:TypeId}{K:Kd}{xs:List K.T}(hn:RO h G w n (.row e K xs)):
 ∃ A cap,G.rv n = .slice A xs.length cap∧xs.length≤cap∧(xs=[]∨∃ ad g cs fz,A=some ad∧ad=⟨g,0,none⟩∧(G.rv n).ownBlock=some g∧w.heap[g]? = some (.cells cs e fz) ∧
  ∀(i:Nat) (y:K.T),xs[i]? = some y->∃ c,RD w (okB h G) K y c∧∀(j:Nat) (u:Value),c[j]? = some u->w.cell? (ad.add (i*K.sz+j))=some u):=by
 obtain⟨vs,hown,hr,_⟩:=hn
 rcases hown.2 with⟨h1,h2⟩|⟨g,cap,cur,h1,_,h3,h4,_⟩
 ·exact⟨none,0,by rw[h1,h2],by omega,.inl (List.eq_nil_of_length_eq_zero h2)⟩
 ·refine⟨_,cap,h1,h4,.inr ⟨⟨g,0,none⟩,g,cur,(0,0),rfl,rfl,by rw[h1];rfl,h3,fun i y hy => ?_⟩⟩
  obtain⟨c,hc,hu⟩:=hr.get i y hy
  refine⟨c,hc,fun j u hj => ?_⟩
  exact hown.cells (by rw[h1];rfl) _ _ (hu j u hj)
theorem JFn {s:List UInt8} {lo hi:Option Value} {l r:Int} {t:TypeId} (ht:P.underlying t=some .string) (hl:lo=none∧l=0∨∃ k,lo=some (.int k l))
 (hr:hi=none∧r=s.length∨∃ k,hi=some (.int k r)) (hb:bnd l r s.length=true) :
 (Instr.sliceAt t (.string ⟨s.toArray⟩) lo hi none).run P w = .ok (.string ⟨(cut s l r).toArray⟩) w:=by
 have hbs:=Js8 (P:=P) (w:=w) false s.length s.length lo hi l r hl hr hb (Nat.le_refl _)
 have hsz:(⟨s.toArray⟩:ByteArray).size=s.length:=rfl
 simp[Instr.sliceAt,Instr.slice,run_underlying ht,hsz,hbs,JEq,cut]
theorem RO.lt{n:Nm}{o:HObj}(hn:h n=some o)(hr:RO h G w n o){b:Nat}(hb:Jd h G n=some b): b<w.heap.size:=by
 unfold Jd at hb
 rw[hn]at hb
 cases o with
 |var t cs =>
  simp only[Option.some.injEq]at hb
  subst hb
  obtain⟨vs,hw,_⟩:=hr
  exact(Array.getElem?_eq_some_iff.1 hw).1
 |row e K xs =>
  obtain⟨vs,hown,_⟩:=hr
  exact(hown.lt b hb).2
 |mp ag V es =>
  simp only[Option.some.injEq]at hb
  subst hb
  obtain⟨o,hw,_⟩:=hr
  exact(Array.getElem?_eq_some_iff.1 hw).1
theorem JIP(obj:∀ n o,h n=some o->RO h G w n o)(hX:∀ b,G.X b->b<w.heap.size): ∀ b,w.heap.size≤b->okB h G b:=by
 intro b hb
 refine⟨fun n hn => ?_,fun hx=>by have:=hX b hx;omega⟩
 cases ho:h n with
 |none=>simp[Jd,ho]at hn
 |some o=>have:=RO.lt ho (obj n o ho) hn;omega
theorem Jqx:∀(ns:List Int) (s:ByteArray),ns.foldl (fun r n=>r.push (UInt8.ofNat n.toNat)) s=⟨s.data++(Q5 ns).toArray⟩
 |[],s=>by apply ByteArray.ext;simp[Q5]
 |n::r,s=>by
  rw[List.foldl_cons,Jqx r]
  apply ByteArray.ext
  simp[Q5]
theorem JEs{ok:Nat->Prop}{l:List Int}{ad:Addr}(hr:∀(i:Nat) (y:Int),l[i]? = some y->∃ c,RD w ok (.int .u8) y c∧∀(j:Nat) (u:Value),c[j]? = some u->w.cell? (ad.add (i*(Kd.int .u8).sz+j))=some u):
 (loadCells ad l.length).run P w = .ok (l.map (Value.int .u8)).toArray w:=by
 have:=run_loadCells_list (P:=P) w ad (l.map (Value.int .u8)) (fun j v hj=>by
  rw[List.getElem?_map]at hj
  obtain⟨y,hy,rfl⟩:=Option.map_eq_some_iff.1 hj
  obtain⟨c,hc,hu⟩:=hr j y hy
  simp only[RD]at hc
  subst hc
  have:=hu 0 _ rfl
  simpa [Kd.sz]using this)
 rwa [List.length_map]at this
theorem Jl0 {s r e:TypeId} (hs:P.underlying s=some (.slice e)) (he:P.underlying e=some (.int .u8)) (hd:P.underlying r=some .string) {ok:Nat->Prop} {l:List Int} {A:Option Addr} {cap:Nat}
 (hl:l=[]∧(A=none∨∃ ad,A=some ad)∨∃ ad,A=some ad∧∀(i:Nat) (y:Int),l[i]? = some y->∃ c,RD w ok (.int .u8) y c∧∀(j:Nat) (u:Value),c[j]? = some u->w.cell? (ad.add (i*(Kd.int .u8).sz+j))=some u) :
 (convert s r (.slice A l.length cap)).run P w = .ok (.string ⟨(Q5 l).toArray⟩) w:=by
 rw[run_convert_bytes_string w s r e A _ _ hs he hd]
 have key:∀ ad:Addr,(∀(i:Nat) (y:Int),l[i]? = some y->∃ c,RD w ok (.int .u8) y c∧∀(j:Nat) (u:Value),c[j]? = some u->w.cell? (ad.add (i*(Kd.int .u8).sz+j))=some u) ->
  (Conv.bytesToString (.slice (some ad) l.length cap)).run P w = .ok (.string ⟨(Q5 l).toArray⟩) w:=by
  intro ad h
  rw[run_bytesToString w ad _ cap l (JEs h),Jqx]
  congr 2
  apply ByteArray.ext
  simp
 rcases hl with⟨rfl,rfl|⟨ad,rfl⟩⟩|⟨ad,rfl,h⟩
 ·simp[Conv.bytesToString,Q5];rfl
 ·exact key ad (fun i y hy=>by simp at hy)
 ·exact key ad h
theorem Jqy(T:Qg P ty)(obj:∀ n o,h n=some o->RO h G w n o)(hX:∀ b,G.X b->b<w.heap.size){s r:TypeId}{p:PV}{v:Value}(he:JkY ty h s r p=some ev)(hp:RV h G w p v)(hch:U5 ev.chk=true):
 ∃ u w',(convert s r v).run P w = .ok u w'∧Still w w'∧RV h G w' ev.val u∧ev.hs=[]∧ev.mp=none:=by
 unfold JkY at he
 split at he
 ·next a b ha hb =>
  obtain⟨d,hd,hm⟩:=(T _ _ ha).kind
  obtain⟨d',hd',hm'⟩:=(T _ _ hb).kind
  split at he
  ·next k k' n hk =>
   cases he
   rw[hk]at hm'
   simp only[RV,RD,List.cons.injEq,and_true]at hp
   subst hp hm'
   exact⟨.int k (k.wrap n),w,by simp[convert,run_underlying hd,run_underlying hd',Conv.intToInt],.refl w,rfl,rfl,rfl⟩
  ·next n hk =>
   cases he
   rw[hk]at hm'
   simp only[RV,RD,List.cons.injEq,and_true]at hp
   subst hp hm'
   exact⟨.float .f64 (Jo n),w,by simp[convert,run_underlying hd,run_underlying hd',Conv.intToFloat,Jo],.refl w,rfl,rfl,rfl⟩
  ·next k b hk =>
   cases he
   rw[hk]at hm'
   simp only[RV,RD,List.cons.injEq,and_true]at hp
   subst hp hm'
   simp only[Ev.when,U5,J2x]at hch
   cases hn:JX b with
   |none=>rw[hn]at hch;cases hch
   |some n =>
    rw[hn]at hch
    simp only[Bool.and_eq_true,decide_eq_true_eq]at hch
    have hn':=hn
    unfold JX at hn'
    exact⟨.int k n,w,by simp[convert,run_underlying hd,run_underlying hd',Conv.floatToInt,hn',hch.1,hch.2],.refl w,by simp[Ev.when,RV,RD,hn],rfl,rfl⟩
  ·next l hk =>
   cases he
   rw[hk]at hm'
   simp only[RV,RD,List.cons.injEq,and_true]at hp
   subst hp hm'
   exact⟨.string ⟨l.toArray⟩,w,by simp[convert,run_underlying hd,run_underlying hd'],.refl w,rfl,rfl,rfl⟩
  ·next k' n hk =>
   cases he
   rw[hk]at hm'
   simp only[RV,RD,List.cons.injEq,and_true]at hp
   subst hp hm'
   exact⟨.string (Utf8.encode n),w,by simp[convert,run_underlying hd,run_underlying hd',Conv.intToString],.refl w,by simp[Ev.pure,RV,RD],rfl,rfl⟩
  ·next l hk =>
   cases hs:J04 ty s with
   |false=>rw[hs]at he;cases he
   |true =>
    rw[hs]at he;cases he
    rw[hk]at hm'
    simp only at hm'
    subst hm'
    obtain⟨e,h1,h2,_⟩:=J7X T hs
    obtain⟨A,cap,hv,hc,hr⟩:=hp
    simp only[List.cons.injEq,and_true]at hv
    subst hv
    refine⟨_,w,Jl0 (ok:=okB h G) h1 h2 hd' ?_,.refl w,rfl,rfl,rfl⟩
    rcases hr with hr|⟨ad,rfl,hr⟩
    ·exact .inl ⟨hr,by cases A with|none=>exact .inl rfl|some a=>exact .inr ⟨a,rfl⟩⟩
    ·exact .inr ⟨ad,rfl,hr.2.2⟩
  ·next m hk =>
   split at he
   ·next e' xs hn =>
    cases hs:J04 ty s with
    |false=>rw[hs]at he;cases he
    |true =>
     rw[hs]at he;cases he
     rw[hk]at hm'
     simp only at hm'
     subst hm'
     obtain⟨e,h1,h2,_⟩:=J7X T hs
     obtain⟨rfl,_⟩:=hp
     obtain⟨A,cap,hrv,hc,hr⟩:=J1C (obj _ _ hn)
     rw[hrv]
     refine⟨_,w,Jl0 (ok:=okB h G) h1 h2 hd' ?_,.refl w,rfl,rfl,rfl⟩
     rcases hr with hr|⟨ad,g,cs,fz,rfl,_,_,_,hr⟩
     ·exact .inl ⟨hr,by cases A with|none=>exact .inl rfl|some a=>exact .inr ⟨a,rfl⟩⟩
     ·exact .inr ⟨ad,rfl,hr⟩
   ·cases he
  ·next hk =>
   cases hs:J04 ty s with
   |false=>rw[hs]at he;cases he
   |true =>
    rw[hs]at he;cases he
    rw[hk]at hm'
    simp only at hm'
    subst hm'
    obtain⟨e,h1,h2,_⟩:=J7X T hs
    obtain rfl:v=_:=hp
    exact⟨_,w,Jl0 (ok:=okB h G) (l:=[]) h1 h2 hd' (.inl ⟨rfl,.inl rfl⟩),.refl w,rfl,rfl,rfl⟩
  ·next l hk =>
   cases hs:(J04 ty r&&YA ty s)with
   |false=>rw[hs]at he;cases he
   |true =>
    rw[hs]at he;cases he
    simp only[Bool.and_eq_true]at hs
    obtain⟨e,h1,h2,_⟩:=J7X T hs.1
    simp only[RV,RD,List.cons.injEq,and_true]at hp
    subst hp
    refine⟨_,_,Lib.run_convert_string_bytes w s r e _ hd h1 h2,⟨fun b hb=>Lib.bytesWorld_at_old w e _ b hb,by rw[Lib.bytesWorld_size];omega,rfl,rfl,rfl⟩,?_,rfl,rfl⟩
    have hsz:(⟨l.toArray⟩:ByteArray).size=l.length:=rfl
    refine⟨_,_,by rw[hsz,Js,List.length_map],by rw[Js,List.length_map,←hsz];exact grownCap_ge w _ _ _,.inr ⟨_,rfl,JIP obj hX _ (Nat.le_refl _),by rw[Lib.bytesWorld_size];exact Nat.lt_succ_self _,fun i y hy => ?_⟩⟩
    rw[Js,List.getElem?_map]at hy
    obtain⟨c,hc,rfl⟩:=Option.map_eq_some_iff.1 hy
    refine⟨_,rfl,fun j u hj => ?_⟩
    have hi:i<l.length:=(List.getElem?_eq_some_iff.1 hc).1
    cases j with
    |succ j=>simp at hj
    |zero =>
     simp only[List.getElem?_cons_zero,Option.some.injEq]at hj
     subst hj
     rw[Addr.add_lit]
     simp only[Kd.sz,Nat.mul_one,Nat.zero_add,Nat.add_zero]
     rw[Lib.bytesWorld_cell w e _ i (by rw[hsz];exact hi)]
     simp[List.getD,hc]
  ·cases he
 ·cases he
end
section
open Go
variable {P:Program} {h:Je} {G:Gh} {w:World} {ev:Ev} {ty:TypeId->Option TI}
theorem JGp(x y:List UInt8): ((⟨x.toArray⟩:ByteArray) == ⟨y.toArray⟩)=(x == y):=by
 show(x.toArray == y.toArray)=(x == y)
 simp
theorem JGq{ti:TI}{t:TypeId}(ht:TiOk P t ti){a b:PV}{v u:Value}{x:Bool}(he:JaT ti.k a b=some x)(ha:RV h G w a v)(hb:RV h G w b u)(d:Nat):
 (Op.equalIn (d+1) t v u).run P w = .ok x w:=by
 obtain⟨ds,hd,hm⟩:=ht.kind
 unfold JaT at he
 split at he
 ·next k k1 x' k2 y' hk =>
  rw[hk]at hm
  simp only at hm
  subst hm
  split at he
  ·next hkk =>
   subst hkk
   cases he
   simp only[RV,RD,List.cons.injEq,and_true]at ha hb
   subst ha hb
   simp[Op.equalIn,run_underlying hd]
  ·cases he
 ·next x' y' hk =>
  rw[hk]at hm
  simp only at hm
  subst hm
  cases he
  simp only[RV,RD,List.cons.injEq,and_true]at ha hb
  subst ha hb
  simp[Op.equalIn,run_underlying hd]
 ·next x' y' hk =>
  rw[hk]at hm
  simp only at hm
  subst hm
  cases he
  simp only[RV,RD,List.cons.injEq,and_true]at ha hb
  subst ha hb
  simp only[Op.equalIn,run_underlying hd,Sem.run_bind,Result.andThen_ok,Sem.run_pure]
  rw[JGp]
 ·next x' y' hk =>
  rw[hk]at hm
  simp only at hm
  subst hm
  cases he
  simp only[RV,RD,List.cons.injEq,and_true]at ha hb
  subst ha hb
  simp[Op.equalIn,run_underlying hd,Jr,QW,Op.floatEq]
 ·cases he
theorem JsV{ti:TI}{t:TypeId}(ht:TiOk P t ti){a b:PV}{x:Bool}(he:JaT ti.k a b=some x){xs:Array Value}{i:Nat}{v:Value}(hv:xs[i]? = some v): (part t xs i).run P w = .ok v w:=by
 have hag:=ht.agg w
 have:ti.isAg=false:=by
  unfold TI.isAg
  cases hk:ti.k<;>rw[hk]at he<;>simp[JaT]at he ⊢
 rw[this]at hag
 simp[part,hag,hv]
theorem Js9(T:Qg P ty){xs ys:Array Value}(d:Nat): ∀(n:Nat) (fl:List Field) (a b:List PV) (va vb:List Value) (x:Bool),(∀ f∈fl,(f.name == "_")=false) ->
 J5t ty n (fl.map fun f=>(f.offset,f.type)) a b=some x->RVs h G w a va->RVs h G w b vb->(∀ j v,va[j]? = some v->xs[n+j]? = some v)->(∀ j v,vb[j]? = some v->ys[n+j]? = some v) ->
 (Op.eqFields (d+1) xs ys fl).run P w = .ok x w
 |n,[],a,b,va,vb,x,hn,he,ha,hb,h1,h2=>by
  cases a<;>cases b<;>simp[J5t]at he
  subst he
  simp[Op.eqFields]
 |n,f::fl,a,b,va,vb,x,hn,he,ha,hb,h1,h2=>by
  cases a with
  |nil=>simp[J5t]at he
  |cons p r =>
   cases b with
   |nil=>simp[J5t]at he
   |cons q s =>
    simp only[List.map_cons,J5t]at he
    cases ho:Nat.beq f.offset n with
    |false=>rw[ho]at he;cases he
    |true =>
     rw[ho]at he
     have ho:=Nat.eq_of_beq_eq_true ho
     simp only[cond_true]at he
     obtain⟨v,va,rfl,hv,hva⟩:=ha
     obtain⟨u,vb,rfl,hu,hvb⟩:=hb
     split at he
     ·next ti hti =>
      have ht:=T _ _ hti
      split at he
      ·next z hz =>
       have e1:=JsV (w:=w) ht hz (h1 0 v rfl)
       have e2:=JsV (w:=w) ht hz (h2 0 u rfl)
       have e3:=JGq ht hz hv hu d
       rw[Nat.add_zero,←ho]at e1 e2
       have hn':f.name ≠ "_" := by simpa using hn f (by simp)
       simp only[Op.eqFields,if_pos hn',Sem.run_bind,e1,e2,e3,Result.andThen_ok]
       split at he
       ·next hfl =>
        have hfl:fl=[]:=by simpa using hfl
        subst hfl
        split at he
        ·simp only[Option.some.injEq]at he
         subst he
         cases z<;>simp[Op.eqFields]
        ·cases he
       ·next hfl =>
        split at he
        ·next y hy =>
         cases he
         have:=Js9 T d (n+1) fl r s va vb y (fun f' hf'=>hn f' (by simp[hf'])) hy hva hvb
          (fun j v hj=>by have:=h1 (j+1) v (by simpa using hj);rwa [show n+(j+1)=n+1+j by omega]at this)
          (fun j v hj=>by have:=h2 (j+1) v (by simpa using hj);rwa [show n+(j+1)=n+1+j by omega]at this)
         cases z<;>simp[this]
        ·cases he
      ·cases he
     ·cases he
theorem JtJ{p:PV}{v:Value}(he:JmO p=some ev)(hp:RV h G w p v){o:Oper}{x:Operand}(ho:o.op = .nilCheck x){ρ : Operand->Value}(hx : ρ x=v):
 (execOp ρ o).run P w = .ok (.value v) w∧RV h G w ev.val v∧ev.hs=[]∧ev.mp=none∧ev.chk = .ok:=by
 unfold JmO at he
 split at he<;>cases he
 ·obtain⟨rfl,hn⟩:=hp
  exact⟨by simp[execOp,ho,hx],⟨rfl,hn⟩,rfl,rfl,rfl⟩
 ·obtain⟨ad,rfl,hn⟩:=hp
  exact⟨by simp[execOp,ho,hx],⟨ad,rfl,hn⟩,rfl,rfl,rfl⟩
 ·obtain⟨ad,rfl,hn⟩:=hp
  exact⟨by simp[execOp,ho,hx],⟨ad,rfl,hn⟩,rfl,rfl,rfl⟩
 ·obtain⟨e,K,xs,g,h1,h2,h3,rfl⟩:=hp
  exact⟨by simp[execOp,ho,hx],⟨e,K,xs,g,h1,h2,h3,rfl⟩,rfl,rfl,rfl⟩
 ·obtain⟨vs,rfl,hn⟩:=hp
  exact⟨by simp[execOp,ho,hx],⟨vs,rfl,hn⟩,rfl,rfl,rfl⟩
theorem J2j{op:BinOp}{t:TypeId}{x y:Operand}{a b:Value}(h1:¬ (a = .nilIface∧b = .nilIface))(h2:∀ xs ys,¬ (a = .agg xs∧b = .agg ys)): (eqGuard op t x y a b).run P w = .ok () w:=by
 unfold eqGuard
 cases op<;>simp
 all_goals
  split
  ·exact absurd ⟨rfl,rfl⟩ h1
  ·exact absurd ⟨rfl,rfl⟩ (h2 _ _)
  ·rfl
theorem JI0(T:Qg P ty){t:TypeId}{ti:TI}(hti:ty t=some ti){op:BinOp}{x y:Operand}{p q:PV}{v u:Value}{b:Bool}(he:Jgh ty ti (Zg x || Zg y) p q=some b)(hp:RV h G w p v)(hq:RV h G w q u):
 (eqGuard op t x y v u).run P w = .ok () w∧(Op.equal t v u).run P w = .ok b w∧(∀ k a,v ≠ .int k a)∧(∀ k a,v ≠ .float k a)∧(∀ k a b,v ≠ .complex k a b)∧(∀ a,v ≠ .string a):=by
 have ht:=T _ _ hti
 have E:(∀ d,(Op.equalIn (d+1) t v u).run P w = .ok b w)->(Op.equal t v u).run P w = .ok b w:=fun h=>h 9999
 obtain⟨dd,hd,hm⟩:=ht.kind
 unfold Jgh at he
 cases hes:JmM ti with
 |false=>rw[hes]at he;cases he
 |true =>
  rw[hes,cond_true]at he
  have hpl:ti.k = .struct->JaH P t=true:=fun h=>ht.eqs (by unfold JmM at hes;rw[h]at hes;exact hes) h
  generalize hk:ti.k=k at he hm hpl
  split at he
  ·simp only at hm
   subst hm
   cases he
   simp only[RV,RD,List.cons.injEq,and_true]at hp hq
   subst hp hq
   exact⟨J2j (by simp) (by simp),E fun d=>by simp[Op.equalIn,run_underlying hd],by simp,by simp,by simp,by simp⟩
  ·next aT_ bs =>
   obtain⟨fs,rfl,hfs,_⟩:=hm
   have hpl:=hpl rfl
   simp only[JaH,hd,Bool.and_eq_true,Bool.not_eq_true',List.all_eq_true]at hpl
   obtain⟨⟨g1,g2⟩,g3⟩:=hpl
   obtain⟨va,rfl,ha⟩:=hp
   obtain⟨vb,rfl,hb⟩:=hq
   rw[←hfs]at he
   have h0:=Js9 (xs:=va.toArray) (ys:=vb.toArray) T 9998 0 fs.toList aT_ bs va vb b (fun f hf=>by simpa using g3 f hf) he ha hb (fun j v hj=>by simpa using hj) (fun j v hj=>by simpa using hj)
   refine⟨?_,?_,by simp,by simp,by simp,by simp⟩
   ·unfold eqGuard
    cases op<;>simp[program]<;>simp[Sem.run,Result.andThen,g1]
   ·have hf:P.fieldsOf t=fs:=by simp[Program.fieldsOf,hd]
    have:=run_equalIn_struct (P:=P) w 9999 t va.toArray vb.toArray (by rw[hf];exact hd) g2
    rw[hf]at this
    exact this.trans h0
  ·simp only at hm
   subst hm
   cases he
   simp only[RV]at hp hq
   subst hp hq
   exact⟨J2j (by simp) (by simp),E fun d=>by simp[Op.equalIn,run_underlying hd],by simp,by simp,by simp,by simp⟩
  ·simp only at hm
   subst hm
   cases he
   obtain⟨rfl,_⟩:=hp
   simp only[RV]at hq
   subst hq
   exact⟨J2j (by simp) (by simp),E fun d=>by simp[Op.equalIn,run_underlying hd],by simp,by simp,by simp,by simp⟩
  ·simp only at hm
   subst hm
   cases he
   obtain⟨rfl,_⟩:=hq
   simp only[RV]at hp
   subst hp
   exact⟨J2j (by simp) (by simp),E fun d=>by simp[Op.equalIn,run_underlying hd],by simp,by simp,by simp,by simp⟩
  ·obtain⟨ms,rfl⟩:=hm
   simp only[RV]at hp hq
   subst hp hq
   cases hcst:(Zg x || Zg y)with
   |false=>rw[hcst]at he;cases he
   |true =>
    rw[hcst]at he
    cases he
    refine⟨?_,E fun d=>by simp[Op.equalIn,run_underlying hd],by simp,by simp,by simp,by simp⟩
    unfold eqGuard
    cases op<;>simp
    all_goals cases x<;>cases y<;>simp_all [Zg]
  ·obtain⟨ms,rfl⟩:=hm
   cases he
   obtain⟨z,rfl,_⟩:=hp
   simp only[RV]at hq
   subst hq
   exact⟨J2j (by simp) (by simp),E fun d=>by simp[Op.equalIn,run_underlying hd],by simp,by simp,by simp,by simp⟩
  ·obtain⟨ms,rfl⟩:=hm
   cases he
   obtain⟨z,rfl,_⟩:=hq
   simp only[RV]at hp
   subst hp
   exact⟨J2j (by simp) (by simp),E fun d=>by simp[Op.equalIn,run_underlying hd],by simp,by simp,by simp,by simp⟩
  ·cases he
theorem JHb {op:BinOp} {t:TypeId} {v u:Value} {b:Bool} (n1:∀ k a,v ≠ .int k a) (n2:∀ k a,v ≠ .float k a) (n3:∀ k a b,v ≠ .complex k a b) (n4:∀ a,v ≠ .string a) (heq:(Op.equal t v u).run P w = .ok b w)
 (hr:JmL op (some b)=some ev):∃ r,(binOp op t v u).run P w = .ok r w∧RV h G w ev.val r∧ev.hs=[]∧ev.mp=none:=by
 cases op<;>simp[JmL]at hr<;>subst hr
 ·refine⟨.bool b,?_,rfl,rfl,rfl⟩
  cases v<;>first|exact absurd rfl (n1 _ _)|exact absurd rfl (n2 _ _)|exact absurd rfl (n3 _ _ _)|exact absurd rfl (n4 _)|simp[binOp,heq]
 ·refine⟨.bool (!b),?_,rfl,rfl,rfl⟩
  cases v<;>first|exact absurd rfl (n1 _ _)|exact absurd rfl (n2 _ _)|exact absurd rfl (n3 _ _ _)|exact absurd rfl (n4 _)|simp[binOp,heq]
theorem Jly(T:Qg P ty){op:BinOp}{t:TypeId}{x y:Operand}{p q:PV}{v u:Value}(he:Jb6 ty t op (Zg x || Zg y) p q=some ev)(hp:RV h G w p v)(hq:RV h G w q u)(hc:U5 ev.chk=true):
 (eqGuard op t x y v u).run P w = .ok () w∧∃ r,(binOp op t v u).run P w = .ok r w∧RV h G w ev.val r∧ev.hs=[]∧ev.mp=none:=by
 unfold Jb6 at he
 split at he
 ·next k a k' b =>
  simp only[RV,RD,List.cons.injEq,and_true]at hp hq
  subst hp hq
  refine⟨J2j (by simp) (by simp),?_⟩
  split at he
  ·cases he
   simp only[Ev.when,U5,decide_eq_true_eq]at hc
   have:¬ b<(0:Int):=Int.not_lt.2 hc
   exact⟨.int k (Jn8 k a b),by simp[binOp,Op.shift,this,Jn8],rfl,rfl,rfl⟩
  ·cases he
   simp only[Ev.when,U5,decide_eq_true_eq]at hc
   have:¬ b<(0:Int):=Int.not_lt.2 hc
   exact⟨.int k (Jn9 k a b),by simp[binOp,Op.shift,this,Jn9],rfl,rfl,rfl⟩
  ·next h1 h2 =>
   split at he
   ·next hk =>
    subst hk
    have hs:JlW op=false:=by cases op<;>first|rfl|exact absurd rfl h1|exact absurd rfl h2
    obtain⟨r,hr⟩:=JGl (P:=P) (h:=h) (G:=G) (w:=w) hs he (by unfold U5 at hc;exact hc) t
    exact⟨r,hr⟩
   ·cases he
 ·next a b =>
  simp only[RV,RD,List.cons.injEq,and_true]at hp hq
  subst hp hq
  exact⟨J2j (by simp) (by simp),JGn (P:=P) (h:=h) (G:=G) (w:=w) he (by unfold U5 at hc;exact hc) t⟩
 ·next a b =>
  simp only[RV,RD,List.cons.injEq,and_true]at hp hq
  subst hp hq
  exact⟨J2j (by simp) (by simp),JGo (P:=P) (h:=h) (G:=G) (w:=w) he (by unfold U5 at hc;exact hc) t⟩
 ·split at he
  ·next ti hti =>
   cases hb:Jgh ty ti (Zg x || Zg y) p q with
   |none=>rw[hb]at he;cases op<;>cases he
   |some b =>
    rw[hb]at he
    obtain⟨e1,e2,n1,n2,n3,n4⟩:=JI0 (op:=op) T hti hb hp hq
    exact⟨e1,JHb n1 n2 n3 n4 e2 he⟩
  ·cases he
end
section
open Go
variable {P:Program} {h:Je} {G:Gh} {w:World} {ev:Ev} {ty:TypeId->Option TI}
theorem JfL(vs:List Value): RVs h G w (vs.map cv) vs:=by
 induction vs with
 |nil=>rfl
 |cons v r ih=>exact⟨v,r,rfl,JmU v,ih⟩
theorem TiOk.zeros{t:TypeId}{ti:TI}(ht:TiOk P t ti): ∃ z,(zeroValue t).run P w = .ok z w∧RVs h G w ti.zero z.cells.toList∧RV h G w (JfE ti) z:=by
 obtain⟨i,z,hi,_,_,hz,hzl,hsz,_,hzz⟩:=ht.info
 refine⟨z,by simp[zeroValue,typeInfo,hi,hz],by rw[←hzl];exact JfL _,?_⟩
 unfold JfE
 split
 ·next hk =>
  rw[hk]at hzz
  obtain⟨cs,rfl⟩:=hzz
  exact⟨cs.toList,by simp,by rw[←hzl];exact JfL _⟩
 ·next hk =>
  have:z.cells = #[z]:=by
   cases hk2:ti.k<;>rw[hk2]at hzz hk<;>first|exact hzz|exact absurd rfl hk|(subst hzz;rfl)
  rw[this]at hzl
  rw[←hzl]
  exact JmU z
def UV(vs:List Value)(off:Nat): List Value->List Value
 |[]=>vs
 |v::r=>UV (vs.set off v) (off+1) r
theorem Jf0:∀ {new:List PV} {us:List Value} {cs:List PV} {vs:List Value} (off:Nat),RVs h G w new us->RVs h G w cs vs->RVs h G w (J8N cs off new) (UV vs off us)
 |[],us,cs,vs,off,hn,hr=>by simp[RVs]at hn;subst hn;simpa [J8N,UV]using hr
 |p::r,us,cs,vs,off,hn,hr=>by
  obtain⟨v,l,rfl,hv,hl⟩:=hn
  exact Jf0 (off+1) hl (hr.set off hv)
theorem Jf1(off:Nat): ∀(us:List Value) (k:Nat) (cells:Array Value),((us.zipIdx k).foldl (fun cs x=>cs.setIfInBounds (off+x.2) x.1) cells).toList=UV cells.toList (off+k) us
 |[],k,cells=>rfl
 |v::r,k,cells=>by
  rw[List.zipIdx_cons,List.foldl_cons,Jf1 off r (k+1),UV]
  simp[Nat.add_assoc]
theorem J7Y:∀(us:List Value) (off:Nat) (vs:List Value),(UV vs off us).length=vs.length
 |[],_,_=>rfl
 |v::r,off,vs=>by rw[UV,J7Y r,List.length_set]
theorem RD.one{ok:Nat->Prop}: ∀ {K:Kd} {x:K.T} {cs:List Value},RD w ok K x cs->∀ u∈cs,u.oneCell'=true
 |.int _,_,_,h,u,hu=>by simp only[RD]at h;subst h;simp at hu;subst hu;rfl
 |.bool,_,_,h,u,hu=>by simp only[RD]at h;subst h;simp at hu;subst hu;rfl
 |.str,_,_,h,u,hu=>by simp only[RD]at h;subst h;simp at hu;subst hu;rfl
 |.flt,_,_,h,u,hu=>by simp only[RD]at h;subst h;simp at hu;subst hu;rfl
 |.nil,_,_,h,u,hu=>by simp only[RD]at h;subst h;simp at hu
 |.sl _,_,_,h,u,hu=>by obtain⟨A,cap,rfl,_⟩:=h;simp at hu;subst hu;rfl
 |.pr a b,x,cs,h,u,hu=>by
  obtain⟨c1,c2,rfl,h1,h2⟩:=h
  rcases List.mem_append.1 hu with hu|hu
  ·exact RD.one h1 u hu
  ·exact RD.one h2 u hu
theorem RDs.one{ok:Nat->Prop}{K:Kd}: ∀ {xs:List K.T} {cs:List Value},RDs w ok K xs cs->∀ u∈cs,u.oneCell'=true
 |[],cs,h,u,hu=>by simp[RDs]at h;subst h;cases hu
 |x::r,cs,⟨c1,c2,e,h1,h2⟩,u,hu=>by
  subst e
  rcases List.mem_append.1 hu with hu|hu
  ·exact h1.one u hu
  ·exact h2.one u hu
theorem Jlz(obj:∀ n o,h n=some o->RO h G w n o){q:PV}{u:Value}(hq:J3w q=true)(hu:RV h G w q u): u.oneCell'=true:=by
 cases q with
 |v K x=>exact RD.one hu u (by simp)
 |row n =>
  obtain⟨rfl,e,K,xs,hn⟩:=hu
  obtain⟨A,cap,hrv,_⟩:=J1C (obj _ _ hn)
  rw[hrv];rfl
 |kb b=>obtain rfl:u=_:=hu;rfl
 |nilsl=>obtain rfl:u=_:=hu;rfl
 |nilptr=>obtain rfl:u=_:=hu;rfl
 |nilif=>obtain rfl:u=_:=hu;rfl
 |nps n off=>rcases hu with hu|⟨hu,_⟩<;>subst hu<;>rfl
 |ptr n off=>obtain⟨rfl,_⟩:=hu;rfl
 |elp K xs i off=>obtain⟨ad,rfl,_⟩:=hu;rfl
 |bv K xs=>obtain⟨A,cap,rfl,_⟩:=hu;rfl
 |elq K xs i off=>obtain⟨ad,rfl,_⟩:=hu;rfl
 |lp K x off=>obtain⟨ad,rfl,_⟩:=hu;rfl
 |elr n i off=>obtain⟨_,_,_,_,_,_,_,rfl⟩:=hu;rfl
 |ifc t p=>obtain⟨_,rfl,_⟩:=hu;rfl
 |clo f c=>obtain⟨_,rfl,_⟩:=hu;rfl
 |mpp n=>obtain⟨ag,rfl,_⟩:=hu;cases ag<;>rfl
 |nxt s p=>simp[J3w]at hq
 |agg cs=>simp[J3w]at hq
 |tup cs=>simp[J3w]at hq
 |un=>simp[J3w]at hq
 |ng b=>simp[J3w]at hq
 |opt g c p=>simp[J3w]at hq
theorem JsW(obj:∀ n o,h n=some o->RO h G w n o): ∀ {cs:List PV} {vs:List Value},UG cs=true->RVs h G w cs vs->∀ u∈vs,u.oneCell'=true
 |[],vs,_,hr,u,hu=>by simp[RVs]at hr;subst hr;cases hu
 |p::r,vs,hl,hr,u,hu=>by
  obtain⟨v,l,rfl,hv,hr⟩:=hr
  simp only[UG,Bool.and_eq_true]at hl
  rcases List.mem_cons.1 hu with rfl|hu
  ·exact Jlz obj hl.1 hv
  ·exact JsW obj hl.2 hr u hu
theorem J8r(obj:∀ n o,h n=some o->RO h G w n o){p:PV}{v:Value}(hl:UG (cellsOf p)=true)(hp:RV h G w p v): RVs h G w (cellsOf p) v.cells.toList∧∀ u∈v.cells.toList,u.oneCell'=true:=by
 by_cases hag:∃ cs,p = .agg cs
 ·obtain⟨cs,rfl⟩:=hag
  obtain⟨vs,rfl,hr⟩:=hp
  exact⟨by simpa [Value.cells,cellsOf]using hr,by simpa [Value.cells]using JsW obj hl hr⟩
 ·have hc:cellsOf p=[p]:=by cases p<;>first|rfl|exact absurd ⟨_,rfl⟩ hag
  rw[hc]at hl ⊢
  simp only[UG,Bool.and_true]at hl
  have h1:=Jlz obj hl hp
  have hv:v.cells = #[v]:=by cases v<;>first|rfl|simp[Value.oneCell']at h1
  rw[hv]
  exact⟨⟨v,[],rfl,hp,rfl⟩,by simpa using h1⟩
theorem JsX(obj:∀ n o,h n=some o->RO h G w n o){p:PV}{v:Value}(hl:UG (cellsOf p)=true)(hp:RV h G w p v): v.cells.size=(cellsOf p).length:=by
 have:=(J8r obj hl hp).1.length
 simpa using this
theorem JtK(obj:∀ n o,h n=some o->RO h G w n o){place place':Nat->Option (Nat×Nat)}(hpl:∀ i x,place i=some x->place' i=some x){u:Operand->PV}{ρ : Operand->Value}(hu:∀ x,RV h G w (u x) (ρ x)):
 ∀(parts:List (Nat×Operand)) (cs:List PV) (cells:Array Value) (r:List PV),
 Jg0 place cs (parts.map fun(i,x)=>(i,u x))=some r->RVs h G w cs cells.toList ->
 ∃ out,Instr.fill place' cells (parts.map fun(i,x)=>(i,ρ x))=some out∧RVs h G w r out.toList
 |[],cs,cells,r,he,hr=>by cases he;exact⟨cells,rfl,hr⟩
 |(i,x)::rest,cs,cells,r,he,hr=>by
  simp only[List.map_cons,Jg0]at he
  split at he
  ·next off n hp =>
   cases hb:(UG (cellsOf (u x))&&Nat.beq (cellsOf (u x)).length n&&Nat.ble (off+n) cs.length)with
   |false=>rw[hb]at he;cases he
   |true =>
    rw[hb,cond_true]at he
    simp only[Bool.and_eq_true]at hb
    obtain⟨⟨h1,h2⟩,h3⟩:=hb
    have h2:=Nat.eq_of_beq_eq_true h2
    have h3:=Nat.le_of_ble_eq_true h3
    obtain⟨c1,c2⟩:=J8r obj h1 (hu x)
    have hsz:=JsX obj h1 (hu x)
    have hl:=hr.length
    have e1:¬ ((ρ x).cells.size≠n || decide (off+(ρ x).cells.size>cells.size))=true:=by
     simp only[Array.length_toList]at hl
     simp;omega
    simp only[List.map_cons,Instr.fill,hpl _ _ hp]
    rw[if_neg (by simpa using e1)]
    refine JtK obj hpl hu rest _ _ r he ?_
    have hv:=Jf1 off (ρ x).cells.toList 0 cells
    rw[Nat.add_zero]at hv
    have e2:((ρ x).cells.zipIdx.foldl (fun cs x=>cs.setIfInBounds (off+x.2) x.1) cells).toList=UV cells.toList off (ρ x).cells.toList:=by
     rw[←hv,←Array.foldl_toList,Array.toList_zipIdx]
    show RVs h G w _ (Array.foldl (fun cs x=>cs.setIfInBounds (off+x.2) x.1) cells (ρ x).cells.zipIdx).toList
    rw[e2]
    exact Jf0 off c1 hr
  ·cases he
theorem Jsa (T:Qg P ty) (obj:∀ n o,h n=some o->RO h G w n o) {s:TypeId} {ti:TI} (hs:ty s=some ti) {u:Operand->PV} {ρ : Operand->Value} (hu:∀ x,RV h G w (u x) (ρ x)) {parts:Array (Nat×Operand)}
 (he:Jm0 ty ti (parts.toList.map fun(i,x)=>(i,u x))=some ev) :
 ∃ r,(Instr.build s (parts.map fun(i,x)=>(i,ρ x))).run P w = .ok r w∧RV h G w ev.val r∧ev.hs=[]∧ev.mp=none∧ev.chk = .ok:=by
 unfold Jm0 at he
 split at he
 ·next hk =>
  split at he
  ·next cs hcs =>
   cases he
   have ht:=T _ _ hs
   obtain⟨d,hd,hm⟩:=ht.kind
   rw[hk]at hm
   obtain⟨fs,rfl,hfs,pl,hpl⟩:=hm
   obtain⟨i,z,hi,h1,_,hz,hzl,hsz,_,_⟩:=ht.info
   have hplace:∀ i x,JlZ ty ti.fs i=some x->pl.toArray[i]? = some x:=by
    intro i x hx
    unfold JlZ at hx
    split at hx
    ·next off t ht =>
     split at hx
     ·next ti' hti' =>
      cases hx
      rw[←hfs,List.getElem?_map]at ht
      obtain⟨fl,hfl,he⟩:=Option.map_eq_some_iff.1 ht
      simp only[Prod.mk.injEq]at he
      obtain⟨rfl,rfl⟩:=he
      obtain⟨j,zz,hj,hj2,_⟩:=(T _ _ hti').info
      have:∀(l:List Field) (p:List (Nat×Nat)),l.mapM (fun f=>(P.info? f.type).map fun i=>(f.offset,i.size))=some p->∀(k:Nat) (f:Field),l[k]? = some f->p[k]? = (P.info? f.type).map fun i=>(f.offset,i.size):=by
       intro l
       induction l with
       |nil=>intro p hp k f hf;simp at hf
       |cons a l ih =>
        intro p hp k f hf
        simp only[List.mapM_cons,Option.bind_eq_bind,Option.pure_def]at hp
        cases ha:P.info? a.type with
        |none=>simp[ha]at hp
        |some ia =>
         cases hr:l.mapM (fun f=>(P.info? f.type).map fun i=>(f.offset,i.size))with
         |none=>simp[ha,hr]at hp
         |some rest =>
          simp[ha,hr]at hp
          subst hp
          cases k with
          |zero=>simp at hf;subst hf;simp[ha]
          |succ k=>simp at hf ⊢;exact ih rest hr k f hf
      have:=this fs.toList pl hpl i fl hfl
      simp[this,hj,hj2]
     ·cases hx
    ·cases hx
   obtain⟨out,ho,hr⟩:=JtK obj hplace hu parts.toList ti.zero z.cells cs hcs (by rw[←hzl];exact JfL _)
   refine⟨.agg out,run_build w s _ out ?_,⟨out.toList,by simp,hr⟩,rfl,rfl,rfl⟩
   unfold Program.built
   rw[hi,hd]
   simp only[hz,hpl,Array.toList_map]
   exact ho
  ·cases he
 ·cases he
theorem Jrm(T:Qg P ty){aT_:TypeId}{ti:TI}(hs:ty aT_=some ti){ok:Bool}{p:PV}{v:Value}{xt:TypeId}(he:Jlr ti aT_ ok p=some ev)(hp:RV h G w p v):
 ∃ r,(Instr.typeAssert v xt aT_ ok).run P w = .ok r w∧RV h G w ev.val r∧ev.hs=[]∧ev.mp=none∧ev.chk = .ok:=by
 have ht:=T _ _ hs
 obtain⟨d,hd,hm⟩:=ht.kind
 obtain⟨z,hz,_,hz2⟩:=ht.zeros (h:=h) (G:=G) (w:=w)
 have hni:ti.k ≠ .iface->∀ ms,d ≠ .interface ms:=by
  intro hk ms hms
  subst hms
  cases hk2:ti.k<;>rw[hk2]at hm<;>simp at hm
  exact hk hk2
 unfold Jlr at he
 split at he
 ·cases he
 ·next hk =>
  have hd':=hni hk
  split at he
  ·next s q =>
   obtain⟨u,rfl,hq⟩:=hp
   cases hb:Nat.beq s aT_ with
   |true =>
    rw[hb]at he
    have hb:=Nat.eq_of_beq_eq_true hb
    subst hb
    cases he
    cases ok
    ·refine⟨u,?_,hq,rfl,rfl,rfl⟩
     cases d<;>first|exact absurd rfl (hd' _)|simp[Instr.typeAssert,run_underlying hd]
    ·refine⟨.tuple #[u,.bool true],?_,⟨[u,.bool true],rfl,u,_,rfl,hq,_,_,rfl,rfl,rfl⟩,rfl,rfl,rfl⟩
     cases d<;>first|exact absurd rfl (hd' _)|simp[Instr.typeAssert,run_underlying hd]
   |false =>
    rw[hb]at he
    cases ok with
    |false=>cases he
    |true =>
     cases he
     have hb:¬ s=aT_:=fun e=>by subst e;simp at hb
     refine⟨.tuple #[z,.bool false],?_,⟨[z,.bool false],rfl,z,_,rfl,hz2,_,_,rfl,rfl,rfl⟩,rfl,rfl,rfl⟩
     cases d<;>first|exact absurd rfl (hd' _)|simp[Instr.typeAssert,run_underlying hd,hb,hz]
  ·cases ok with
   |false=>cases he
   |true =>
    cases he
    obtain rfl:v=_:=hp
    refine⟨.tuple #[z,.bool false],?_,⟨[z,.bool false],rfl,z,_,rfl,hz2,_,_,rfl,rfl,rfl⟩,rfl,rfl,rfl⟩
    cases d<;>first|exact absurd rfl (hd' _)|simp[Instr.typeAssert,run_underlying hd,hz]
  ·cases he
end
section
open Go
variable {P:Program} {h:Je} {G:Gh} {w:World} {ev:Ev} {ty:TypeId->Option TI}
theorem J2n{u:Operand->PV}{ρ : Operand->Value}(hu:∀ x,RV h G w (u x) (ρ x)){o:Option Operand}{d n:Int}(he:J06 u o d=some n): o.map ρ = none∧n=d∨∃ k,o.map ρ = some (.int k n):=by
 cases o with
 |none=>cases he;exact .inl ⟨rfl,rfl⟩
 |some x =>
  obtain⟨k,hk⟩:=Jlx he (hu x)
  exact .inr ⟨k,by simp[hk]⟩
theorem Jsb (T:Qg P ty) {u:Operand->PV} {ρ : Operand->Value} (hu:∀ x,RV h G w (u x) (ρ x)) {xt:TypeId} {x:Operand} {lo hi:Option Operand} (he:JaF ty h xt (u x) (J06 u lo) (J06 u hi)=some ev)
 (hc:U5 ev.chk=true) (h1:ev.hs=[]) :
 ∃ r,(Instr.sliceAt xt (ρ x) (lo.map ρ) (hi.map ρ) none).run P w = .ok r w∧RV h G w ev.val r∧ev.mp=none:=by
 have hx:=hu x
 unfold JaF at he
 split at he
 ·next s hs =>
  rw[hs]at hx
  cases hb:YA ty xt with
  |false=>rw[hb]at he;cases he
  |true =>
   rw[hb,cond_true]at he
   unfold Jls at he
   split at he
   ·next l r hl hr =>
    cases he
    simp only[RV,RD,List.cons.injEq,and_true]at hx
    rw[hx]
    exact⟨_,JFn (J5m T hb) (J2n hu hl) (J2n hu hr) hc,rfl,rfl⟩
   ·cases he
 ·next K xs hs =>
  rw[hs]at hx
  split at he
  ·next z hz =>
   obtain⟨e,i,hd,hi',hsz⟩:=J5w T hz
   cases hb:Nat.beq z K.sz with
   |false=>rw[hb]at he;cases he
   |true =>
    rw[hb,cond_true]at he
    have hb:=Nat.eq_of_beq_eq_true hb
    unfold J8q at he
    split at he
    ·next l r hl hr =>
     cases he
     obtain⟨A,cap,hv,hcap,hrow⟩:=hx
     simp only[List.cons.injEq,and_true]at hv
     rw[hv]
     refine⟨_,JiX hd hi' (J2n hu hl) (J2n hu hr) hc hcap,?_,rfl⟩
     rw[hsz,hb]
     exact Jks hc hcap hrow
    ·cases he
  ·cases he
 ·next n hs =>
  split at he
  ·split at he
   ·next z hz =>
    cases hb:Nat.beq z _ with
    |false=>rw[hb]at he;cases he
    |true =>
     rw[hb,cond_true]at he
     unfold Jlt at he
     split at he
     ·cases he;cases h1
     ·cases he
   ·cases he
  ·cases he
 ·next hs =>
  rw[hs]at hx
  split at he
  ·next e K b hz =>
   obtain⟨hd,i,z,hi',_,hsz,_⟩:=JaI T hz
   unfold J8q at he
   split at he
   ·next l r hl hr =>
    cases he
    have hv : ρ x = .slice none 0 0:=hx
    rw[hv]
    refine⟨_,JiX hd hi' (J2n hu hl) (J2n hu hr) hc (Nat.le_refl _),?_,rfl⟩
    rw[hsz]
    exact Jks (xs:=[]) hc (Nat.le_refl _) (.inl rfl)
   ·cases he
  ·cases he
 ·cases he
theorem Jrn (T:Qg P ty) {u:Operand->PV} {ρ : Operand->Value} (hu:∀ x,RV h G w (u x) (ρ x)) {xt:TypeId} {x hi mx:Operand} {lo:Option Operand}
 (he:Jlu ty xt (u x) (J06 u lo 0) (J06 u (some hi) 0) (J06 u (some mx) 0)=some ev) (hc:U5 ev.chk=true) :
 ∃ r,(Instr.sliceAt xt (ρ x) (lo.map ρ) (some (ρ hi)) (some (ρ mx))).run P w = .ok r w∧RV h G w ev.val r∧ev.hs=[]∧ev.mp=none:=by
 have hx:=hu x
 unfold Jlu at he
 split at he
 ·next K xs l r m hs hl hr hm =>
  rw[hs]at hx
  split at he
  ·next z hz =>
   obtain⟨e,i,hd,hi',hsz⟩:=J5w T hz
   cases hb:Nat.beq z K.sz with
   |false=>rw[hb]at he;cases he
   |true =>
    rw[hb,cond_true]at he
    have hb:=Nat.eq_of_beq_eq_true hb
    cases he
    obtain⟨A,cap,hv,hcap,hrow⟩:=hx
    simp only[List.cons.injEq,and_true]at hv
    rw[hv]
    obtain⟨kr,er⟩:=Jlx hr (hu hi)
    obtain⟨km,em⟩:=Jlx hm (hu mx)
    have hc':(bnd l r m&&decide (m≤xs.length))=true:=hc
    simp only[Bool.and_eq_true,decide_eq_true_eq]at hc'
    rw[er,em]
    refine⟨_,JBs hd hi' (J2n hu hl) hc'.1 hc'.2 hcap,?_,rfl,rfl⟩
    rw[hsz,hb]
    exact JEr hc'.1 hc'.2 hcap hrow
  ·cases he
 ·cases he
theorem JlA(T:Qg P ty){s:TypeId}{ag:MK}{V:Kd}(hm:J5M ty s=some (ag,V)): ag ≠ .it∧∃ kt el z,P.underlying s=some (.map kt el)∧P.underlying kt=some .string∧(∀ w,(zeroValue el).run P w = .ok z w)∧∀(h:Je) (G:Gh) (w:World),RV h G w (UH ag.isAgg V V.zero) z:=by
 unfold J5M at hm
 split at hm
 ·next ti hti =>
  split at hm
  ·next hk =>
   split at hm
   ·next ei hei =>
    split at hm
    ·next V' hV =>
     cases hm
     have hT:=T _ _ hti
     have hE:=T _ _ hei
     obtain⟨d,hd,hkk⟩:=hT.kind
     rw[hk]at hkk
     obtain⟨kt,rfl,hkt⟩:=hkk
     obtain⟨i,z,hi,hsz,hby,hz,hcv,hzs,hkd,hsh⟩:=hE.info
     obtain⟨k1,k2,k3⟩:=hkd _ hV
     refine⟨by cases ei.k<;>simp,kt,ti.el,z,hd,hkt,fun w=>by simp[zeroValue,typeInfo,hi,hz],fun h G w => ?_⟩
     have hc:=J02 (h:=h) (G:=G) (k3 w (okB h G))
     unfold UH MK.isAgg
     cases hek:ei.k with
     |struct =>
      rw[hek]at hsh
      obtain⟨cs,rfl⟩:=hsh
      simp only[cond_true]
      exact⟨cs.toList,rfl,hc⟩
     |_ =>
      have hz1:z.cells = #[z]:=by
       rw[hek]at hsh
       first
        |exact hsh
        |(subst hsh;rfl)
      rw[hz1]at hc
      simp only[cond_false]
      have hl:=hc.length
      cases hcs:V.cells V.zero with
      |nil=>rw[hcs]at hl;simp at hl
      |cons p r =>
       cases r with
       |nil =>
        rw[hcs]at hc
        obtain⟨v,l,e1,e2,e3⟩:=hc
        simp only[List.cons.injEq]at e1
        obtain⟨rfl,_⟩:=e1
        exact e2
       |cons q r=>rw[hcs]at hl;simp at hl
    ·cases hm
   ·cases hm
  ·cases hm
 ·cases hm
theorem JtL(a b:List UInt8): ((⟨a.toArray⟩:ByteArray) == ⟨b.toArray⟩)=(a == b):=by
 show(a.toArray == b.toArray)=(a == b)
 simp
theorem Jkt{ag:Bool}{V:Kd}(key:List UInt8): ∀(ents:List MapEntry) (es:List (List UInt8×V.T)) (i:Nat),EntsOk h G w ag V ents es ->
 ∃ r,Instr.findNow .string (.string ⟨key.toArray⟩) ents i=some r∧match r with
  |none=>J5V V key es=false∧Yv V key es=V.zero
  |some (j,v)=>J5V V key es=true∧RV h G w (UH ag V (Yv V key es)) v
 |[],[],i,_=>⟨none,rfl,rfl,rfl⟩
 |[],_::_,i,h=>h.elim
 |_::_,[],i,h=>h.elim
 |e::r,(k,x)::s,i,⟨h1,h2,h3⟩=>by
  unfold Instr.findNow
  rw[h1]
  have hs:Instr.sameNow .string (.string ⟨key.toArray⟩) (.string ⟨k.toArray⟩)=some (key == k):=by
   show some ((⟨key.toArray⟩:ByteArray) == ⟨k.toArray⟩)=_
   rw[JtL]
  rw[hs,J5V,Yv]
  cases key == k with
  |true=>exact⟨_,rfl,rfl,h2⟩
  |false=>exact Jkt key r s (i+1) h3
theorem JEt(T:Qg P ty)(obj:∀ n o,h n=some o->RO h G w n o){s:TypeId}{ag:MK}{V:Kd}(hm:J5M ty s=some (ag,V)){ok:Bool}{x i:PV}{vx vi:Value}(he:Jf7 h ag V ok x i=some ev)(hx:RV h G w x vx)(hi:RV h G w i vi):
 ∃ v,(Instr.lookup s vx vi ok).run P w = .ok v w∧Still w w∧RV h G w ev.val v:=by
 unfold Jf7 at he
 split at he
 ·next n key =>
  split at he
  ·next ag' V' es hn =>
   split at he
   ·next hc =>
    obtain⟨rfl,rfl⟩:=hc
    cases he
    obtain⟨hni,kt,el,z,h1,h2,h3,h4⟩:=JlA T hm
    obtain⟨ag2,rfl,V2,es2,hn2⟩:=hx
    rw[hn]at hn2
    simp only[Option.some.injEq,HObj.mp.injEq]at hn2
    obtain⟨rfl,_,_⟩:=hn2
    have hi:vi = .string ⟨key.toArray⟩:=by simpa [RV,RD]using hi
    subst hi
    obtain⟨o,hw,hO⟩:=obj _ _ hn
    rcases hO with⟨_,ents,clock,rfl,hE⟩|⟨hit,_⟩
    rotate_left
    ·exact absurd hit hni
    have hval:MK.val ag (G.bk n) = .map (some (G.bk n)):=by cases ag<;>first|rfl|exact absurd rfl hni
    rw[hval]
    obtain⟨r,hr,hs⟩:=Jkt (h:=h) (G:=G) (w:=w) key ents.toList es 0 hE
    have hck:∀ b,(Instr.checkKey b 10000 kt (.string ⟨key.toArray⟩)).run P w = .ok () w:=by
     intro b
     unfold Instr.checkKey
     rw[Sem.run_bind,run_underlying h2,Result.andThen_ok]
     rfl
    have hfk:(Instr.findKey kt (.string ⟨key.toArray⟩) ents.toList).run P w = .ok r w:=by
     simp[Instr.findKey,run_underlying h2,hr]
    have hgo:(getObj (G.bk n)).run P w = .ok (.map ents clock) w:=by
     simp[getObj,Sem.run,hw]
    cases r with
    |none =>
     obtain⟨s1,s2⟩:=hs
     refine⟨if ok then .tuple #[z,.bool false]else z,?_,Still.refl w,?_⟩
     ·simp[Instr.lookup,run_underlying h1,hgo,hck,hfk,h3]
     ·rw[s1,s2]
      cases ok with
      |true=>exact⟨[z,.bool false],rfl,_,_,rfl,h4 h G w,_,_,rfl,rfl,rfl⟩
      |false=>exact h4 h G w
    |some q =>
     obtain⟨j,v⟩:=q
     obtain⟨s1,s2⟩:=hs
     refine⟨if ok then .tuple #[v,.bool true]else v,?_,Still.refl w,?_⟩
     ·simp[Instr.lookup,run_underlying h1,hgo,hck,hfk]
     ·rw[s1]
      cases ok with
      |true=>exact⟨[v,.bool true],rfl,_,_,rfl,s2,_,_,rfl,rfl,rfl⟩
      |false=>exact s2
   ·cases he
  ·cases he
 ·cases he
theorem Jqz (T:Qg P ty) (obj:∀ n o,h n=some o->RO h G w n o) (hX:∀ b,G.X b->b<w.heap.size) {u:Operand->PV} {ρ : Operand->Value} (hu:∀ x,RV h G w (u x) (ρ x)) {o:Oper} {d:Nat}
 (he:Zh ty u h d o.op=some ev) (hc:U5 ev.chk=true) (h1:ev.hs=[]) (h2:ev.mp=none) :
 ∃ v w',(execOp ρ o).run P w = .ok (.value v) w'∧Still w w'∧RV h G w' ev.val v:=by
 unfold Zh at he
 split at he
 ·next x ho=>exact⟨ρ x,w,by simp[execOp,ho],.refl w,(J2m he (hu x)).1⟩
 ·next x ho=>exact⟨ρ x,w,by simp[execOp,ho],.refl w,(J2m he (hu x)).1⟩
 ·next op t x y yt ho =>
  obtain⟨e1,r,e2,e3,_⟩:=Jly (P:=P) T he (hu x) (hu y) hc
  exact⟨r,w,by simp[execOp,ho,e1,e2],.refl w,e3⟩
 ·next op t x ho =>
  obtain⟨r,e2,e3,_⟩:=Jus (P:=P) he (hu x)
  exact⟨r,w,by simp[execOp,ho,e2],.refl w,e3⟩
 ·next x i ho =>
  obtain⟨r,e2,e3,_⟩:=Jqw (P:=P) he (hu x) hc
  exact⟨r,w,by simp[execOp,ho,e2],.refl w,e3⟩
 ·next x ho =>
  obtain⟨e2,e3,_⟩:=JtJ (P:=P) he (hu x) ho rfl
  exact⟨ρ x,w,e2,.refl w,e3⟩
 ·next s x f ho =>
  split at he
  ·next o' fi hf =>
   obtain⟨r,e2,e3,_⟩:=Jpe (P:=P) T hf he (hu x)
   exact⟨r,w,by simp[execOp,ho,e2],.refl w,e3⟩
  ·cases he
 ·next s x f ho =>
  split at he
  ·next o' fi hf =>
   obtain⟨r,e2,e3,_⟩:=Js5 (P:=P) T hf he (hu x)
   exact⟨r,w,by simp[execOp,ho,e2],.refl w,e3⟩
  ·cases he
 ·next s parts ho =>
  split at he
  ·next ti hs =>
   obtain⟨r,e2,e3,_⟩:=Jsa (P:=P) T obj hs hu he
   exact⟨r,w,by simp only[execOp,ho,Sem.run_bind,e2];rfl,.refl w,e3⟩
  ·cases he
 ·next s x ho =>
  split at he
  ·next ti hs =>
   obtain⟨r,e2,e3,_⟩:=Js7 (P:=P) T hs he (hu x)
   exact⟨r,w,by simp only[execOp,ho,Sem.run_bind,e2];rfl,.refl w,e3⟩
  ·cases he
 ·next x xt aT_ ok ho =>
  split at he
  ·next ti hs =>
   obtain⟨r,e2,e3,_⟩:=Jrm (P:=P) (xt:=xt) T hs he (hu x)
   exact⟨r,w,by simp only[execOp,ho,Sem.run_bind,e2];rfl,.refl w,e3⟩
  ·cases he
 ·next f first caps ho =>
  cases hb:Nat.beq first.size 0 with
  |false=>rw[hb]at he;cases he
  |true =>
   rw[hb]at he;cases he
   have hb:=Nat.eq_of_beq_eq_true hb
   have hf:first = #[]:=Array.eq_empty_of_size_eq_zero hb
   subst hf
   refine⟨_,w,by simp only[execOp,ho,Sem.run_bind,Instr.makeFunc];rfl,.refl w,?_⟩
   refine⟨caps.toList.map ρ,by simp;apply Array.ext';simp,?_⟩
   have:∀ l:List Operand,RVs h G w (l.map u) (l.map ρ):=by
    intro l
    induction l with
    |nil=>rfl
    |cons x r ih=>exact⟨_,_,rfl,hu x,ih⟩
   exact this _
 ·next t x i ho =>
  cases hb:YA ty t with
  |false=>rw[hb]at he;cases he
  |true =>
   rw[hb,cond_true]at he
   obtain⟨r,e2,e3,_⟩:=Js6 (P:=P) (J5m T hb) he (hu x) (hu i) hc
   exact⟨r,w,by simp only[execOp,ho,Sem.run_bind,e2];rfl,.refl w,e3⟩
 ·next xt x lo hi ho =>
  obtain⟨r,e2,e3,_⟩:=Jsb (P:=P) T hu he hc h1
  exact⟨r,w,by simp only[execOp,ho,Sem.run_bind,Option.map_none,e2];rfl,.refl w,e3⟩
 ·next xt x lo hi mx ho =>
  obtain⟨r,e2,e3,_⟩:=Jrn (P:=P) T hu he hc
  exact⟨r,w,by simp only[execOp,ho,Sem.run_bind,Option.map_some,e2];rfl,.refl w,e3⟩
 ·next t x i ho =>
  obtain⟨r,e2,e3,_⟩:=Jpf (P:=P) T obj he (hu x) (hu i) hc
  exact⟨r,w,by simp only[execOp,ho,Sem.run_bind,e2];rfl,.refl w,e3⟩
 ·next s a ho =>
  split at he
  ·next ti hs =>
   obtain⟨r,e2,e3,_⟩:=JkZ (P:=P) T hs obj he (hu a)
   exact⟨r,w,by simp only[execOp,ho,Sem.run_bind,e2];rfl,.refl w,e3⟩
  ·cases he
 ·next s a x ho =>
  exfalso
  split at he
  ·unfold Jfr at he
   cases hb:(UG (cellsOf (u x))&&Nat.beq (cellsOf (u x)).length _)with
   |false=>rw[hb]at he;cases he
   |true =>
    rw[hb,cond_true]at he
    split at he
    ·split at he
     ·cases hb2:Nat.ble _ _ with
      |false=>rw[hb2]at he;cases he
      |true=>rw[hb2]at he;cases he;cases h1
     ·cases he
    ·split at he
     ·cases hb2:Nat.ble _ _ with
      |false=>rw[hb2]at he;cases he
      |true =>
       rw[hb2,cond_true]at he
       split at he
       ·cases hb3:QV _ _ with
        |true=>rw[hb3]at he;cases he
        |false=>rw[hb3]at he;cases he;simp at h1
       ·cases he
     ·cases he
    ·cases he
  ·cases he
 ·next s ho =>
  exfalso
  split at he
  ·unfold Jfs at he
   split at he
   ·cases he;cases h1
   ·cases he
  ·cases he
 ·next s x ho =>
  exfalso
  unfold Jg1 at he
  cases hb:UG (cellsOf (u x))with
  |false=>rw[hb]at he;cases he
  |true =>
   rw[hb,cond_true]at he
   split at he
   ·cases he;cases h1
   ·cases he
 ·next s n parts ho =>
  exfalso
  split at he
  ·unfold Jeq at he
   split at he
   ·split at he
    ·cases hb:(_&&_)with
     |false=>rw[hb]at he;cases he
     |true=>rw[hb,cond_true]at he;cases he;simp at h1
    ·cases he
   ·cases he
  ·cases he
 ·next s l c ho =>
  exfalso
  split at he
  ·unfold JfG at he
   split at he
   ·split at he
    ·cases he;simp at h1
    ·cases he
   ·cases he
  ·cases he
 ·next s r x ho =>
  split at he
  ·next ev' hm =>
   cases he
   exfalso
   unfold JfH at hm
   split at hm
   ·cases hb:(_&&_)with
    |false=>rw[hb]at hm;cases hm
    |true =>
     rw[hb,cond_true]at hm
     split at hm
     ·cases hm;cases h1
     ·cases hm
   ·cases hm
  ·obtain⟨v,w',e1,e2,e3,_⟩:=Jqy (P:=P) T obj hX he (hu x) hc
   exact⟨v,w',by simp only[execOp,ho,Sem.run_bind,e1];rfl,e2,e3⟩
 ·next s ho =>
  exfalso
  split at he
  ·unfold JeZ at he
   split at he
   ·cases he;cases h1
   ·cases he
  ·cases he
 ·next t x ho =>
  exfalso
  cases hb:YA ty t with
  |false=>rw[hb]at he;cases he
  |true =>
   rw[hb,cond_true]at he
   unfold Jfq at he
   split at he
   ·split at he
    ·cases he;cases h1
    ·cases he
   ·cases he
 ·next x ho =>
  exfalso
  unfold JfF at he
  split at he
  ·split at he
   ·split at he
    ·cases he;cases h1
    ·cases he
   ·cases he
  ·cases he
 ·next s x i ok ho =>
  split at he
  ·next ag V hm =>
   obtain⟨v,e1,e2,e3⟩:=JEt (P:=P) T obj hm he (hu x) (hu i)
   exact⟨v,w,by simp only[execOp,ho,Sem.run_bind,e1];rfl,e2,e3⟩
  ·cases he
 ·next s x i p ho =>
  exfalso
  split at he
  ·unfold JeG at he
   split at he
   ·split at he
    ·split at he
     ·cases hb:(_&&_)with
      |false=>rw[hb]at he;cases he
      |true=>rw[hb,cond_true]at he;cases he;cases h1
     ·cases he
    ·cases he
   ·cases he
  ·cases he
 ·next b args ts ho =>
  unfold Jmv at he
  split at he
  ·next x t ha ht =>
   obtain⟨v,e1,e2,_⟩:=JtI (P:=P) T obj he (hu x) o.type
   have ha':args = #[x]:=by apply Array.ext';simpa using ha
   have ht':ts = #[t]:=by apply Array.ext';simpa using ht
   subst ha' ht'
   exact⟨v,w,by simp[execOp,ho,resolve,invoke,builtin,e1],.refl w,e2⟩
  ·next x y t t' ha ht =>
   exfalso
   split at he
   ·cases hb:J2G ty (u y) t t' _ with
    |false=>rw[hb]at he;cases he
    |true =>
     rw[hb,cond_true]at he
     unfold Jf8 at he
     split at he
     ·split at he
      ·split at he
       ·cases he;cases h1
       ·cases he
      ·split at he
       ·split at he
        ·cases hb2:(_&&_)with
         |false=>rw[hb2]at he;cases he
         |true=>rw[hb2,cond_true]at he;cases he;cases h1
        ·cases he
       ·cases he
      ·cases he
     ·cases he
   ·cases he
  ·next x y ha =>
   obtain⟨v,e1,e2,_⟩:=JeH (P:=P) he (hu x) (hu y) ts o.type
   have ha':args = #[x,y]:=by apply Array.ext';simpa using ha
   subst ha'
   simp only[Bool.false_eq_true,if_false]at e1
   exact⟨v,w,by simp[execOp,ho,resolve,invoke,builtin,e1],.refl w,e2⟩
  ·next x y ha =>
   obtain⟨v,e1,e2,_⟩:=JeH (P:=P) he (hu x) (hu y) ts o.type
   have ha':args = #[x,y]:=by apply Array.ext';simpa using ha
   subst ha'
   simp only[if_true]at e1
   exact⟨v,w,by simp[execOp,ho,resolve,invoke,builtin,e1],.refl w,e2⟩
  ·cases he
 ·cases he
end
section
open Go
variable {P:Program} {h:Je} {G:Gh} {w:World} {ev:Ev} {ty:TypeId->Option TI}
structure Dis (h:Je) (G:Gh) (w:World):Prop where
 inj:∀ n m b,Jd h G n=some b->Jd h G m=some b->n=m
 xo:∀ n b,Jd h G n=some b->¬ G.X b
 xlt:∀ b,G.X b->b<w.heap.size
structure Loud (h:Je) (G:Gh) (w:World) (h':Je) (mp:Option (PV->PV)) (G':Gh) (w':World):Prop where
 f:∃ f,(mp=none∧f=PV.row∨mp=some (PV.mapR f))∧Carry h G w h' G' w' f
 obj:∀ n o,h' n=some o->RO h' G' w' n o
 dis:∀ n m b,Jd h' G' n=some b->Jd h' G' m=some b->n=m
 blk:∀ b,b<w.heap.size->J3C h G b->w'.heap[b]? = w.heap[b]?
 X:G'.X=G.X
 new:∀ n b,Jd h' G' n=some b->(∃ m,Jd h G m=some b)∨w.heap.size≤b
 grow:w.heap.size≤w'.heap.size
 os:w'.os=w.os
 tape:w'.tape=w.tape
 out:w'.output=w.output
def VarKept(h:Je)(G:Gh)(w w':World)(tn:List Nm): Prop:=∀ n t cs,h n=some (.var t cs)->n ∉ tn->w'.heap[G.bk n]? = w.heap[G.bk n]?
theorem VarKept.ext(obj:∀ n o,h n=some o->RO h G w n o){w':World}(hb:∀ b,b<w.heap.size->w'.heap[b]? = w.heap[b]?)(tn:List Nm): VarKept h G w w' tn:=fun n t cs hn _=>by
 obtain⟨vs,hw,_⟩:=obj n _ hn
 exact hb _ (Array.getElem?_eq_some_iff.1 hw).1
structure Kept (h:Je) (G:Gh) (w:World) (h':Je) (G':Gh) (w':World) (tn:List Nm):Prop where
 blk:∀ b,b<w.heap.size->J3C h G b->w'.heap[b]? = w.heap[b]?
 var:VarKept h G w w' tn
 new:∀ n b,Jd h' G' n=some b->(∃ m,Jd h G m=some b)∨w.heap.size≤b
 vars:∀ n t cs,h n=some (.var t cs)->(∃ cs',h' n=some (.var t cs'))∧G'.bk n=G.bk n
 grow:w.heap.size≤w'.heap.size
theorem Loud.kept{h':Je}{mp:Option (PV->PV)}{G':Gh}{w':World}{tn:List Nm}(L:Loud h G w h' mp G' w')(V:VarKept h G w w' tn): Kept h G w h' G' w' tn:=by
 obtain⟨f,_,C⟩:=L.f
 exact⟨L.blk,V,L.new,C.var,L.grow⟩
theorem Kept.refl(h:Je)(G:Gh)(w:World)(tn:List Nm): Kept h G w h G w tn:=⟨fun _ _ _=>rfl,fun _ _ _ _ _=>rfl,fun n b h => .inl ⟨n,h⟩,fun n t cs h=>⟨⟨cs,h⟩,rfl⟩,Nat.le_refl _⟩
theorem Loud.toDis{h':Je}{mp:Option (PV->PV)}{G':Gh}{w':World}(L:Loud h G w h' mp G' w')(D:Dis h G w): Dis h' G' w':=by
 refine⟨L.dis,fun n b hn hx => ?_,fun b hx=>Nat.lt_of_lt_of_le (D.xlt b (by rw[←L.X];exact hx)) L.grow⟩
 rw[L.X]at hx
 rcases L.new n b hn with⟨m,hm⟩|hlt
 ·exact D.xo m b hm hx
 ·have:=D.xlt b hx;omega
section
variable {w0:World} {fr:Nat->Prop} {X0:Org} {n:Nat} {ds:List Deferred} {st:St} {a:Act}
theorem Rel.lt(R:Rel w0 fr X0 n ds st G a w){b:Nat}(hb:fr b)(hf:∀ b,fr b->b<w0.heap.size): b<w.heap.size∧J3C st.h G b :=
 ⟨Nat.lt_of_lt_of_le (hf b hb) R.grow,fun m hm=>R.apart m b hm hb⟩
theorem Rel.loud(R:Rel w0 fr X0 n ds st G a w)(hf:∀ b,fr b->b<w0.heap.size){h':Je}{mp:Option (PV->PV)}{G':Gh}{w':World}(L:Loud st.h G w h' mp G' w'){d:Nat}(hd:d<n){p:PV}{v:Value}(hp:RV h' G' w' p v):
 Rel w0 fr X0 n ds ⟨upd (J2F mp st.t) d p,h'⟩ G' (a.put (some d) v) w':=by
 obtain⟨f,hmp,C⟩:=L.f
 refine R.put C L.obj L.dis (fun m b hm hb => ?_) L.X (fun b hb => ?_) L.grow L.os L.tape L.out hd hp (fun i => ?_)
 ·rcases L.new m b hm with⟨k,hk⟩|hlt
  ·exact R.apart k b hk hb
  ·have:=(R.lt hb hf).1;omega
 ·obtain⟨h1,h2⟩:=R.lt hb hf
  exact L.blk b h1 h2
 ·unfold upd
  by_cases hi:i=d
  ·subst hi;simp
  ·have:Nat.beq i d=false:=by cases hb:Nat.beq i d with|false=>rfl|true=>exact absurd (Nat.eq_of_beq_eq_true hb) hi
   rw[this,cond_false,if_neg hi]
   rcases hmp with⟨rfl,rfl⟩|rfl
   ·rw[PV.mapR_row];rfl
   ·rfl
theorem Rel.loud0(R:Rel w0 fr X0 n ds st G a w)(hf:∀ b,fr b->b<w0.heap.size){h':Je}{mp:Option (PV->PV)}{G':Gh}{w':World}(L:Loud st.h G w h' mp G' w'):
 Rel w0 fr X0 n ds ⟨J2F mp st.t,h'⟩ G' a w':=by
 obtain⟨f,hmp,C⟩:=L.f
 refine R.turn C L.obj L.dis (fun m b hm hb => ?_) L.X (fun b hb => ?_) L.grow L.os L.tape L.out (fun i => ?_)
 ·rcases L.new m b hm with⟨k,hk⟩|hlt
  ·exact R.apart k b hk hb
  ·have:=(R.lt hb hf).1;omega
 ·obtain⟨h1,h2⟩:=R.lt hb hf
  exact L.blk b h1 h2
 ·rcases hmp with⟨rfl,rfl⟩|rfl
  ·rw[PV.mapR_row];rfl
  ·rfl
end
theorem J1A(o:HObj): J1J (PV.mapR .row) o=o:=by
 cases o with
 |var t cs=>simp only[J1J];rw[←Jlw,mapRs_row]
 |row e K xs=>rfl
 |mp ag V es=>rfl
theorem JqA(f:Nm->PV): ∀ a b:List PV,mapRs f (a++b)=mapRs f a++mapRs f b
 |[],b=>rfl
 |p::a,b=>by rw[List.cons_append,mapRs,mapRs,JqA f a b];rfl
theorem Jku(f:Nm->PV): ∀(V:Kd) (x:V.T),mapRs f (V.cells x)=V.cells x
 |.pr a b,x=>by rw[Kd.cells,JqA,Jku f a,Jku f b]
 |.nil,_=>rfl
 |.int _,_=>rfl
 |.bool,_=>rfl
 |.str,_=>rfl
 |.flt,_=>rfl
 |.sl _,_=>rfl
theorem JFo(f:Nm->PV)(ag:Bool)(V:Kd)(x:V.T): (UH ag V x).mapR f=UH ag V x:=by
 unfold UH
 have h:=Jku f V x
 cases ag with
 |true=>simp only[cond_true];rw[PV.mapR,h]
 |false =>
  simp only[cond_false]
  revert h
  cases V.cells x with
  |nil=>intro _;rfl
  |cons p r =>
   cases r with
   |nil =>
    intro h
    simp only[mapRs,List.cons.injEq,and_true]at h
    exact h
   |cons q r=>intro _;rfl
theorem EntsOk.carry{h':Je}{G':Gh}{w':World}{f:Nm->PV}(C:Carry h G w h' G' w' f){ag:Bool}{V:Kd}: ∀ {ents:List MapEntry} {es:List (List UInt8×V.T)},EntsOk h G w ag V ents es->EntsOk h' G' w' ag V ents es
 |[],[],_=>trivial
 |[],_::_,hE=>hE.elim
 |_::_,[],hE=>hE.elim
 |e::r,(k,x)::s,⟨h1,h2,h3⟩=>⟨h1,by have:=RV.carry C _ _ h2;rwa [JFo]at this,EntsOk.carry C h3⟩
theorem ObOk.carry{h':Je}{G':Gh}{w':World}{f:Nm->PV}(C:Carry h G w h' G' w' f){ag:MK}{V:Kd}{es:List (List UInt8×V.T)}{o:Obj}: ObOk h G w ag V es o->ObOk h' G' w' ag V es o
 |.inl ⟨h1,ents,clock,h2,h3⟩ => .inl ⟨h1,ents,clock,h2,h3.carry C⟩
 |.inr hh => .inr hh
theorem RO.carry {h':Je} {G':Gh} {w':World} {f:Nm->PV} (C:Carry h G w h' G' w' f) {n:Nm} {o:HObj} (hn:h n=some o) (hr:RO h G w n o)
 (hb:∀ b,Jd h G n=some b->w'.heap[b]? = w.heap[b]?) (h1:G'.bk n=G.bk n) (h2:G'.rv n=G.rv n):RO h' G' w' n (J1J (PV.mapR f) o):=by
 cases o with
 |var t cs =>
  obtain⟨vs,hw,hv⟩:=hr
  refine⟨vs,?_,?_⟩
  ·rw[h1,hb _ (by simp[Jd,hn])];exact hw
  ·show RVs h' G' w' (cs.map (PV.mapR f)) vs
   rw[←Jlw]
   exact RVs.carry C cs vs hv
 |row e K xs =>
  obtain⟨vs,hown,hv,hp⟩:=hr
  refine⟨vs,⟨hown.1,?_⟩,hv.mono C.blk,hp⟩
  rw[h2]
  rcases hown.2 with hn0|⟨g,cap,cur,e1,e2,e3,rest⟩
  ·exact .inl hn0
  ·refine .inr ⟨g,cap,cur,e1,e2,?_,rest⟩
   rw[hb g (by simp[Jd,hn,e1,Value.ownBlock])]
   exact e3
 |mp ag V es =>
  obtain⟨ob,hw,hE⟩:=hr
  exact⟨ob,by rw[h1,hb _ (by simp[Jd,hn])];exact hw,hE.carry C⟩
theorem JF(n m:Nm)(o:Option HObj): U1 h n o m=if m=n then o else h m:=by
 unfold U1
 by_cases hm:m=n
 ·subst hm;simp
 ·have:Nat.beq m n=false:=by cases hb:Nat.beq m n with|false=>rfl|true=>exact absurd (Nat.eq_of_beq_eq_true hb) hm
  rw[this,cond_false,if_neg hm]
def Gh.set(G:Gh)(n:Nm)(b:Nat)(v:Value): Gh:=⟨fun m=>if m=n then b else G.bk m,fun m=>if m=n then v else G.rv m,G.X⟩
theorem Gh.set_bk(n m:Nm)(b:Nat)(v:Value): (G.set n b v).bk m=if m=n then b else G.bk m:=rfl
theorem Gh.set_rv(n m:Nm)(b:Nat)(v:Value): (G.set n b v).rv m=if m=n then v else G.rv m:=rfl
theorem J5q (obj:∀ n o,h n=some o->RO h G w n o) (dis:Dis h G w) {nm:Nm} (hnm:h nm=none) {o:HObj} {w':World} (S:Still w w') {b:Nat} {v:Value}
 (ho:(∀ c,okB h G c->c<w.heap.size->True)->RO (U1 h nm (some o)) (G.set nm b v) w' nm o) (hb:∀ c,Jd (U1 h nm (some o)) (G.set nm b v) nm=some c->w.heap.size≤c) :
 Loud h G w (U1 h nm (some o)) none (G.set nm b v) w':=by
 have hblk:∀ n,n≠nm->Jd (U1 h nm (some o)) (G.set nm b v) n=Jd h G n:=by
  intro n hn
  simp only[Jd,JF,if_neg hn,Gh.set_bk,Gh.set_rv]
 have hok:∀ c,okB h G c->c<w.heap.size->okB (U1 h nm (some o)) (G.set nm b v) c:=by
  intro c hc hlt
  refine⟨fun n hn => ?_,hc.2⟩
  by_cases hnn:n=nm
  ·subst hnn;have:=hb c hn;omega
  ·rw[hblk n hnn]at hn;exact hc.1 n hn
 have C:Carry h G w (U1 h nm (some o)) (G.set nm b v) w' .row:=by
  refine⟨fun c hc hlt=>⟨hok c hc hlt,S.blk c hlt⟩,fun n t cs hn => ?_,fun n ag V es hn => ?_,fun b hx hlt=>⟨.inr hx,S.blk b hlt⟩,fun n e K xs hn => ?_⟩
  ·have hnn:n≠nm:=fun e=>by subst e;rw[hnm]at hn;cases hn
   exact⟨⟨cs,by rw[JF,if_neg hnn];exact hn⟩,by rw[Gh.set_bk,if_neg hnn]⟩
  ·have hnn:n≠nm:=fun e=>by subst e;rw[hnm]at hn;cases hn
   exact⟨⟨es,by rw[JF,if_neg hnn];exact hn⟩,by rw[Gh.set_bk,if_neg hnn]⟩
  ·have hnn:n≠nm:=fun e=>by subst e;rw[hnm]at hn;cases hn
   refine⟨⟨by rw[Gh.set_rv,if_neg hnn],e,K,xs,by rw[JF,if_neg hnn];exact hn⟩,fun m hm => ?_⟩
   cases hm
   exact⟨e,xs,by rw[JF,if_neg hnn];exact hn,Nat.le_refl _⟩
 refine⟨⟨.row,.inl ⟨rfl,rfl⟩,C⟩,fun n o' hn => ?_,fun n m c h1 h2 => ?_,fun c hc _=>S.blk c hc,rfl,fun n c hn => ?_,S.grow,S.os,S.tape,S.out⟩
 ·rw[JF]at hn
  by_cases hnn:n=nm
  ·subst hnn;rw[if_pos rfl]at hn;cases hn;exact ho (fun _ _ _=>trivial)
  ·rw[if_neg hnn]at hn
   have:=RO.carry C hn (obj n o' hn) (fun c hc=>S.blk c (RO.lt hn (obj n o' hn) hc)) (by rw[Gh.set_bk,if_neg hnn]) (by rw[Gh.set_rv,if_neg hnn])
   rwa [J1A]at this
 ·by_cases hn:n=nm<;>by_cases hm:m=nm
  ·rw[hn,hm]
  ·subst hn
   rw[hblk m hm]at h2
   cases hmo:h m with
   |none=>simp[Jd,hmo]at h2
   |some om=>have:=RO.lt hmo (obj m om hmo) h2;have:=hb c h1;omega
  ·subst hm
   rw[hblk n hn]at h1
   cases hno:h n with
   |none=>simp[Jd,hno]at h1
   |some on=>have:=RO.lt hno (obj n on hno) h1;have:=hb c h2;omega
  ·rw[hblk n hn]at h1
   rw[hblk m hm]at h2
   exact dis.inj n m c h1 h2
 ·by_cases hnn:n=nm
  ·subst hnn;exact .inr (hb c hn)
  ·rw[hblk n hnn]at hn;exact .inl ⟨n,hn⟩
theorem UR{K K':Kd}{x:K.T}{y:K'.T}(hc:QU K K' x=some y): ∃ e:K=K',y=e ▸ x:=by
 unfold QU at hc
 split at hc
 ·next e=>cases hc;exact⟨e,rfl⟩
 ·cases hc
theorem RowAt.cells{ok:Nat->Prop}{K:Kd}: ∀ {xs:List K.T} {ad:Addr},(∀(i:Nat) (y:K.T),xs[i]? = some y->∃ c,RD w ok K y c∧∀(j:Nat) (u:Value),c[j]? = some u->w.cell? (ad.add (i*K.sz+j))=some u) ->
 ∃ news,RDs w ok K xs news∧∀ j u,news[j]? = some u->w.cell? (ad.add j)=some u
 |[],ad,_=>⟨[],rfl,fun j u hj=>by simp at hj⟩
 |x::r,ad,hr=>by
  obtain⟨c,hc,hu⟩:=hr 0 x rfl
  obtain⟨l,hl,hlu⟩:=RowAt.cells (xs:=r) (ad:=ad.add K.sz) (fun i y hy=>by
   obtain⟨c',hc',hu'⟩:=hr (i+1) y hy
   refine⟨c',hc',fun j u hj => ?_⟩
   rw[Addr.add_add,show K.sz+(i*K.sz+j)=(i+1)*K.sz+j by rw[Nat.add_mul];omega]
   exact hu' j u hj)
  refine⟨c++l,⟨c,l,rfl,hc,hl⟩,fun j u hj => ?_⟩
  by_cases hjc:j<c.length
  ·rw[List.getElem?_append_left hjc]at hj
   have:=hu j u hj
   rwa [Nat.zero_mul,Nat.zero_add]at this
  ·rw[List.getElem?_append_right (by omega)]at hj
   have:=hlu _ u hj
   rw[Addr.add_add,hc.len,show K.sz+(j-K.sz)=j by rw[hc.len]at hjc;omega]at this
   exact this
theorem Jzp {t e:TypeId} {i:TypeInfo} (hd:P.underlying t=some (.slice e)) (hi:P.info? e=some i) {size n:Nat} {v:Value} {xs:List Value} {base:Nat} (hown:w.ownsRow base e size v n xs) {A:Option Addr} {c:Nat} (r:TypeId)
 (hA:A=none):(Builtin.append_ #[t,t] r #[v,.slice A 0 c]).run P w = .ok v w:=by
 subst hA
 rcases hown.2 with⟨rfl,rfl⟩|⟨g,cap,cur,rfl,_,_,hn,_⟩
 ·simp[Builtin.append_,run_underlying hd,sizeOf,typeInfo,hi,Builtin.lenOf,Builtin.firstCells]
 ·simp[Builtin.append_,run_underlying hd,sizeOf,typeInfo,hi,Builtin.lenOf,Builtin.firstCells,hn,storeCells]
theorem JpO(w:World)(ok:Nat->Prop): ∀ s:List UInt8,RDs w ok (.int .u8) (Js s) (s.map fun b=>Value.int .u8 b.toNat)
 |[]=>rfl
 |b::r=>⟨[_],_,rfl,rfl,JpO w ok r⟩
theorem JDc {t e r:TypeId} {i:TypeInfo} {z:Value} {size bytes:Nat} (ht:P.underlying t=some (.slice e)) (hi:P.info? e=some i) (hz:i.zero=some z) (hsize:i.size=size) (hby:i.bytes=bytes) (hzs:z.cells.size=size) (hsz:0<size)
 {v:Value} {n:Nat} {xs:List Value} (hown:w.ownsRow 0 e size v n xs) {a:Addr} {m c:Nat} {news:List Value} (hl:news.length=m*size) (hnews:∀ j u,news[j]? = some u->w.cell? (a.add j)=some u) (h1:∀ u∈news,u.oneCell'=true)
 (h63:n+m≤maxLen) (hbytes:(n+m)*bytes≤140737488355328) {v':Value} {w':World} (hr:(Builtin.append_ #[t,t] r #[v,.slice (some a) m c]).run P w = .ok v' w') :
 ∀ k,v'.ownBlock=some k->v.ownBlock=some k∨w.heap.size≤k:=by
 intro k hk
 rcases hown.2 with⟨rfl,rfl⟩|⟨g,cap,cur,rfl,_,hg,hnc,hcm,hcs,htake⟩
 ·have hx:xs=[]:=List.eq_nil_of_length_eq_zero (by simpa using hown.1)
  subst hx
  obtain⟨v2,w2,e1,e2,_⟩:=run_append_own (P:=P) w w.heap.size t r e i z size bytes ht hi hz hsize hby hzs hsz _ 0 [] (World.ownsRow_nil w w.heap.size e size) a m c news hl hnews h1 h63 hbytes (Nat.le_refl _)
  rw[hr]at e1
  cases e1
  exact .inr (e2.lt k hk).1
 ·by_cases hroom:n+m≤cap
  ·have hfit:n*i.size+news.length≤cur.size:=by rw[hl,hcs,hsize,←Nat.add_mul];exact Nat.mul_le_mul_right _ hroom
   have:=run_append_room (P:=P) w t r e i ht hi g n cap cur hg a m c news (by rw[hsize];exact hl) hnews h1 hroom hfit
   rw[hr]at this
   cases this
   exact .inl hk
  ·have h63':((n+m:Nat):Int)≤9223372036854775807:=by simp only[maxLen]at h63;omega
   have:=run_append_grow (P:=P) w t r e i z ht hi hz ⟨g,0,none⟩ n cap xs (by rw[hsize];exact hown.1) (hown.cells (g:=g) rfl) a m c news (by rw[hsize];exact hl) hnews (by omega) h63' (growslice_fits (by omega) (by rw[hby];exact hbytes))
   rw[hr]at this
   cases this
   simp only[Value.ownBlock,Option.some.injEq]at hk
   subst hk
   exact .inr (Nat.le_refl _)
theorem JAs {t u e r:TypeId} {i:TypeInfo} (ht:P.underlying t=some (.slice e)) (hu:P.underlying u=some .string) (hi:P.info? e=some i) (hz:i.zero=some (.int .u8 0)) (hsize:i.size=1) (hby:i.bytes=1)
 {v:Value} {n:Nat} {xs:List Value} (hown:w.ownsRow 0 e 1 v n xs) {s:ByteArray}
 (h63:n+s.size≤maxLen) (hbytes:n+s.size≤140737488355328) {v':Value} {w':World} (hr:(Builtin.append_ #[t,u] r #[v,.string s]).run P w = .ok v' w') :
 ∀ k,v'.ownBlock=some k->v.ownBlock=some k∨w.heap.size≤k:=by
 intro k hk
 rcases hown.2 with⟨rfl,rfl⟩|⟨g,cap,cur,rfl,_,hg,hnc,hcm,hcs,htake⟩
 ·have hx:xs=[]:=List.eq_nil_of_length_eq_zero (by simpa using hown.1)
  subst hx
  obtain⟨v2,w2,e1,e2,_⟩:=Lib.run_append_own_string (P:=P) w w.heap.size t u r e i ht hu hi hz hsize hby _ 0 [] (World.ownsRow_nil w w.heap.size e 1) s h63 hbytes (Nat.le_refl _)
  rw[hr]at e1
  cases e1
  exact .inr (e2.lt k hk).1
 ·by_cases hroom:n+s.size≤cap
  ·have:=Lib.run_append_room_string (P:=P) w t u r e i ht hu hi hsize g n cap cur hg s hroom (by rw[hcs];omega)
   rw[hr]at this
   cases this
   exact .inl hk
  ·have h63':((n+s.size:Nat):Int)≤9223372036854775807:=by simp only[maxLen]at h63;omega
   have:=Lib.run_append_grow_string (P:=P) w t u r e i _ ht hu hi hz ⟨g,0,none⟩ n cap xs (by rw[hsize];exact hown.1) (hown.cells (g:=g) rfl) s (by omega) h63' (growslice_fits (by omega) (by rw[hby];omega))
   rw[hr]at this
   cases this
   simp only[Value.ownBlock,Option.some.injEq]at hk
   subst hk
   exact .inr (Nat.le_refl _)
theorem Jsc (T:Qg P ty) (obj:∀ n o,h n=some o->RO h G w n o) {t t' e r:TypeId} {K:Kd} {b:Nat} (hk:J1K ty t=some (e,K,b)) {v:Value} {n:Nat} {xs:List Value} (hown:w.ownsRow 0 e K.sz v n xs)
 {y:PV} {s:Value} (hy:RV h G w y s) {ys:List K.T} (hs:JmN h K y=some ys) (ht:J2G ty y t t' b=true) (hf:Ju n ys.length b=true) :
 ∃ news v' w',(Builtin.append_ #[t,t'] r #[v,s]).run P w = .ok v' w'∧RDs w (okB h G) K ys news∧w'.ownsRow 0 e K.sz v' (n+ys.length) (xs++news)∧w.grownBy w' v.ownBlock∧∀ k,v'.ownBlock=some k->v.ownBlock=some k∨w.heap.size≤k:=by
 obtain⟨hd,i,z,hi,hz,hsz,hby,hpos,hzs,hz0⟩:=JaI T hk
 simp only[Ju,Bool.and_eq_true,decide_eq_true_eq]at hf
 obtain⟨f1,f2⟩:=hf
 have f1:n+ys.length≤maxLen:=by simpa [maxLen,J1f]using f1
 have slc:t=t'->∀(A:Option Addr) (cap:Nat),s = .slice A ys.length cap->(ys=[]∨∃ ad,A=some ad∧∀(i:Nat) (y:K.T),ys[i]? = some y->∃ c,RD w (okB h G) K y c∧∀(j:Nat) (u:Value),c[j]? = some u->w.cell? (ad.add (i*K.sz+j))=some u) ->
  ∃ news v' w',(Builtin.append_ #[t,t'] r #[v,s]).run P w = .ok v' w'∧RDs w (okB h G) K ys news∧w'.ownsRow 0 e K.sz v' (n+ys.length) (xs++news)∧w.grownBy w' v.ownBlock∧∀ k,v'.ownBlock=some k->v.ownBlock=some k∨w.heap.size≤k:=by
  intro htt A cap hsv hr
  subst htt hsv
  have main:∀ ad:Addr,A=some ad->(∀(i:Nat) (y:K.T),ys[i]? = some y->∃ c,RD w (okB h G) K y c∧∀(j:Nat) (u:Value),c[j]? = some u->w.cell? (ad.add (i*K.sz+j))=some u) ->
   ∃ news v' w',(Builtin.append_ #[t,t] r #[v,.slice A ys.length cap]).run P w = .ok v' w'∧RDs w (okB h G) K ys news∧w'.ownsRow 0 e K.sz v' (n+ys.length) (xs++news)∧w.grownBy w' v.ownBlock∧∀ k,v'.ownBlock=some k->v.ownBlock=some k∨w.heap.size≤k:=by
   intro ad hA hr2
   subst hA
   obtain⟨news,h1,h2⟩:=RowAt.cells hr2
   obtain⟨v',w',e1,e2,e3,_⟩:=run_append_own (P:=P) w 0 t r e i z K.sz b hd hi hz hsz hby hzs hpos v n xs hown ad ys.length cap news h1.length h2 h1.one f1 f2 (Nat.zero_le _)
   exact⟨news,v',w',e1,h1,e2,e3,JDc hd hi hz hsz hby hzs hpos hown h1.length h2 h1.one f1 f2 e1⟩
  rcases hr with hr|⟨ad,hA,hr⟩
  ·cases hA:A with
   |none =>
    subst hr
    have:=Jzp (P:=P) hd hi hown (A:=none) (c:=cap) r rfl
    exact⟨[],v,w,this,rfl,by simpa using hown,⟨rfl,rfl,rfl,Nat.le_refl _,fun _ _ _=>rfl⟩,fun k hk => .inl hk⟩
   |some ad =>
    have:=main ad hA (by subst hr;intro i y hy;simp at hy)
    rwa [hA]at this
  ·exact main ad hA hr
 unfold JmN at hs
 split at hs
 ·next K' xs' =>
  obtain⟨hK,hx⟩:=UR hs
  have hK:K'=K:=by injection hK
  subst hK
  subst hx
  have htt:t=t':=Nat.eq_of_beq_eq_true (by simpa [J2G]using ht)
  obtain⟨A,cap,hv,_,hr⟩:=hy
  simp only[List.cons.injEq,and_true]at hv
  refine slc htt A cap hv ?_
  rcases hr with hr|⟨ad,hA,hr⟩
  ·exact .inl hr
  ·exact .inr ⟨ad,hA,hr.2.2⟩
 ·next l =>
  obtain⟨hK,hx⟩:=UR hs
  have hK:Kd.int .u8=K:=by injection hK
  subst hK
  subst hx
  simp only[J2G,Bool.and_eq_true]at ht
  obtain⟨⟨t1,t2⟩,t3⟩:=ht
  have t3:=Nat.eq_of_beq_eq_true t3
  subst t3
  obtain⟨e',hd',_,i',hi',hs1,hz1⟩:=J7X T t2
  rw[hd]at hd'
  simp only[Option.some.injEq,TypeDesc.slice.injEq]at hd'
  subst hd'
  rw[hi]at hi'
  cases hi'
  simp only[RV,RD,List.cons.injEq,and_true]at hy
  subst hy
  have hsl:(⟨l.toArray⟩:ByteArray).size=(Js l).length:=by simp[Js];rfl
  have f1':n+(⟨l.toArray⟩:ByteArray).size≤maxLen:=by rw[hsl];exact f1
  have f2':n+(⟨l.toArray⟩:ByteArray).size≤140737488355328:=by rw[hsl];simpa using f2
  obtain⟨v',w',e1,e2,e3,_⟩:=Lib.run_append_own_string (P:=P) w 0 t t' r e i hd (J5m T t1) hi hz1 hs1 hby v n xs hown _ f1' f2' (Nat.zero_le _)
  rw[hsl]at e2
  refine⟨_,v',w',e1,?_,e2,e3,JAs hd (J5m T t1) hi hz1 hs1 hby hown f1' f2' e1⟩
  have:=JpO w (okB h G) l
  simpa [Lib.strCells]using this
 ·next m =>
  split at hs
  ·next e' K' xs' hm =>
   obtain⟨hK,hx⟩:=UR hs
   have hK:K'=K:=by injection hK
   subst hK
   subst hx
   have htt:t=t':=Nat.eq_of_beq_eq_true (by simpa [J2G]using ht)
   obtain⟨rfl,_⟩:=hy
   obtain⟨A,cap,hrv,_,hr⟩:=J1C (obj _ _ hm)
   refine slc htt A cap hrv ?_
   rcases hr with hr|⟨ad,g,cs,fz,hA,_,_,_,hr⟩
   ·exact .inl hr
   ·exact .inr ⟨ad,hA,hr⟩
  ·cases hs
 ·cases hs
  have htt:t=t':=Nat.eq_of_beq_eq_true (by simpa [J2G]using ht)
  exact slc htt none 0 hy (.inl rfl)
 ·cases hs
end
section
open Go
variable {P:Program} {h:Je} {G:Gh} {w:World} {ev:Ev} {ty:TypeId->Option TI}
theorem JqB(l r:List (Nm×Option HObj)): ∀ h:Je,JO h (l++r)=JO (JO h l) r:=by
 induction l with
 |nil=>intro h;rfl
 |cons x l ih=>intro h;obtain⟨n,o⟩:=x;exact ih _
theorem UC{n:Nm}: ∀ {l:List Nm},QV n l=true↔n∈l
 |[]=>by simp[QV]
 |m::r=>by
  rw[QV,List.mem_cons]
  by_cases hm:m=n
  ·subst hm;simp
  ·have:Nat.beq m n=false:=by cases hb:Nat.beq m n with|false=>rfl|true=>exact absurd (Nat.eq_of_beq_eq_true hb) hm
   rw[this,cond_false,UC]
   simp[Ne.symm hm]
theorem Jjq:∀(l:List Nm) (h:Je) (n:Nm),JO h (Ze l) n=if n∈l then none else h n
 |[],h,n=>by simp[Ze,JO]
 |m::r,h,n=>by
  rw[Ze,JO,Jjq r,JF]
  by_cases h1:n∈r
  ·simp[h1]
  ·by_cases h2:n=m
   ·subst h2;simp
   ·simp[h1,h2]
def Yp(h:Je)(l:List Nm): Prop:=∀ n∈l,∃ e K xs,h n=some (.row e K xs)
def U6(h:Je)(l:List Nm): Nm->PV:=fun m=>bif QV m l then(match h m with
 |some (.row _ K xs) => .v (.sl K) xs
 |_ => .un)else .row m
theorem Juu(l:List Nm): ∃ f,(frz h l=none∧f=PV.row∨frz h l=some (PV.mapR f))∧∀ m,f m=U6 h l m:=by
 cases l with
 |nil=>exact⟨.row,.inl ⟨rfl,rfl⟩,fun m=>rfl⟩
 |cons n r=>exact⟨U6 h (n::r),.inr rfl,fun m=>rfl⟩
theorem JHc(l:List Nm)(n:Nm): ∃ f:Nm->PV,(∀ m,f m=U6 h l m)∧JU (frz h l) h n=(h n).map (J1J (PV.mapR f)):=by
 cases l with
 |nil=>exact⟨.row,fun m=>rfl,by cases hn:h n<;>simp[frz,JU,hn,J1A]⟩
 |cons m r=>exact⟨U6 h (m::r),fun m=>rfl,by cases hn:h n<;>simp[frz,JU,hn]<;>rfl⟩
def UE(h:Je)(l:List Nm): Je:=JO (JU (frz h l) h) (Ze l)
theorem J0Z(l:List Nm)(n:Nm): UE h l n=if n∈l then none else(h n).map (J1J (PV.mapR (U6 h l))):=by
 unfold UE
 rw[Jjq]
 obtain⟨f,hf,e⟩:=JHc (h:=h) l n
 have:f=U6 h l:=funext hf
 rw[e,this]
theorem J2g(l:List Nm)(n:Nm): Jd (UE h l) G n=if n∈l then none else Jd h G n:=by
 unfold Jd
 rw[J0Z]
 by_cases hn:n∈l
 ·simp[hn]
 ·simp only[if_neg hn]
  cases hh:h n with
  |none=>rfl
  |some o=>cases o<;>rfl
theorem JeI(obj:∀ n o,h n=some o->RO h G w n o)(dis:Dis h G w){l:List Nm}(hl:Yp h l):
 Loud h G w (UE h l) (frz h l) G w:=by
 have hok:∀ c,okB h G c->okB (UE h l) G c:=by
  intro c hc
  refine⟨fun n hn => ?_,hc.2⟩
  rw[J2g]at hn
  split at hn
  ·cases hn
  ·exact hc.1 n hn
 have hrow:∀ m e K xs,m∈l->h m=some (.row e K xs)->RV (UE h l) G w (.v (.sl K) xs) (G.rv m):=by
  intro m e K xs hm hr
  obtain⟨A,cap,hrv,hcap,hrr⟩:=J1C (obj _ _ hr)
  refine⟨A,cap,by rw[hrv],hcap,?_⟩
  rcases hrr with hrr|⟨ad,g,cs,fz,hA,had,hg,hgh,hrr⟩
  ·exact .inl hrr
  ·refine .inr ⟨ad,hA,?_,?_,fun i y hy => ?_⟩
   ·subst had
    refine⟨fun n hn => ?_,dis.xo m g (by simp[Jd,hr,hg])⟩
    rw[J2g]at hn
    split at hn
    ·cases hn
    ·next hnl =>
     have:=dis.inj n m g hn (by simp[Jd,hr,hg])
     subst this
     exact hnl hm
   ·subst had;exact(Array.getElem?_eq_some_iff.1 hgh).1
   ·obtain⟨c,hc,hu⟩:=hrr i y hy
    exact⟨c,hc.mono fun b hb _=>⟨hok b hb,rfl⟩,hu⟩
 have C:Carry h G w (UE h l) G w (U6 h l):=by
  refine⟨fun b hb _=>⟨hok b hb,rfl⟩,fun n t cs hn=>⟨?_,rfl⟩,fun n ag V es hn=>⟨?_,rfl⟩,fun b hx _=>⟨.inr hx,rfl⟩,fun n e K xs hn => ?_⟩
  ·have:n ∉ l:=fun hm=>by obtain⟨e,K,xs,hr⟩:=hl n hm;rw[hn]at hr;cases hr
   exact⟨_,by rw[J0Z,if_neg this,hn];rfl⟩
  ·have:n ∉ l:=fun hm=>by obtain⟨e,K,xs,hr⟩:=hl n hm;rw[hn]at hr;cases hr
   exact⟨_,by rw[J0Z,if_neg this,hn];rfl⟩
  ·by_cases hm:n∈l
   ·have hf:U6 h l n = .v (.sl K) xs:=by simp[U6,UC.2 hm,hn]
    rw[hf]
    exact⟨hrow n e K xs hm hn,fun m hm=>by cases hm⟩
   ·have hi:QV n l=false:=by cases hb:QV n l with|false=>rfl|true=>exact absurd (UC.1 hb) hm
    have hf:U6 h l n = .row n:=by simp[U6,hi]
    have hh:UE h l n=some (.row e K xs):=by rw[J0Z,if_neg hm,hn];rfl
    rw[hf]
    exact⟨⟨rfl,e,K,xs,hh⟩,fun m hm=>by cases hm;exact⟨e,xs,hh,Nat.le_refl _⟩⟩
 refine⟨?_,fun n o hn => ?_,fun n m b h1 h2 => ?_,fun _ _ _=>rfl,rfl,fun n b hn => ?_,Nat.le_refl _,rfl,rfl,rfl⟩
 ·obtain⟨f,hf,he⟩:=Juu (h:=h) l
  exact⟨f,hf,by rw[show f=U6 h l from funext he];exact C⟩
 ·rw[J0Z]at hn
  split at hn
  ·cases hn
  ·next hm =>
   obtain⟨o',ho',rfl⟩:=Option.map_eq_some_iff.1 hn
   exact RO.carry C ho' (obj n o' ho') (fun _ _=>rfl) rfl rfl
 ·rw[J2g]at h1 h2
  split at h1
  ·cases h1
  ·split at h2
   ·cases h2
   ·exact dis.inj n m b h1 h2
 ·rw[J2g]at hn
  split at hn
  ·cases hn
  ·exact .inl ⟨n,hn⟩
theorem Jix(w:World)(a:Addr)(n:Nat){b:Nat}(hb:b≠a.block): (w.freeze a n).heap[b]? = w.heap[b]? := by
 unfold World.freeze
 split
 ·rfl
 ·simp only[Array.getElem?_modify]
  rw[if_neg (fun e=>hb e.symm)]
theorem JEu(w:World)(a:Addr)(n:Nat): (w.freeze a n).heap.size=w.heap.size:=by
 unfold World.freeze
 split
 ·rfl
 ·simp
theorem JEv(w:World)(a:Addr)(n:Nat)(x:Addr): (w.freeze a n).cell? x=w.cell? x:=by
 by_cases hb:x.block=a.block
 ·unfold World.freeze
  split
  ·rfl
  ·unfold World.cell?
   simp only[Array.getElem?_modify]
   rw[if_pos hb.symm,hb]
   cases hh:w.heap[a.block]? with
   |none=>rfl
   |some o=>cases o<;>rfl
 ·exact World.cell?_of_block (Jix w a n hb)
theorem Jl1(w:World)(a:Addr)(n:Nat): (w.freeze a n).os=w.os∧(w.freeze a n).tape=w.tape∧(w.freeze a n).output=w.output:=by
 unfold World.freeze
 split<;>exact⟨rfl,rfl,rfl⟩
theorem JGr (obj:∀ n o,h n=some o->RO h G w n o) (dis:Dis h G w) {m0:Nm} {e0:TypeId} {K0:Kd} {xs0:List K0.T} (hm0:h m0=some (.row e0 K0 xs0)) {g0:Nat} (hg0:(G.rv m0).ownBlock=some g0) {w':World}
 (hne:∀ b,b≠g0->w'.heap[b]? = w.heap[b]?) (hce:∀ a:Addr,a.block=g0->w'.cell? a=w.cell? a) (hsz:w'.heap.size=w.heap.size) (hos:w'.os=w.os) (htp:w'.tape=w.tape) (hout:w'.output=w.output) :
 Loud h G w (UE h [m0]) (frz h [m0]) G w'∧RV (UE h [m0]) G w' (.v (.sl K0) xs0) (G.rv m0):=by
 have hbm:Jd h G m0=some g0:=by simp[Jd,hm0,hg0]
 have hok:∀ c,okB h G c->okB (UE h [m0]) G c∧w'.heap[c]? = w.heap[c]? := by
  intro c hc
  refine⟨⟨fun n hn => ?_,hc.2⟩,hne c fun e=>hc.1 m0 (by rw[hbm,e])⟩
  rw[J2g]at hn
  split at hn
  ·cases hn
  ·exact hc.1 n hn
 have hrow:RV (UE h [m0]) G w' (.v (.sl K0) xs0) (G.rv m0):=by
  obtain⟨A,cap,hrv,hcap,hrr⟩:=J1C (obj _ _ hm0)
  refine⟨A,cap,by rw[hrv],hcap,?_⟩
  rcases hrr with hrr|⟨ad,g,cs,fz,hA,had,hg,hgh,hrr⟩
  ·exact .inl hrr
  ·obtain rfl:g0=g:=by rw[hg0]at hg;exact Option.some.inj hg
   refine .inr ⟨ad,hA,?_,?_,fun i y hy => ?_⟩
   ·subst had
    refine⟨fun n hn => ?_,dis.xo m0 g0 hbm⟩
    rw[J2g]at hn
    split at hn
    ·cases hn
    ·next hnl =>
     have:=dis.inj n m0 g0 hn hbm
     subst this
     exact hnl (by simp)
   ·subst had;rw[hsz];exact(Array.getElem?_eq_some_iff.1 hgh).1
   ·obtain⟨c,hc,hu⟩:=hrr i y hy
    exact⟨c,hc.mono fun b hb _=>hok b hb,fun j u hj=>by rw[hce _ (by rw[J0s,had])];exact hu j u hj⟩
 have C:Carry h G w (UE h [m0]) G w' (U6 h [m0]):=by
  refine⟨fun b hb _=>hok b hb,fun n t cs hn=>⟨?_,rfl⟩,fun n ag V es hn=>⟨?_,rfl⟩,fun b hx _=>⟨.inr hx,hne b fun e=>dis.xo m0 g0 hbm (e ▸ hx)⟩,fun n e K xs hn => ?_⟩
  ·have:n ∉ [m0]:=fun hm=>by rw[List.mem_singleton.1 hm,hm0]at hn;cases hn
   exact⟨_,by rw[J0Z,if_neg this,hn];rfl⟩
  ·have:n ∉ [m0]:=fun hm=>by rw[List.mem_singleton.1 hm,hm0]at hn;cases hn
   exact⟨_,by rw[J0Z,if_neg this,hn];rfl⟩
  ·by_cases hm:n∈[m0]
   ·have hmm:=List.mem_singleton.1 hm
    subst hmm
    rw[hm0]at hn;cases hn
    have hf:U6 h [n] n = .v (.sl K0) xs0:=by simp[U6,UC.2 hm,hm0]
    rw[hf]
    exact⟨hrow,fun m hm=>by cases hm⟩
   ·have hi:QV n [m0]=false:=by cases hb:QV n [m0]with|false=>rfl|true=>exact absurd (UC.1 hb) hm
    have hf:U6 h [m0] n = .row n:=by simp[U6,hi]
    have hh:UE h [m0] n=some (.row e K xs):=by rw[J0Z,if_neg hm,hn];rfl
    rw[hf]
    exact⟨⟨rfl,e,K,xs,hh⟩,fun m hm=>by cases hm;exact⟨e,xs,hh,Nat.le_refl _⟩⟩
 refine⟨⟨?_,fun n o hn => ?_,fun n m b h1 h2 => ?_,fun b _ hb=>hne b fun e=>hb m0 (by rw[hbm,e]),rfl,fun n b hn => ?_,by rw[hsz];exact Nat.le_refl _,hos,htp,hout⟩,hrow⟩
 ·obtain⟨f,hf,he⟩:=Juu (h:=h) [m0]
  exact⟨f,hf,by rw[show f=U6 h [m0]from funext he];exact C⟩
 ·rw[J0Z]at hn
  split at hn
  ·cases hn
  ·next hm =>
   obtain⟨o',ho',rfl⟩:=Option.map_eq_some_iff.1 hn
   exact RO.carry C ho' (obj n o' ho') (fun b hb=>hne b fun e=>by
    have:=dis.inj n m0 b hb (by rw[hbm,e])
    exact hm (by simp[this])) rfl rfl
 ·rw[J2g]at h1 h2
  split at h1
  ·cases h1
  ·split at h2
   ·cases h2
   ·exact dis.inj n m b h1 h2
 ·rw[J2g]at hn
  split at hn
  ·cases hn
  ·exact .inl ⟨n,hn⟩
theorem Loud.then{h1 h2:Je}{mp:Option (PV->PV)}{G1 G2:Gh}{w1 w2:World}(A:Loud h G w h1 mp G1 w1)(B:Loud h1 G1 w1 h2 none G2 w2): Loud h G w h2 mp G2 w2:=by
 obtain⟨f,hf,C⟩:=A.f
 obtain⟨g,hg,D⟩:=B.f
 have hg:g = .row:=by rcases hg with⟨_,hg⟩|hg;exact hg;cases hg
 subst hg
 refine⟨⟨f,hf,?_⟩,B.obj,B.dis,fun b hb ho => ?_,B.X.trans A.X,fun n b hn => ?_,Nat.le_trans A.grow B.grow,B.os.trans A.os,B.tape.trans A.tape,B.out.trans A.out⟩
 ·refine⟨fun b ho hlt => ?_,fun n t cs hn => ?_,fun n ag V es hn => ?_,fun b hx hlt=>(by obtain⟨a1,a2⟩:=C.x b hx hlt;obtain⟨b1,b2⟩:=D.okX b a1 (Nat.lt_of_lt_of_le hlt A.grow);exact⟨b1,b2.trans a2⟩),fun n e K xs hn => ?_⟩
  ·obtain⟨a1,a2⟩:=C.blk b ho hlt
   obtain⟨b1,b2⟩:=D.blk b a1 (Nat.lt_of_lt_of_le hlt A.grow)
   exact⟨b1,b2.trans a2⟩
  ·obtain⟨⟨cs1,a1⟩,a2⟩:=C.var n t cs hn
   obtain⟨⟨cs2,b1⟩,b2⟩:=D.var n t cs1 a1
   exact⟨⟨cs2,b1⟩,b2.trans a2⟩
  ·obtain⟨⟨es1,a1⟩,a2⟩:=C.mp n ag V es hn
   obtain⟨⟨es2,b1⟩,b2⟩:=D.mp n ag V es1 a1
   exact⟨⟨es2,b1⟩,b2.trans a2⟩
  ·obtain⟨a1,a2⟩:=C.row n e K xs hn
   have:=RV.carry D _ _ a1
   rw[PV.mapR_row]at this
   refine⟨this,fun m hm => ?_⟩
   obtain⟨e',xs',h3,h4⟩:=a2 m hm
   obtain⟨e2,xs2,h5,h6⟩:=(D.row m e' K xs' h3).2 m rfl
   exact⟨e2,xs2,h5,Nat.le_trans h4 h6⟩
 ·refine(B.blk b (Nat.lt_of_lt_of_le hb A.grow) (fun n hn => ?_)).trans (A.blk b hb ho)
  rcases A.new n b hn with⟨m,hm⟩|hlt
  ·exact ho m hm
  ·omega
 ·rcases B.new n b hn with⟨m,hm⟩|hlt
  ·exact A.new m b hm
  ·exact .inr (Nat.le_trans A.grow hlt)
theorem Still.carry{w':World}(S:Still w w'){h':Je}{G':Gh}{mp:Option (PV->PV)}(L:Loud h G w h' none G' w'){p:PV}{v:Value}(hp:RV h G w p v): RV h' G' w' p v:=by
 obtain⟨g,hg,D⟩:=L.f
 have hg:g = .row:=by rcases hg with⟨_,hg⟩|hg;exact hg;cases hg
 subst hg
 have:=RV.carry D _ _ hp
 rwa [PV.mapR_row]at this
theorem JFp(T:Qg P ty)(obj:∀ n o,h n=some o->RO h G w n o)(dis:Dis h G w){s:TypeId}{ti:TI}(hs:ty s=some ti){d:Nat}(he:Jfs ti s h d=some ev):
 ∃ v G' w',(Instr.alloc s true (.tuple #[])).run P w = .ok v w'∧Loud h G w (JO (JU ev.mp h) ev.hs) ev.mp G' w'∧RV (JO (JU ev.mp h) ev.hs) G' w' ev.val v∧ev.chk = .ok∧VarKept h G w w' (JH ev.hs):=by
 unfold Jfs at he
 split at he
 ·next hnm =>
  cases he
  obtain⟨z,hz,hr,_⟩:=(T _ _ hs).zeros (h:=h) (G:=G) (w:=w)
  have hrun:(Instr.alloc s true (.tuple #[])).run P w = .ok (.pointer (some ⟨w.heap.size,0,none⟩)) (w.alloc (.cells z.cells s)):=by
   simp[Instr.alloc,hz,newVar,newRow]
  have L:=J5q (o := .var s ti.zero) (w':=w.alloc (.cells z.cells s)) (b:=w.heap.size) (v:=default) obj dis hnm ((Still.refl w).alloc _) (fun _=>by
   obtain⟨i,z',hi,_,_,hz',hzl,_⟩:=(T _ _ hs).info
   have:z=z':=by
    have h2:(zeroValue s).run P w = .ok z' w:=by simp[zeroValue,typeInfo,hi,hz']
    rw[hz]at h2
    cases h2;rfl
   subst this
   exact⟨z.cells.toList,by rw[Gh.set_bk,if_pos rfl];simpa using heap_alloc_new w _,by rw[←hzl];exact JfL _⟩) (fun c hc=>by
   simp only[Jd,JF,if_pos,Gh.set_bk,Option.some.injEq]at hc
   omega)
  refine⟨_,_,_,hrun,L,?_,rfl,VarKept.ext obj (fun b hb=>heap_alloc_old w _ hb) _⟩
  exact⟨by rw[Gh.set_bk,if_pos rfl],s,ti.zero,by simp[JO,JF]⟩
 ·cases he
theorem JHd(obj:∀ n o,h n=some o->RO h G w n o)(dis:Dis h G w){s:TypeId}{d:Nat}{p:PV}{v:Value}(he:Jg1 s h d p=some ev)(hp:RV h G w p v):
 ∃ r G' w',(Instr.box s v).run P w = .ok r w'∧Loud h G w (JO (JU ev.mp h) ev.hs) ev.mp G' w'∧RV (JO (JU ev.mp h) ev.hs) G' w' ev.val r∧ev.chk = .ok∧VarKept h G w w' (JH ev.hs):=by
 unfold Jg1 at he
 cases hb:UG (cellsOf p)with
 |false=>rw[hb]at he;cases he
 |true =>
  rw[hb,cond_true]at he
  split at he
  ·next hnm =>
   cases he
   have hrun:(Instr.box s v).run P w = .ok (.pointer (some ⟨w.heap.size,0,none⟩)) (w.alloc (.cells v.cells s)):=by
    simp[Instr.box,newVar,newRow]
   have hcells:=(J8r obj hb hp).1
   have L:=J5q (o := .var s (cellsOf p)) (w':=w.alloc (.cells v.cells s)) (b:=w.heap.size) (v:=default) obj dis hnm ((Still.refl w).alloc _) (fun _=>by
    refine⟨v.cells.toList,by rw[Gh.set_bk,if_pos rfl];simpa using heap_alloc_new w _,?_⟩
    have C:Carry h G w (U1 h (Q7 d) (some (.var s (cellsOf p)))) (G.set (Q7 d) w.heap.size default) (w.alloc (.cells v.cells s)) .row:=by
     refine⟨fun c hc hlt=>⟨⟨fun n hn => ?_,hc.2⟩,heap_alloc_old w _ hlt⟩,fun n t cs hn => ?_,fun n ag V es hn => ?_,fun b hx hlt=>⟨.inr hx,heap_alloc_old w _ hlt⟩,fun n e K xs hn => ?_⟩
     ·by_cases hnn:n=Q7 d
      ·subst hnn;simp only[Jd,JF,if_pos,Gh.set_bk,Option.some.injEq]at hn;omega
      ·simp only[Jd,JF,if_neg hnn,Gh.set_bk,Gh.set_rv]at hn;exact hc.1 n hn
     ·have hnn:n≠Q7 d:=fun e=>by subst e;rw[hnm]at hn;cases hn
      exact⟨⟨cs,by rw[JF,if_neg hnn];exact hn⟩,by rw[Gh.set_bk,if_neg hnn]⟩
     ·have hnn:n≠Q7 d:=fun e=>by subst e;rw[hnm]at hn;cases hn
      exact⟨⟨es,by rw[JF,if_neg hnn];exact hn⟩,by rw[Gh.set_bk,if_neg hnn]⟩
     ·have hnn:n≠Q7 d:=fun e=>by subst e;rw[hnm]at hn;cases hn
      refine⟨⟨by rw[Gh.set_rv,if_neg hnn],e,K,xs,by rw[JF,if_neg hnn];exact hn⟩,fun m hm => ?_⟩
      cases hm
      exact⟨e,xs,by rw[JF,if_neg hnn];exact hn,Nat.le_refl _⟩
    have:=RVs.carry C _ _ hcells
    rwa [mapRs_row]at this) (fun c hc=>by
    simp only[Jd,JF,if_pos,Gh.set_bk,Option.some.injEq]at hc
    omega)
   refine⟨_,_,_,hrun,L,?_,rfl,VarKept.ext obj (fun b hb=>heap_alloc_old w _ hb) _⟩
   exact⟨by rw[Gh.set_bk,if_pos rfl],s,cellsOf p,by simp[JO,JF]⟩
  ·cases he
end
section
open Go
variable {P:Program} {h:Je} {G:Gh} {w:World} {ev:Ev} {ty:TypeId->Option TI}
def okF(h:Je)(G:Gh)(l:List Nm)(b:Nat): Prop:=okB (UE h l) G b
theorem JaJ (obj:∀ n o,h n=some o->RO h G w n o) (dis:Dis h G w) {K:Kd} {p:PV} {x:K.T} {f l:List Nm} {v:Value} (he:leaf h K p=some (x,f)) (hf:∀ n∈f,n∈l) (hl:Yp h l)
 (hp:RV h G w p v):RD w (okF h G l) K x [v]∧Yp h f:=by
 have L:=JeI obj dis hl
 have mono:∀ b,okB h G b->b<w.heap.size->okF h G l b∧w.heap[b]? = w.heap[b]? := by
  obtain⟨g,_,C⟩:=L.f
  exact C.blk
 unfold leaf at he
 split at he
 ·next K' y =>
  obtain⟨z,hz,he⟩:=Option.map_eq_some_iff.1 he
  simp only[Prod.mk.injEq]at he
  obtain⟨rfl,rfl⟩:=he
  obtain⟨rfl,rfl⟩:=UR hz
  exact⟨RD.mono mono hp,fun n hn=>by cases hn⟩
 ·next b =>
  obtain⟨z,hz,he⟩:=Option.map_eq_some_iff.1 he
  simp only[Prod.mk.injEq]at he
  obtain⟨rfl,rfl⟩:=he
  obtain⟨rfl,rfl⟩:=UR hz
  obtain rfl:v=_:=hp
  exact⟨rfl,fun n hn=>by cases hn⟩
 ·split at he
  ·cases he
   obtain rfl:v=_:=hp
   exact⟨⟨none,0,rfl,Nat.le_refl _,.inl rfl⟩,fun n hn=>by cases hn⟩
  ·cases he
 ·next n =>
  split at he
  ·next e K' xs hn =>
   obtain⟨z,hz,he⟩:=Option.map_eq_some_iff.1 he
   simp only[Prod.mk.injEq]at he
   obtain⟨rfl,rfl⟩:=he
   obtain⟨rfl,rfl⟩:=UR hz
   obtain⟨rfl,_⟩:=hp
   refine⟨?_,fun m hm=>by simp at hm;subst hm;exact⟨e,K',_,hn⟩⟩
   obtain⟨g,hg,C⟩:=L.f
   have:=(C.row n e K' _ hn).1
   have hfe:g n = .v (.sl K') z:=by
    have hmem:=hf n (by simp)
    rcases hg with⟨h1,_⟩|h1
    ·cases l with
     |nil=>cases hmem
     |cons a r=>cases h1
    ·cases l with
     |nil=>cases hmem
     |cons a r =>
      have e2:PV.mapR g (.row n)=(PV.mapR (U6 h (a::r))) (.row n):=by
       have:frz h (a::r)=some (PV.mapR (U6 h (a::r))):=rfl
       rw[this]at h1
       injection h1 with h1
       rw[h1]
      have e3:g n=U6 h (a::r) n:=e2
      rw[e3]
      simp[U6,UC.2 hmem,hn]
   rw[hfe]at this
   exact this
  ·cases he
 ·cases he
theorem Jmx(obj:∀ n o,h n=some o->RO h G w n o)(dis:Dis h G w){l:List Nm}(hl:Yp h l):
 ∀(K:Kd) {cs:List PV} {x:K.T} {r:List PV} {f:List Nm} {vs:List Value},K.dec h cs=some (x,r,f)->(∀ n∈f,n∈l)->RVs h G w cs vs->∃ c1 c2,vs=c1++c2∧RD w (okF h G l) K x c1∧RVs h G w r c2∧Yp h f
 |.pr a b,cs,x,r,f,vs,he,hf,hr=>by
  simp only[Kd.dec]at he
  split at he
  ·next x1 r1 f1 h1 =>
   split at he
   ·next y r' f' h2 =>
    simp only[Option.some.injEq,Prod.mk.injEq]at he
    obtain⟨rfl,rfl,rfl⟩:=he
    obtain⟨c1,c2,rfl,d1,d2,d3⟩:=Jmx obj dis hl a h1 (fun n hn=>hf n (by simp[hn])) hr
    obtain⟨c3,c4,rfl,d4,d5,d6⟩:=Jmx obj dis hl b h2 (fun n hn=>hf n (by simp[hn])) d2
    refine⟨c1++c3,c4,by simp,⟨c1,c3,rfl,d1,d4⟩,d5,fun n hn => ?_⟩
    rcases List.mem_append.1 hn with hn|hn
    ·exact d3 n hn
    ·exact d6 n hn
   ·cases he
  ·cases he
 |.nil,cs,x,r,f,vs,he,hf,hr=>by
  simp only[Kd.dec,Option.some.injEq,Prod.mk.injEq]at he
  obtain⟨_,rfl,rfl⟩:=he
  exact⟨[],vs,rfl,rfl,hr,fun n hn=>by cases hn⟩
 |.int k,[],x,r,f,vs,he,hf,hr=>by simp[Kd.dec]at he
 |.bool,[],x,r,f,vs,he,hf,hr=>by simp[Kd.dec]at he
 |.str,[],x,r,f,vs,he,hf,hr=>by simp[Kd.dec]at he
 |.flt,[],x,r,f,vs,he,hf,hr=>by simp[Kd.dec]at he
 |.sl e,[],x,r,f,vs,he,hf,hr=>by simp[Kd.dec]at he
 |.int k,c::cs,x,r,f,vs,he,hf,hr=>by
  obtain⟨v,vs,rfl,hv,hr⟩:=hr
  simp only[Kd.dec]at he
  split at he
  ·next y g hy =>
   simp only[Option.some.injEq,Prod.mk.injEq]at he
   obtain⟨rfl,rfl,rfl⟩:=he
   obtain⟨d1,d2⟩:=JaJ obj dis hy hf hl hv
   exact⟨[v],vs,rfl,d1,hr,d2⟩
  ·cases he
 |.bool,c::cs,x,r,f,vs,he,hf,hr=>by
  obtain⟨v,vs,rfl,hv,hr⟩:=hr
  simp only[Kd.dec]at he
  split at he
  ·next y g hy =>
   simp only[Option.some.injEq,Prod.mk.injEq]at he
   obtain⟨rfl,rfl,rfl⟩:=he
   obtain⟨d1,d2⟩:=JaJ obj dis hy hf hl hv
   exact⟨[v],vs,rfl,d1,hr,d2⟩
  ·cases he
 |.str,c::cs,x,r,f,vs,he,hf,hr=>by
  obtain⟨v,vs,rfl,hv,hr⟩:=hr
  simp only[Kd.dec]at he
  split at he
  ·next y g hy =>
   simp only[Option.some.injEq,Prod.mk.injEq]at he
   obtain⟨rfl,rfl,rfl⟩:=he
   obtain⟨d1,d2⟩:=JaJ obj dis hy hf hl hv
   exact⟨[v],vs,rfl,d1,hr,d2⟩
  ·cases he
 |.flt,c::cs,x,r,f,vs,he,hf,hr=>by
  obtain⟨v,vs,rfl,hv,hr⟩:=hr
  simp only[Kd.dec]at he
  split at he
  ·next y g hy =>
   simp only[Option.some.injEq,Prod.mk.injEq]at he
   obtain⟨rfl,rfl,rfl⟩:=he
   obtain⟨d1,d2⟩:=JaJ obj dis hy hf hl hv
   exact⟨[v],vs,rfl,d1,hr,d2⟩
  ·cases he
 |.sl e,c::cs,x,r,f,vs,he,hf,hr=>by
  obtain⟨v,vs,rfl,hv,hr⟩:=hr
  simp only[Kd.dec]at he
  split at he
  ·next y g hy =>
   simp only[Option.some.injEq,Prod.mk.injEq]at he
   obtain⟨rfl,rfl,rfl⟩:=he
   obtain⟨d1,d2⟩:=JaJ obj dis hy hf hl hv
   exact⟨[v],vs,rfl,d1,hr,d2⟩
  ·cases he
theorem J8j{K:Kd}{p:PV}{x:K.T}{f:List Nm}(he:leaf h K p=some (x,f)): Yp h f:=by
 unfold leaf at he
 split at he
 ·obtain⟨z,hz,he⟩:=Option.map_eq_some_iff.1 he
  simp only[Prod.mk.injEq]at he
  obtain⟨rfl,rfl⟩:=he
  intro n hn;cases hn
 ·obtain⟨z,hz,he⟩:=Option.map_eq_some_iff.1 he
  simp only[Prod.mk.injEq]at he
  obtain⟨rfl,rfl⟩:=he
  intro n hn;cases hn
 ·split at he
  ·cases he;intro n hn;cases hn
  ·cases he
 ·next n =>
  split at he
  ·next e K' xs hn =>
   obtain⟨z,hz,he⟩:=Option.map_eq_some_iff.1 he
   simp only[Prod.mk.injEq]at he
   obtain⟨rfl,rfl⟩:=he
   intro m hm
   simp at hm
   subst hm
   exact⟨e,K',xs,hn⟩
  ·cases he
 ·cases he
theorem Jfa:∀(K:Kd) {cs:List PV} {x:K.T} {r:List PV} {f:List Nm},K.dec h cs=some (x,r,f)->Yp h f
 |.pr a b,cs,x,r,f,he=>by
  simp only[Kd.dec]at he
  split at he
  ·next x1 r1 f1 h1 =>
   split at he
   ·next y r' f' h2 =>
    simp only[Option.some.injEq,Prod.mk.injEq]at he
    obtain⟨rfl,rfl,rfl⟩:=he
    intro n hn
    rcases List.mem_append.1 hn with hn|hn
    ·exact Jfa a h1 n hn
    ·exact Jfa b h2 n hn
   ·cases he
  ·cases he
 |.nil,cs,x,r,f,he=>by
  simp only[Kd.dec,Option.some.injEq,Prod.mk.injEq]at he
  obtain⟨_,rfl,rfl⟩:=he
  intro n hn;cases hn
 |.int k,[],x,r,f,he=>by simp[Kd.dec]at he
 |.bool,[],x,r,f,he=>by simp[Kd.dec]at he
 |.str,[],x,r,f,he=>by simp[Kd.dec]at he
 |.flt,[],x,r,f,he=>by simp[Kd.dec]at he
 |.sl e,[],x,r,f,he=>by simp[Kd.dec]at he
 |.int k,c::cs,x,r,f,he=>by
  simp only[Kd.dec]at he
  split at he
  ·next y g hy=>simp only[Option.some.injEq,Prod.mk.injEq]at he;obtain⟨rfl,rfl,rfl⟩:=he;exact J8j hy
  ·cases he
 |.bool,c::cs,x,r,f,he=>by
  simp only[Kd.dec]at he
  split at he
  ·next y g hy=>simp only[Option.some.injEq,Prod.mk.injEq]at he;obtain⟨rfl,rfl,rfl⟩:=he;exact J8j hy
  ·cases he
 |.str,c::cs,x,r,f,he=>by
  simp only[Kd.dec]at he
  split at he
  ·next y g hy=>simp only[Option.some.injEq,Prod.mk.injEq]at he;obtain⟨rfl,rfl,rfl⟩:=he;exact J8j hy
  ·cases he
 |.flt,c::cs,x,r,f,he=>by
  simp only[Kd.dec]at he
  split at he
  ·next y g hy=>simp only[Option.some.injEq,Prod.mk.injEq]at he;obtain⟨rfl,rfl,rfl⟩:=he;exact J8j hy
  ·cases he
 |.sl e,c::cs,x,r,f,he=>by
  simp only[Kd.dec]at he
  split at he
  ·next y g hy=>simp only[Option.some.injEq,Prod.mk.injEq]at he;obtain⟨rfl,rfl,rfl⟩:=he;exact J8j hy
  ·cases he
theorem Jl2{K:Kd}{cs:List PV}{x:K.T}{f:List Nm}(he:K.decAll h cs=some (x,f)): K.dec h cs=some (x,[],f):=by
 unfold Kd.decAll at he
 split at he
 ·next y g hd =>
  simp only[Option.some.injEq,Prod.mk.injEq]at he
  obtain⟨rfl,rfl⟩:=he
  exact hd
 ·cases he
theorem Jf2 (obj:∀ n o,h n=some o->RO h G w n o) (dis:Dis h G w) {l:List Nm} (hl:Yp h l) {K:Kd} {cs:List PV} {x:K.T} {f:List Nm} {vs:List Value}
 (he:K.decAll h cs=some (x,f)) (hf:∀ n∈f,n∈l) (hr:RVs h G w cs vs):RD w (okF h G l) K x vs:=by
 obtain⟨c1,c2,rfl,d1,d2,_⟩:=Jmx obj dis hl K (Jl2 he) hf hr
 simp only[RVs]at d2
 subst d2
 simpa using d1
theorem Jsd{K:Kd}: ∀ {k:Nat} {parts:List (Nat×PV)} {xs:List K.T} {f:List Nm},ZE h K k parts=some (xs,f)->Yp h f
 |k,[],xs,f,he=>by
  simp only[ZE,Option.some.injEq,Prod.mk.injEq]at he
  obtain⟨rfl,rfl⟩:=he
  intro n hn;cases hn
 |k,(i,p)::r,xs,f,he=>by
  simp only[ZE]at he
  cases hb:(Nat.beq i k&&UG (cellsOf p))with
  |false=>rw[hb]at he;cases he
  |true =>
   rw[hb,cond_true]at he
   split at he
   ·next x f1 l f2 h1 h2 =>
    simp only[Option.some.injEq,Prod.mk.injEq]at he
    obtain⟨rfl,rfl⟩:=he
    intro n hn
    rcases List.mem_append.1 hn with hn|hn
    ·exact Jfa K (Jl2 h1) n hn
    ·exact Jsd h2 n hn
   ·cases he
theorem JtM(pre us mid post:List Value)(hm:mid.length=us.length): UV (pre++mid++post) pre.length us=pre++us++post:=by
 induction us generalizing pre mid with
 |nil=>have:mid=[]:=List.eq_nil_of_length_eq_zero hm;subst this;rfl
 |cons u us ih =>
  cases mid with
  |nil=>cases hm
  |cons m mid =>
   rw[UV]
   have e:(pre++(m::mid)++post).set pre.length u=(pre++[u])++mid++post:=by
    rw[List.append_assoc,List.set_append_right _ _ (Nat.le_refl _)]
    simp
   rw[e]
   have:=ih (pre++[u]) mid (by simpa using hm)
   rw[List.length_append,List.length_singleton]at this
   rw[this]
   simp
theorem JtN(obj:∀ n o,h n=some o->RO h G w n o)(dis:Dis h G w){l:List Nm}(hl:Yp h l){K:Kd}{u:Operand->PV}{ρ : Operand->Value}(hu:∀ x,RV h G w (u x) (ρ x)):
 ∀(parts:List (Nat×Operand)) (k:Nat) (xs:List K.T) (f:List Nm) (pre:List Value) (cells:Array Value),ZE h K k (parts.map fun(i,x)=>(i,u x))=some (xs,f)->(∀ n∈f,n∈l) ->
 pre.length=k*K.sz->(∃ rest,cells.toList=pre++rest∧rest.length=parts.length*K.sz) ->
 ∃ out vs,Instr.fill (fun i=>some (i*K.sz,K.sz)) cells (parts.map fun(i,x)=>(i,ρ x))=some out∧out.toList=pre++vs∧RDs w (okF h G l) K xs vs
 |[],k,xs,f,pre,cells,he,hf,hp,⟨rest,hc,hr⟩=>by
  simp only[List.map_nil,ZE,Option.some.injEq,Prod.mk.injEq]at he
  obtain⟨rfl,rfl⟩:=he
  have:rest=[]:=List.eq_nil_of_length_eq_zero (by simpa using hr)
  subst this
  exact⟨cells,[],rfl,hc,rfl⟩
 |(i,x)::parts,k,xs,f,pre,cells,he,hf,hp,⟨rest,hc,hr⟩=>by
  simp only[List.map_cons,ZE]at he
  cases hb:(Nat.beq i k&&UG (cellsOf (u x)))with
  |false=>rw[hb]at he;cases he
  |true =>
   rw[hb,cond_true]at he
   simp only[Bool.and_eq_true]at hb
   obtain⟨hi,hlf⟩:=hb
   have hi:=Nat.eq_of_beq_eq_true hi
   subst hi
   split at he
   ·next y f1 l2 f2 h1 h2 =>
    simp only[Option.some.injEq,Prod.mk.injEq]at he
    obtain⟨rfl,rfl⟩:=he
    obtain⟨c1,c2⟩:=J8r obj hlf (hu x)
    have d1:=Jf2 obj dis hl h1 (fun n hn=>hf n (by simp[hn])) c1
    have hsz:(ρ x).cells.size=K.sz:=by have:=d1.len;simpa using this
    rw[List.length_cons,Nat.add_mul,Nat.one_mul]at hr
    have hcl:cells.size=pre.length+rest.length:=by have:=congrArg List.length hc;simpa using this
    obtain⟨mid,post,hmp,hm1⟩:∃ mid post,rest=mid++post∧mid.length=K.sz:=⟨rest.take K.sz,rest.drop K.sz,by simp,by simp;omega⟩
    subst hmp
    rw[List.length_append]at hr
    simp only[List.map_cons,Instr.fill]
    have hno:¬ ((ρ x).cells.size≠K.sz || decide (i*K.sz+(ρ x).cells.size>cells.size))=true:=by
     rw[List.length_append]at hcl
     simp[hsz];omega
    rw[if_neg (by simpa using hno)]
    have hv:=Jf1 (i*K.sz) (ρ x).cells.toList 0 cells
    rw[Nat.add_zero]at hv
    have e2:(Array.foldl (fun cs x=>cs.setIfInBounds (i*K.sz+x.2) x.1) cells (ρ x).cells.zipIdx).toList=pre++(ρ x).cells.toList++post:=by
     rw[←Array.foldl_toList,Array.toList_zipIdx,hv,hc,←hp]
     have:=JtM pre (ρ x).cells.toList mid post (by rw[hm1];simpa using hsz.symm)
     rw[←this,List.append_assoc]
    obtain⟨out,vs,h3,h4,h5⟩:=JtN obj dis hl hu parts (i+1) l2 f2 (pre++(ρ x).cells.toList) (Array.foldl (fun cs x=>cs.setIfInBounds (i*K.sz+x.2) x.1) cells (ρ x).cells.zipIdx) h2 (fun n hn=>hf n (by simp[hn]))
     (by rw[List.length_append,hp,Array.length_toList,hsz,Nat.add_mul,Nat.one_mul]) ⟨post,e2,by omega⟩
    exact⟨out,(ρ x).cells.toList++vs,h3,by rw[h4,List.append_assoc],_,_,rfl,d1,h5⟩
   ·cases he
theorem run_build {P:Program} (w:World) (t e:TypeId) (n:Nat) (parts:Array (Nat×Value)) (out:Array Value) (ie:TypeInfo) (z:Value) (hd:P.underlying t=some (.slice e)) (hi:P.info? e=some ie) (hz:ie.zero=some z)
 (hsm:¬ n*ie.size>2 ^ 24) (hpos:0<ie.size) (hp:parts.size=n) (h:Instr.fill (fun i=>some (i*ie.size,ie.size)) ((Array.range (n*ie.size)).map (z.cells[· % z.cells.size]!)) parts.toList=some out) :
 (Instr.buildSlice t n parts).run P w = .ok (.slice (some ⟨w.heap.size,0,none⟩) n n) (w.alloc (.cells out e)):=by
 by_cases b3:n=0
 ·subst b3
  have hp:parts = #[]:=Array.eq_empty_of_size_eq_zero hp
  subst hp
  have e0:Array.range 0 = #[]:=rfl
  rw[Nat.zero_mul,e0]at h
  simp only[List.map_toArray,List.map_nil,Instr.fill,Option.some.injEq]at h
  have ho:out = #[]:=by rw[←h]
  subst ho
  simp[Instr.buildSlice,run_underlying hd,sizeOf,typeInfo,hi,Instr.fill,newRow,e0]
 ·exact run_buildSlice w t e n parts out ie z hd hi hz hsm (Nat.mul_ne_zero b3 (by omega)) h
theorem JAX (T:Qg P ty) (obj:∀ n o,h n=some o->RO h G w n o) (dis:Dis h G w) {s e:TypeId} {K:Kd} {b d n:Nat} (hk:J1K ty s=some (e,K,b)) {u:Operand->PV} {ρ : Operand->Value}
 (hu:∀ x,RV h G w (u x) (ρ x)) {parts:Array (Nat×Operand)} (he:Jeq h d e K n (parts.toList.map fun(i,x)=>(i,u x))=some ev) :
 ∃ r G' w',(Instr.buildSlice s n (parts.map fun(i,x)=>(i,ρ x))).run P w = .ok r w'∧Loud h G w (JO (JU ev.mp h) ev.hs) ev.mp G' w'∧RV (JO (JU ev.mp h) ev.hs) G' w' ev.val r∧ev.chk = .ok∧VarKept h G w w' (JH ev.hs):=by
 obtain⟨hd,i,z,hi,hz,hsz,hby,hpos,hzs,hz0⟩:=JaI T hk
 unfold Jeq at he
 split at he
 ·next hnm =>
  split at he
  ·next xs f hel =>
   cases hb:(Nat.beq (parts.toList.map fun(i,x)=>(i,u x)).length n&&Nat.ble (n*K.sz) 16777216)with
   |false=>rw[hb]at he;cases he
   |true =>
    rw[hb,cond_true]at he
    cases he
    simp only[Bool.and_eq_true,Bool.not_eq_true']at hb
    obtain⟨b1,b2⟩:=hb
    have b1:=Nat.eq_of_beq_eq_true b1
    have b2:=Nat.le_of_ble_eq_true b2
    rw[List.length_map]at b1
    have hl:=Jsd hel
    let cells0:Array Value:=(Array.range (n*K.sz)).map (z.cells[· % z.cells.size]!)
    obtain⟨out,vs,h1,h2,h3⟩:=JtN obj dis hl hu parts.toList 0 xs f [] cells0 hel (fun n hn=>hn) (by simp) ⟨cells0.toList,rfl,by simp[cells0,b1]⟩
    rw[List.nil_append]at h2
    have hrun:=run_build (P:=P) w s e n (parts.map fun(i,x)=>(i,ρ x)) out i z hd hi hz (by rw[hsz];omega) (by rw[hsz];exact hpos) (by simpa using b1) (by rw[hsz,Array.toList_map];exact h1)
    have A:=JeI (w:=w) obj dis hl
    have S:Still w (w.alloc (.cells out e)):=(Still.refl w).alloc _
    have hnm':UE h f (Q7 d)=none:=by rw[J0Z];split;rfl;rw[hnm];rfl
    have hxl:xs.length=n:=by
     have e1:=h3.length
     have e2:(Instr.fill (fun i=>some (i*K.sz,K.sz)) cells0 (parts.toList.map fun(i,x)=>(i,ρ x)))=some out:=h1
     have:out.size=n*K.sz:=by
      have key:∀(l:List (Nat×Value)) (c o:Array Value),Instr.fill (fun i=>some (i*K.sz,K.sz)) c l=some o->o.size=c.size:=by
       intro l
       induction l with
       |nil=>intro c o hh;cases hh;rfl
       |cons x l ih =>
        intro c o hh
        simp only[Instr.fill]at hh
        split at hh
        ·cases hh
        ·rw[ih _ _ hh]
         have:=J7Y x.2.cells.toList (x.1*K.sz) c.toList
         have e3:=Jf1 (x.1*K.sz) x.2.cells.toList 0 c
         rw[Nat.add_zero]at e3
         have e4:(Array.foldl (fun cs y=>cs.setIfInBounds (x.1*K.sz+y.2) y.1) c x.2.cells.zipIdx).toList=UV c.toList (x.1*K.sz) x.2.cells.toList:=by
          rw[←Array.foldl_toList,Array.toList_zipIdx,e3]
         have:=congrArg List.length e4
         rw[J7Y]at this
         simpa using this
      rw[key _ _ _ h1]
      simp[cells0]
     have e5:vs.length=out.size:=by rw[←h2];simp
     rw[e5,this]at e1
     exact(Nat.eq_of_mul_eq_mul_right hpos e1).symm
    have hv0:(G.set (Q7 d) 0 (.slice (some ⟨w.heap.size,0,none⟩) n n)).rv (Q7 d) = .slice (some ⟨w.heap.size,0,none⟩) n n:=by rw[Gh.set_rv,if_pos rfl]
    have B:=J5q (o := .row e K xs) (w':=w.alloc (.cells out e)) (b:=0) (v := .slice (some ⟨w.heap.size,0,none⟩) n n) A.obj (A.toDis dis) hnm' S (fun _=>by
     refine⟨vs,⟨by rw[h3.length],.inr ⟨w.heap.size,n,out,by rw[hv0,hxl],Nat.zero_le _,heap_alloc_new w _,by omega,by simp only[maxLen];have:=Nat.le_mul_of_pos_right n hpos;omega,?_,?_⟩⟩,?_,hpos⟩
     ·have:=congrArg List.length h2;rw[Array.length_toList,h3.length,hxl]at this;exact this
     ·rw[h2,hxl,←hxl,←h3.length,List.take_length]
     ·refine RDs.mono (fun c hc hlt=>⟨⟨fun m hm => ?_,hc.2⟩,S.blk c hlt⟩) h3
      by_cases hmn:m=Q7 d
      ·subst hmn
       simp only[Jd,JF,if_pos,hv0,Value.ownBlock,Option.some.injEq]at hm
       omega
      ·simp only[Jd,JF,if_neg hmn,Gh.set_bk,Gh.set_rv]at hm
       exact hc.1 m hm) (fun c hc=>by
     simp only[Jd,JF,if_pos,hv0,Value.ownBlock,Option.some.injEq]at hc
     omega)
    have e1:JO (JU (frz h f) h) (Ze f++[(Q7 d,some (.row e K xs))])=U1 (UE h f) (Q7 d) (some (.row e K xs)):=by
     rw[JqB];rfl
    refine⟨_,G.set (Q7 d) 0 (.slice (some ⟨w.heap.size,0,none⟩) n n),_,hrun,?_,?_,rfl,VarKept.ext obj (fun b hb=>heap_alloc_old w _ hb) _⟩
    ·show Loud h G w (JO (JU (frz h f) h) (Ze f++[(Q7 d,some (.row e K xs))])) (frz h f) _ _
     rw[e1]
     exact A.then B
    ·show RV (JO (JU (frz h f) h) (Ze f++[(Q7 d,some (.row e K xs))])) _ _ (.row (Q7 d)) _
     rw[e1]
     exact⟨by rw[hv0],e,K,xs,by rw[JF,if_pos rfl]⟩
  ·cases he
 ·cases he
theorem JtO{ok:Nat->Prop}{K:Kd}{z:Value}(h0:RD w ok K K.zero z.cells.toList)(hs:z.cells.size=K.sz)(hp:0<K.sz)(m:Nat):
 ∀ l,l*K.sz≤m->RDs w ok K (List.replicate l K.zero) ((madeCells z.cells m).toList.take (l*K.sz))
 |0,_=>by simp[RDs]
 |l+1,hl=>by
  rw[Nat.add_mul,Nat.one_mul]at hl ⊢
  rw[List.replicate_succ',List.take_add]
  refine RDs.append (JtO h0 hs hp m l (by omega)) ⟨z.cells.toList,[],?_,h0,rfl⟩
  rw[List.append_nil]
  apply List.ext_getElem
  ·simp[madeCells,hs];omega
  ·intro j h1 h2
   have h2':j<K.sz:=by rw[←hs];simpa using h2
   have e:(l*K.sz+j) % z.cells.size=j:=by rw[hs,Nat.mul_add_mod',Nat.mod_eq_of_lt h2']
   simp only[List.getElem_take,List.getElem_drop,Array.getElem_toList,madeCells,Array.getElem_map,Array.getElem_range,e]
   rw[getElem!_pos z.cells j (by rw[hs];exact h2')]
theorem JGs (T:Qg P ty) (obj:∀ n o,h n=some o->RO h G w n o) (dis:Dis h G w) {s e:TypeId} {K:Kd} {b d:Nat} (hk:J1K ty s=some (e,K,b)) {n c:PV} {u v:Value}
 (he:JfG h d e K b n c=some ev) (hn:RV h G w n u) (hv:RV h G w c v) (hc:U5 ev.chk=true) :
 ∃ r G' w',(Instr.makeSlice s u v).run P w = .ok r w'∧Loud h G w (JO (JU ev.mp h) ev.hs) ev.mp G' w'∧RV (JO (JU ev.mp h) ev.hs) G' w' ev.val r∧VarKept h G w w' (JH ev.hs):=by
 obtain⟨hd,i,z,hi,hz,hsz,hby,hpos,hzs,hz0⟩:=JaI T hk
 unfold JfG at he
 split at he
 ·next k x k' y =>
  split at he
  ·next hnm =>
   cases he
   have hm:mkB x y b=true:=hc
   simp only[mkB,Bool.and_eq_true,decide_eq_true_eq]at hm
   obtain⟨⟨⟨m1,m2⟩,m3⟩,m4⟩:=hm
   simp only[RV,RD,List.cons.injEq,and_true]at hn hv
   subst hn hv
   have hrun:=run_make (P:=P) w s e i z hd hi hz k k' x y m1 m2 (by rw[hby];exact m3) m4
   have S:Still w (w.alloc (.cells (madeCells z.cells (y.toNat*i.size)) e)):=(Still.refl w).alloc _
   have hv0:(G.set (Q7 d) 0 (.slice (some ⟨w.heap.size,0,none⟩) x.toNat y.toNat)).rv (Q7 d) = .slice (some ⟨w.heap.size,0,none⟩) x.toNat y.toNat:=by rw[Gh.set_rv,if_pos rfl]
   have hzl:(zeros K x).length=x.toNat:=by simp[zeros]
   have hle:x.toNat*K.sz≤y.toNat*i.size:=by rw[hsz];exact Nat.mul_le_mul_right _ (by omega)
   have B:=J5q (o := .row e K (zeros K x)) (w':=w.alloc (.cells (madeCells z.cells (y.toNat*i.size)) e)) (b:=0) (v := .slice (some ⟨w.heap.size,0,none⟩) x.toNat y.toNat) obj dis hnm S (fun _=>by
    refine⟨(madeCells z.cells (y.toNat*i.size)).toList.take (x.toNat*K.sz),⟨?_,.inr ⟨w.heap.size,y.toNat,madeCells z.cells (y.toNat*i.size),by rw[hv0,hzl],Nat.zero_le _,heap_alloc_new w _,by rw[hzl];omega,by simp only[maxLen];omega,?_,?_⟩⟩,?_,hpos⟩
    ·rw[List.length_take,hzl,Array.length_toList,size_madeCells];omega
    ·rw[size_madeCells,hsz]
    ·rw[hzl]
    ·exact JtO (hz0 _ _) hzs hpos _ _ hle) (fun c hc=>by
    simp only[Jd,JF,if_pos,hv0,Value.ownBlock,Option.some.injEq]at hc
    omega)
   refine⟨_,_,_,hrun,B,?_,VarKept.ext obj (fun b hb=>heap_alloc_old w _ hb) _⟩
   exact⟨by rw[hv0],e,K,zeros K x,by simp[JO,JF]⟩
  ·cases he
 ·cases he
end
end Go.Proofs.YtabkhphoacmcdaaGreatDoor.Pvm
end
