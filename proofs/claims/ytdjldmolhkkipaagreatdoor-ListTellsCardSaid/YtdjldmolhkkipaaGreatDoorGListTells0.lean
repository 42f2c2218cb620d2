/- An interpreter of the model's code over values without addresses, and its proof of soundness. -/
import Derived.Orders
import Derived.Laws.Sem
import Derived.KernelRfl
import Derived.Laws.Cells
import Derived.Laws.Append
import Derived.Laws.AppendOwn
import Derived.Laws.MakeOwn
import Derived.Laws.IdiomStrings
import Derived.Laws.IdiomCopy
import Derived.Laws.BytesString
import Derived.Laws.StructEq
import Derived.Laws.Slices
import Derived.Laws.NewBlocks
import Derived.Laws.Entries
import Derived.Laws.Tables
import Derived.Laws.RangeString
section
set_option linter.unusedVariables false
set_option linter.unusedSimpArgs false
namespace Go.Proofs.YtdjldmolhkkipaaGreatDoor.Eng
open Go
inductive V where
 | c (v:Value)
 | sl (es:Nat) (full:Bool) (xs:List V)
 | sla (k ver:Nat)
 | slm (k off len ver:Nat)
 | ptr (k off:Nat)
 | pe (k ver i off:Nat)
 | ep (xs:List V) (i off:Nat)
 | agg (cs:List V)
 | ag (cs:List V)
 | tup (vs:List V)
 | fn (f:Fn) (first cap:List V)
 | mp (k:Nat)
 | it (k:Nat)
 | bad
deriving Inhabited
inductive Kd where
 | int (k:IntKind) | bool | str | sl (es:Nat) | ptr (t:TypeId) | oth
deriving Inhabited,DecidableEq
inductive Slot where
 | cells (kds:List Kd) (cs:List V)
 | arr (es:Nat) (xs:List V) (own frz:Bool) (ver:Nat)
 | refs (xs:List V)
 | map (kvs:List (Value×V))
 | iter (s:ByteArray) (pos:Nat)
deriving Inhabited
def look {α:Type} (k:Nat):List (Nat×α)→Option α
 | []=>none
 |(j,a) :: r=>bif Nat.beq j k then some a else look k r
def ins {α:Type} (k:Nat) (a:α):List (Nat×α)→List (Nat×α)
 | []=>[(k,a)]
 |(j,b) :: r=>bif Nat.beq j k then (k,a) :: r else bif Nat.blt k j then (k,a) :: (j,b) :: r else (j,b) :: ins k a r
def del {α:Type} (k:Nat):List (Nat×α)→List (Nat×α)
 | []=>[]
 |(j,b) :: r=>bif Nat.beq j k then del k r else (j,b) :: del k r
structure S where
 tm:List (Nat×V)
 hp:List (Nat×Slot)
deriving Inhabited
def S.get (s:S) (t:Nat):V:=(look t s.tm).getD .bad
def V.i (n:Int):V:=.c (.int .i64 n)
def V.b (x:Bool):V:=.c (.bool x)
def V.s (x:ByteArray):V:=.c (.string x)
def V.u8 (n:Int):V:=.c (.int .u8 n)
def ofCell:Value→V
 | .slice none 0 0=>.sl 0 true []
 | .agg _=>.bad
 | .tuple _=>.bad
 | v=>.c v
def ofVal:Value→V
 | .agg cs=>bif cs.toList.all (fun v=>v.oneCell') then .agg (cs.toList.map ofCell) else .bad
 | v=>ofCell v
def ofTup:Value→V
 | .tuple vs=>.tup (vs.toList.map ofVal)
 | v=>ofVal v
def toCell:V→Option Value
 | .c v=>some v
 | _=>none
def toCells:List V→Option (List Value)
 | []=>some []
 | v :: r=>match toCell v,toCells r with
  | some x,some y=>some (x :: y)
  | _,_=>none
def toVal:V→Option Value
 | .agg cs=>match toCells cs with
  | some l=>some (.agg l.toArray)
  | none=>none
 | v=>toCell v
def pureRun {α:Type} (P:Program):Sem α→Option α
 | .pure a=>some a
 | .program k=>pureRun P (k P)
 | .mark _ k=>pureRun P k
 | _=>none
def szOf (P:Program) (t:TypeId):Nat:=match P.info? t with | some i=>i.size | none=>0
def bytesOf (P:Program) (t:TypeId):Nat:=match P.info? t with | some i=>i.bytes | none=>0
def aggB (P:Program) (t:TypeId):Bool:=match P.underlying t with | some (.struct _)=>true | some (.array ..)=>true | _=>false
def rep {α:Type}:Nat→List α→List α
 | 0,_=>[]
 | n+1,l=>l++rep n l
def kinds (P:Program):Nat→TypeId→List Kd
 | 0,_=>[]
 | d+1,t=>match P.underlying t with
  | some (.int k)=>[.int k]
  | some .bool=>[.bool]
  | some .string=>[.str]
  | some (.slice e)=>[.sl (szOf P e)]
  | some (.pointer e)=>[.ptr e]
  | some (.struct fs)=>(fs.toList.map fun f=>kinds P d f.type).flatten
  | some (.array n e)=>rep n (kinds P d e)
  | some _=>[.oth]
  | none=>[]
section
variable {R:Type}
def asInt (k:IntKind) (o:Option V) (f:R) (K:Int→R):R:=match o with
 | some (.c (.int k' n))=>if k=k' then K n else f
 | _=>f
def asBool (o:Option V) (f:R) (K:Bool→R):R:=match o with
 | some (.c (.bool b))=>K b
 | _=>f
def asStr (o:Option V) (f:R) (K:ByteArray→R):R:=match o with
 | some (.c (.string s))=>K s
 | _=>f
def asSl (es:Nat) (o:Option V) (f:R) (K:Bool→List V→R):R:=match o with
 | some (.sl es' fl xs)=>bif Nat.beq es es' || xs.isEmpty then K fl xs else f
 | _=>f
def asAgg (o:Option V) (f:R) (K:List V→R):R:=match o with
 | some (.agg cs)=>K cs
 | _=>f
def asOth (o:Option V) (f:R) (K:V→R):R:=match o with
 | some v=>K v
 | none=>f
def asCellM (kd:Kd) (o:Option V) (f:R) (K:V→R):R:=match kd with
 | .int k=>asInt k o f fun n=>K (.c (.int k n))
 | .bool=>asBool o f fun b=>K (.c (.bool b))
 | .str=>asStr o f fun s=>K (.c (.string s))
 | .sl _=>asOth o f K
 | .ptr _=>asOth o f K
 | .oth=>asOth o f K
def asCellP (kd:Kd) (o:Option V) (f:R) (K:V→R):R:=match kd with
 | .int k=>asInt k o f fun n=>K (.c (.int k n))
 | .bool=>asBool o f fun b=>K (.c (.bool b))
 | .str=>asStr o f fun s=>K (.c (.string s))
 | .sl es=>asSl es o f fun fl xs=>K (.sl es fl xs)
 | .ptr _=>asOth o f K
 | .oth=>asOth o f K
def asCells (get:Nat→Option V) (cell:Kd→Option V→R→(V→R)→R):List Kd→Nat→R→(List V→R)→R
 | [],_,_,K=>K []
 | kd :: r,off,f,K=>cell kd (get off) f fun v=>asCells get cell r (off+1) f fun vs=>K (v :: vs)
def asType (P:Program) (t:TypeId) (get:Nat→Option V) (cell:Kd→Option V→R→(V→R)→R) (off:Nat) (f:R) (K:V→R):R :=
 bif aggB P t then (bif Nat.beq (kinds P 9 t).length (szOf P t) then asCells get cell (kinds P 9 t) off f fun vs=>K (.agg vs) else f)
 else match kinds P 9 t with
  | [kd]=>cell kd (get off) f K
  | _=>f
end
def V.cells:V→List V
 | .agg cs=>cs
 | v=>[v]
def getC (xs:List V) (i j:Nat):Option V:=match xs[i]? with
 | some x=>x.cells[j]?
 | none=>none
def cutL (xs:List V) (off len:Nat):List V:=(xs.drop off).take len
def setL (cs:List V) (off:Nat):List V→List V
 | []=>cs
 | v :: r=>setL (cs.set off v) (off+1) r
def setE (x:V) (off:Nat) (vs:List V):V:=match x with
 | .agg cs=>.agg (setL cs off vs)
 | _=>match off,vs with
  | 0,[v]=>v
  | _,_=>x
def keysV:V→List Nat
 | .sla k _=>[k]
 | .slm k _ _ _=>[k]
 | .ptr k _=>[k]
 | .pe k _ _ _=>[k]
 | .mp k=>[k]
 | .it k=>[k]
 | .agg cs=>keysC cs
 | .tup cs=>keysC cs
 | .fn _ a b=>keysC a++keysC b
 | _=>[]
where keysC:List V→List Nat
 | []=>[]
 | v :: r=>keysV v++keysC r
def flat:V→Bool
 | .c _=>true
 | .sl _ _ _=>true
 | .agg cs=>flatL cs
 | _=>false
where flatL:List V→Bool
 | []=>true
 | v :: r=>flat v && flatL r
end Go.Proofs.YtdjldmolhkkipaaGreatDoor.Eng
end
section
set_option linter.unusedVariables false
set_option linter.unusedSimpArgs false
namespace Go.Proofs.YtdjldmolhkkipaaGreatDoor.Eng
open Go
structure Env (R:Type) where
 P:Program
 n:Nat
 f:R
 both:R→R→R
 gives:FuncId→Bool
 call:FuncId→List V→List (Nat×Slot)→(List V→List (Nat×Slot)→R)→R
 loop:Nat→((S→R)→S→R)→S→R
def S.put (s:S) (d:Nat) (v:V):S:=⟨(d,v) :: s.tm,s.hp⟩
def S.ev (s:S):Operand→V
 | .tmp t=>s.get t
 | .const v=>ofVal v
 | .global _=>.bad
 | .func f=>.fn (.func f) [] []
def dkey (d j:Nat):Nat:=64+(16 * d+j)
def killV (k:Nat):V→V
 | .sla j v=>bif Nat.beq j k then .bad else .sla j v
 | .slm j a b v=>bif Nat.beq j k then .bad else .slm j a b v
 | .ptr j a=>bif Nat.beq j k then .bad else .ptr j a
 | .pe j v i a=>bif Nat.beq j k then .bad else .pe j v i a
 | .mp j=>bif Nat.beq j k then .bad else .mp j
 | .it j=>bif Nat.beq j k then .bad else .it j
 | .agg cs=>.agg (killC cs)
 | .tup cs=>.tup (killC cs)
 | .fn f a b=>.fn f (killC a) (killC b)
 | v=>v
where killC:List V→List V
 | []=>[]
 | v :: r=>killV k v :: killC r
def killS (k:Nat):Slot→Slot
 | .cells kds cs=>.cells kds (killV.killC k cs)
 | .refs xs=>.refs (killV.killC k xs)
 | s=>s
def S.bind (s:S) (k:Nat) (x:Slot):S :=
 ⟨s.tm.map fun y=>(y.1,killV k y.2),ins k x (s.hp.map fun y=>(y.1,killS k y.2))⟩
def S.upd (s:S) (k:Nat) (x:Slot):S:=⟨s.tm,ins k x s.hp⟩
def okCell:V→Bool
 | .agg _=>false
 | .ag _=>false
 | .tup _=>false
 | .bad=>false
 | .ep ..=>false
 | .pe ..=>false
 | _=>true
def okCells:List V→Bool
 | []=>true
 | v :: r=>okCell v && okCells r
def bytesV (s:ByteArray):List V:=s.data.toList.map fun b=>.c (.int .u8 b.toNat)
def isU8:V→Bool
 | .c (.int .u8 _)=>true
 | _=>false
def byteOf:V→UInt8
 | .c (.int _ n)=>UInt8.ofNat n.toNat
 | _=>0
def packB (xs:List V):ByteArray:=⟨(xs.map byteOf).toArray⟩
def bAt (s:ByteArray) (i:Nat):Int:=((s.data.toList.getD i 0).toNat:Int)
def zeroV (P:Program) (t:TypeId):Option V:=((P.info? t).bind (·.zero)).map ofVal
def fillV (place:Nat→Option (Nat×Nat)) (n:Nat):List V→List (Nat×V)→Option (List V)
 | cs,[]=>some cs
 | cs,(i,v) :: r=>match place i with
  | some (off,sz)=>bif Nat.beq v.cells.length sz && okCells v.cells && Nat.ble (off+sz) n then fillV place n (setL cs off v.cells) r else none
  | none=>none
def esOf (hp:List (Nat×Slot)) (k:Nat):Nat:=match look k hp with
 | some (.arr es _ _ _ _)=>es
 | _=>0
def esV (hp:List (Nat×Slot)):V→Nat
 | .sl es _ _=>es
 | .sla k _=>esOf hp k
 | .slm k _ _ _=>esOf hp k
 | _=>0
def content (s:S):V→Option (List V)
 | .sl _ _ xs=>some xs
 | .sla k v=>match look k s.hp with
  | some (.arr _ xs _ _ w)=>bif Nat.beq v w then some xs else none
  | _=>none
 | .slm k off len v=>match look k s.hp with
  | some (.arr _ xs _ _ w)=>bif Nat.beq v w then some (cutL xs off len) else none
  | _=>none
 | _=>none
section
variable {R:Type} (E:Env R)
def fin (o:Oper) (s:S) (v:V) (K:S→R):R:=match o.dst with
 | some d=>bif Nat.blt d E.n then K (s.put d v) else E.f
 | none=>K s
def keysS:Slot→List Nat
 | .cells _ cs=>keysV.keysC cs
 | .refs cs=>keysV.keysC cs
 | _=>[]
def fresh (o:Oper) (s:S) (x:Slot) (v:Nat→V) (K:S→R):R:=match o.dst with
 | some d=>bif Nat.blt d E.n && !((keysS x).any (Nat.beq (dkey d 0))) then K ((s.bind (dkey d 0) x).put d (v (dkey d 0))) else E.f
 | none=>E.f
def pureC (r:Option Value) (K:V→R):R:=match r with
 | some v=>K (ofVal v)
 | none=>E.f
def isNil:V→Option Bool
 | .c .nilIface=>some true
 | .c (.iface _ _)=>some false
 | _=>none
def eqKd:Kd→Bool
 | .int _=>true | .bool=>true | .str=>true | _=>false
def partV (P:Program) (t:TypeId) (xs:List V) (off:Nat):Option V :=
 bif aggB P t then (bif Nat.ble (off+szOf P t) xs.length then some (.agg (cutL xs off (szOf P t))) else none) else xs[off]?
def andO:Option Bool→Option Bool→Option Bool
 | some p,some q=>some (p && q)
 | _,_=>none
def eqFs (P:Program) (rec:TypeId→V→V→Option Bool) (xs ys:List V):List Field→Option Bool
 | []=>some true
 | f :: r=>bif f.name == "_" then eqFs P rec xs ys r else match partV P f.type xs f.offset,partV P f.type ys f.offset with
   | some a,some b=>andO (rec f.type a b) (eqFs P rec xs ys r)
   | _,_=>none
def eqEs (P:Program) (rec:TypeId→V→V→Option Bool) (e:TypeId) (xs ys:List V):List Nat→Option Bool
 | []=>some true
 | i :: r=>match partV P e xs (i * szOf P e),partV P e ys (i * szOf P e) with
   | some a,some b=>andO (rec e a b) (eqEs P rec e xs ys r)
   | _,_=>none
def eqT (P:Program):Nat→TypeId→V→V→Option Bool
 | 0=>fun _ _ _=>none
 | d+1=>fun t x y=>match P.underlying t with
  | some (.int _)=>(match x,y with
   | .c (.int a i),.c (.int b j)=>if a=b then some (i == j) else none
   | _,_=>none)
  | some .bool=>(match x,y with
   | .c (.bool i),.c (.bool j)=>some (i == j)
   | _,_=>none)
  | some .string=>(match x,y with
   | .c (.string i),.c (.string j)=>some (i.toList == j.toList)
   | _,_=>none)
  | some (.struct fs)=>(match x,y with
   | .agg xs,.agg ys=>bif P.stoodInHeld t then none else eqFs P (eqT P d) xs ys fs.toList
   | _,_=>none)
  | some (.array n e)=>(match x,y with
   | .agg xs,.agg ys=>bif (P.info? e).isSome then eqEs P (eqT P d) e xs ys (List.range n) else none
   | _,_=>none)
  | _=>none
def intOp (op:BinOp) (k:IntKind) (a b:Int):Option Value:=match op with
 | .add=>some (.int k (k.wrap (a+b)))
 | .sub=>some (.int k (k.wrap (a - b)))
 | .mul=>some (.int k (k.wrap (a * b)))
 | .and=>some (.int k (k.wrap (BitVec.ofInt k.bits a &&& BitVec.ofInt k.bits b).toNat))
 | .or=>some (.int k (k.wrap (BitVec.ofInt k.bits a ||| BitVec.ofInt k.bits b).toNat))
 | .xor=>some (.int k (k.wrap (BitVec.ofInt k.bits a ^^^ BitVec.ofInt k.bits b).toNat))
 | .andNot=>some (.int k (k.wrap (BitVec.ofInt k.bits a &&& ~~~(BitVec.ofInt k.bits b)).toNat))
 | .eql=>some (.bool (a == b))
 | .neq=>some (.bool (a != b))
 | .lss=>some (.bool (a < b))
 | .leq=>some (.bool (a≤b))
 | .gtr=>some (.bool (a > b))
 | .geq=>some (.bool (a≥b))
 | _=>none
def strOp (op:BinOp) (x y:ByteArray):Option Value:=match op with
 | .eql=>some (.bool (x.toList == y.toList))
 | .neq=>some (.bool (!(x.toList == y.toList)))
 | .lss=>some (.bool (Op.bytesLess x.toList y.toList))
 | .leq=>some (.bool (Op.bytesLess x.toList y.toList || x.toList == y.toList))
 | .gtr=>some (.bool (!(Op.bytesLess x.toList y.toList || x.toList == y.toList)))
 | .geq=>some (.bool (!(Op.bytesLess x.toList y.toList)))
 | _=>none
def boolOp (op:BinOp) (x y:Bool):Option Value:=match op with
 | .eql=>some (.bool (x == y))
 | .neq=>some (.bool (!(x == y)))
 | _=>none
def isArr (P:Program) (t:TypeId):Option (Nat×TypeId):=match P.underlying t with | some (.array n e)=>some (n,e) | _=>none
def isSlice (P:Program) (t:TypeId):Option TypeId:=match P.underlying t with | some (.slice e)=>some e | _=>none
def isStr (P:Program) (t:TypeId):Bool:=match P.underlying t with | some .string=>true | _=>false
def isInt (P:Program) (t:TypeId) (k:IntKind):Bool:=match P.underlying t with | some (.int k')=>decide (k=k') | _=>false
def binI (op:BinOp) (k:IntKind) (a:Int) (k':IntKind) (b:Int) (K:V→R):R:=match op with
 | .quo=>if k=k' then (if b=0 then E.f else K (.c (.int k (k.wrap (a.tdiv b))))) else E.f
 | .rem=>if k=k' then (if b=0 then E.f else K (.c (.int k (a.tmod b)))) else E.f
 | .shl=>if b < 0 then E.f else K (.c (.int k (k.wrap (a * 2 ^ (min b.toNat k.bits)))))
 | .shr=>if b < 0 then E.f else K (.c (.int k (a.fdiv (2 ^ (min b.toNat k.bits)))))
 | op=>if k=k' then pureC E (intOp op k a b) K else E.f
def binS (op:BinOp) (a b:ByteArray) (K:V→R):R:=match op with
 | .add=>if ((a.size+b.size:Nat):Int) > IntKind.i64.max then E.f else K (.c (.string (a++b)))
 | op=>pureC E (strOp op a b) K
def isBool (P:Program) (t:TypeId):Bool:=match P.underlying t with
 | some .bool=>true
 | _=>false
def binA (op:BinOp) (t:TypeId) (xs ys:List V) (K:V→R):R:=bif E.P.eqGuardType E.P.depth t then E.f else match eqT E.P 9 t (.agg xs) (.agg ys) with
 | some b=>(match op with
  | .eql=>K (.c (.bool b))
  | .neq=>K (.c (.bool (!b)))
  | _=>E.f)
 | none=>E.f
def isIfc (P:Program) (t:TypeId):Bool:=match P.underlying t with
 | some (.interface _)=>true
 | _=>false
def binN (op:BinOp) (t:TypeId) (yc:Option Value) (x:V) (K:V→R):R:=match yc with
 | some .nilIface=>match isNil x with
  | some b=>bif isIfc E.P t then (match op with
   | .eql=>K (.c (.bool b))
   | .neq=>K (.c (.bool (!b)))
   | _=>E.f) else E.f
  | none=>E.f
 | some (.slice none 0 0)=>match isSlice E.P t,x with
  | some _,.sl _ _ xs=>(match op with
   | .eql=>if xs.length=0 then E.both (K (.c (.bool true))) (K (.c (.bool false))) else K (.c (.bool false))
   | _=>E.f)
  | _,_=>E.f
 | _=>E.f
def binC (op:BinOp) (t:TypeId) (yc:Option Value) (x y:V) (K:V→R):R :=
 match x,y with
 | .c (.int k a),.c (.int k' b)=>binI E op k a k' b K
 | .c (.string a),.c (.string b)=>binS E op a b K
 | .c (.bool a),.c (.bool b)=>bif isBool E.P t then pureC E (boolOp op a b) K else E.f
 | .agg xs,.agg ys=>binA E op t xs ys K
 | x,_=>binN E op t yc x K
def sliceStr (s:ByteArray) (l h:Int) (K:V→R):R :=
 if 0≤h∧h≤(s.size:Int) then (if 0≤l∧l≤h then K (.c (.string (s.extract l.toNat h.toNat))) else E.f) else E.f
def optI (f:R) (o:Option V) (d:Int) (K:Int→R):R:=match o with
 | none=>K d
 | some (.c (.int _ n))=>K n
 | _=>f
def bounds (n l h:Int) (K:R):R:=if 0≤h∧h≤n then (if 0≤l∧l≤h then K else E.f) else E.f
def lenOf (s:S):V→Option Nat
 | .sl _ _ xs=>some xs.length
 | .sla k v=>match look k s.hp with
  | some (.arr _ xs _ _ w)=>bif Nat.beq v w then some xs.length else none
  | some (.refs xs)=>some xs.length
  | _=>none
 | .slm k off len v=>match look k s.hp with
  | some (.arr _ xs _ _ w)=>bif Nat.beq v w then some len else none
  | _=>none
 | _=>none
def zeroSl (o:Oper) (e:TypeId) (lo hi:Option V) (m:V) (s:S) (K:S→R):R:=match lo,hi,m with
 | none,some (.c (.int _ h)),.c (.int _ q)=>if h=0∧q=0 then fin E o s (.sl (szOf E.P e) true []) K else E.f
 | _,_,_=>E.f
def litMx (o:Oper):Bool:=match o.op with
 | .slice _ _ _ _ none=>true
 | .slice _ _ _ _ (some (.const _))=>true
 | _=>false
def headSl (o:Oper) (e:TypeId) (x:V) (n:Nat) (lo hi:Option V) (m:V) (s:S) (K:S→R):R:=match lo,hi,m with
 | none,some (.c (.int _ h)),.c (.int _ q)=>if 0≤h∧h=q∧h≤(n:Int) then
   (match x with
    | .sla k v=>match look k s.hp with
     | some (.arr es xs own frz w)=>bif Nat.beq v w && Nat.beq es (szOf E.P e) then fin E o (s.upd k (.arr es (xs.take h.toNat) own frz (w+1))) (.sla k (w+1)) K else E.f
     | _=>E.f
    | _=>E.f) else E.f
 | _,_,_=>E.f
def sliceC (o:Oper) (t:TypeId) (x:V) (lo hi mx:Option V) (s:S) (K:S→R):R :=
 match x with
 | .c (.string b)=>bif isStr E.P t && mx.isNone then
   optI E.f lo 0 fun l=>optI E.f hi (b.size:Int) fun h=>sliceStr E b l h fun v=>fin E o s v K
  else E.f
 | _=>match isSlice E.P t,lenOf s x with
  | some e,some n=>match (bif Nat.beq (szOf E.P e) 0 then some .bad else mx) with
   | none=>optI E.f lo 0 fun l=>optI E.f hi (n:Int) fun h=>bounds E n l h
     (match x with
      | .sl es fl xs=>bif Nat.beq es (szOf E.P e) || xs.isEmpty then fin E o s (.sl es (fl && Nat.beq h.toNat xs.length) (cutL xs l.toNat (h.toNat - l.toNat))) K else E.f
      | .sla k v=>match look k s.hp with
       | some (.arr es _ _ _ _)=>bif Nat.beq es (szOf E.P e) then fin E o s (.slm k l.toNat (h.toNat - l.toNat) v) K else E.f
       | _=>E.f
      | .slm k a _ v=>match look k s.hp with
       | some (.arr es _ _ _ _)=>bif Nat.beq es (szOf E.P e) then fin E o s (.slm k (a+l.toNat) (h.toNat - l.toNat) v) K else E.f
       | _=>E.f
      | _=>E.f)
   | some m=>bif litMx o then zeroSl E o e lo hi m s K else headSl E o e x n lo hi m s K
  | _,_=>E.f
def zeroOk (P:Program) (e:TypeId):Bool:=match zeroV P e with
 | some z=>flat z && Nat.beq z.cells.length (szOf P e) && Nat.ble 1 (szOf P e) && Nat.ble 1 (bytesOf P e)
 | none=>false
def roomOk (need bytes:Nat):Bool:=decide ((need+1000) * bytes≤70368744177664)
def keepV (k w n:Nat):V→V
 | .sla j u=>bif Nat.beq j k && Nat.beq u w then .slm j 0 n (u+1) else .sla j u
 | v=>v
def S.keep (s:S) (k w n:Nat) (x:Slot):S:=⟨s.tm.map fun y=>(y.1,keepV k w n y.2),ins k x s.hp⟩
def keepsA (o:Oper):Bool:=match o.dst with
 | some d=>E.gives (3000000+4096 * E.n+d)
 | none=>false
def appendC (o:Oper) (t:TypeId) (x:V) (ys:List V) (s:S) (K:S→R):R :=
 match isSlice E.P t with
 | none=>E.f
 | some e=>bif !zeroOk E.P e then E.f else match x with
  | .sl es0 true xs=>bif Nat.beq es0 (szOf E.P e) || xs.isEmpty then if roomOk (xs.length+ys.length) (bytesOf E.P e)=true then
    fresh E o s (.arr (szOf E.P e) (xs++ys) true (!xs.isEmpty && ys.isEmpty) 0) (fun k=>.sla k 0) K else E.f else E.f
  | .sla k v=>match look k s.hp with
   | some (.arr es xs own frz w)=>bif Nat.beq v w && Nat.beq es (szOf E.P e) then
     (if own=true then (if roomOk (xs.length+ys.length) (bytesOf E.P e)=true then
      (bif keepsA E o then E.both (fin E o (s.keep k w xs.length (.arr es (xs++ys) own frz (w+1))) (.sla k (w+1)) K) (fresh E o s (.arr es (xs++ys) true false 0) (fun k=>.sla k 0) K)
      else fin E o (s.upd k (.arr es (xs++ys) own frz (w+1))) (.sla k (w+1)) K) else E.f) else E.f) else E.f
   | _=>E.f
  | .slm k off len v=>match look k s.hp with
   | some (.arr es xs own frz w)=>bif Nat.beq v w && Nat.beq es (szOf E.P e) then
     (if own=true then (if (frz=false∨off+len=xs.length) then (if roomOk (len+ys.length) (bytesOf E.P e)=true then
      fin E o (s.upd k (.arr es (cutL xs off len++ys) own frz (w+1))) (.sla k (w+1)) K else E.f) else E.f) else E.f) else E.f
   | _=>E.f
  | _=>E.f
def allU8 (xs:List V):Bool:=xs.all isU8
def freeze1 (s:S) (k:Nat):S:=match look k s.hp with
 | some (.arr es xs own _ w)=>s.upd k (.arr es xs own true w)
 | _=>s
def sliceOf (P:Program):Option TypeId→Option TypeId
 | some t=>isSlice P t
 | none=>none
def strOf (P:Program):Option TypeId→Bool
 | some t=>isStr P t
 | none=>false
def lenB (o:Oper) (t:Option TypeId) (x:V) (s:S) (K:S→R):R :=
 match x with
 | .c (.string v)=>bif strOf E.P t then fin E o s (.i v.size) K else E.f
 | x=>match sliceOf E.P t,lenOf s x with
  | some _,some n=>fin E o s (.i n) K
  | _,_=>E.f
def capB (o:Oper) (t:Option TypeId) (x:V) (s:S) (K:S→R):R :=
 match x with
 | .sl _ true xs=>match sliceOf E.P t with
   | some _=>fin E o s (.i xs.length) K
   | none=>E.f
 | _=>E.f
def appendB (o:Oper) (t u:TypeId) (x y:V) (s:S) (K:S→R):R :=
 match isSlice E.P t with
 | none=>E.f
 | some e=>match y with
  | .c (.string v)=>bif isStr E.P u && Nat.beq (szOf E.P e) 1 then appendC E o t x (bytesV v) s K else E.f
  | .c (.int .i64 n)=>match zeroV E.P e with
   | some z=>bif flat z && Nat.beq z.cells.length (szOf E.P e) && isInt E.P u .i64 then
     (if 0≤n∧n≤4398046511104 then appendC E o t x (List.replicate n.toNat z) s K else E.f) else E.f
   | none=>E.f
  | y=>match isSlice E.P u,content s y with
   | some _,some ys=>bif Nat.beq (esV s.hp y) (szOf E.P e) || ys.isEmpty then appendC E o t x ys s K else E.f
   | _,_=>E.f
def copyB (o:Oper) (t:Option TypeId) (x y:V) (s:S) (K:S→R):R :=
 match x,y with
 | .sla k v,.c (.string x)=>match look k s.hp,sliceOf E.P t with
  | some (.arr es xs own frz w),some e=>bif Nat.beq v w && Nat.beq es 1 && Nat.beq (szOf E.P e) 1 then
    (if frz=false then (if x.size≤xs.length then
     fin E o (s.upd k (.arr es (bytesV x++xs.drop x.size) own frz w)) (.i x.size) K else E.f) else E.f) else E.f
  | _,_=>E.f
 | _,_=>E.f
def minB (o:Oper) (x y:V) (s:S) (K:S→R):R:=match x,y with
 | .c (.int k a),.c (.int _ b)=>fin E o s (.c (.int k (if b < a then b else a))) K
 | _,_=>E.f
def maxB (o:Oper) (x y:V) (s:S) (K:S→R):R:=match x,y with
 | .c (.int k a),.c (.int _ b)=>fin E o s (.c (.int k (if b > a then b else a))) K
 | _,_=>E.f
def min3B (o:Oper) (x y z:V) (s:S) (K:S→R):R:=match x,y,z with
 | .c (.int k a),.c (.int _ b),.c (.int _ c) =>
   fin E o s (.c (.int k (if c < (if b < a then b else a) then c else (if b < a then b else a)))) K
 | _,_,_=>E.f
def builtinC (o:Oper) (b:Builtin) (ts:Array TypeId) (args:List V) (s:S) (K:S→R):R :=
 match args with
 | [x]=>match b with
  | .len=>lenB E o ts[0]? x s K
  | .cap=>capB E o ts[0]? x s K
  | _=>E.f
 | [x,y]=>match b with
  | .append=>(match ts.toList with
   | [t,u]=>appendB E o t u x y s K
   | _=>E.f)
  | .copy=>copyB E o ts[0]? x y s K
  | .min=>minB E o x y s K
  | .max=>maxB E o x y s K
  | _=>E.f
 | [x,y,z]=>match b with
  | .min=>min3B E o x y z s K
  | _=>E.f
 | _=>E.f
end
end Go.Proofs.YtdjldmolhkkipaaGreatDoor.Eng
end
section
set_option linter.unusedVariables false
set_option linter.unusedSimpArgs false
namespace Go.Proofs.YtdjldmolhkkipaaGreatDoor.Eng
open Go
def idx (ks:List Nat) (k:Nat):Option Nat:=match ks with
 | []=>none
 | j :: r=>bif Nat.beq j k then some 0 else (idx r k).map (· + 1)
def uniq:List Nat→List Nat→List Nat
 | [],acc=>acc.reverse
 | k :: r,acc=>bif acc.any (Nat.beq k) then uniq r acc else uniq r (k :: acc)
def slotKeys (hp:List (Nat×Slot)) (k:Nat):List Nat:=match look k hp with
 | some (.cells _ cs)=>keysV.keysC cs
 | some (.refs cs)=>keysV.keysC cs
 | _=>[]
def reach (hp:List (Nat×Slot)) (ks:List Nat):List Nat :=
 let k1:=uniq (ks++ks.flatMap (slotKeys hp)) []
 uniq (k1++k1.flatMap (slotKeys hp)) []
def pkeys:V→List Nat
 | .ptr k _=>[k]
 | .mp k=>[k]
 | .agg cs=>pkeysC cs
 | .fn _ a b=>pkeysC a++pkeysC b
 | _=>[]
where pkeysC:List V→List Nat
 | []=>[]
 | v :: r=>pkeys v++pkeysC r
def skeys:V→List Nat
 | .sla k _=>[k]
 | .slm k _ _ _=>[k]
 | .agg cs=>skeysC cs
 | .fn _ a b=>skeysC a++skeysC b
 | _=>[]
where skeysC:List V→List Nat
 | []=>[]
 | v :: r=>skeys v++skeysC r
def handV (hp:List (Nat×Slot)) (ks:List Nat):V→Option V
 | .c v=>some (.c v)
 | .sl es fl xs=>some (.sl es fl xs)
 | .sla k v=>(content ⟨[],hp⟩ (.sla k v)).map (.sl (esOf hp k) false)
 | .slm k a n v=>(content ⟨[],hp⟩ (.slm k a n v)).map (.sl (esOf hp k) false)
 | .ptr k a=>(idx ks k).map fun i=>.ptr i a
 | .mp k=>(idx ks k).map fun i=>.mp i
 | .agg cs=>(handC cs).map .agg
 | .fn f a b=>match handC a,handC b with
  | some a',some b'=>some (.fn f a' b')
  | _,_=>none
 | _=>none
where handC:List V→Option (List V)
 | []=>some []
 | v :: r=>match handV hp ks v,handC r with
  | some x,some y=>some (x :: y)
  | _,_=>none
def rowV (hp:List (Nat×Slot)) (ks:List Nat):V→Option V
 | .sla k v=>match look k hp,idx ks k with
  | some (.arr _ _ _ _ w),some i=>bif Nat.beq v w then some (.sla i 0) else none
  | _,_=>none
 | .slm k a n v=>match look k hp,idx ks k with
  | some (.arr _ _ _ _ w),some i=>bif Nat.beq v w then some (.slm i a n 0) else none
  | _,_=>none
 | .agg cs=>(rowC cs).map .agg
 | .fn f a b=>bif (skeys.skeysC a++skeys.skeysC b).isEmpty then handV hp ks (.fn f a b) else none
 | v=>handV hp ks v
where rowC:List V→Option (List V)
 | []=>some []
 | v :: r=>match rowV hp ks v,rowC r with
  | some x,some y=>some (x :: y)
  | _,_=>none
def handS (hp:List (Nat×Slot)) (ks:List Nat):Slot→Option Slot
 | .cells kds cs=>(rowV.rowC hp ks cs).map (.cells kds)
 | .arr es xs own frz _=>some (.arr es xs own frz 0)
 | .map kvs=>some (.map kvs)
 | _=>none
def handH (hp:List (Nat×Slot)) (all:List Nat):Nat→List Nat→Option (List (Nat×Slot))
 | _,[]=>some []
 | i,k :: r=>match look k hp with
  | some x=>match handS hp all x,handH hp all (i+1) r with
   | some y,some z=>some ((i,y) :: z)
   | _,_=>none
  | none=>none
def isArrK (hp:List (Nat×Slot)) (k:Nat):Bool:=match look k hp with
 | some (.arr ..)=>true
 | some (.map _)=>true
 | _=>false
def order (hp:List (Nat×Slot)) (ks:List Nat):List Nat:=ks.filter (fun k=>!(isArrK hp k))++ks.filter (isArrK hp)
def fixedN:List (Nat×Slot)→Nat
 |(_,.arr ..) :: r=>fixedN r
 |(_,.map _) :: r=>fixedN r
 | _ :: r=>fixedN r+1
 | []=>0
def freezeL (s:S):List Nat→S
 | []=>s
 | k :: r=>freezeL (freeze1 s k) r
def delL (hp:List (Nat×Slot)):List Nat→List (Nat×Slot)
 | []=>hp
 | k :: r=>delL (del k hp) r
def inD (d k:Nat):Bool:=Nat.ble (64+16 * d) k && Nat.blt k (64+16 * d+16)
section
variable {R:Type} (E:Env R)
def asRow (es:Nat) (v:V) (h:List (Nat×Slot)) (K:List V→Bool→Bool→List (Nat×Slot)→R):R:=match v with
 | .sl es' fl xs=>bif Nat.beq es es' || xs.isEmpty then K xs fl true h else E.f
 | .sla k 0=>match look k h with
  | some (.arr es' xs own frz 0)=>bif Nat.beq es es' then K xs own frz (del k h) else E.f
  | _=>E.f
 | _=>E.f
def asPtr (v:V) (h:List (Nat×Slot)) (K:List V→List (Nat×Slot)→R):R:=match v with
 | .ptr k 0=>match look k h with
  | some (.cells _ cs)=>K cs (del k h)
  | _=>E.f
 | _=>E.f
def isMp:V→Bool
 | .mp _=>true
 | _=>false
def asMapB (v:V) (h:List (Nat×Slot)) (K:List (Value×V)→List (Nat×Slot)→R):R:=match v with
 | .mp k=>match look k h with
  | some (.map kvs)=>K kvs (del k h)
  | _=>E.f
 | _=>E.f
def backC (d:Nat):Nat→List Kd→List V→Nat→S→List (Nat×Slot)→(List V→Nat→S→List (Nat×Slot)→R)→R
 | 0,_,_,_,_,_,_=>E.f
 | D+1,kds,cs,j,s,h,K=>match kds,cs with
  | [],[]=>K [] j s h
  | kd :: r,c :: cs=>(match kd with
   | .sl es=>bif Nat.blt j 16 then asRow E es c h fun xs own frz h1 =>
     backC d D r cs (j+1) (s.bind (dkey d j) (.arr es xs own frz 0)) h1 fun vs j' s' h'=>K (.sla (dkey d j) 0 :: vs) j' s' h'
    else E.f
   | .ptr t=>bif Nat.blt j 16 then asPtr E c h fun cs' h1=>backC d D (kinds E.P 9 t) cs' (j+1) s h1 fun ws j' s' h' =>
     backC d D r cs j' (s'.bind (dkey d j) (.cells (kinds E.P 9 t) ws)) h' fun vs j'' s'' h''=>K (.ptr (dkey d j) 0 :: vs) j'' s'' h''
    else E.f
   | .oth=>bif isMp c then (bif Nat.blt j 16 then asMapB E c h fun kvs h1 =>
     backC d D r cs (j+1) (s.bind (dkey d j) (.map kvs)) h1 fun vs j' s' h'=>K (.mp (dkey d j) :: vs) j' s' h'
    else E.f) else asCellP .oth (some c) E.f fun v=>bif (keysV v).isEmpty then backC d D r cs j s h fun vs j' s' h'=>K (v :: vs) j' s' h' else E.f
   | kd=>asCellP kd (some c) E.f fun v=>bif (keysV v).isEmpty then backC d D r cs j s h fun vs j' s' h'=>K (v :: vs) j' s' h' else E.f)
  | _,_=>E.f
def backH (d m:Nat) (hp0:List (Nat×Slot)):Nat→List Nat→Nat→S→List (Nat×Slot)→(Nat→S→List (Nat×Slot)→R)→R
 | _,[],j,s,h,K=>K j s h
 | i,k :: r,j,s,h,K=>match look k hp0 with
  | some (.cells kds _)=>bif Nat.blt i m then asPtr E (.ptr i 0) h fun cs h1=>backC E d 100 kds cs j s h1 fun vs j' s' h' =>
    backH d m hp0 (i+1) r j' (s'.upd k (.cells kds vs)) h' K
   else E.f
  | _=>backH d m hp0 (i+1) r j s h K
def backR (d:Nat):List TypeId→List V→Nat→S→List (Nat×Slot)→(List V→S→R)→R
 | [],[],_,s,_,K=>K [] s
 | t :: r,x :: rs,j,s,h,K =>
  bif aggB E.P t then (match x with
   | .agg cs=>backC E d 100 (kinds E.P 9 t) cs j s h fun vs j' s' h'=>backR d r rs j' s' h' fun ws s''=>K (.agg vs :: ws) s''
   | _=>E.f)
  else match kinds E.P 9 t with
   | [kd]=>backC E d 100 [kd] [x] j s h fun vs j' s' h'=>backR d r rs j' s' h' fun ws s''=>K (vs.headD .bad :: ws) s''
   | _=>E.f
 | _,_,_,_,_,_=>E.f
def scalarR (P:Program):List TypeId→Bool
 | []=>true
 | t :: r=>(kinds P 9 t).all eqKd && scalarR P r
def one:List V→V
 | [v]=>v
 | vs=>.tup vs
def isC0:V→Bool
 | .c _=>true
 | _=>false
def plainL (xs:List V):Bool:=xs.all fun x=>x.cells.all isC0
def cleanV:V→Bool
 | .c _=>true
 | .sl _ _ xs=>xs.isEmpty
 | .sla _ _=>true
 | .ptr _ _=>true
 | .agg cs=>cleanC cs
 | _=>false
where cleanC:List V→Bool
 | []=>true
 | v :: r=>cleanV v && cleanC r
def cleanH:List (Nat×Slot)→R→R
 | [],K=>K
 |(_,.cells _ cs) :: r,K=>bif cleanV.cleanC cs then cleanH r K else E.f
 |(_,.arr _ xs _ frz _) :: r,K=>if ((!frz || xs.isEmpty) && plainL xs)=true then cleanH r K else E.f
 | _ :: _,_=>E.f
def cleanN (g:FuncId):FuncId:=1000000+g
def nodupB:List Nat→Bool
 | []=>true
 | k :: r=>!(r.any (Nat.beq k)) && nodupB r
def callC (o:Oper) (g:FuncId) (args:List V) (s:S) (K:S→R):R :=
 match o.dst,E.P.funcs[g]? with
 | some d,some fn =>
  let ks:=order s.hp (reach s.hp (uniq (pkeys.pkeysC args++bif E.gives g then skeys.skeysC args else []) []))
  let s1:=bif E.gives g || (ks.isEmpty && scalarR E.P fn.resultTypes.toList) then s else freezeL s (uniq (skeys.skeysC args) [])
  match (bif E.gives g then rowV.rowC s1.hp ks args else handV.handC s1.hp ks args),handH s1.hp ks 0 ks with
  | some as,some h=>bif Nat.blt d E.n && nodupB ks && !(ks.any (inD d)) && Nat.ble ks.length 64 && fn.body.isSome && fn.name != "runtime.NumGoroutine" then
    (bif E.gives (cleanN g) && ks.isEmpty && !(E.gives g || (ks.isEmpty && scalarR E.P fn.resultTypes.toList)) then E.call g as h fun rs h'=>bif cleanV.cleanC rs then cleanH E h' (backR E d fn.resultTypes.toList rs 0 s h' fun vs s3=>K (s3.put d (one vs))) else E.f
    else E.call g as h fun rs h' =>
    backH E d (fixedN h) s1.hp 0 ks 0 ⟨s1.tm,delL s1.hp ks⟩ h' fun j s2 h2=>backR E d fn.resultTypes.toList rs j s2 h2 fun vs s3=>K (s3.put d (one vs)))
   else E.f
  | _,_=>E.f
 | _,_=>E.f
def setAll (l:List V):List (Nat×V)→List V
 | []=>l
 |(i,v) :: r=>setAll (l.set i v) r
def fieldOf (P:Program) (t:TypeId) (i:Nat):Option Field:=match P.underlying t with
 | some (.struct fs)=>fs[i]?
 | _=>none
def partsOf (s:S) (ps:Array (Nat×Operand)):List (Nat×V):=ps.toList.map fun (i,x)=>(i,s.ev x)
def ints:V→Option Int
 | .c (.int _ n)=>some n
 | _=>none
def arrB (P:Program) (t:TypeId):Bool:=match P.info? t with
 | some i=>(match i.desc with
  | .array n e=>Nat.blt 1 n && (match kinds P 9 e with
   | [kd]=>eqKd kd
   | _=>false)
  | _=>false)
 | none=>false
def allocC (o:Oper) (t:TypeId) (s:S) (K:S→R):R:=match zeroV E.P t with
 | some z=>bif arrB E.P t && flat z && okCells z.cells then fresh E o s (.arr z.cells.length [z] true false 0) (fun k=>.pe k 0 0 0) K
   else bif okCells z.cells then fresh E o s (.cells (kinds E.P 9 t) z.cells) (fun k=>.ptr k 0) K else E.f
 | none=>E.f
def isC:V→Bool
 | .c v=>v.oneCell'
 | _=>false
def wholeC (n:Nat) (o:Option V) (f:R) (K:V→R):R:=asAgg o f fun cs=>if cs.length=n∧cs.all isC=true then K (.ag cs) else f
def loadC (t:TypeId) (p:V) (s:S) (K:V→R):R:=match p with
 | .ptr k off=>match look k s.hp with
  | some (.cells _ cs)=>asType E.P t (fun j=>cs[j]?) asCellM off E.f K
  | _=>E.f
 | .pe k v i off=>match look k s.hp with
  | some (.arr _ xs _ _ w)=>bif Nat.beq v w then (bif Nat.blt 32 (szOf E.P t) && aggB E.P t && Nat.beq off 0 then wholeC (szOf E.P t) xs[i]? E.f K else asType E.P t (getC xs i) asCellP off E.f K) else E.f
  | some (.refs xs)=>bif Nat.beq off 0 && Nat.beq v 0 then asType E.P t (fun j=>bif Nat.beq j 0 then xs[i]? else none) asCellM 0 E.f K else E.f
  | _=>E.f
 | .ep xs i off=>asType E.P t (getC xs i) asCellP off E.f K
 | _=>E.f
def storeC (o:Oper) (t:TypeId) (p x:V) (s:S) (K:S→R):R :=
 bif Nat.beq x.cells.length (szOf E.P t) && okCells x.cells && o.dst.isNone && Nat.blt 0 (szOf E.P t) then match p with
 | .ptr k off=>match look k s.hp with
  | some (.cells kds cs)=>if off+x.cells.length≤cs.length then K (s.upd k (.cells kds (setL cs off x.cells))) else E.f
  | _=>E.f
 | .pe k v i off=>match look k s.hp with
  | some (.arr es xs own frz w)=>match handV.handC s.hp [] x.cells with
   | some ys=>bif Nat.beq v w && flat.flatL ys && !((skeys.skeysC x.cells).any (Nat.beq k)) then
    (if frz=false then (if i < xs.length then (if off+ys.length≤es then
     K ((freezeL s (uniq (skeys.skeysC x.cells) [])).upd k (.arr es (xs.set i (setE (xs.getD i .bad) off ys)) own frz w)) else E.f) else E.f) else E.f) else E.f
   | none=>E.f
  | _=>E.f
 | _=>E.f
 else E.f
def buildC (o:Oper) (t:TypeId) (ps:Array (Nat×Operand)) (s:S) (K:S→R):R:=match zeroV E.P t with
 | some (.agg z)=>match E.P.underlying t with
  | some (.struct fs)=>bif fs.toList.all (fun f=>(E.P.info? f.type).isSome) && okCells z then
    match fillV (fun i=>match fs[i]? with | some f=>some (f.offset,szOf E.P f.type) | none=>none) z.length z (partsOf s ps) with
    | some cs=>fin E o s (.agg cs) K
    | none=>E.f
   else E.f
  | some (.array _ e)=>bif Nat.blt 0 (szOf E.P e) && okCells z then
    match fillV (fun i=>some (i * szOf E.P e,szOf E.P e)) z.length z (partsOf s ps) with
    | some cs=>fin E o s (.agg cs) K
    | none=>E.f
   else E.f
  | _=>E.f
 | _=>E.f
def partsFit (es n:Nat):List (Nat×V)→Bool
 | []=>true
 |(i,v) :: r=>Nat.blt i n && Nat.beq v.cells.length es && okCells v.cells && partsFit es n r
def buildSliceC (o:Oper) (t:TypeId) (n:Nat) (ps:Array (Nat×Operand)) (s:S) (K:S→R):R:=match isSlice E.P t with
 | none=>E.f
 | some e=>match zeroV E.P e with
  | none=>E.f
  | some z=>bif partsFit (szOf E.P e) n (partsOf s ps) && Nat.ble (n * szOf E.P e) 10000 && Nat.blt 0 (szOf E.P e) && Nat.beq z.cells.length (szOf E.P e) && okCells z.cells then
    (match handV.handC s.hp [] (setAll (List.replicate n z) (partsOf s ps)) with
    | some ys=>bif flat.flatL ys then
      fresh E o (freezeL s (uniq (skeys.skeysC (setAll (List.replicate n z) (partsOf s ps))) [])) (.arr (szOf E.P e) ys true false 0) (fun k=>.sla k 0) K
     else bif Nat.beq (szOf E.P e) 1 && okCells (setAll (List.replicate n z) (partsOf s ps)) then fresh E o s (.refs (setAll (List.replicate n z) (partsOf s ps))) (fun k=>.sla k 0) K else E.f
    | none=>bif Nat.beq (szOf E.P e) 1 && okCells (setAll (List.replicate n z) (partsOf s ps)) then fresh E o s (.refs (setAll (List.replicate n z) (partsOf s ps))) (fun k=>.sla k 0) K else E.f)
   else E.f
def nilCheckC (o:Oper) (x:V) (s:S) (K:S→R):R:=match x with
 | .ptr k a=>fin E o s (.ptr k a) K
 | .pe k v i a=>fin E o s (.pe k v i a) K
 | .ep xs i a=>fin E o s (.ep xs i a) K
 | .fn (.func g) a b=>fin E o s (.fn (.func g) a b) K
 | _=>E.f
def unC (o:Oper) (u:UnOp) (x:V) (s:S) (K:S→R):R:=match u,x with
 | .not,.c (.bool b)=>fin E o s (.c (.bool (!b))) K
 | .neg,.c (.int k n)=>fin E o s (.c (.int k (k.wrap (0 - n)))) K
 | .xor,.c (.int k n)=>fin E o s (.c (.int k (k.wrap (BitVec.ofInt k.bits (if k.signed then -1 else k.max) ^^^ BitVec.ofInt k.bits n).toNat))) K
 | _,_=>E.f
def convertC (o:Oper) (src dst:TypeId) (x:V) (s:S) (K:S→R):R:=match x with
 | .c (.int k n)=>match E.P.underlying dst with
  | some (.int k')=>bif (E.P.underlying src).isSome then fin E o s (.c (.int k' (k'.wrap n))) K else E.f
  | _=>E.f
 | .c (.string v)=>match isSlice E.P dst with
  | some e=>bif isInt E.P e .u8 && isStr E.P src && Nat.beq (szOf E.P e) 1 then
    fresh E o s (.arr 1 (bytesV v) true false 0) (fun k=>.sla k 0) K else E.f
  | none=>bif isStr E.P dst && isStr E.P src then fin E o s (.c (.string v)) K else E.f
 | x=>match isSlice E.P src,content s x with
  | some e,some xs=>bif isInt E.P e .u8 && isStr E.P dst then
    (if allU8 xs=true then fin E o s (.c (.string (packB xs))) K else E.f) else E.f
  | _,_=>E.f
def isIface (P:Program) (t:TypeId):Option Bool:=match P.underlying t with
 | some (.interface _)=>some true
 | some _=>some false
 | none=>none
def makeIfC (o:Oper) (t:TypeId) (x:V) (s:S) (K:S→R):R:=match toVal x,isIface E.P t with
 | some v,some false=>fin E o s (.c (.iface t v)) K
 | _,_=>E.f
def makeSliceC (o:Oper) (t:TypeId) (x y:V) (s:S) (K:S→R):R:=match isSlice E.P t,ints x,ints y with
 | some e,some n,some m=>match zeroV E.P e with
  | some z=>bif flat z && Nat.beq z.cells.length (szOf E.P e) && Nat.ble (bytesOf E.P e) 1000 then
    (if 0≤n∧n≤m∧m≤4294967296 then
     fresh E o s (.arr (szOf E.P e) (List.replicate n.toNat z) true false 0) (fun k=>.sla k 0) K else E.f) else E.f
  | none=>E.f
 | _,_,_=>E.f
def fieldAddrC (o:Oper) (t:TypeId) (x:V) (i:Nat) (s:S) (K:S→R):R:=match fieldOf E.P t i with
 | some f=>bif Nat.beq (szOf E.P f.type) 0 then E.f else match x with
  | .ptr k a=>fin E o s (.ptr k (a+f.offset)) K
  | .pe k v j a=>fin E o s (.pe k v j (a+f.offset)) K
  | .ep xs j a=>fin E o s (.ep xs j (a+f.offset)) K
  | _=>E.f
 | none=>E.f
def fieldC (o:Oper) (t:TypeId) (x:V) (i:Nat) (s:S) (K:S→R):R:=match fieldOf E.P t i,x with
 | some f,.agg cs=>asType E.P f.type (fun j=>cs[j]?) asCellM f.offset E.f fun v=>fin E o s v K
 | _,_=>E.f
def indexSlC (o:Oper) (e:TypeId) (x:V) (i:Int) (s:S) (K:S→R):R:=match x with
 | .sl es fl xs=>bif Nat.beq es (szOf E.P e) then (if 0≤i∧i < (xs.length:Int) then fin E o s (.ep xs i.toNat 0) K else E.f) else E.f
 | .sla k v=>match look k s.hp with
  | some (.arr es xs _ _ w)=>bif Nat.beq v w && Nat.beq es (szOf E.P e) then
    (if 0≤i∧i < (xs.length:Int) then fin E o s (.pe k v i.toNat 0) K else E.f) else E.f
  | some (.refs xs)=>bif Nat.beq 1 (szOf E.P e) && Nat.beq v 0 then
    (if 0≤i∧i < (xs.length:Int) then fin E o s (.pe k v i.toNat 0) K else E.f) else E.f
  | _=>E.f
 | .slm k a n v=>match look k s.hp with
  | some (.arr es xs _ _ w)=>bif Nat.beq v w && Nat.beq es (szOf E.P e) then
    (if 0≤i∧i < (n:Int) then fin E o s (.pe k v (a+i.toNat) 0) K else E.f) else E.f
  | _=>E.f
 | _=>E.f
def indexArrC (o:Oper) (e:TypeId) (n:Nat) (x:V) (i:Int) (s:S) (K:S→R):R :=
 if 0≤i∧i < (n:Int) then (match x with
  | .ptr k a=>fin E o s (.ptr k (a+i.toNat * szOf E.P e)) K
  | .pe k v j a=>fin E o s (.pe k v j (a+i.toNat * szOf E.P e)) K
  | .ep xs j a=>fin E o s (.ep xs j (a+i.toNat * szOf E.P e)) K
  | _=>E.f) else E.f
def indexAddrC (o:Oper) (t:TypeId) (x y:V) (s:S) (K:S→R):R:=match ints y with
 | some i=>match isArr E.P t with
  | some (n,e)=>bif Nat.beq (szOf E.P e) 0 then E.f else indexArrC E o e n x i s K
  | none=>match isSlice E.P t with
   | some e=>bif Nat.beq (szOf E.P e) 0 then E.f else indexSlC E o e x i s K
   | none=>E.f
 | none=>E.f
def indexC (o:Oper) (t:TypeId) (x y:V) (s:S) (K:S→R):R:=match ints y with
 | some i=>match x with
  | .c (.string v)=>bif isStr E.P t then (if 0≤i∧i < (v.size:Int) then fin E o s (.c (.int .u8 (bAt v i.toNat))) K else E.f) else E.f
  | .ag cs=>match isArr E.P t with
   | some (n,e)=>if 0≤i∧i < (n:Int) then asType E.P e (fun j=>cs[j]?) asCellM (i.toNat * szOf E.P e) E.f fun v=>fin E o s v K else E.f
   | none=>E.f
  | .agg cs=>match isArr E.P t with
   | some (n,e)=>if 0≤i∧i < (n:Int) then asType E.P e (fun j=>cs[j]?) asCellM (i.toNat * szOf E.P e) E.f fun v=>fin E o s v K else E.f
   | none=>E.f
  | _=>E.f
 | none=>E.f
def extractC (o:Oper) (x:V) (i:Nat) (s:S) (K:S→R):R:=match x with
 | .tup vs=>match vs[i]? with
  | some v=>fin E o s v K
  | none=>E.f
 | _=>E.f
def mpGet (t:ByteArray):List (Value×V)→Option (Option V)
 | []=>some none
 |(.string u,v) :: r=>bif t == u then some (some v) else mpGet t r
 | _=>none
def mpPut (t:ByteArray) (v:V):List (Value×V)→List (Value×V)
 | []=>[(.string t,v)]
 |(.string u,x) :: r=>bif t == u then (.string u,v) :: r else (.string u,x) :: mpPut t v r
 | p :: r=>p :: mpPut t v r
def asMpI (k:IntKind) (o:Option (Option V)) (f:R) (K:Int→Bool→R):R:=match o with
 | some (some (.c (.int k' n)))=>if k=k' then K n true else f
 | some none=>K 0 false
 | _=>f
def isMapSI (P:Program) (t:TypeId):Option IntKind:=match P.underlying t with
 | some (.map k e)=>(match P.underlying k,P.underlying e,zeroV P e with
  | some .string,some (.int q),some (.c (.int q' 0))=>if q'=q then some q else none
  | _,_,_=>none)
 | _=>none
def makeMapC (o:Oper) (hint:Option V) (s:S) (K:S→R):R:=match hint with
 | none=>fresh E o s (.map []) (fun k=>.mp k) K
 | some _=>E.f
def lookupC (o:Oper) (t:TypeId) (x y:V) (ok:Bool) (s:S) (K:S→R):R:=match isMapSI E.P t,x,y with
 | some q,.mp k,.c (.string u)=>(match look k s.hp with
  | some (.map kvs)=>asMpI q (mpGet u kvs) E.f fun n b=>fin E o s (bif ok then .tup [.c (.int q n),.c (.bool b)] else .c (.int q n)) K
  | _=>E.f)
 | _,_,_=>E.f
def mapUpdateC (o:Oper) (t:TypeId) (x y z:V) (s:S) (K:S→R):R:=match isMapSI E.P t,x,y,z with
 | some _,.mp k,.c (.string u),.c (.int q n)=>(match look k s.hp with
  | some (.map kvs)=>bif o.dst.isNone then (if (mpGet u kvs).isSome=true then K (s.upd k (.map (mpPut u (.c (.int q n)) kvs))) else E.f) else E.f
  | _=>E.f)
 | _,_,_,_=>E.f
def rangeC (o:Oper) (t:TypeId) (x:V) (s:S) (K:S→R):R:=match x with
 | .c (.string v)=>bif isStr E.P t then fresh E o s (.iter v 0) (fun k=>.it k) K else E.f
 | _=>E.f
def nextC (o:Oper) (x:V) (s:S) (K:S→R):R:=match x with
 | .it k=>match look k s.hp with
  | some (.iter v p) =>
   if p < v.size then fin E o (s.upd k (.iter v (p+(Utf8.decode v p).2))) (.tup [.b true,.i p,.c (.int .i32 (Utf8.decode v p).1)]) K
   else fin E o s (.tup [.b false]) K
  | _=>E.f
 | _=>E.f
def typeAssertC (o:Oper) (x:V) (xt at':TypeId) (ok:Bool) (s:S) (K:S→R):R:=match x with
 | .c v=>match pureRun E.P (Instr.typeAssert v xt at' ok) with
  | some w=>fin E o s (ofTup w) K
  | none=>E.f
 | _=>E.f
def constOf:Operand→Option Value
 | .const v=>some v
 | _=>none
def callFC (o:Oper) (f:V) (args:List V) (s:S) (K:S→R):R:=match f with
 | .fn (.func g) a b=>callC E o g (a++args++b) s K
 | _=>E.f
def opC (o:Oper) (s:S) (K:S→R):R:=match o.op with
 | .move x=>fin E o s (s.ev x) K
 | .assign x=>fin E o s (s.ev x) K
 | .pick c a b=>asBool (some (s.ev c)) E.f fun t=>if t=true then fin E o s (s.ev a) K else fin E o s (s.ev b) K
 | .alloc t=>allocC E o t s K
 | .box t x=>bif okCells (s.ev x).cells then fresh E o s (.cells (kinds E.P 9 t) (s.ev x).cells) (fun k=>.ptr k 0) K else E.f
 | .build t ps=>buildC E o t ps s K
 | .buildSlice t n ps=>buildSliceC E o t n ps s K
 | .load t a=>loadC E t (s.ev a) s fun v=>fin E o s v K
 | .store t a x=>storeC E o t (s.ev a) (s.ev x) s K
 | .nilCheck x=>nilCheckC E o (s.ev x) s K
 | .binOp op t x y _=>binC E op t (constOf y) (s.ev x) (s.ev y) fun v=>fin E o s v K
 | .unOp u _ x=>unC E o u (s.ev x) s K
 | .convert src dst x=>convertC E o src dst (s.ev x) s K
 | .makeInterface t x=>makeIfC E o t (s.ev x) s K
 | .makeFunc f a b=>fin E o s (.fn f (a.toList.map s.ev) (b.toList.map s.ev)) K
 | .makeSlice t l c=>makeSliceC E o t (s.ev l) (s.ev c) s K
 | .slice t x lo hi mx=>sliceC E o t (s.ev x) (lo.map s.ev) (hi.map s.ev) (mx.map s.ev) s K
 | .fieldAddr t x i=>fieldAddrC E o t (s.ev x) i s K
 | .field t x i=>fieldC E o t (s.ev x) i s K
 | .indexAddr t x y=>indexAddrC E o t (s.ev x) (s.ev y) s K
 | .index t x y=>indexC E o t (s.ev x) (s.ev y) s K
 | .extract t i=>extractC E o (s.ev t) i s K
 | .range t x=>rangeC E o t (s.ev x) s K
 | .next x true=>nextC E o (s.ev x) s K
 | .makeMap _ r=>makeMapC E o (r.map s.ev) s K
 | .lookup t m x ok=>lookupC E o t (s.ev m) (s.ev x) ok s K
 | .mapUpdate t m x y=>mapUpdateC E o t (s.ev m) (s.ev x) (s.ev y) s K
 | .typeAssert x xt at' ok=>typeAssertC E o (s.ev x) xt at' ok s K
 | .call c=>(match c.callee with
  | .value f=>callFC E o (s.ev f) (c.args.toList.map s.ev) s K
  | .builtin b=>builtinC E o b c.argTypes (c.args.toList.map s.ev) s K
  | .invoke ..=>E.f)
 | _=>E.f
end
end Go.Proofs.YtdjldmolhkkipaaGreatDoor.Eng
end
section
set_option linter.unusedVariables false
set_option linter.unusedSimpArgs false
namespace Go.Proofs.YtdjldmolhkkipaaGreatDoor.Eng
open Go
def bit (t:Nat):Nat:=Nat.shiftLeft 1 t
def hasBit (m t:Nat):Bool:=Nat.beq (Nat.mod (Nat.shiftRight m t) 2) 1
def minus (a b:Nat):Nat:=Nat.xor a (Nat.land a b)
def opdMask:List Operand→Nat
 | []=>0
 | .tmp t :: r=>Nat.lor (bit t) (opdMask r)
 | _ :: r=>opdMask r
def dstOf (ops:List Oper) (j:Nat):Option Nat:=match ops[j]? with
 | some o=>o.dst
 | none=>none
def guardMask (ops:List Oper) (o:Oper):Nat:=match o.guard with
 | some (j,_)=>match dstOf ops j with | some t=>bit t | none=>0
 | none=>0
def dstMask (o:Oper):Nat:=match o.dst with | some d=>bit d | none=>0
def exO (all:List Oper):List Oper→Nat→Nat×Nat
 | [],w=>(0,w)
 | o :: r,w=>let e:=exO all r (Nat.lor w (dstMask o)); (Nat.lor (minus (Nat.lor (opdMask o.op.operands.toList) (guardMask all o)) w) e.1,e.2)
def ones:Nat:=2 ^ 600 - 1
def ex:Code→Nat→Nat×Nat
 | .region _ ops _,w=>exO ops.toList ops.toList w
 | .seq a b,w=>let x:=ex a w; let y:=ex b x.2; (Nat.lor x.1 y.1,y.2)
 | .cond c a b,w=>let x:=ex a w; let y:=ex b w; (Nat.lor (minus (opdMask [c]) w) (Nat.lor x.1 y.1),Nat.land x.2 y.2)
 | .block _ b,w=>((ex b w).1,w)
 | .loop b,w=>((ex b w).1,w)
 | .scope b,w=>ex b w
 | .exit _,_=>(0,ones)
 | .ret,_=>(0,ones)
 | _,w=>(0,w)
def nmV (hp:List (Nat×Slot)):V→V
 | .sla k v=>match look k hp with
  | some (.arr _ _ _ _ w)=>bif Nat.beq v w then .sla k 0 else .bad
  | some (.refs _)=>.sla k v
  | _=>.bad
 | .slm k a n v=>match look k hp with
  | some (.arr _ _ _ _ w)=>bif Nat.beq v w then .slm k a n 0 else .bad
  | _=>.bad
 | .pe k v i a=>match look k hp with
  | some (.arr _ _ _ _ w)=>bif Nat.beq v w then .pe k 0 i a else .bad
  | _=>.bad
 | .agg cs=>.agg (nmC cs)
 | .tup cs=>.tup (nmC cs)
 | .fn f a b=>.fn f (nmC a) (nmC b)
 | v=>v
where nmC:List V→List V
 | []=>[]
 | v :: r=>nmV hp v :: nmC r
def nmS (hp:List (Nat×Slot)):Slot→Slot
 | .cells kds cs=>.cells kds (nmV.nmC hp cs)
 | .arr es xs own frz _=>.arr es xs own frz 0
 | .refs xs=>.refs (nmV.nmC hp xs)
 | x=>x
def sortT:List (Nat×V)→List (Nat×V)
 | []=>[]
 |(t,v) :: r=>ins t v (sortT r)
def keepT (m:Nat):List (Nat×V)→List (Nat×V)
 | []=>[]
 |(t,v) :: r=>bif hasBit m t then (t,v) :: keepT m r else keepT m r
def keepH (ks:List Nat):List (Nat×Slot)→List (Nat×Slot)
 | []=>[]
 |(k,x) :: r=>bif Nat.blt k 64 || ks.any (Nat.beq k) then (k,x) :: keepH ks r else keepH ks r
def S.trim (m:Nat) (s:S):S :=
 let tm:=sortT (keepT m s.tm)
 let hp:=keepH (reach s.hp (uniq (tm.flatMap (fun x=>keysV x.2)++(s.hp.map (·.1)).filter (Nat.blt · 64)) [])) s.hp
 ⟨tm.map fun x=>(x.1,nmV hp x.2),hp.map fun x=>(x.1,nmS hp x.2)⟩
def S.few (m:Nat) (s:S):S :=
 ⟨keepT m s.tm,keepH (reach s.hp (uniq ((keepT m s.tm).flatMap (fun x=>keysV x.2)++(s.hp.map (·.1)).filter (Nat.blt · 64)) [])) s.hp⟩
def pkey:V→List Nat
 | .ptr k _=>[k]
 | .pe k _ _ _=>[k]
 | .it k=>[k]
 | _=>[]
def touch (gives:FuncId→Bool) (s:S) (o:Oper):List (Nat×Bool):=match o.op with
 | .load _ a=>(pkey (s.ev a)).map (·,false)
 | .store _ a _=>(pkey (s.ev a)).map (·,true)
 | .next x _=>(pkey (s.ev x)).map (·,true)
 | .mapUpdate _ m _ _=>(pkeys (s.ev m)).map (·,true)
 | .insert _ m _ _=>(pkeys (s.ev m)).map (·,true)
 | .lookup _ m _ _=>(pkeys (s.ev m)).map (·,false)
 | .convert _ _ x=>(skeys (s.ev x)).map (·,false)
 | .slice _ x _ _ _=>(skeys (s.ev x)).map (·,!litMx o)
 | .indexAddr _ x _=>(skeys (s.ev x)).map (·,false)
 | .call c=>match c.callee with
  | .builtin .append=>match c.args.toList with
   | [x,y]=>(skeys (s.ev x)).map (·,true)++(skeys (s.ev y)).map (·,false)
   | _=>[]
  | .builtin .copy=>(skeys.skeysC (c.args.toList.map s.ev)).map (·,true)
  | .builtin _=>(skeys.skeysC (c.args.toList.map s.ev)).map (·,false)
  | .value f=>match s.ev f with
   | .fn (.func g) a b=>(order s.hp (reach s.hp (uniq (pkeys.pkeysC (a++c.args.toList.map s.ev++b)++bif gives g then skeys.skeysC (a++c.args.toList.map s.ev++b) else []) []))).map (·,true) ++
     (skeys.skeysC (a++c.args.toList.map s.ev++b)).map (·,gives g)
   | _=>[]
  | _=>[]
 | _=>[]
def isStill (P:Program) (o:Oper):Bool:=match o.op with
 | .move _=>true
 | .assign _=>true
 | .pick ..=>true
 | .load ..=>true
 | .nilCheck _=>true
 | .binOp ..=>true
 | .unOp ..=>true
 | .makeInterface ..=>true
 | .makeFunc ..=>true
 | .slice ..=>litMx o
 | .fieldAddr ..=>true
 | .field ..=>true
 | .indexAddr ..=>true
 | .index ..=>true
 | .extract ..=>true
 | .typeAssert ..=>true
 | .convert src _ _=>(match P.underlying src with
  | some (.int _)=>true
  | _=>false)
 | .call c=>(match c.callee with
  | .builtin .len=>true
  | .builtin .min=>true
  | .builtin .max=>true
  | _=>false)
 | _=>false
def stillAt (P:Program) (ops:Array Oper) (L:Array Bool) (i:Nat):Bool:=match ops[i]? with
 | some o=>isStill P o && Region.free .any ops L i
 | none=>false
inductive Tre where
 | done | op (i:Nat) (t:Tre) | alt (i:Nat) (t r:Tre)
def mapT (f:Nat→Option Tre):List Nat→Option Tre
 | []=>none
 | [i]=>(f i).map (.op i ·)
 | i :: j :: r=>match f i,mapT f (j :: r) with
  | some t,some u=>some (.alt i t u)
  | _,_=>none
def sched (P:Program) (ops:Array Oper):Nat→Array Bool→Option Tre
 | 0,L=>(match Region.ready .any ops L with
  | []=>some .done
  | _=>none)
 | f+1,L=>match (Region.ready .any ops L).find? (stillAt P ops L) with
  | some i=>(sched P ops f (L.setIfInBounds i true)).map (.op i ·)
  | none=>match Region.ready .any ops L with
   | []=>some .done
   | i :: r=>mapT (fun k=>sched P ops f (L.setIfInBounds k true)) (i :: r)
structure RgRow where
 still:Bool
 dep:Nat
 look:Nat
 dst:Nat
def depM:List Edge→Nat
 | []=>0
 | e :: r=>bif Region.binds .any e then Nat.lor (bit e.on) (depM r) else depM r
def rowOf (P:Program) (all:List Oper) (o:Oper):RgRow:=⟨isStill P o,depM o.after.toList,Nat.lor (opdMask o.op.operands.toList) (guardMask all o),dstMask o⟩
def canF (i L:Nat) (r:RgRow):Bool:=!(hasBit L i) && Nat.beq (Nat.land r.dep L) r.dep
def readyF (L:Nat):List RgRow→Nat→List Nat
 | [],_=>[]
 | r :: rs,i=>bif canF i L r then i :: readyF L rs (i+1) else readyF L rs (i+1)
def stillF (L:Nat):List RgRow→Nat→Option Nat
 | [],_=>none
 | r :: rs,i=>bif r.still && canF i L r then some i else stillF L rs (i+1)
def schedF (rows:List RgRow):Nat→Nat→Option Tre
 | 0,L=>(match readyF L rows 0 with
  | []=>some .done
  | _=>none)
 | f+1,L=>match stillF L rows 0 with
  | some i=>(schedF rows f (Nat.lor L (bit i))).map (.op i ·)
  | none=>match readyF L rows 0 with
   | []=>some .done
   | i :: r=>mapT (fun k=>schedF rows f (Nat.lor L (bit k))) (i :: r)
def ssa1 (d i:Nat):List RgRow→Nat→Bool
 | [],_=>true
 | r :: rs,j=>(Nat.beq (Nat.land r.look d) 0 || hasBit r.dep i) && (Nat.beq i j || Nat.beq (Nat.land r.dst d) 0) && ssa1 d i rs (j+1)
def ssa (rows:List RgRow):List RgRow→Nat→Bool
 | [],_=>true
 | r :: rs,i=>(Nat.beq r.dst 0 || ssa1 r.dst i rows 0) && ssa rows rs (i+1)
def noSel:List Oper→Bool
 | []=>true
 | o :: r=>(match o.op with | .select ..=>false | _=>true) && noSel r
def schedOf (P:Program) (ops:Array Oper):Option Tre :=
 bif noSel ops.toList then (bif ssa (ops.toList.map (rowOf P ops.toList)) (ops.toList.map (rowOf P ops.toList)) 0 then schedF (ops.toList.map (rowOf P ops.toList)) ops.size 0 else sched P ops ops.size (Array.replicate ops.size false)) else none
def rdKeys (s:S) (o:Oper):List Nat:=match o.op with
 | .load _ a=>pkey (s.ev a)
 | _=>[]
def turnB (gives:FuncId→Bool) (s:S) (o:Oper) (k:Nat):Bool:=(touch gives s o).any (fun x=>x.2 && Nat.beq x.1 k) || match o.dst with
 | some d=>inD d k
 | none=>false
def ahead (ops:Array Oper) (i:Nat):Nat→Nat→Bool
 | 0,_=>false
 | f+1,j=>match ops[j]? with
  | some o=>o.after.toList.any fun e=>Region.binds .any e && (Nat.beq e.on i || ahead ops i f e.on)
  | none=>false
def note (i:Nat) (ks:List Nat) (tr:List (Nat×List Nat)):List (Nat×List Nat):=match ks with
 | []=>tr
 | ks=>(i,ks) :: tr
section
variable {R:Type} (E:Env R)
def skip (o:Oper) (s:S) (K:S→R):R:=match o.dst with
 | some d=>bif Nat.blt d E.n then K (s.put d (.tup [])) else E.f
 | none=>K s
def guardC (all:List Oper) (o:Oper) (s:S) (no yes:S→R):R:=match o.guard with
 | none=>yes s
 | some (j,want)=>match dstOf all j with
  | none=>E.f
  | some d=>match look d s.tm with
   | some (.tup [])=>no s
   | v=>asBool v E.f fun b =>
    if b=true then (bif want then yes (s.put d (.b true)) else no (s.put d (.b true)))
    else (bif want then no (s.put d (.b false)) else yes (s.put d (.b false)))
def opG (all:List Oper) (o:Oper) (s:S) (K:S→R):R:=guardC E all o s (fun s=>skip E o s K) (fun s=>opC E o s K)
def isLit (P:Program) (o o2:Oper):Option (Nat×Nat×TypeId×TypeId×Nat×Array (Nat×Operand)):=match o.guard,o2.guard with
 | none,none=>(match o.op,o2.op with
  | .buildSlice t m ps,.convert t1 t2 (.tmp x)=>(match o.dst,o2.dst,isSlice P t with
   | some d1,some d2,some e=>bif Nat.beq t1 t && Nat.beq t2 t && Nat.beq x d1 && isInt P e .u8 && Nat.beq (szOf P e) 1 then some (d1,d2,t,e,m,ps) else none
   | _,_,_=>none)
  | _,_=>none)
 | _,_=>none
def litC (d1 d2:Nat) (e:TypeId) (m:Nat) (ps:Array (Nat×Operand)) (s:S) (K:S→R):R:=match zeroV E.P e with
 | none=>E.f
 | some z=>bif partsFit 1 m (partsOf s ps) && Nat.ble m 10000 && Nat.beq z.cells.length 1 && okCells z.cells && allU8 (setAll (List.replicate m z) (partsOf s ps)) && Nat.blt d1 E.n && Nat.blt d2 E.n then
   K (((s.bind (dkey d2 0) (.arr 1 (setAll (List.replicate m z) (partsOf s ps)) true false 0)).put d1 (.sla (dkey d2 0) 0)).put d2 (.sla (dkey d2 0) 0)) else E.f
def opsC (all:List Oper):List Oper→S→(S→R)→R
 | [],s,K=>K s
 | [o],s,K=>opG E all o s K
 | o :: o2 :: r,s,K=>match isLit E.P o o2 with
  | some (d1,d2,_,e,m,ps)=>litC E d1 d2 e m ps s fun s'=>opsC all r s' K
  | none=>opG E all o s fun s'=>opsC all (o2 :: r) s' K
def opD (ops:Array Oper) (i:Nat) (next:List (Nat×List Nat)→S→R) (tr:List (Nat×List Nat)) (s:S):R:=match ops[i]? with
  | none=>E.f
  | some o=>bif isStill E.P o then
    guardC E ops.toList o s (fun s=>skip E o s fun s'=>next tr s') (fun s=>opC E o s fun s'=>next (note i (rdKeys s o) tr) s')
   else
    guardC E ops.toList o s (fun s=>skip E o s fun s'=>next tr s')
     (fun s=>bif tr.all fun x=>x.2.all (fun k=>!(turnB E.gives s o k)) || ahead ops x.1 ops.size i then opC E o s fun s'=>next tr s' else E.f)
def opsD (ops:Array Oper):Tre→List (Nat×List Nat)→S→(S→R)→R
 | .done,_,s,K=>K s
 | .op i r,tr,s,K=>opD E ops i (fun tr s=>opsD ops r tr s K) tr s
 | .alt i r u,tr,s,K=>E.both (opD E ops i (fun tr s=>opsD ops r tr s K) tr s) (opsD ops u tr s K)
def labOf:Code→Option Nat
 | .goto l=>some l
 | .seq a b=>match labOf a with | some l=>some l | none=>labOf b
 | .cond _ a b=>match labOf a with | some l=>some l | none=>labOf b
 | .block _ b=>labOf b
 | .loop b=>labOf b
 | _=>none
def codeG:Code→Option Nat→Nat→S→(Exit→S→R)→R
 | .skip,none,_,s,K=>K .normal s
 | .region _ ops false,none,_,s,K=>opsC E ops.toList ops.toList s (K .normal)
 | .region _ ops true,none,_,s,K=>match schedOf E.P ops with
  | some l=>opsD E ops l [] s (K .normal)
  | none=>E.f
 | .seq a b,none,m,s,K=>codeG a none (Nat.lor m (ex b 0).1) s fun e s'=>match e with
   | .normal=>codeG b none m (s'.few (Nat.lor m (ex b 0).1)) K
   | e=>K e s'
 | .seq a b,some l,m,s,K=>match findLabel a l with
   | some _=>codeG a (some l) (Nat.lor m (ex b 0).1) s fun e s'=>match e with
    | .normal=>codeG b none m (s'.few (Nat.lor m (ex b 0).1)) K
    | e=>K e s'
   | none=>codeG b (some l) m s K
 | .cond c x y,none,m,s,K=>asBool (some (s.ev c)) E.f fun b=>if b=true then codeG x none m s K else codeG y none m s K
 | .block id b,none,m,s,K=>codeG b none m s fun e s'=>match e with
   | .exit j=>bif Nat.beq j id then K .normal s' else K (.exit j) s'
   | e=>K e s'
 | .loop b,none,m,s,K=>E.loop (Nat.lor m (ex b 0).1) (fun k s=>codeG b none (Nat.lor m (ex b 0).1) (s.trim (Nat.lor m (ex b 0).1)) fun e s'=>match e with
   | .normal=>k s'
   | e=>K e s') s
 | .exit id,none,_,s,K=>K (.exit id) s
 | .ret,none,_,s,K=>K .ret s
 | .goto l,none,_,s,K=>K (.goto l) s
 | .scope b,none,m,s,K=>match labOf b with
  | none=>codeG b none m s fun e s'=>match e with
   | .goto _=>E.f
   | e=>K e s'
  | some l=>match findLabel b l with
   | none=>E.f
   | some r=>codeG b none (Nat.lor (Nat.lor m (ex b 0).1) (ex r 0).1) s fun e s'=>match e with
    | .goto j=>bif Nat.beq j l then E.loop (Nat.lor (Nat.lor m (ex b 0).1) (ex r 0).1) (fun k s=>codeG b (some l) (Nat.lor (Nat.lor m (ex b 0).1) (ex r 0).1) (s.trim (Nat.lor (Nat.lor m (ex b 0).1) (ex r 0).1)) fun e s'=>match e with
      | .goto j=>bif Nat.beq j l then k s' else E.f
      | e=>K e s') s' else E.f
    | e=>K e s'
 | .label _,_,_,s,K=>K .normal s
 | _,_,_,_,_=>E.f
def codeC (c:Code) (m:Nat) (s:S) (K:Exit→S→R):R:=codeG E c none m s K
def resMask:List ResultVar→Nat
 | []=>0
 | .tmp t :: r=>Nat.lor (bit t) (resMask r)
 | .cell t _ :: r=>Nat.lor (bit t) (resMask r)
def resC (s:S):List ResultVar→(List V→R)→R
 | [],K=>K []
 | .tmp t :: r,K=>resC s r fun vs=>K (s.get t :: vs)
 | .cell t ty :: r,K=>match s.get t with
  | .ptr k off=>loadC E ty (.ptr k off) s fun v=>resC s r fun vs=>K (v :: vs)
  | .pe k v i off=>(match look k s.hp with
   | some (.arr _ xs _ _ w)=>bif Nat.beq v w then asType E.P ty (getC xs i) asCellP off E.f fun v=>resC s r fun vs=>K (v :: vs) else E.f
   | _=>E.f)
  | _=>E.f
def thin (hp:List (Nat×Slot)) (dup:List Nat):V→V
 | .sla k v=>bif dup.any (Nat.beq k) then (match content ⟨[],hp⟩ (.sla k v) with | some xs=>.sl (esOf hp k) false xs | none=>.bad) else .sla k v
 | .slm k a n v=>bif dup.any (Nat.beq k) then (match content ⟨[],hp⟩ (.slm k a n v) with | some xs=>.sl (esOf hp k) false xs | none=>.bad) else .slm k a n v
 | .agg cs=>.agg (thinC cs)
 | v=>v
where thinC:List V→List V
 | []=>[]
 | v :: r=>thin hp dup v :: thinC r
def slmKeys:V→List Nat
 | .slm k _ _ _=>[k]
 | .agg cs=>slmC cs
 | _=>[]
where slmC:List V→List Nat
 | []=>[]
 | v :: r=>slmKeys v++slmC r
def twice:List Nat→List Nat
 | []=>[]
 | k :: r=>bif r.any (Nat.beq k) then k :: twice r else twice r
def cellsOf (hp:List (Nat×Slot)):List Nat→List V
 | []=>[]
 | k :: r=>match look k hp with
  | some (.cells _ cs)=>cs++cellsOf hp r
  | _=>cellsOf hp r
def thinS (hp:List (Nat×Slot)) (dup:List Nat):Slot→Slot
 | .cells kds cs=>.cells kds (thin.thinC hp dup cs)
 | x=>x
def firstK (m:Nat) (ks:List Nat):Bool:=(List.range m).all fun i=>match ks[i]? with
 | some k=>Nat.beq k i
 | none=>false
def big (n j:Nat):Nat:=64+16 * (n+j)
def fat1 (n:Nat) (kd:Kd) (v:V) (j:Nat):V×Nat×List (Nat×Slot):=match kd,v with
 | .sl es,.sl es' fl xs=>bif Nat.beq es es' || xs.isEmpty then (.sla (big n j) 0,j+1,[(big n j,.arr es xs fl true 0)]) else (.sl es' fl xs,j,[])
 | _,v=>(v,j,[])
def fatK (n:Nat):List Kd→List V→Nat→List V×Nat×List (Nat×Slot)
 | kd :: ks,v :: r,j=>(((fat1 n kd v j).1 :: (fatK n ks r (fat1 n kd v j).2.1).1),(fatK n ks r (fat1 n kd v j).2.1).2.1,(fat1 n kd v j).2.2++(fatK n ks r (fat1 n kd v j).2.1).2.2)
 | _,vs,j=>(vs,j,[])
def fatT (P:Program) (n:Nat) (t:TypeId) (v:V) (j:Nat):V×Nat×List (Nat×Slot):=match v with
 | .agg cs=>(.agg (fatK n (kinds P 9 t) cs j).1,(fatK n (kinds P 9 t) cs j).2)
 | v=>match kinds P 9 t with
  | [kd]=>fat1 n kd v j
  | _=>(v,j,[])
def fatR (P:Program) (n:Nat):List TypeId→List V→Nat→List V×Nat×List (Nat×Slot)
 | t :: ts,v :: r,j=>((fatT P n t v j).1 :: (fatR P n ts r (fatT P n t v j).2.1).1,(fatR P n ts r (fatT P n t v j).2.1).2.1,(fatT P n t v j).2.2++(fatR P n ts r (fatT P n t v j).2.1).2.2)
 | _,vs,j=>(vs,j,[])
def fatS (n:Nat) (x:Slot) (j:Nat):Slot×Nat×List (Nat×Slot):=match x with
 | .cells kds cs=>(.cells kds (fatK n kds cs j).1,(fatK n kds cs j).2)
 | x=>(x,j,[])
def fatH (n:Nat):List (Nat×Slot)→Nat→List (Nat×Slot)×Nat×List (Nat×Slot)
 | [],j=>([],j,[])
 |(k,x) :: r,j=>((k,(fatS n x j).1) :: (fatH n r (fatS n x j).2.1).1,(fatH n r (fatS n x j).2.1).2.1,(fatS n x j).2.2++(fatH n r (fatS n x j).2.1).2.2)
def lowK (n:Nat) (rs:List V) (hp:List (Nat×Slot)):Bool:=(keysV.keysC rs).all (fun k=>Nat.blt k (big n 0)) && hp.all (fun x=>Nat.blt x.1 (big n 0) && (keysS x.2).all (fun k=>Nat.blt k (big n 0)))
def cut1 (ks:List Nat) (v:V) (s:S):V×S:=match v with
 | .slm k 0 n w=>(match look k s.hp with
  | some (.arr es xs true false w')=>bif Nat.beq w w' && Nat.ble n xs.length && Nat.beq (ks.filter (Nat.beq k)).length 1 then (.sla k (w'+1),s.upd k (.arr es (xs.take n) true false (w'+1))) else (v,s)
  | _=>(v,s))
 | _=>(v,s)
def cutR (ks:List Nat):List V→S→List V×S
 | [],s=>([],s)
 | v :: r,s=>((cut1 ks v s).1 :: (cutR ks r (cut1 ks v s).2).1,(cutR ks r (cut1 ks v s).2).2)
def ret0 (m:Nat) (ts:List TypeId) (rs:List V) (s:S) (K:List V→List (Nat×Slot)→R):R :=
 let own:=List.range m
 let k0:=reach s.hp (uniq (own++pkeys.pkeysC rs) [])
 let vs:=rs++cellsOf s.hp k0
 let dup:=uniq (slmKeys.slmC vs++twice (skeys.skeysC vs)) []
 let s1:=freezeL s dup
 let hp1:=s1.hp.map fun x=>(x.1,thinS s1.hp dup x.2)
 let rs1:=thin.thinC s1.hp dup rs
 let a:=fatR E.P (E.n+64) ts rs1 0
 let b:=fatH (E.n+64) hp1 a.2.1
 let hp:=b.1++(a.2.2++b.2.2)
 let ks:=order hp (reach hp (uniq (own++keysV.keysC a.1) []))
 match rowV.rowC hp ks a.1,handH hp ks 0 ks with
 | some rs2,some h=>bif nodupB (hp1.map (·.1)) && nodupB ks && firstK m ks && lowK (E.n+64) rs1 hp1 then K rs2 h else E.f
 | _,_=>E.f
def cutKs (m:Nat) (rs:List V) (s:S):List Nat:=skeys.skeysC (rs++cellsOf s.hp (reach s.hp (uniq (List.range m++pkeys.pkeysC rs) [])))
def cutC (ks:List Nat) (v:V) (s:S) (K:V→S→R):R:=match v with
 | .slm k 0 n w=>(match look k s.hp with
  | some (.arr es xs own frz w')=>bif Nat.beq w w' && Nat.beq (ks.filter (Nat.beq k)).length 1 then (if own=true then (if frz=false then (if Nat.ble n xs.length=true then K (.sla k (w'+1)) (s.upd k (.arr es (xs.take n) true false (w'+1))) else K v s) else K v s) else K v s) else K v s
  | _=>K v s)
 | _=>K v s
def cutRC (ks:List Nat):List V→S→(List V→S→R)→R
 | [],s,K=>K [] s
 | v :: r,s,K=>cutC ks v s fun v' s'=>cutRC ks r s' fun r' s''=>K (v' :: r') s''
theorem cutC_eq (ks:List Nat) (v:V) (s:S) (K:V→S→R):cutC ks v s K=K (cut1 ks v s).1 (cut1 ks v s).2:=by
 unfold cutC cut1
 split
 ·rename_i k n w
  cases look k s.hp with
  | none=>rfl
  | some x =>
   cases x with
   | arr es xs own frz w' =>
    cases own <;> cases frz <;> cases h1:Nat.beq w w' <;> cases h:Nat.ble n xs.length <;> cases h2:Nat.beq (ks.filter (Nat.beq k)).length 1 <;> simp [h,h1]
   | _=>rfl
 ·rfl
theorem cutRC_eq (ks:List Nat):∀ (rs:List V) (s:S) (K:List V→S→R),cutRC ks rs s K=K (cutR ks rs s).1 (cutR ks rs s).2
 | [],s,K=>rfl
 | v :: r,s,K=>by rw [cutRC,cutC_eq,cutRC_eq]; rfl
def retC (m:Nat) (ts:List TypeId) (rs:List V) (s:S) (K:List V→List (Nat×Slot)→R):R :=
 cutRC (cutKs m rs s) rs s fun rs' s'=>ret0 E m ts rs' s' K
theorem retC_eq (m:Nat) (ts:List TypeId) (rs:List V) (s:S) (K:List V→List (Nat×Slot)→R):retC E m ts rs s K=ret0 E m ts (cutR (cutKs m rs s) rs s).1 (cutR (cutKs m rs s) rs s).2 K:=cutRC_eq _ _ _ _
def argTm:Nat→List V→List (Nat×V)
 | _,[]=>[]
 | i,v :: r=>(i,v) :: argTm (i+1) r
def bodyC (fn:Func) (c:Code) (args:List V) (h:List (Nat×Slot)) (K:List V→List (Nat×Slot)→R):R :=
 codeC E c (resMask fn.results.toList) ⟨argTm 0 args,h⟩ fun e s=>match e with
  | .normal=>resC E s fn.results.toList fun rs=>retC E (fixedN h) fn.resultTypes.toList rs s K
  | .ret=>resC E s fn.results.toList fun rs=>retC E (fixedN h) fn.resultTypes.toList rs s K
  | _=>E.f
end
end Go.Proofs.YtdjldmolhkkipaaGreatDoor.Eng
end
section
set_option linter.unusedVariables false
set_option linter.unusedSimpArgs false
namespace Go.Proofs.YtdjldmolhkkipaaGreatDoor.Eng
open Go
structure Loc where
 blk:Nat
 ablk:Nat
 base:Nat
 cap:Nat
 len:Nat
 es:Nat
 ver:Nat
deriving Inhabited
abbrev Cl:=Nat→Nat→Option Value
abbrev Fz:=Nat→Nat→Prop
abbrev Rho:=Nat→Loc
def clOf (w:World):Cl:=fun g o=>w.cell? ⟨g,o,none⟩
abbrev okC (v:Value):Bool:=v.oneCell'
inductive VR (cl:Cl) (F:Fz) (ρ:Rho):V→Value→Prop
 | c {v:Value} (h:okC v=true):VR cl F ρ (.c v) v
 | sl {es:Nat} {fl:Bool} {xs:List V} {a:Option Addr} {n cap g p:Nat} (cf:Nat→Nat→Value) (hn:n=xs.length) (hc:n≤cap) (hf:fl=true→cap=n)
   (ha:cap=0∨a=some ⟨g,p,none⟩) (hw:∀ (i:Nat) (x:V),xs[i]? = some x→x.cells.length=es∧flat x=true)
   (hF:∀ (i:Nat) (x:V) (j:Nat),xs[i]? = some x→j < es→F g (p+i * es+j)∧cl g (p+i * es+j)=some (cf i j)∧okC (cf i j)=true)
   (hv:∀ (i:Nat) (x:V) (j:Nat) (y:V),xs[i]? = some x→x.cells[j]? = some y→VR cl F ρ y (cf i j)):VR cl F ρ (.sl es fl xs) (.slice a n cap)
 | sla {k v n cap:Nat} {a:Option Addr} (hv:v≤(ρ k).ver)
   (h:v=(ρ k).ver→n=(ρ k).len∧cap=(ρ k).cap∧(cap=0∨a=some ⟨(ρ k).ablk,(ρ k).base,none⟩)):VR cl F ρ (.sla k v) (.slice a n cap)
 | slm {k off len v n cap:Nat} {a:Option Addr} (hv:v≤(ρ k).ver)
   (h:v=(ρ k).ver→n=len∧off+len≤(ρ k).len∧cap+off=(ρ k).cap∧(cap=0∨a=some ⟨(ρ k).ablk,(ρ k).base+off * (ρ k).es,none⟩)):VR cl F ρ (.slm k off len v) (.slice a n cap)
 | ptr {k off:Nat}:VR cl F ρ (.ptr k off) (.pointer (some ⟨(ρ k).blk,off,none⟩))
 | pe {k v i off:Nat} {a:Addr} (hv:v≤(ρ k).ver) (h:v=(ρ k).ver→a=⟨(ρ k).ablk,(ρ k).base+i * (ρ k).es+off,none⟩):VR cl F ρ (.pe k v i off) (.pointer (some a))
 | ep {xs:List V} {i off g p:Nat} (cf:Nat→Value) (hw:∀ (x:V),xs[i]? = some x→flat x=true)
   (hF:∀ (x:V) (j:Nat) (y:V),xs[i]? = some x→x.cells[j]? = some y→F g (p+j)∧cl g (p+j)=some (cf j)∧okC (cf j)=true)
   (hv:∀ (x:V) (j:Nat) (y:V),xs[i]? = some x→x.cells[j]? = some y→VR cl F ρ y (cf j)):VR cl F ρ (.ep xs i off) (.pointer (some ⟨g,p+off,none⟩))
 | agg {cs:List V} {vs:Array Value} (hn:cs.length=vs.size) (hk:∀ (i:Nat) (v:Value),vs[i]? = some v→okC v=true)
   (h:∀ (i:Nat) (v:V) (c:Value),cs[i]? = some v→vs[i]? = some c→VR cl F ρ v c):VR cl F ρ (.agg cs) (.agg vs)
 | ag {cs:List V} {vs:Array Value} (hn:cs.length=vs.size) (h:∀ (i:Nat) (v:V) (c:Value),cs[i]? = some v→vs[i]? = some c→v = .c c∧okC c=true):VR cl F ρ (.ag cs) (.agg vs)
 | tup {cs:List V} {vs:Array Value} (hn:cs.length=vs.size)
   (h:∀ (i:Nat) (v:V) (c:Value),cs[i]? = some v→vs[i]? = some c→VR cl F ρ v c):VR cl F ρ (.tup cs) (.tuple vs)
 | fn {f:Fn} {a b:List V} {x y:Array Value} (hn:a.length=x.size) (hm:b.length=y.size)
   (h:∀ (i:Nat) (v:V) (c:Value),a[i]? = some v→x[i]? = some c→VR cl F ρ v c)
   (h':∀ (i:Nat) (v:V) (c:Value),b[i]? = some v→y[i]? = some c→VR cl F ρ v c):VR cl F ρ (.fn f a b) (.func f x y)
 | mp {k:Nat}:VR cl F ρ (.mp k) (.map (some (ρ k).blk))
 | it {k:Nat}:VR cl F ρ (.it k) (.pointer (some ⟨(ρ k).blk,0,none⟩))
 | bad {v:Value}:VR cl F ρ .bad v
def owns (ρ:Rho) (k:Nat):Slot→Nat→Nat→Prop
 | .cells _ cs,g,o=>g=(ρ k).blk∧o < cs.length
 | .arr es xs own frz _,g,o=>g=(ρ k).ablk∧(ρ k).base≤o ∧
   ((frz=false∧o < (ρ k).base+xs.length * es)∨(own=true∧(ρ k).base+xs.length * es≤o∧o < (ρ k).base+(ρ k).cap * es))
 | .refs xs,g,o=>g=(ρ k).ablk∧o < xs.length
 | .map _,g,_=>g=(ρ k).blk
 | .iter _ _,g,_=>g=(ρ k).blk
def SR (w:World) (F:Fz) (ρ:Rho) (k:Nat):Slot→Prop
 | .cells _ cs=>∀ (i:Nat) (v:V),cs[i]? = some v→∃ c,clOf w (ρ k).blk i=some c∧okC c=true∧VR (clOf w) F ρ v c
 | .arr es xs own frz ver=>(ρ k).es=es∧(ρ k).len=xs.length∧(ρ k).ver=ver∧xs.length≤(ρ k).cap ∧
   (∀ (i:Nat) (x:V),xs[i]? = some x→x.cells.length=es∧flat x=true) ∧
   (∀ (i:Nat) (x:V) (j:Nat),xs[i]? = some x→j < es→∃ c,clOf w (ρ k).ablk ((ρ k).base+i * es+j)=some c∧okC c=true ∧
    (∀ (y:V),x.cells[j]? = some y→VR (clOf w) F ρ y c)∧(frz=true→F (ρ k).ablk ((ρ k).base+i * es+j))) ∧
   (own=true→∀ o,(ρ k).base+xs.length * es≤o→o < (ρ k).base+(ρ k).cap * es→((clOf w (ρ k).ablk o).isSome=true))
 | .refs xs=>(ρ k).es=1∧(ρ k).len=xs.length∧(ρ k).ver=0∧(ρ k).base=0∧(ρ k).cap=xs.length ∧
   ∀ (i:Nat) (v:V),xs[i]? = some v→∃ c,clOf w (ρ k).ablk i=some c∧okC c=true∧VR (clOf w) F ρ v c
 | .map kvs=>∃ (es:Array MapEntry) (n:Nat),w.heap[(ρ k).blk]? = some (.map es n)∧es.size=kvs.length ∧
   ∀ (i:Nat) (p:Value×V) (e:MapEntry),kvs[i]? = some p→es[i]? = some e→e.key=p.1∧VR (clOf w) F ρ p.2 e.val∧okC e.val=true∧keysV p.2=[]
 | .iter s p=>w.heap[(ρ k).blk]? = some (.stringIter s p)
structure HR (w:World) (F:Fz) (ρ:Rho) (hp:List (Nat×Slot)):Prop where
 sr:∀ k x,look k hp=some x→SR w F ρ k x
 free:∀ k x g o,look k hp=some x→owns ρ k x g o→¬ F g o∧w.frozen? ⟨g,o,none⟩=false∧g < w.heap.size
 apart:∀ k k' x x' g o,look k hp=some x→look k' hp=some x'→k≠k'→owns ρ k x g o→¬ owns ρ k' x' g o
 fin:∀ g o,F g o→g < w.heap.size
def Wd (w w':World):Prop:=w'.os=w.os∧w'.tape=w.tape∧w'.output=w.output
theorem Wd.refl (w:World):Wd w w:=⟨rfl,rfl,rfl⟩
theorem Wd.trans {a b c:World} (h:Wd a b) (k:Wd b c):Wd a c:=⟨k.1.trans h.1,k.2.1.trans h.2.1,k.2.2.trans h.2.2⟩
structure Base where
 w0:World
 own:Nat→Nat→Prop
 F:Fz
 blk:Nat→Nat
structure FR (B:Base) (w:World) (F:Fz) (ρ:Rho) (hp:List (Nat×Slot)):Prop where
 size:B.w0.heap.size≤w.heap.size
 same:∀ g,g < B.w0.heap.size→(∀ o,¬ B.own g o)→w.heap[g]? = B.w0.heap[g]?
 cell:∀ g o,g < B.w0.heap.size→¬ B.own g o→clOf w g o=clOf B.w0 g o
 owned:∀ k x g o,look k hp=some x→owns ρ k x g o→B.w0.heap.size≤g∨B.own g o
 fup:∀ g o,B.F g o→F g o
 fnew:∀ g o,F g o→g < B.w0.heap.size→B.F g o∨B.own g o
 keep:∀ k,k < 64→(ρ k).blk=B.blk k
 frz:Wd B.w0 w∧∀ g o,g < B.w0.heap.size→w.frozen? ⟨g,o,none⟩=B.w0.frozen? ⟨g,o,none⟩
structure RelF (B:Base) (n:Nat) (F:Fz) (ρ:Rho) (s:S) (a:Act) (w:World):Prop where
 size:a.tmps.size=n
 defers:a.defers=[]
 tm:∀ t v,look t s.tm=some v→VR (clOf w) F ρ v (a.tmps.getD t undef)
 hr:HR w F ρ s.hp
 fr:FR B w F ρ s.hp
def Rel (B:Base) (n:Nat) (s:S) (a:Act) (w:World):Prop:=∃ F ρ,RelF B n F ρ s a w
theorem look_cons {α:Type} (k j:Nat) (a:α) (l:List (Nat×α)):look j ((k,a) :: l)=if j=k then some a else look j l:=by
 rw [look]
 cases hb:Nat.beq k j
 ·have:¬ j=k:=fun e=>by subst e; rw [Nat.beq_refl] at hb; cases hb
  simp [this]
 ·have:=Nat.eq_of_beq_eq_true hb
  simp [this]
theorem look_ins {α:Type} (k j:Nat) (a:α) (l:List (Nat×α)):look j (ins k a l)=if j=k then some a else look j l:=by
 induction l with
 | nil=>simp only [ins,look]; by_cases h:j=k <;> simp [h,cond,Nat.beq_eq] <;> (split <;> simp_all)
 | cons p r ih =>
  obtain ⟨i,b⟩:=p
  simp only [ins]
  by_cases h1:Nat.beq i k=true
  ·have h1':i=k:=Nat.eq_of_beq_eq_true h1
   subst h1'
   simp only [h1,cond_true,look]
   by_cases h2:Nat.beq i j=true
   ·have:i=j:=Nat.eq_of_beq_eq_true h2
    simp [h2,this]
   ·have:¬ j=i:=fun e=>h2 (by rw [e]; exact Nat.beq_refl i)
    simp only [Bool.not_eq_true] at h2
    simp [h2,this]
  ·simp only [Bool.not_eq_true] at h1
   simp only [h1,cond_false]
   by_cases h3:Nat.blt k i=true
   ·simp only [h3,cond_true]
    rw [look]
    by_cases h2:Nat.beq k j=true
    ·have:k=j:=Nat.eq_of_beq_eq_true h2
     simp [h2,this]
    ·have:¬ j=k:=fun e=>h2 (by rw [e]; exact Nat.beq_refl k)
     simp only [Bool.not_eq_true] at h2
     simp [h2,this]
   ·simp only [Bool.not_eq_true] at h3
    simp only [h3,cond_false,look,ih]
    by_cases h2:Nat.beq i j=true
    ·have e:i=j:=Nat.eq_of_beq_eq_true h2
     have:¬ j=k:=fun e'=>by rw [e,e',Nat.beq_refl] at h1; exact absurd h1 (by simp)
     simp [h2,this]
    ·simp only [Bool.not_eq_true] at h2
     simp [h2]
theorem look_del {α:Type} (k j:Nat) (l:List (Nat×α)):look j (del k l)=if j=k then none else look j l:=by
 induction l with
 | nil=>simp [del,look]
 | cons p r ih =>
  obtain ⟨i,b⟩:=p
  simp only [del]
  by_cases h1:Nat.beq i k=true
  ·have h1':i=k:=Nat.eq_of_beq_eq_true h1
   subst h1'
   simp only [h1,cond_true,ih,look]
   by_cases h2:j=i
   ·simp [h2]
   ·have:Nat.beq i j=false:=by
     cases hb:Nat.beq i j
     ·rfl
     ·exact absurd (Nat.eq_of_beq_eq_true hb).symm h2
    simp [h2,this]
  ·simp only [Bool.not_eq_true] at h1
   simp only [h1,cond_false,look,ih]
   by_cases h2:Nat.beq i j=true
   ·have e:i=j:=Nat.eq_of_beq_eq_true h2
    have:¬ j=k:=fun e'=>by rw [e,e',Nat.beq_refl] at h1; exact absurd h1 (by simp)
    simp [h2,this]
   ·simp only [Bool.not_eq_true] at h2
    simp [h2]
theorem look_map {α β:Type} (f:α→β) (j:Nat) (l:List (Nat×α)):look j (l.map fun x=>(x.1,f x.2))=(look j l).map f:=by
 induction l with
 | nil=>rfl
 | cons p r ih =>
  obtain ⟨i,b⟩:=p
  simp only [List.map_cons,look,ih]
  cases Nat.beq i j <;> rfl
end Go.Proofs.YtdjldmolhkkipaaGreatDoor.Eng
end
section
set_option linter.unusedVariables false
set_option linter.unusedSimpArgs false
namespace Go.Proofs.YtdjldmolhkkipaaGreatDoor.Eng
open Go
theorem keysC_mem {cs:List V} {k:Nat}:k∈keysV.keysC cs↔∃ v∈cs,k∈keysV v:=by
 induction cs with
 | nil=>simp [keysV.keysC]
 | cons v r ih=>simp [keysV.keysC,ih]
theorem flatL_mem {cs:List V}:flat.flatL cs=true↔∀ v∈cs,flat v=true:=by
 induction cs with
 | nil=>simp [flat.flatL]
 | cons v r ih=>simp [flat.flatL,ih]
theorem killC_map (k:Nat) (cs:List V):killV.killC k cs=cs.map (killV k):=by
 induction cs with
 | nil=>rfl
 | cons v r ih=>simp [killV.killC,ih]
theorem nmC_map (hp:List (Nat×Slot)) (cs:List V):nmV.nmC hp cs=cs.map (nmV hp):=by
 induction cs with
 | nil=>rfl
 | cons v r ih=>simp [nmV.nmC,ih]
theorem flat_cells {x:V} (h:flat x=true) {j:Nat} {y:V} (hy:x.cells[j]? = some y):flat y=true:=by
 cases x with
 | agg cs =>
  simp only [flat] at h
  exact flatL_mem.1 h y (List.mem_of_getElem? hy)
 | _ =>
  simp only [V.cells] at hy
  cases j with
  | zero=>simp at hy; subst hy; exact h
  | succ j=>simp at hy
mutual
theorem flat_keys:∀ v:V,flat v=true→keysV v=[]
 | .c _,_=>rfl
 | .sl ..,_=>rfl
 | .agg cs,h=>by simp only [keysV]; exact flat_keysL cs (by simpa [flat] using h)
 | .sla ..,h | .slm ..,h | .ptr ..,h | .pe ..,h | .ep ..,h | .tup _,h | .fn ..,h | .mp _,h | .it _,h | .bad,h=>by simp [flat] at h
theorem flat_keysL:∀ cs:List V,flat.flatL cs=true→keysV.keysC cs=[]
 | [],_=>rfl
 | v :: r,h=>by
  simp only [flat.flatL,Bool.and_eq_true] at h
  simp [keysV.keysC,flat_keys v h.1,flat_keysL r h.2]
end
def agree (l l':Loc):Prop:=l'.blk=l.blk∧(l'=l∨l.ver < l'.ver)
theorem agree.refl (l:Loc):agree l l:=⟨rfl,.inl rfl⟩
theorem VR.mono {cl cl':Cl} {F F':Fz} {ρ ρ':Rho} (hF:∀ g o,F g o→F' g o) (hcl:∀ g o c,F g o→cl g o=some c→cl' g o=some c)
  {v:V} {c:Value} (h:VR cl F ρ v c):(∀ k∈keysV v,agree (ρ k) (ρ' k))→VR cl' F' ρ' v c:=by
 induction h with
 | c h=>exact fun _=>.c h
 | sl cf hn hc hf ha hw hF' hv ih =>
  intro _
  refine .sl cf hn hc hf ha hw (fun i x j hx hj=>?_) (fun i x j y hx hy=>ih i x j y hx hy ?_)
  ·obtain ⟨h1,h2,h3⟩:=hF' i x j hx hj
   exact ⟨hF _ _ h1,hcl _ _ _ h1 h2,h3⟩
  ·rw [flat_keys y (flat_cells (hw i x hx).2 hy)]; intro k hk; cases hk
 | @sla k v n cap a hv h =>
  intro hk
  obtain ⟨_,e | e⟩:=hk k (by simp [keysV])
  ·exact .sla (by rw [e]; exact hv) (by rw [e]; exact h)
  ·exact .sla (by omega) (fun e'=>by omega)
 | @slm k off len v n cap a hv h =>
  intro hk
  obtain ⟨_,e | e⟩:=hk k (by simp [keysV])
  ·exact .slm (by rw [e]; exact hv) (by rw [e]; exact h)
  ·exact .slm (by omega) (fun e'=>by omega)
 | @ptr k off =>
  intro hk
  obtain ⟨e,_⟩:=hk k (by simp [keysV])
  rw [← e]; exact .ptr
 | @pe k v i off a hv h =>
  intro hk
  obtain ⟨_,e | e⟩:=hk k (by simp [keysV])
  ·exact .pe (by rw [e]; exact hv) (by rw [e]; exact h)
  ·exact .pe (by omega) (fun e'=>by omega)
 | ep cf hw hF' hv ih =>
  intro _
  refine .ep cf hw (fun x j y hx hy=>?_) (fun x j y hx hy=>ih x j y hx hy ?_)
  ·obtain ⟨h1,h2,h3⟩:=hF' x j y hx hy
   exact ⟨hF _ _ h1,hcl _ _ _ h1 h2,h3⟩
  ·rw [flat_keys y (flat_cells (hw x hx) hy)]; intro k hk; cases hk
 | agg hn hk h ih =>
  intro hkk
  refine .agg hn hk (fun i v c hv hc=>ih i v c hv hc fun k hk=>hkk k ?_)
  simp only [keysV]; exact keysC_mem.2 ⟨v,List.mem_of_getElem? hv,hk⟩
 | tup hn h ih =>
  intro hkk
  refine .tup hn (fun i v c hv hc=>ih i v c hv hc fun k hk=>hkk k ?_)
  simp only [keysV]; exact keysC_mem.2 ⟨v,List.mem_of_getElem? hv,hk⟩
 | fn hn hm h h' ih ih' =>
  intro hkk
  refine .fn hn hm (fun i v c hv hc=>ih i v c hv hc fun k hk=>hkk k ?_) (fun i v c hv hc=>ih' i v c hv hc fun k hk=>hkk k ?_)
  ·simp only [keysV]; exact List.mem_append_left _ (keysC_mem.2 ⟨v,List.mem_of_getElem? hv,hk⟩)
  ·simp only [keysV]; exact List.mem_append_right _ (keysC_mem.2 ⟨v,List.mem_of_getElem? hv,hk⟩)
 | @mp k =>
  intro hk
  obtain ⟨e,_⟩:=hk k (by simp [keysV])
  rw [← e]; exact .mp
 | @it k =>
  intro hk
  obtain ⟨e,_⟩:=hk k (by simp [keysV])
  rw [← e]; exact .it
 | ag hn h=>exact fun _=>.ag hn h
 | bad=>exact fun _=>.bad
theorem VR.flatρ {cl:Cl} {F:Fz} {ρ ρ':Rho} {v:V} {c:Value} (hf:flat v=true) (h:VR cl F ρ v c):VR cl F ρ' v c :=
 h.mono (fun _ _ h=>h) (fun _ _ _ _ h=>h) (by rw [flat_keys v hf]; intro k hk; cases hk)
mutual
theorem killV_keys (k:Nat):∀ v:V,∀ j∈keysV (killV k v),j∈keysV v∧j≠k
 | .c _,j,h | .sl ..,j,h | .ep ..,j,h | .bad,j,h=>by simp [killV,keysV] at h
 | .sla i w,j,h=>by
  simp only [killV] at h
  cases hb:Nat.beq i k <;> simp [hb,keysV] at h
  subst h; exact ⟨by simp [keysV],fun e=>by rw [e,Nat.beq_refl] at hb; cases hb⟩
 | .slm i a b w,j,h=>by
  simp only [killV] at h
  cases hb:Nat.beq i k <;> simp [hb,keysV] at h
  subst h; exact ⟨by simp [keysV],fun e=>by rw [e,Nat.beq_refl] at hb; cases hb⟩
 | .ptr i a,j,h=>by
  simp only [killV] at h
  cases hb:Nat.beq i k <;> simp [hb,keysV] at h
  subst h; exact ⟨by simp [keysV],fun e=>by rw [e,Nat.beq_refl] at hb; cases hb⟩
 | .pe i w a b,j,h=>by
  simp only [killV] at h
  cases hb:Nat.beq i k <;> simp [hb,keysV] at h
  subst h; exact ⟨by simp [keysV],fun e=>by rw [e,Nat.beq_refl] at hb; cases hb⟩
 | .mp i,j,h=>by
  simp only [killV] at h
  cases hb:Nat.beq i k <;> simp [hb,keysV] at h
  subst h; exact ⟨by simp [keysV],fun e=>by rw [e,Nat.beq_refl] at hb; cases hb⟩
 | .it i,j,h=>by
  simp only [killV] at h
  cases hb:Nat.beq i k <;> simp [hb,keysV] at h
  subst h; exact ⟨by simp [keysV],fun e=>by rw [e,Nat.beq_refl] at hb; cases hb⟩
 | .agg cs,j,h=>by simp only [killV,keysV] at h ⊢; exact killC_keys k cs j h
 | .tup cs,j,h=>by simp only [killV,keysV] at h ⊢; exact killC_keys k cs j h
 | .fn f a b,j,h=>by
  simp only [killV,keysV,List.mem_append] at h ⊢
  rcases h with h | h
  ·exact ⟨.inl (killC_keys k a j h).1,(killC_keys k a j h).2⟩
  ·exact ⟨.inr (killC_keys k b j h).1,(killC_keys k b j h).2⟩
theorem killC_keys (k:Nat):∀ cs:List V,∀ j∈keysV.keysC (killV.killC k cs),j∈keysV.keysC cs∧j≠k
 | [],j,h=>by simp [killV.killC,keysV.keysC] at h
 | v :: r,j,h=>by
  simp only [killV.killC,keysV.keysC,List.mem_append] at h ⊢
  rcases h with h | h
  ·exact ⟨.inl (killV_keys k v j h).1,(killV_keys k v j h).2⟩
  ·exact ⟨.inr (killC_keys k r j h).1,(killC_keys k r j h).2⟩
end
theorem VR.kill {cl:Cl} {F:Fz} {ρ:Rho} (k:Nat) {v:V} {c:Value} (h:VR cl F ρ v c):VR cl F ρ (killV k v) c:=by
 induction h with
 | c h=>exact .c h
 | sl cf hn hc hf ha hw hF' hv ih=>exact .sl cf hn hc hf ha hw hF' hv
 | @sla j v n cap a hv h =>
  simp only [killV]
  cases Nat.beq j k
  ·exact .sla hv h
  ·exact .bad
 | @slm j off len v n cap a hv h =>
  simp only [killV]
  cases Nat.beq j k
  ·exact .slm hv h
  ·exact .bad
 | @ptr j off =>
  simp only [killV]
  cases Nat.beq j k
  ·exact .ptr
  ·exact .bad
 | @pe j v i off a hv h =>
  simp only [killV]
  cases Nat.beq j k
  ·exact .pe hv h
  ·exact .bad
 | ep cf hw hF' hv ih=>exact .ep cf hw hF' hv
 | agg hn hk h ih =>
  simp only [killV,killC_map]
  refine .agg (by simpa using hn) hk (fun i v c hv hc=>?_)
  rw [List.getElem?_map] at hv
  cases hcs:(_:List V)[i]? with
  | none=>rw [hcs] at hv; cases hv
  | some u=>rw [hcs] at hv; cases hv; exact ih i u c hcs hc
 | tup hn h ih =>
  simp only [killV,killC_map]
  refine .tup (by simpa using hn) (fun i v c hv hc=>?_)
  rw [List.getElem?_map] at hv
  cases hcs:(_:List V)[i]? with
  | none=>rw [hcs] at hv; cases hv
  | some u=>rw [hcs] at hv; cases hv; exact ih i u c hcs hc
 | fn hn hm h h' ih ih' =>
  simp only [killV,killC_map]
  refine .fn (by simpa using hn) (by simpa using hm) (fun i v c hv hc=>?_) (fun i v c hv hc=>?_)
  ·rw [List.getElem?_map] at hv
   cases hcs:(_:List V)[i]? with
   | none=>rw [hcs] at hv; cases hv
   | some u=>rw [hcs] at hv; cases hv; exact ih i u c hcs hc
  ·rw [List.getElem?_map] at hv
   cases hcs:(_:List V)[i]? with
   | none=>rw [hcs] at hv; cases hv
   | some u=>rw [hcs] at hv; cases hv; exact ih' i u c hcs hc
 | @mp j =>
  simp only [killV]
  cases Nat.beq j k
  ·exact .mp
  ·exact .bad
 | @it j =>
  simp only [killV]
  cases Nat.beq j k
  ·exact .it
  ·exact .bad
 | ag hn h=>exact .ag hn h
 | bad=>exact .bad
end Go.Proofs.YtdjldmolhkkipaaGreatDoor.Eng
end
section
set_option linter.unusedVariables false
set_option linter.unusedSimpArgs false
namespace Go.Proofs.YtdjldmolhkkipaaGreatDoor.Eng
open Go
section
variable {B:Base} {n:Nat} {F:Fz} {ρ:Rho} {s:S} {a:Act} {w:World}
theorem RelF.put (h:RelF B n F ρ s a w) {d:Nat} (hd:d < n) {v:V} {c:Value} (hv:VR (clOf w) F ρ v c) :
  RelF B n F ρ (s.put d v) (a.put (some d) c) w where
 size:=by simp [Act.put,h.size]
 defers:=h.defers
 tm t u hu:=by
  simp only [S.put,look_cons] at hu
  have hs:d < a.tmps.size:=by rw [h.size]; exact hd
  by_cases e:t=d
  ·subst e
   simp only [if_true] at hu
   cases hu
   simp [Act.put,Array.getD_eq_getD_getElem?,hs]
   exact hv
  ·simp only [e,if_false] at hu
   have:=h.tm t u hu
   simp only [Act.put,Array.getD_eq_getD_getElem?]
   rw [Array.getElem?_setIfInBounds_ne (fun e'=>e e'.symm)]
   simpa [Array.getD_eq_getD_getElem?] using this
 hr:=h.hr
 fr:=h.fr
theorem clOf_alloc (w:World) (o:Obj) (g p:Nat) (hg:g < w.heap.size):clOf (w.alloc o) g p=clOf w g p :=
 World.cell?_alloc_lt w o ⟨g,p,none⟩ hg
theorem clOf_lt {w:World} {g p:Nat} {c:Value} (h:clOf w g p=some c):g < w.heap.size:=World.block_lt_of_cell? w ⟨g,p,none⟩ h
theorem clOf_alloc_some {w:World} {o:Obj} {g p:Nat} {c:Value} (h:clOf w g p=some c):clOf (w.alloc o) g p=some c:=by
 rw [clOf_alloc w o g p (clOf_lt h)]; exact h
theorem heap_alloc_lt (w:World) (o:Obj) (g:Nat) (hg:g < w.heap.size):(w.alloc o).heap[g]? = w.heap[g]?:=by
 unfold World.alloc
 rw [Array.getElem?_push,if_neg (Nat.ne_of_lt hg)]
theorem clOf_drew (w:World):clOf w.drew=clOf w:=rfl
theorem VR.grow {w':World} (hcl:∀ g o c,clOf w g o=some c→clOf w' g o=some c) {v:V} {c:Value} (h:VR (clOf w) F ρ v c):VR (clOf w') F ρ v c :=
 h.mono (fun _ _ h=>h) (fun _ _ _ _ h=>hcl _ _ _ h) (fun _ _=>agree.refl _)
theorem SR.grow {w':World} {k:Nat} {x:Slot} (hcl:∀ g o c,clOf w g o=some c→clOf w' g o=some c)
  (hh:∀ (g:Nat) (o:Obj),w.heap[g]? = some o→w'.heap[g]? = some o) (h:SR w F ρ k x):SR w' F ρ k x:=by
 cases x with
 | cells kds cs =>
  intro i v hv
  obtain ⟨c,h1,h2,h3⟩:=h i v hv
  exact ⟨c,hcl _ _ _ h1,h2,h3.grow hcl⟩
 | arr es xs own frz ver =>
  obtain ⟨h1,h2,h3,h4,h5,h6,h7⟩:=h
  refine ⟨h1,h2,h3,h4,h5,fun i x j hx hj=>?_,fun ho o p q=>?_⟩
  ·obtain ⟨c,a1,a2,a3,a4⟩:=h6 i x j hx hj
   exact ⟨c,hcl _ _ _ a1,a2,fun y hy=>(a3 y hy).grow hcl,a4⟩
  ·have:=h7 ho o p q
   obtain ⟨c,hc⟩:=Option.isSome_iff_exists.1 this
   rw [hcl _ _ _ hc]; rfl
 | refs xs =>
  obtain ⟨h1,h2,h3,h4,h5,h6⟩:=h
  refine ⟨h1,h2,h3,h4,h5,fun i v hv=>?_⟩
  obtain ⟨c,a1,a2,a3⟩:=h6 i v hv
  exact ⟨c,hcl _ _ _ a1,a2,a3.grow hcl⟩
 | map kvs =>
  obtain ⟨es,m,h1,h2,h3⟩:=h
  exact ⟨es,m,hh _ _ h1,h2,fun i p e hp he=>⟨(h3 i p e hp he).1,(h3 i p e hp he).2.1.grow hcl,(h3 i p e hp he).2.2.1,(h3 i p e hp he).2.2.2⟩⟩
 | iter t p=>exact hh _ _ h
structure Grows (w w':World):Prop where
 size:w.heap.size≤w'.heap.size
 heap:∀ g,g < w.heap.size→w'.heap[g]? = w.heap[g]?
 out:Wd w w'
theorem Grows.refl (w:World):Grows w w:=⟨Nat.le_refl _,fun _ _=>rfl,.refl _⟩
theorem Grows.trans {w w' w'':World} (h:Grows w w') (h':Grows w' w''):Grows w w'' :=
 ⟨Nat.le_trans h.size h'.size,fun g hg=>(h'.heap g (Nat.lt_of_lt_of_le hg h.size)).trans (h.heap g hg),h.out.trans h'.out⟩
theorem Grows.alloc (w:World) (o:Obj):Grows w (w.alloc o):=⟨by simp,fun g hg=>heap_alloc_lt w o g hg,⟨rfl,rfl,rfl⟩⟩
theorem Grows.drew (w:World):Grows w w.drew:=⟨Nat.le_refl _,fun _ _=>rfl,⟨rfl,rfl,rfl⟩⟩
theorem Grows.some {w w':World} (h:Grows w w') {g:Nat} {o:Obj} (hg:w.heap[g]? = some o):w'.heap[g]? = some o:=by
 rw [h.heap g ((Array.getElem?_eq_some_iff.1 hg).1)]; exact hg
theorem Grows.cl {w w':World} (h:Grows w w') {g p:Nat} (hg:g < w.heap.size):clOf w' g p=clOf w g p:=by
 simp only [clOf,World.cell?,h.heap g hg]
theorem Grows.clS {w w':World} (h:Grows w w') {g p:Nat} {c:Value} (hc:clOf w g p=Option.some c):clOf w' g p=Option.some c:=by
 rw [h.cl (clOf_lt hc)]; exact hc
theorem Grows.frozen {w w':World} (h:Grows w w') {g p:Nat} (hg:g < w.heap.size):w'.frozen? ⟨g,p,none⟩=w.frozen? ⟨g,p,none⟩:=by
 simp only [World.frozen?,h.heap g hg]
theorem RelF.grow {w':World} (h:RelF B n F ρ s a w) (hg:Grows w w'):RelF B n F ρ s a w' where
 size:=h.size
 defers:=h.defers
 tm t v hv:=(h.tm t v hv).grow fun _ _ _ hc=>hg.clS hc
 hr:={
  sr:=fun k x hx=>SR.grow (fun _ _ _ hc=>hg.clS hc) (fun _ _ ho=>hg.some ho) (h.hr.sr k x hx)
  free:=fun k x g o hx ho=>by
   obtain ⟨h1,h2,h3⟩:=h.hr.free k x g o hx ho
   exact ⟨h1,by rw [hg.frozen h3]; exact h2,Nat.lt_of_lt_of_le h3 hg.size⟩
  apart:=h.hr.apart
  fin:=fun g o hf=>Nat.lt_of_lt_of_le (h.hr.fin g o hf) hg.size }
 fr:={
  size:=Nat.le_trans h.fr.size hg.size
  same:=fun g hlt ho=>(hg.heap g (Nat.lt_of_lt_of_le hlt h.fr.size)).trans (h.fr.same g hlt ho)
  cell:=fun g o hlt ho=>(hg.cl (Nat.lt_of_lt_of_le hlt h.fr.size)).trans (h.fr.cell g o hlt ho)
  owned:=h.fr.owned
  fup:=h.fr.fup
  fnew:=h.fr.fnew
  keep:=h.fr.keep
  frz:=⟨h.fr.frz.1.trans hg.out,fun g o hlt=>(hg.frozen (Nat.lt_of_lt_of_le hlt h.fr.size)).trans (h.fr.frz.2 g o hlt)⟩ }
def upd (ρ:Rho) (k:Nat) (l:Loc):Rho:=fun j=>if j=k then l else ρ j
theorem upd_same (ρ:Rho) (k:Nat) (l:Loc):upd ρ k l k=l:=by simp [upd]
theorem upd_ne (ρ:Rho) {k j:Nat} (l:Loc) (h:j≠k):upd ρ k l j=ρ j:=by simp [upd,h]
theorem VR.bindK {k:Nat} (l:Loc) {v:V} {c:Value} (h:VR (clOf w) F ρ v c):VR (clOf w) F (upd ρ k l) (killV k v) c :=
 (h.kill k).mono (fun _ _ h=>h) (fun _ _ _ _ h=>h) fun j hj=>by rw [upd_ne ρ l (killV_keys k v j hj).2]; exact agree.refl _
theorem owns_kill {k j:Nat} {x:Slot} {g o:Nat}:owns ρ j (killS k x) g o↔owns ρ j x g o:=by
 cases x <;> simp [killS,owns,killC_map]
theorem owns_upd {k j:Nat} (l:Loc) (hj:j≠k) {x:Slot} {g o:Nat}:owns (upd ρ k l) j x g o↔owns ρ j x g o:=by
 cases x <;> simp [owns,upd_ne ρ l hj]
theorem SR.bindK {k j:Nat} (l:Loc) (hj:j≠k) {x:Slot} (h:SR w F ρ j x):SR w F (upd ρ k l) j (killS k x):=by
 cases x with
 | cells kds cs =>
  simp only [killS,killC_map]
  intro i v hv
  rw [List.getElem?_map] at hv
  cases hu:cs[i]? with
  | none=>rw [hu] at hv; cases hv
  | some u =>
   rw [hu] at hv; cases hv
   obtain ⟨c,h1,h2,h3⟩:=h i u hu
   exact ⟨c,by rw [upd_ne ρ l hj]; exact h1,h2,h3.bindK l⟩
 | arr es xs own frz ver =>
  obtain ⟨h1,h2,h3,h4,h5,h6,h7⟩:=h
  simp only [killS,SR,upd_ne ρ l hj]
  refine ⟨h1,h2,h3,h4,h5,fun i x t hx ht=>?_,h7⟩
  obtain ⟨c,a1,a2,a3,a4⟩:=h6 i x t hx ht
  exact ⟨c,a1,a2,fun y hy=>(a3 y hy).flatρ (flat_cells (h5 i x hx).2 hy),a4⟩
 | refs xs =>
  obtain ⟨h1,h2,h3,h4,h5,h6⟩:=h
  simp only [killS,SR,upd_ne ρ l hj,killC_map,List.length_map]
  refine ⟨h1,h2,h3,h4,h5,fun i v hv=>?_⟩
  rw [List.getElem?_map] at hv
  cases hu:xs[i]? with
  | none=>rw [hu] at hv; cases hv
  | some u =>
   rw [hu] at hv; cases hv
   obtain ⟨c,a1,a2,a3⟩:=h6 i u hu
   exact ⟨c,a1,a2,a3.bindK l⟩
 | map kvs =>
  obtain ⟨es,m,h1,h2,h3⟩:=h
  simp only [killS,SR,upd_ne ρ l hj]
  refine ⟨es,m,h1,h2,fun i p e hp he=>?_⟩
  obtain ⟨a1,a2,a3,a4⟩:=h3 i p e hp he
  exact ⟨a1,a2.mono (fun _ _ h=>h) (fun _ _ _ _ h=>h) (by rw [a4]; intro j hj'; cases hj'),a3,a4⟩
 | iter t p=>simp only [killS,SR,upd_ne ρ l hj]; exact h
structure Kept (F:Fz) (ρ:Rho) (s:S) (w:World) (T:Nat→Prop) (F':Fz) (ρ':Rho) (s':S) (w':World):Prop where
 fup:∀ g p,F g p→F' g p
 size:w.heap.size≤w'.heap.size
 cell:∀ g p,g < w.heap.size→(∀ k x,T k→look k s.hp=some x→¬ owns ρ k x g p)→clOf w' g p=clOf w g p
 own:∀ k x g p,¬ T k→look k s.hp=some x→owns ρ k x g p→F' g p∨∃ x',look k s'.hp=some x'∧owns ρ' k x' g p
theorem Kept.refl (T:Nat→Prop) (s':S) (h:s'.hp=s.hp):Kept F ρ s w T F ρ s' w :=
 ⟨fun _ _ h=>h,Nat.le_refl _,fun _ _ _ _=>rfl,fun k x g p _ hl ho=>.inr ⟨x,by rw [h]; exact hl,ho⟩⟩
theorem Kept.put {T:Nat→Prop} {F':Fz} {ρ':Rho} {s':S} {w':World} (h:Kept F ρ s w T F' ρ' s' w') (d:Nat) (v:V):Kept F ρ s w T F' ρ' (s'.put d v) w' :=
 ⟨h.fup,h.size,h.cell,h.own⟩
theorem Kept.grow {T:Nat→Prop} {w':World} (hg:Grows w w'):Kept F ρ s w T F ρ s w' :=
 ⟨fun _ _ h=>h,hg.size,fun _ _ hlt _=>hg.cl hlt,fun k x g p _ hl ho=>.inr ⟨x,hl,ho⟩⟩
theorem Kept.turn {T:Nat→Prop} {F':Fz} {w':World} {k:Nat} {x x':Slot} {l':Loc} (hT:T k) (hl:look k s.hp=some x) (hF:∀ g p,F g p→F' g p) (hs:w.heap.size≤w'.heap.size)
  (hcl:∀ g p,g < w.heap.size→¬ owns ρ k x g p→clOf w' g p=clOf w g p):Kept F ρ s w T F' (upd ρ k l') (s.upd k x') w' :=
 ⟨hF,hs,fun g p hlt h=>hcl g p hlt (h k x hT hl),fun j y g p hn hy ho=>by
  have e:j≠k:=fun e=>hn (e ▸ hT)
  exact .inr ⟨y,by simp only [S.upd,look_ins,e,if_false]; exact hy,(owns_upd l' e).2 ho⟩⟩
theorem Kept.bind {T:Nat→Prop} {w':World} {k:Nat} {x:Slot} {l:Loc} (hT:T k) (hg:Grows w w'):Kept F ρ s w T F (upd ρ k l) (s.bind k x) w' :=
 ⟨fun _ _ h=>h,hg.size,fun _ _ hlt _=>hg.cl hlt,fun j y g p hn hy ho=>by
  have e:j≠k:=fun e=>hn (e ▸ hT)
  exact .inr ⟨killS k y,by simp only [S.bind,look_ins,look_map,e,if_false,hy,Option.map_some],owns_kill.2 ((owns_upd l e).2 ho)⟩⟩
theorem Kept.pre {T:Nat→Prop} {F1 F':Fz} {ρ':Rho} {s1 s':S} {w':World} (hF:∀ g p,F g p→F1 g p)
  (h1:∀ k x1 g p,look k s1.hp=some x1→owns ρ k x1 g p→∃ x,look k s.hp=some x∧owns ρ k x g p)
  (h2:∀ k x g p,look k s.hp=some x→owns ρ k x g p→F1 g p∨∃ x1,look k s1.hp=some x1∧owns ρ k x1 g p)
  (h:Kept F1 ρ s1 w T F' ρ' s' w'):Kept F ρ s w T F' ρ' s' w' :=
 ⟨fun g p hf=>h.fup g p (hF g p hf),h.size,fun g p hlt hn=>h.cell g p hlt fun k x1 hT hl ho=>by
  obtain ⟨x,e1,e2⟩:=h1 k x1 g p hl ho
  exact hn k x hT e1 e2,fun k x g p hn hl ho=>by
  rcases h2 k x g p hl ho with hf | ⟨x1,e1,e2⟩
  ·exact .inl (h.fup g p hf)
  ·exact h.own k x1 g p hn e1 e2⟩
theorem RelF.bind (h:RelF B n F ρ s a w) (k:Nat) (x:Slot) (l:Loc) (hx:SR w F (upd ρ k l) k x)
  (hfree:∀ g o,owns (upd ρ k l) k x g o→¬ F g o∧w.frozen? ⟨g,o,none⟩=false∧g < w.heap.size)
  (hap:∀ g o,owns (upd ρ k l) k x g o→∀ j y,look j s.hp=some y→¬ owns ρ j y g o)
  (how:∀ g o,owns (upd ρ k l) k x g o→B.w0.heap.size≤g∨B.own g o) (hk64:64≤k) :
  RelF B n F (upd ρ k l) (s.bind k x) a w where
 size:=h.size
 defers:=h.defers
 tm t v hv:=by
  simp only [S.bind,look_map] at hv
  cases hu:look t s.tm with
  | none=>rw [hu] at hv; cases hv
  | some u=>rw [hu] at hv; cases hv; exact (h.tm t u hu).bindK l
 hr:={
  sr:=fun j y hy=>by
   simp only [S.bind,look_ins,look_map] at hy
   by_cases e:j=k
   ·subst e; simp only [if_true] at hy; cases hy; exact hx
   ·simp only [e,if_false] at hy
    cases hu:look j s.hp with
    | none=>rw [hu] at hy; cases hy
    | some u=>rw [hu] at hy; cases hy; exact SR.bindK l e (h.hr.sr j u hu)
  free:=fun j y g o hy ho=>by
   simp only [S.bind,look_ins,look_map] at hy
   by_cases e:j=k
   ·subst e; simp only [if_true] at hy; cases hy; exact hfree g o ho
   ·simp only [e,if_false] at hy
    cases hu:look j s.hp with
    | none=>rw [hu] at hy; cases hy
    | some u=>rw [hu] at hy; cases hy; exact h.hr.free j u g o hu ((owns_upd l e).1 (owns_kill.1 ho) )
  apart:=fun i j y z g o hy hz hij ho hoz=>by
   simp only [S.bind,look_ins,look_map] at hy hz
   by_cases e:i=k
   ·subst e
    simp only [if_true] at hy; cases hy
    simp only [Ne.symm hij,if_false] at hz
    cases hu:look j s.hp with
    | none=>rw [hu] at hz; cases hz
    | some u=>rw [hu] at hz; cases hz; exact hap g o ho j u hu ((owns_upd l (Ne.symm hij)).1 (owns_kill.1 hoz))
   ·simp only [e,if_false] at hy
    cases hu:look i s.hp with
    | none=>rw [hu] at hy; cases hy
    | some u =>
     rw [hu] at hy; cases hy
     have ho':=(owns_upd l e).1 (owns_kill.1 ho)
     by_cases e':j=k
     ·subst e'
      simp only [if_true] at hz; cases hz
      exact hap g o hoz i u hu ho'
     ·simp only [e',if_false] at hz
      cases hu':look j s.hp with
      | none=>rw [hu'] at hz; cases hz
      | some u'=>rw [hu'] at hz; cases hz; exact h.hr.apart i j u u' g o hu hu' hij ho' ((owns_upd l e').1 (owns_kill.1 hoz))
  fin:=h.hr.fin }
 fr:={
  size:=h.fr.size
  same:=h.fr.same
  cell:=h.fr.cell
  owned:=fun j y g o hy ho=>by
   simp only [S.bind,look_ins,look_map] at hy
   by_cases e:j=k
   ·subst e; simp only [if_true] at hy; cases hy; exact how g o ho
   ·simp only [e,if_false] at hy
    cases hu:look j s.hp with
    | none=>rw [hu] at hy; cases hy
    | some u=>rw [hu] at hy; cases hy; exact h.fr.owned j u g o hu ((owns_upd l e).1 (owns_kill.1 ho))
  fup:=h.fr.fup
  fnew:=h.fr.fnew
  keep:=fun j hj=>by rw [upd_ne ρ l (by omega)]; exact h.fr.keep j hj
  frz:=h.fr.frz }
theorem RelF.bindNew (h:RelF B n F ρ s a w) (o:Obj) (k:Nat) (x:Slot) (l:Loc) (hx:SR (w.alloc o) F (upd ρ k l) k x)
  (hg:∀ g p,owns (upd ρ k l) k x g p→g=w.heap.size) (hz:∀ p,(w.alloc o).frozen? ⟨w.heap.size,p,none⟩=true→¬ owns (upd ρ k l) k x w.heap.size p) (hk64:64≤k) :
  RelF B n F (upd ρ k l) (s.bind k x) a (w.alloc o):=by
 refine (h.grow (Grows.alloc w o)).bind k x l hx (fun g p ho=>?_) (fun g p ho j y hy hoy=>?_) (fun g p ho=>?_) hk64
 ·have:=hg g p ho; subst this
  refine ⟨fun hf=>Nat.lt_irrefl _ (h.hr.fin _ _ hf),?_,by simp⟩
  cases hb:(w.alloc o).frozen? ⟨w.heap.size,p,none⟩
  ·rfl
  ·exact absurd ho (hz p hb)
 ·have:=hg g p ho; subst this
  exact Nat.lt_irrefl _ (h.hr.free j y _ p hy hoy).2.2
 ·have:=hg g p ho; subst this; exact .inl h.fr.size
theorem idx_lt {i j m es:Nat} (hi:i < m) (hj:j < es):i * es+j < m * es:=by
 have:(i+1) * es≤m * es:=Nat.mul_le_mul_right es hi
 rw [Nat.add_mul,Nat.one_mul] at this
 omega
theorem SR.other {w':World} {F':Fz} {ρ':Rho} {j:Nat} {y:Slot} (h:SR w F ρ j y)
  (hcl:∀ g p,(F g p∨owns ρ j y g p)→clOf w' g p=clOf w g p)
  (hhp:∀ g,(∀ p,owns ρ j y g p)→w'.heap[g]? = w.heap[g]?)
  (hF:∀ g p,F g p→F' g p) (hag:∀ i,agree (ρ i) (ρ' i)) (hj:ρ' j=ρ j):SR w' F' ρ' j y:=by
 have hv:∀ {v:V} {c:Value},VR (clOf w) F ρ v c→VR (clOf w') F' ρ' v c:=fun hvr =>
  hvr.mono hF (fun g p c hf hc=>by rw [hcl g p (.inl hf)]; exact hc) (fun i _=>hag i)
 cases y with
 | cells kds cs =>
  intro i v hi
  obtain ⟨c,h1,h2,h3⟩:=h i v hi
  refine ⟨c,?_,h2,hv h3⟩
  rw [hj,hcl _ _ (.inr ⟨rfl,(List.getElem?_eq_some_iff.1 hi).1⟩)]; exact h1
 | arr es xs own frz ver =>
  obtain ⟨h1,h2,h3,h4,h5,h6,h7⟩:=h
  simp only [SR,hj]
  refine ⟨h1,h2,h3,h4,h5,fun i x t hx ht=>?_,fun ho o p q=>?_⟩
  ·obtain ⟨c,a1,a2,a3,a4⟩:=h6 i x t hx ht
   refine ⟨c,?_,a2,fun z hz=>hv (a3 z hz),fun hf=>hF _ _ (a4 hf)⟩
   rw [hcl _ _ ?_]; exact a1
   cases hfz:frz
   ·have:=idx_lt (List.getElem?_eq_some_iff.1 hx).1 ht
    exact .inr ⟨rfl,by omega,.inl ⟨rfl,by omega⟩⟩
   ·exact .inl (a4 hfz)
  ·rw [hcl _ _ (.inr ⟨rfl,by omega,.inr ⟨ho,p,q⟩⟩)]; exact h7 ho o p q
 | refs xs =>
  obtain ⟨h1,h2,h3,h4,h5,h6⟩:=h
  simp only [SR,hj]
  refine ⟨h1,h2,h3,h4,h5,fun i v hi=>?_⟩
  obtain ⟨c,a1,a2,a3⟩:=h6 i v hi
  refine ⟨c,?_,a2,hv a3⟩
  rw [hcl _ _ (.inr ⟨rfl,(List.getElem?_eq_some_iff.1 hi).1⟩)]; exact a1
 | map kvs =>
  obtain ⟨es,m,h1,h2,h3⟩:=h
  simp only [SR,hj]
  refine ⟨es,m,by rw [hhp _ (fun _=>rfl)]; exact h1,h2,fun i p e hp he=>?_⟩
  obtain ⟨a1,a2,a3,a4⟩:=h3 i p e hp he
  exact ⟨a1,hv a2,a3,a4⟩
 | iter t p=>simp only [SR,hj]; rw [hhp _ (fun _=>rfl)]; exact h
theorem setCells_wd (b:Nat):∀ (vs:List Value) (o:Nat) (w:World),Wd w (w.setCells b o vs)
 | [],_,w=>.refl w
 | v :: r,o,w=>by
  refine Wd.trans ?_ (setCells_wd b r (o+1) (w.setCell ⟨b,o,none⟩ v))
  unfold World.setCell
  repeat' split
  all_goals exact ⟨rfl,rfl,rfl⟩
theorem RelF.turn (h:RelF B n F ρ s a w) {k:Nat} {x:Slot} (hk:look k s.hp=some x) (x':Slot) (l':Loc) (F':Fz) (w':World) (g0:Nat)
  (hag:agree (ρ k) l') (hsz:w'.heap.size=w.heap.size)
  (hcl:∀ g p,¬ owns ρ k x g p→clOf w' g p=clOf w g p)
  (hfr:Wd w w'∧∀ g p,w'.frozen? ⟨g,p,none⟩=w.frozen? ⟨g,p,none⟩)
  (hhp:∀ g,(∀ p,¬ owns ρ k x g p)→w'.heap[g]? = w.heap[g]?)
  (hg0:B.w0.heap.size≤g0) (hg1:∀ p,¬ F g0 p) (hg2:∀ j y p,look j s.hp=some y→¬ owns ρ j y g0 p)
  (hF:∀ g p,F g p→F' g p) (hF':∀ g p,F' g p→F g p∨owns ρ k x g p∨(g=g0∧g0 < w'.heap.size))
  (hx':SR w' F' (upd ρ k l') k x')
  (hown:∀ g p,owns (upd ρ k l') k x' g p→¬ F' g p∧(owns ρ k x g p∨(g=g0∧g0 < w'.heap.size∧w'.frozen? ⟨g,p,none⟩=false))) :
  RelF B n F' (upd ρ k l') (s.upd k x') a w':=by
 have hagA:∀ i,agree (ρ i) (upd ρ k l' i):=fun i=>by
  by_cases e:i=k
  ·subst e; rw [upd_same]; exact hag
  ·rw [upd_ne ρ l' e]; exact agree.refl _
 have hFk:∀ g p,F g p→¬ owns ρ k x g p:=fun g p hf ho=>(h.hr.free k x g p hk ho).1 hf
 refine ⟨h.size,h.defers,fun t v hv=>?_,⟨fun j y hy=>?_,fun j y g o hy ho=>?_,fun i j y z g o hy hz hij ho hoz=>?_,fun g o hf=>?_⟩,
  ⟨by rw [hsz]; exact h.fr.size,fun g hlt hno=>?_,fun g o hlt hno=>?_,fun j y g o hy ho=>?_,fun g o hf=>hF _ _ (h.fr.fup g o hf),fun g o hf hlt=>?_,fun j hj=>?_,⟨h.fr.frz.1.trans hfr.1,fun g o hlt=>(hfr.2 g o).trans (h.fr.frz.2 g o hlt)⟩⟩⟩
 ·exact (h.tm t v hv).mono hF (fun g p c hf hc=>by rw [hcl g p (hFk g p hf)]; exact hc) (fun i _=>hagA i)
 ·simp only [S.upd,look_ins] at hy
  by_cases e:j=k
  ·subst e; simp only [if_true] at hy; cases hy; exact hx'
  ·simp only [e,if_false] at hy
   refine (h.hr.sr j y hy).other (fun g p hgp=>hcl g p ?_) (fun g hgp=>hhp g fun p ho=>?_) hF hagA (upd_ne ρ l' e)
   ·rcases hgp with hf | ho
    ·exact hFk g p hf
    ·exact h.hr.apart j k y x g p hy hk e ho
   ·exact h.hr.apart j k y x g p hy hk e (hgp p) ho
 ·simp only [S.upd,look_ins] at hy
  by_cases e:j=k
  ·subst e; simp only [if_true] at hy; cases hy
   obtain ⟨h1,h2 | ⟨h2,h3,h4⟩⟩:=hown g o ho
   ·obtain ⟨b1,b2,b3⟩:=h.hr.free j x g o hk h2
    exact ⟨h1,by rw [hfr.2]; exact b2,by rw [hsz]; exact b3⟩
   ·exact ⟨h1,h4,by rw [h2]; exact h3⟩
  ·simp only [e,if_false] at hy
   have ho':=(owns_upd l' e).1 ho
   obtain ⟨b1,b2,b3⟩:=h.hr.free j y g o hy ho'
   refine ⟨fun hf=>?_,by rw [hfr.2]; exact b2,by rw [hsz]; exact b3⟩
   rcases hF' g o hf with hf | hf | ⟨hf,_⟩
   ·exact b1 hf
   ·exact h.hr.apart j k y x g o hy hk e ho' hf
   ·subst hf; exact hg2 j y o hy ho'
 ·simp only [S.upd,look_ins] at hy hz
  by_cases e:i=k
  ·subst e
   simp only [if_true] at hy; cases hy
   simp only [Ne.symm hij,if_false] at hz
   have hoz':=(owns_upd l' (Ne.symm hij)).1 hoz
   obtain ⟨h1,h2 | ⟨h2,_⟩⟩:=hown g o ho
   ·exact h.hr.apart i j x z g o hk hz hij h2 hoz'
   ·subst h2; exact hg2 j z o hz hoz'
  ·simp only [e,if_false] at hy
   have ho':=(owns_upd l' e).1 ho
   by_cases e':j=k
   ·subst e'
    simp only [if_true] at hz; cases hz
    obtain ⟨h1,h2 | ⟨h2,_⟩⟩:=hown g o hoz
    ·exact h.hr.apart i j y x g o hy hk hij ho' h2
    ·subst h2; exact hg2 i y o hy ho'
   ·simp only [e',if_false] at hz
    exact h.hr.apart i j y z g o hy hz hij ho' ((owns_upd l' e').1 hoz)
 ·rcases hF' g o hf with hf | hf | ⟨hf,hl⟩
  ·rw [hsz]; exact h.hr.fin g o hf
  ·rw [hsz]; exact (h.hr.free k x g o hk hf).2.2
  ·rw [hf]; exact hl
 ·by_cases hok:∃ p,owns ρ k x g p
  ·obtain ⟨p,hp⟩:=hok
   rcases h.fr.owned k x g p hk hp with h1 | h1
   ·omega
   ·exact absurd h1 (hno p)
  ·rw [hhp g fun p hp=>hok ⟨p,hp⟩]; exact h.fr.same g hlt hno
 ·by_cases hok:owns ρ k x g o
  ·rcases h.fr.owned k x g o hk hok with h1 | h1
   ·omega
   ·exact absurd h1 hno
  ·rw [hcl g o hok]; exact h.fr.cell g o hlt hno
 ·simp only [S.upd,look_ins] at hy
  by_cases e:j=k
  ·subst e; simp only [if_true] at hy; cases hy
   obtain ⟨h1,h2 | ⟨h2,_⟩⟩:=hown g o ho
   ·exact h.fr.owned j x g o hk h2
   ·subst h2; exact .inl hg0
  ·simp only [e,if_false] at hy
   exact h.fr.owned j y g o hy ((owns_upd l' e).1 ho)
 ·rcases hF' g o hf with hf | hf | ⟨hf,_⟩
  ·exact h.fr.fnew g o hf hlt
  ·rcases h.fr.owned k x g o hk hf with h1 | h1
   ·omega
   ·exact .inr h1
  ·subst hf; omega
 ·rw [(hagA j).1]; exact h.fr.keep j hj
end
end Go.Proofs.YtdjldmolhkkipaaGreatDoor.Eng
end
section
set_option linter.unusedVariables false
set_option linter.unusedSimpArgs false
namespace Go.Proofs.YtdjldmolhkkipaaGreatDoor.Eng
open Go
structure CL where
 call:FuncId→List V→List (Nat×Slot)→(List V→List (Nat×Slot)→Prop)→Prop
 loop:Nat→((S→Prop)→S→Prop)→S→Prop
def envP (P:Program) (n:Nat) (gives:FuncId→Bool) (C:CL):Env Prop :=
 { P,n,f:=False,both:=And,gives,call:=C.call,loop:=C.loop }
theorem VR.ofCell {cl:Cl} {F:Fz} {ρ:Rho} (v:Value):VR cl F ρ (ofCell v) v:=by
 unfold Eng.ofCell
 split
 ·exact .sl (g:=0) (p:=0) (fun _ _=>default) rfl (Nat.le_refl _) (fun _=>rfl) (.inl rfl) (fun i x h=>by simp at h) (fun i x j h=>by simp at h) (fun i x j y h=>by simp at h)
 ·exact .bad
 ·exact .bad
 ·rename_i h1 h2 h3
  refine .c ?_
  cases v <;> first | rfl | exact absurd rfl (h2 _) | exact absurd rfl (h3 _)
theorem VR.ofVal {cl:Cl} {F:Fz} {ρ:Rho} (v:Value):VR cl F ρ (ofVal v) v:=by
 unfold Eng.ofVal
 split
 ·rename_i cs
  cases hb:cs.toList.all (fun v=>v.oneCell')
  ·exact .bad
  ·simp only [cond_true]
   refine .agg (by simp) (fun i v hv=>?_) (fun i v c hv hc=>?_)
   ·have:=List.all_eq_true.1 hb v (List.mem_of_getElem? (by rw [Array.getElem?_toList]; exact hv))
    exact this
   ·rw [List.getElem?_map,Array.getElem?_toList,hc] at hv
    cases hv; exact .ofCell c
 ·exact .ofCell v
theorem VR.ofTup {cl:Cl} {F:Fz} {ρ:Rho} (v:Value):VR cl F ρ (ofTup v) v:=by
 unfold Eng.ofTup
 split
 ·rename_i vs
  refine .tup (by simp) (fun i v c hv hc=>?_)
  rw [List.getElem?_map,Array.getElem?_toList,hc] at hv
  cases hv; exact .ofVal c
 ·exact .ofVal v
section
variable {P:Program} {gives:FuncId→Bool} {C:CL}
variable {B:Base} {n:Nat} {F:Fz} {ρ:Rho} {s:S} {a:Act} {w:World} {o:Oper} {K:S→Prop} {T:Nat→Prop}
theorem RelF.ev (h:RelF B n F ρ s a w) (x:Operand):VR (clOf w) F ρ (s.ev x) (a.eval x):=by
 cases x with
 | tmp t =>
  simp only [S.ev,S.get,Act.eval]
  cases hu:look t s.tm with
  | none=>exact .bad
  | some v=>exact h.tm t v hu
 | const v=>exact .ofVal v
 | global g=>exact .bad
 | func f=>exact .fn rfl rfl (fun i v c hv=>by simp at hv) (fun i v c hv=>by simp at hv)
def OpOk (P:Program) (B:Base) (n:Nat) (F:Fz) (ρ:Rho) (s:S) (T:Nat→Prop) (o:Oper) (a:Act) (w:World) (K:S→Prop):Prop :=
 ∀ (next:Act→World→Prop) (Q:Exit→Act→World→Prop),
  (∀ s' F' ρ' a' w',RelF B n F' ρ' s' a' w'→Kept F ρ s w T F' ρ' s' w'→K s'→next a' w')→o.wp P a w next Q
theorem okTurn {F':Fz} {ρ':Rho} {s':S} {v:V} {c:Value} {w':World} (hk:fin (envP P n gives C) o s' v K) (hrun:(execOp a.eval o).run P w = .ok (.value c) w')
  (hr:RelF B n F' ρ' s' a w') (hkept:Kept F ρ s w T F' ρ' s' w') (hv:VR (clOf w') F' ρ' v c):OpOk P B n F ρ s T o a w K:=by
 intro next Q hn
 simp only [Oper.wp,hrun,Oper.upon]
 simp only [fin,envP] at hk
 cases hd:o.dst with
 | none=>rw [hd] at hk; exact hn _ _ _ _ _ hr hkept hk
 | some d =>
  rw [hd] at hk
  cases hb:Nat.blt d n
  ·simp [hb] at hk
  ·simp only [hb,cond_true] at hk
   exact hn _ _ _ _ _ (hr.put (Nat.le_of_ble_eq_true hb) hv) (hkept.put d v) hk
theorem okVal {v:V} {c:Value} (hk:fin (envP P n gives C) o s v K) (hrun:(execOp a.eval o).run P w = .ok (.value c) w)
  (hr:RelF B n F ρ s a w) (hv:VR (clOf w) F ρ v c):OpOk P B n F ρ s T o a w K:=okTurn hk hrun hr (.refl T s rfl) hv
theorem okSkip {F':Fz} {ρ':Rho} {s':S} {w':World} (hd:o.dst=none) (hk:K s') (hrun:(execOp a.eval o).run P w = .ok .skip w')
  (hr:RelF B n F' ρ' s' a w') (hkept:Kept F ρ s w T F' ρ' s' w'):OpOk P B n F ρ s T o a w K:=by
 intro next Q hn
 simp only [Oper.wp,hrun,Oper.upon,hd]
 exact hn _ _ _ _ _ hr hkept hk
def TD (T:Nat→Prop) (o:Oper):Prop:=∀ d,o.dst=some d→T (dkey d 0)
theorem okFresh1 {F1:Fz} {s1:S} {x:Slot} {v:Nat→V} {c:Value} {w':World} {l:Loc} (hT:TD T o) (hk:fresh (envP P n gives C) o s1 x v K) (hrun:(execOp a.eval o).run P w = .ok (.value c) w')
  (hr:∀ k,k∉keysS x→64≤k→RelF B n F1 (upd ρ k l) (s1.bind k x) a w') (hg:Grows w w')
  (hkept:∀ {k:Nat},Kept F1 ρ s1 w T F1 (upd ρ k l) (s1.bind k x) w'→Kept F ρ s w T F1 (upd ρ k l) (s1.bind k x) w') (hv:∀ k,VR (clOf w') F1 (upd ρ k l) (v k) c):OpOk P B n F ρ s T o a w K:=by
 intro next Q hn
 simp only [Oper.wp,hrun,Oper.upon]
 simp only [fresh,envP] at hk
 cases hd:o.dst with
 | none=>rw [hd] at hk; exact hk.elim
 | some d =>
  rw [hd] at hk
  cases hb:Nat.blt d n && !((keysS x).any (Nat.beq (dkey d 0)))
  ·simp [hb] at hk
  ·simp only [hb,cond_true] at hk
   simp only [Bool.and_eq_true,Bool.not_eq_true'] at hb
   have hnk:dkey d 0∉keysS x:=fun hm=>by
    have:=List.any_eq_false.1 hb.2 _ hm
    simp [Nat.beq_refl] at this
   exact hn _ _ _ _ _ ((hr (dkey d 0) hnk (Nat.le_add_right _ _)).put (Nat.le_of_ble_eq_true hb.1) (hv _)) ((hkept (.bind (hT d hd) hg)).put _ _) hk
theorem okFresh {x:Slot} {v:Nat→V} {c:Value} {w':World} {l:Loc} (hT:TD T o) (hk:fresh (envP P n gives C) o s x v K) (hrun:(execOp a.eval o).run P w = .ok (.value c) w')
  (hr:∀ k,k∉keysS x→64≤k→RelF B n F (upd ρ k l) (s.bind k x) a w') (hg:Grows w w') (hv:∀ k,VR (clOf w') F (upd ρ k l) (v k) c):OpOk P B n F ρ s T o a w K :=
 okFresh1 hT hk hrun hr hg (fun h=>h) hv
def PurOk (C:CL) (P:Program) (n:Nat) (gives:FuncId→Bool) (F:Fz) (ρ:Rho) (s:S) (o:Oper) (a:Act) (w:World) (K:S→Prop):Prop :=
 ∃ v c,fin (envP P n gives C) o s v K∧(∀ w,(execOp a.eval o).run P w = .ok (.value c) w)∧VR (clOf w) F ρ v c
theorem okPur {v:V} {c:Value} (hk:fin (envP P n gives C) o s v K) (hrun:∀ w,(execOp a.eval o).run P w = .ok (.value c) w)
  (hr:RelF B n F ρ s a w) (hv:VR (clOf w) F ρ v c):PurOk C P n gives F ρ s o a w K:=⟨v,c,hk,hrun,hv⟩
theorem PurOk.ok (h:PurOk C P n gives F ρ s o a w K) (hr:RelF B n F ρ s a w):OpOk P B n F ρ s T o a w K :=
 let ⟨_,_,hk,hrun,hv⟩:=h
 okVal hk (hrun w) hr hv
theorem op_move {x:Operand} (ho:o.op = .move x) (hR:RelF B n F ρ s a w) (hk:fin (envP P n gives C) o s (s.ev x) K):PurOk C P n gives F ρ s o a w K :=
 okPur hk (fun w=>by simp [execOp,ho]) hR (hR.ev x)
theorem op_assign {x:Operand} (ho:o.op = .assign x) (hR:RelF B n F ρ s a w) (hk:fin (envP P n gives C) o s (s.ev x) K):PurOk C P n gives F ρ s o a w K :=
 okPur hk (fun w=>by simp [execOp,ho]) hR (hR.ev x)
theorem VR.c_inv {cl:Cl} {v c:Value} (h:VR cl F ρ (.c v) c):c=v:=by cases h; rfl
theorem op_pick {c x y:Operand} (ho:o.op = .pick c x y) (hR:RelF B n F ρ s a w)
  (hk:asBool (some (s.ev c)) False fun t=>if t=true then fin (envP P n gives C) o s (s.ev x) K else fin (envP P n gives C) o s (s.ev y) K):PurOk C P n gives F ρ s o a w K:=by
 have hc:=hR.ev c
 unfold asBool at hk
 split at hk
 ·rename_i b hb
  cases hb':s.ev c <;> rw [hb'] at hb <;> simp only [Option.some.injEq] at hb <;> try cases hb
  rename_i v
  rw [hb'] at hc
  have e:=hc.c_inv
  cases b
  ·exact okPur (by simpa using hk) (fun w=>by simp [execOp,ho,e,Go.asBool]) hR (hR.ev y)
  ·exact okPur (by simpa using hk) (fun w=>by simp [execOp,ho,e,Go.asBool]) hR (hR.ev x)
 ·exact hk.elim
theorem op_nilCheck {x:Operand} {v:V} (ho:o.op = .nilCheck x) (hR:RelF B n F ρ s a w) (hx:s.ev x=v)
  (hv:(∃ k f,v = .ptr k f)∨(∃ k u i f,v = .pe k u i f)∨(∃ xs i f,v = .ep xs i f)∨(∃ g p q,v = .fn (.func g) p q))
  (hk:fin (envP P n gives C) o s v K):PurOk C P n gives F ρ s o a w K:=by
 have he:=hR.ev x
 rw [hx] at he
 obtain ⟨c,hc⟩:∃ c,a.eval x=c:=⟨_,rfl⟩
 rw [hc] at he
 refine okPur hk (fun w=>?_) hR he
 rcases hv with ⟨k,f,rfl⟩ | ⟨k,u,i,f,rfl⟩ | ⟨xs,i,f,rfl⟩ | ⟨g,p,q,rfl⟩ <;> cases he <;> simp [execOp,ho,hc]
theorem op_extract {t:Operand} {i:Nat} {vs:List V} {v:V} (ho:o.op = .extract t i) (hR:RelF B n F ρ s a w) (ht:s.ev t = .tup vs) (hi:vs[i]? = some v)
  (hk:fin (envP P n gives C) o s v K):PurOk C P n gives F ρ s o a w K:=by
 have he:=hR.ev t
 rw [ht] at he
 generalize hc:a.eval t=c at he
 cases he with
 | tup hn h =>
  rename_i us
  have hlt:i < us.size:=by rw [← hn]; exact (List.getElem?_eq_some_iff.1 hi).1
  refine okPur hk (fun w=>?_) hR (h i v us[i] hi (Array.getElem?_eq_getElem hlt))
  simp [execOp,ho,hc,Instr.extract,hlt]
theorem mapEv (hR:RelF B n F ρ s a w) (xs:Array Operand):(xs.toList.map s.ev).length=(xs.map a.eval).size ∧
  ∀ (i:Nat) (v:V) (c:Value),(xs.toList.map s.ev)[i]? = some v→(xs.map a.eval)[i]? = some c→VR (clOf w) F ρ v c:=by
 refine ⟨by simp,fun i v c hv hc=>?_⟩
 rw [List.getElem?_map,Array.getElem?_toList] at hv
 rw [Array.getElem?_map] at hc
 cases hx:xs[i]? with
 | none=>rw [hx] at hv; cases hv
 | some x=>rw [hx] at hv hc; cases hv; cases hc; exact hR.ev x
theorem op_makeFunc {f:Fn} {x y:Array Operand} (ho:o.op = .makeFunc f x y) (hR:RelF B n F ρ s a w)
  (hk:fin (envP P n gives C) o s (.fn f (x.toList.map s.ev) (y.toList.map s.ev)) K):PurOk C P n gives F ρ s o a w K :=
 okPur hk (fun w=>by simp [execOp,ho,Instr.makeFunc]) hR (.fn (mapEv hR x).1 (mapEv hR y).1 (mapEv hR x).2 (mapEv hR y).2)
theorem op_not {t:TypeId} {x:Operand} {b:Bool} (ho:o.op = .unOp .not t x) (hR:RelF B n F ρ s a w) (hx:s.ev x = .c (.bool b))
  (hk:fin (envP P n gives C) o s (.c (.bool (!b))) K):PurOk C P n gives F ρ s o a w K:=by
 have he:=hR.ev x
 rw [hx] at he
 exact okPur hk (fun w=>by simp [execOp,ho,he.c_inv,Op.unary]) hR (.c rfl)
theorem op_neg {t:TypeId} {x:Operand} {k:IntKind} {m:Int} (ho:o.op = .unOp .neg t x) (hR:RelF B n F ρ s a w) (hx:s.ev x = .c (.int k m))
  (hk:fin (envP P n gives C) o s (.c (.int k (k.wrap (0 - m)))) K):PurOk C P n gives F ρ s o a w K:=by
 have he:=hR.ev x
 rw [hx] at he
 exact okPur hk (fun w=>by simp [execOp,ho,he.c_inv,Op.unary,Op.intArith]) hR (.c rfl)
theorem op_cpl {t:TypeId} {x:Operand} {k:IntKind} {m:Int} (ho:o.op = .unOp .xor t x) (hR:RelF B n F ρ s a w) (hx:s.ev x = .c (.int k m))
  (hk:fin (envP P n gives C) o s (.c (.int k (k.wrap (BitVec.ofInt k.bits (if k.signed then -1 else k.max) ^^^ BitVec.ofInt k.bits m).toNat))) K):PurOk C P n gives F ρ s o a w K:=by
 have he:=hR.ev x
 rw [hx] at he
 exact okPur hk (fun w=>by simp [execOp,ho,he.c_inv,Op.unary,Op.intBits]) hR (.c rfl)
theorem pureRun_run {α:Type} (P:Program):∀ (x:Sem α) (r:α),pureRun P x=some r→∀ w,x.run P w = .ok r w:=by
 intro x
 induction x with
 | pure b=>intro r h w; simp only [pureRun,Option.some.injEq] at h; subst h; rfl
 | program k ih=>intro r h w; simp only [pureRun] at h; simp only [Sem.run]; exact ih P r h w
 | mark m k ih=>intro r h w; simp only [pureRun] at h; simp only [Sem.run]; exact ih r h w
 | _=>intro r h w; simp [pureRun] at h
theorem op_typeAssert {x:Operand} {xt at':TypeId} {ok:Bool} {v r:Value} (ho:o.op = .typeAssert x xt at' ok) (hR:RelF B n F ρ s a w) (hx:s.ev x = .c v)
  (hr:pureRun P (Instr.typeAssert v xt at' ok)=some r) (hk:fin (envP P n gives C) o s (ofTup r) K):PurOk C P n gives F ρ s o a w K:=by
 have he:=hR.ev x
 rw [hx] at he
 exact okPur hk (fun w=>by simp [execOp,ho,he.c_inv,pureRun_run P _ r hr]) hR (.ofTup r)
theorem toCells_some {cs:List V} {l:List Value} (h:toCells cs=some l):cs=l.map V.c:=by
 induction cs generalizing l with
 | nil=>simp [toCells] at h; subst h; rfl
 | cons v r ih =>
  simp only [toCells] at h
  split at h
  ·rename_i x y hx hy
   cases h
   cases v <;> simp [toCell] at hx
   subst hx
   simp [ih hy]
  ·cases h
theorem VR.toVal {cl:Cl} {v:V} {u c:Value} (hu:toVal v=some u) (h:VR cl F ρ v c):c=u:=by
 unfold Eng.toVal at hu
 split at hu
 ·rename_i cs
  split at hu
  ·rename_i l hl
   cases hu
   have:=toCells_some hl
   subst this
   cases h with
   | agg hn hk h =>
    rename_i us
    refine congrArg Value.agg ?_
    apply Array.ext_getElem?
    intro i
    cases hi:us[i]? with
    | none =>
     have:l.length≤i:=by
      have:=Array.getElem?_eq_none_iff.1 hi
      simpa [← hn] using this
     simp [this]
    | some c =>
     have hlt:i < l.length:=by
      have:=(Array.getElem?_eq_some_iff.1 hi).1
      simpa [← hn] using this
     have:=h i (.c l[i]) c (by simp [hlt]) hi
     rw [this.c_inv]; simp [hlt]
  ·cases hu
 ·cases v <;> simp [toCell] at hu
  subst hu
  exact h.c_inv
theorem op_makeInterface {t:TypeId} {x:Operand} {v:Value} {d:TypeDesc} (ho:o.op = .makeInterface t x) (hR:RelF B n F ρ s a w) (hx:toVal (s.ev x)=some v)
  (hd:P.underlying t=some d) (hni:∀ ms,d≠.interface ms) (hk:fin (envP P n gives C) o s (.c (.iface t v)) K):PurOk C P n gives F ρ s o a w K:=by
 have he:=(hR.ev x).toVal hx
 refine okPur hk (fun w=>?_) hR (.c rfl)
 simp only [execOp,ho,he,Instr.makeInterface,Sem.run_bind,run_underlying hd,Result.andThen_ok]
 cases d <;> first | rfl | exact absurd rfl (hni _)
end
end Go.Proofs.YtdjldmolhkkipaaGreatDoor.Eng
end
section
set_option linter.unusedVariables false
set_option linter.unusedSimpArgs false
namespace Go.Proofs.YtdjldmolhkkipaaGreatDoor.Eng
open Go
section
variable {P:Program} {gives:FuncId→Bool} {C:CL}
variable {B:Base} {n:Nat} {F:Fz} {ρ:Rho} {s:S} {a:Act} {w:World} {o:Oper} {K:S→Prop} {T:Nat→Prop}
theorem run_sizeOf' {t:TypeId} (h:szOf P t≠0) (w:World):(sizeOf t).run P w = .ok (szOf P t) w:=by
 unfold szOf at *
 cases hi:P.info? t with
 | none=>rw [hi] at h; simp at h
 | some i=>simp [sizeOf,typeInfo,hi]
theorem add_lit (b p m:Nat):(⟨b,p,none⟩:Addr).add m=⟨b,p+m,none⟩:=Addr.add_lit b p m
theorem isSlice_some {t e:TypeId} (h:isSlice P t=some e):P.underlying t=some (.slice e):=by
 unfold isSlice at h
 split at h
 ·rename_i hh; cases h; exact hh
 ·cases h
theorem isArr_some {t e:TypeId} {m:Nat} (h:isArr P t=some (m,e)):P.underlying t=some (.array m e):=by
 unfold isArr at h
 split at h
 ·rename_i hh; cases h; exact hh
 ·cases h
theorem isStr_some {t:TypeId} (h:isStr P t=true):P.underlying t=some .string:=by
 unfold isStr at h
 split at h
 ·assumption
 ·cases h
theorem isInt_some {t:TypeId} {k:IntKind} (h:isInt P t k=true):P.underlying t=some (.int k):=by
 unfold isInt at h
 split at h
 ·rename_i hh; rw [of_decide_eq_true h]; exact hh
 ·cases h
theorem fieldOf_some {t:TypeId} {i:Nat} {f:Field} (h:fieldOf P t i=some f):∃ fs,P.underlying t=some (.struct fs)∧fs[i]? = some f:=by
 unfold fieldOf at h
 split at h
 ·rename_i fs hh; exact ⟨fs,hh,h⟩
 ·cases h
theorem op_fieldAddr {t:TypeId} {x:Operand} {i:Nat} {f:Field} {u v:V} (ho:o.op = .fieldAddr t x i) (hR:RelF B n F ρ s a w) (hf:fieldOf P t i=some f) (hz:szOf P f.type≠0)
  (hx:s.ev x=u) (hv:(∃ k p,u = .ptr k p∧v = .ptr k (p+f.offset))∨(∃ k q j p,u = .pe k q j p∧v = .pe k q j (p+f.offset))∨(∃ xs j p,u = .ep xs j p∧v = .ep xs j (p+f.offset)))
  (hk:fin (envP P n gives C) o s v K):PurOk C P n gives F ρ s o a w K:=by
 have he:=hR.ev x
 rw [hx] at he
 obtain ⟨c,hc⟩:∃ c,a.eval x=c:=⟨_,rfl⟩
 rw [hc] at he
 obtain ⟨fs,hu,hfi⟩:=fieldOf_some hf
 have hrun:∀ (b:Addr) (w:World),c = .pointer (some b)→(execOp a.eval o).run P w = .ok (.value (.pointer (some (b.add f.offset)))) w:=fun b w hb=>by
  simp [execOp,ho,hc,hb,Instr.fieldAt,run_underlying hu,hfi,Instr.sureAddr,fieldPlace,run_sizeOf' hz,hz]
 rcases hv with ⟨k,p,rfl,rfl⟩ | ⟨k,q,j,p,rfl,rfl⟩ | ⟨xs,j,p,rfl,rfl⟩
 ·cases he
  refine okPur hk (fun w=>hrun _ w rfl) hR ?_
  rw [add_lit]; exact .ptr
 ·cases he with
  | pe hv h =>
   rename_i b
   refine okPur hk (fun w=>hrun b w rfl) hR (.pe hv fun e=>?_)
   rw [h e,add_lit]; simp [Nat.add_assoc]
 ·cases he with
  | ep cf hw hF hv =>
   refine okPur hk (fun w=>hrun _ w rfl) hR ?_
   rw [add_lit,Nat.add_assoc]
   exact .ep cf hw hF hv
theorem op_indexArr {t e:TypeId} {x y:Operand} {k:IntKind} {i:Int} {m:Nat} {u v:V} (ho:o.op = .indexAddr t x y) (hR:RelF B n F ρ s a w) (ht:isArr P t=some (m,e)) (hz:szOf P e≠0)
  (hy:s.ev y = .c (.int k i)) (hi:0≤i∧i < (m:Int)) (hx:s.ev x=u)
  (hv:(∃ k p,u = .ptr k p∧v = .ptr k (p+i.toNat * szOf P e))∨(∃ k q j p,u = .pe k q j p∧v = .pe k q j (p+i.toNat * szOf P e))∨(∃ xs j p,u = .ep xs j p∧v = .ep xs j (p+i.toNat * szOf P e)))
  (hk:fin (envP P n gives C) o s v K):PurOk C P n gives F ρ s o a w K:=by
 have he:=hR.ev x
 rw [hx] at he
 have hey:=hR.ev y
 rw [hy] at hey
 obtain ⟨c,hc⟩:∃ c,a.eval x=c:=⟨_,rfl⟩
 rw [hc] at he
 have hu:=isArr_some ht
 have hrun:∀ (b:Addr) (w:World),c = .pointer (some b)→(execOp a.eval o).run P w = .ok (.value (.pointer (some (b.add (i.toNat * szOf P e))))) w:=fun b w hb=>by
  simp [execOp,ho,hc,hb,hey.c_inv,Instr.indexAt,asIntOf,run_underlying hu,Instr.sureAddr,run_sizeOf' hz,hi]
 rcases hv with ⟨k,p,rfl,rfl⟩ | ⟨k,q,j,p,rfl,rfl⟩ | ⟨xs,j,p,rfl,rfl⟩
 ·cases he
  refine okPur hk (fun w=>hrun _ w rfl) hR ?_
  rw [add_lit]; exact .ptr
 ·cases he with
  | pe hv h =>
   rename_i b
   refine okPur hk (fun w=>hrun b w rfl) hR (.pe hv fun e=>?_)
   rw [h e,add_lit]; simp [Nat.add_assoc]
 ·cases he with
  | ep cf hw hF hv =>
   refine okPur hk (fun w=>hrun _ w rfl) hR ?_
   rw [add_lit,Nat.add_assoc]
   exact .ep cf hw hF hv
theorem run_indexSlice {t e:TypeId} {x y:Operand} {k:IntKind} {i:Int} {m cap:Nat} {b:Addr} (ho:o.op = .indexAddr t x y) (ht:P.underlying t=some (.slice e)) (hz:szOf P e≠0)
  (hx:a.eval x = .slice (some b) m cap) (hy:a.eval y = .int k i) (hi:0≤i∧i < (m:Int)) :
  (execOp a.eval o).run P w = .ok (.value (.pointer (some (b.add (i.toNat * szOf P e))))) w:=by
 simp [execOp,ho,hx,hy,Instr.indexAt,asIntOf,run_underlying ht,run_sizeOf' hz,hi]
theorem op_indexSl {t e:TypeId} {x y:Operand} {k:IntKind} {i:Int} {fl:Bool} {xs:List V} (ho:o.op = .indexAddr t x y) (hR:RelF B n F ρ s a w) (ht:isSlice P t=some e) (hz:szOf P e≠0)
  (hy:s.ev y = .c (.int k i)) (hx:s.ev x = .sl (szOf P e) fl xs) (hi:0≤i∧i < (xs.length:Int))
  (hk:fin (envP P n gives C) o s (.ep xs i.toNat 0) K):PurOk C P n gives F ρ s o a w K:=by
 have he:=hR.ev x
 rw [hx] at he
 have hey:=hR.ev y
 rw [hy] at hey
 generalize hc:a.eval x=c at he
 cases he with
 | sl cf hn hcap hf ha hw hF hv =>
  rename_i ad m cap g p
  have hpos:cap≠0:=by omega
  rcases ha with ha | ha
  ·exact absurd ha hpos
  ·subst ha
   refine okPur hk (fun w=>run_indexSlice ho (isSlice_some ht) hz hc hey.c_inv (by rw [hn]; exact hi)) hR ?_
   rw [add_lit]
   exact .ep (p:=p+i.toNat * szOf P e) (off:=0) (cf i.toNat) (fun x hx=>(hw _ x hx).2)
    (fun x j y hx hy=>hF _ x j hx (by rw [← (hw _ x hx).1]; exact (List.getElem?_eq_some_iff.1 hy).1)) (fun x j y hx hy=>hv _ x j y hx hy)
theorem op_indexRow {t e:TypeId} {x y:Operand} {k:IntKind} {i:Int} {j v es ver:Nat} {xs:List V} {own frz:Bool} (ho:o.op = .indexAddr t x y) (hR:RelF B n F ρ s a w) (ht:isSlice P t=some e) (hz:szOf P e≠0)
  (hy:s.ev y = .c (.int k i)) (hj:look j s.hp=some (.arr es xs own frz ver)) (hver:v=ver) (hes:es=szOf P e) (off len:Nat)
  (hx:(s.ev x = .sla j v∧off=0∧len=xs.length)∨s.ev x = .slm j off len v) (hi:0≤i∧i < (len:Int))
  (hk:fin (envP P n gives C) o s (.pe j v (off+i.toNat) 0) K):PurOk C P n gives F ρ s o a w K:=by
 have he:=hR.ev x
 have hey:=hR.ev y
 rw [hy] at hey
 obtain ⟨h1,h2,h3,h4,h5,h6,h7⟩:=hR.hr.sr j _ hj
 generalize hc:a.eval x=c at he
 have hpe:∀ b:Addr,b=⟨(ρ j).ablk,(ρ j).base+(off+i.toNat) * (ρ j).es,none⟩→VR (clOf w) F ρ (.pe j v (off+i.toNat) 0) (.pointer (some b)):=fun b hb =>
  .pe (by omega) (fun _=>by rw [hb]; simp)
 rcases hx with ⟨hx,ho0,hl⟩ | hx
 ·rw [hx] at he
  cases he with
  | sla hv h =>
   rename_i m cap ad
   obtain ⟨b1,b2,b3⟩:=h (by omega)
   rcases b3 with b3 | b3
   ·omega
   ·subst b3
    refine okPur hk (fun w=>run_indexSlice ho (isSlice_some ht) hz hc hey.c_inv (by omega)) hR (hpe _ ?_)
    rw [add_lit,h1,hes]; simp [ho0]
 ·rw [hx] at he
  cases he with
  | slm hv h =>
   rename_i m cap ad
   obtain ⟨b1,b2,b3,b4⟩:=h (by omega)
   rcases b4 with b4 | b4
   ·omega
   ·subst b4
    refine okPur hk (fun w=>run_indexSlice ho (isSlice_some ht) hz hc hey.c_inv (by omega)) hR (hpe _ ?_)
    rw [add_lit,h1,hes,Nat.add_mul]; simp [Nat.add_assoc]
theorem op_indexRefs {t e:TypeId} {x y:Operand} {k:IntKind} {i:Int} {j:Nat} {xs:List V} (ho:o.op = .indexAddr t x y) (hR:RelF B n F ρ s a w) (ht:isSlice P t=some e) (hz:szOf P e=1)
  (hy:s.ev y = .c (.int k i)) (hj:look j s.hp=some (.refs xs)) (hx:s.ev x = .sla j 0) (hi:0≤i∧i < (xs.length:Int))
  (hk:fin (envP P n gives C) o s (.pe j 0 i.toNat 0) K):PurOk C P n gives F ρ s o a w K:=by
 have he:=hR.ev x
 have hey:=hR.ev y
 rw [hy] at hey
 obtain ⟨h1,h2,h3,h4,h5,h6⟩:=hR.hr.sr j _ hj
 generalize hc:a.eval x=c at he
 rw [hx] at he
 cases he with
 | sla hv h =>
  rename_i m cap ad
  obtain ⟨b1,b2,b3⟩:=h (by omega)
  rcases b3 with b3 | b3
  ·omega
  ·subst b3
   refine okPur hk (fun w=>run_indexSlice ho (isSlice_some ht) (by omega) hc hey.c_inv (by omega)) hR (.pe (by omega) fun _=>?_)
   rw [add_lit,h1,hz]; simp
theorem op_indexStr {t:TypeId} {x y:Operand} {k:IntKind} {i:Int} {v:ByteArray} (ho:o.op = .index t x y) (hR:RelF B n F ρ s a w) (ht:isStr P t=true)
  (hy:s.ev y = .c (.int k i)) (hx:s.ev x = .c (.string v)) (hi:0≤i∧i < (v.size:Int))
  (hk:fin (envP P n gives C) o s (.c (.int .u8 (bAt v i.toNat))) K):PurOk C P n gives F ρ s o a w K:=by
 have he:=hR.ev x
 have hey:=hR.ev y
 rw [hx] at he
 rw [hy] at hey
 refine okPur hk (fun w=>?_) hR (.c rfl)
 have hlt:i.toNat < v.size:=by omega
 have hb:v[i.toNat]? = some (v[i.toNat]'hlt):=by simp [hlt]
 simp only [execOp,ho,he.c_inv,hey.c_inv,Instr.index,asIntOf,Sem.run_bind,Sem.run_pure,Result.andThen_ok,run_underlying (isStr_some ht),if_pos hi.1,hb]
 have hlt':i.toNat < v.data.size:=hlt
 have e:v.data[i.toNat]? = some (v.data[i.toNat]'hlt'):=Array.getElem?_eq_getElem hlt'
 simp only [bAt,List.getD_eq_getElem?_getD,Array.getElem?_toList,e,Option.getD_some]
 rfl
end
end Go.Proofs.YtdjldmolhkkipaaGreatDoor.Eng
end
section
set_option linter.unusedVariables false
set_option linter.unusedSimpArgs false
namespace Go.Proofs.YtdjldmolhkkipaaGreatDoor.Eng
open Go
section
variable {P:Program} {gives:FuncId→Bool} {C:CL}
variable {B:Base} {n:Nat} {F:Fz} {ρ:Rho} {s:S} {a:Act} {w:World} {o:Oper} {K:S→Prop} {T:Nat→Prop}
theorem run_intOp {op:BinOp} {t:TypeId} {x y:Operand} {k:IntKind} {i j:Int} {r:Value} (h:intOp op k i j=some r) :
  (do eqGuard op t x y (.int k i) (.int k j); binOp op t (.int k i) (.int k j):Sem Value).run P w = .ok r w:=by
 cases op <;> simp only [intOp,Option.some.injEq,reduceCtorEq] at h <;> subst h <;>
  simp [eqGuard_at_int,binOp_add,binOp_sub,binOp_mul,binOp_and,binOp_or,binOp_xor,binOp_andNot,binOp_eql,binOp_neq,binOp_lss,binOp_leq,binOp_gtr,binOp_geq,Op.intArith,Op.intBits]
theorem run_strOp {op:BinOp} {t:TypeId} {x y:Operand} {i j:ByteArray} {r:Value} (h:strOp op i j=some r) :
  (do eqGuard op t x y (.string i) (.string j); binOp op t (.string i) (.string j):Sem Value).run P w = .ok r w:=by
 cases op <;> simp only [strOp,Option.some.injEq,reduceCtorEq] at h <;> subst h <;>
  simp [eqGuard_at_string,binOp,Op.stringOp]
theorem equal_succ (t:TypeId) (x y:Value):Op.equal t x y=Op.equalIn (9999+1) t x y:=rfl
theorem run_equal_bool {t:TypeId} {i j:Bool} (ht:P.underlying t=some .bool):(Op.equal t (.bool i) (.bool j)).run P w = .ok (i == j) w:=by
 rw [equal_succ]; generalize 9999=d
 simp [Op.equalIn,run_underlying ht]
theorem run_equal_nilI {t:TypeId} {p:Value} {ms:Array (String×TypeId)} (ht:P.underlying t=some (.interface ms)) (b:Bool)
  (hp:(p = .nilIface∧b=true)∨((∃ d u,p = .iface d u)∧b=false)):(Op.equal t p .nilIface).run P w = .ok b w:=by
 rw [equal_succ]; generalize 9999=d
 rcases hp with ⟨rfl,rfl⟩ | ⟨⟨d,u,rfl⟩,rfl⟩ <;> simp [Op.equalIn,run_underlying ht]
theorem run_equal_nilS {t e:TypeId} {ad:Option Addr} {m c:Nat} (ht:P.underlying t=some (.slice e)) :
  (Op.equal t (.slice ad m c) (.slice none 0 0)).run P w = .ok ad.isNone w:=by
 rw [equal_succ]; generalize 9999=d
 cases ad <;> simp [Op.equalIn,run_underlying ht]
theorem eql_bool (t:TypeId) (i j:Bool):binOp .eql t (.bool i) (.bool j)=(do pure (.bool (← Op.equal t (.bool i) (.bool j)))):=rfl
theorem neq_bool (t:TypeId) (i j:Bool):binOp .neq t (.bool i) (.bool j)=(do pure (.bool (!(← Op.equal t (.bool i) (.bool j))))):=rfl
theorem eql_nilI (t:TypeId) (p:Value) (hp:p = .nilIface∨∃ d u,p = .iface d u):binOp .eql t p .nilIface=(do pure (.bool (← Op.equal t p .nilIface))):=by
 rcases hp with rfl | ⟨d,u,rfl⟩ <;> rfl
theorem neq_nilI (t:TypeId) (p:Value) (hp:p = .nilIface∨∃ d u,p = .iface d u):binOp .neq t p .nilIface=(do pure (.bool (!(← Op.equal t p .nilIface)))):=by
 rcases hp with rfl | ⟨d,u,rfl⟩ <;> rfl
theorem eql_slice (t:TypeId) (ad:Option Addr) (m c:Nat):binOp .eql t (.slice ad m c) (.slice none 0 0)=(do pure (.bool (← Op.equal t (.slice ad m c) (.slice none 0 0)))):=rfl
theorem run_boolOp {op:BinOp} {t:TypeId} {x y:Operand} {i j:Bool} {r:Value} (ht:P.underlying t=some .bool) (h:boolOp op i j=some r) :
  (do eqGuard op t x y (.bool i) (.bool j); binOp op t (.bool i) (.bool j):Sem Value).run P w = .ok r w:=by
 cases op <;> simp only [boolOp,Option.some.injEq,reduceCtorEq] at h <;> subst h <;>
  simp [eqGuard_at_bool,eql_bool,neq_bool,run_equal_bool ht]
theorem op_bin {op:BinOp} {t u:TypeId} {x y:Operand} {p q r:Value} (ho:o.op = .binOp op t x y u) (hR:RelF B n F ρ s a w)
  (hx:a.eval x=p) (hy:a.eval y=q) (hrun:∀ w,(do eqGuard op t x y p q; binOp op t p q:Sem Value).run P w = .ok r w) (hr:okC r=true)
  (hk:fin (envP P n gives C) o s (.c r) K):PurOk C P n gives F ρ s o a w K:=by
 refine okPur hk (fun w=>?_) hR (.c hr)
 have hrun:=hrun w
 simp only [execOp,ho,hx,hy,Sem.run_bind,Sem.run_pure] at hrun ⊢
 cases hg:(eqGuard op t x y p q).run P w with
 | ok u w'=>rw [hg] at hrun; simp only [Result.andThen_ok] at hrun ⊢; rw [hrun]; rfl
 | halt e w'=>rw [hg] at hrun; cases hrun
theorem run_quo {t:TypeId} {x y:Operand} {k:IntKind} {i j:Int} (hj:j≠0) :
  (do eqGuard .quo t x y (.int k i) (.int k j); binOp .quo t (.int k i) (.int k j):Sem Value).run P w = .ok (.int k (k.wrap (i.tdiv j))) w:=by
 simp [eqGuard_at_int,binOp_quo,Op.intDiv,hj]
theorem run_rem {t:TypeId} {x y:Operand} {k:IntKind} {i j:Int} (hj:j≠0) :
  (do eqGuard .rem t x y (.int k i) (.int k j); binOp .rem t (.int k i) (.int k j):Sem Value).run P w = .ok (.int k (i.tmod j)) w:=by
 simp [eqGuard_at_int,binOp_rem,Op.intDiv,hj]
theorem run_shl {t:TypeId} {x y:Operand} {k k':IntKind} {i j:Int} (hj:¬ j < 0) :
  (do eqGuard .shl t x y (.int k i) (.int k' j); binOp .shl t (.int k i) (.int k' j):Sem Value).run P w = .ok (.int k (k.wrap (i * 2 ^ (min j.toNat k.bits)))) w:=by
 simp [eqGuard_at_int,binOp_shl,Op.shift,hj]
theorem run_shr {t:TypeId} {x y:Operand} {k k':IntKind} {i j:Int} (hj:¬ j < 0) :
  (do eqGuard .shr t x y (.int k i) (.int k' j); binOp .shr t (.int k i) (.int k' j):Sem Value).run P w = .ok (.int k (i.fdiv (2 ^ (min j.toNat k.bits)))) w:=by
 simp [eqGuard_at_int,binOp_shr,Op.shift,hj]
theorem run_cat {t:TypeId} {x y:Operand} {i j:ByteArray} (h:¬ ((i.size+j.size:Nat):Int) > IntKind.i64.max) :
  (do eqGuard .add t x y (.string i) (.string j); binOp .add t (.string i) (.string j):Sem Value).run P w = .ok (.string (i++j)) w:=by
 simp only [eqGuard_at_string,binOp,Op.stringOp,Sem.run_bind,Sem.run_pure,Result.andThen_ok,if_neg h]
theorem op_convertInt {src dst:TypeId} {x:Operand} {k k':IntKind} {i:Int} (ho:o.op = .convert src dst x) (hR:RelF B n F ρ s a w) (hx:s.ev x = .c (.int k i))
  (hs:(P.underlying src).isSome=true) (hd:P.underlying dst=some (.int k')) (hk:fin (envP P n gives C) o s (.c (.int k' (k'.wrap i))) K):PurOk C P n gives F ρ s o a w K:=by
 have he:=hR.ev x
 rw [hx] at he
 obtain ⟨d,hd'⟩:=Option.isSome_iff_exists.1 hs
 refine okPur hk (fun w=>?_) hR (.c rfl)
 simp [execOp,ho,he.c_inv,convert,run_underlying hd',run_underlying hd,Conv.intToInt]
theorem op_convertStr {src dst:TypeId} {x:Operand} {v:ByteArray} (ho:o.op = .convert src dst x) (hR:RelF B n F ρ s a w) (hx:s.ev x = .c (.string v))
  (hs:isStr P src=true) (hd:isStr P dst=true) (hk:fin (envP P n gives C) o s (.c (.string v)) K):PurOk C P n gives F ρ s o a w K:=by
 have he:=hR.ev x
 rw [hx] at he
 refine okPur hk (fun w=>?_) hR (.c rfl)
 simp [execOp,ho,he.c_inv,convert,run_underlying (isStr_some hs),run_underlying (isStr_some hd)]
theorem run_nilI {op:BinOp} {t:TypeId} {x:Operand} {p:Value} {ms:Array (String×TypeId)} (ht:P.underlying t=some (.interface ms)) (b:Bool)
  (hp:(p = .nilIface∧b=true)∨((∃ d u,p = .iface d u)∧b=false)) (r:Bool) (hop:(op = .eql∧r=b)∨(op = .neq∧r = !b)) :
  (do eqGuard op t x (.const .nilIface) p .nilIface; binOp op t p .nilIface:Sem Value).run P w = .ok (.bool r) w:=by
 have hp':p = .nilIface∨∃ d u,p = .iface d u:=hp.imp (·.1) (·.1)
 have hg:eqGuard op t x (.const .nilIface) p .nilIface=pure ():=by
  rcases hp' with rfl | ⟨d,u,rfl⟩
  ·exact eqGuard_nil_constR _ _ _ _
  ·exact eqGuard_at_iface _ _ _ _ _ _ _
 rcases hop with ⟨rfl,rfl⟩ | ⟨rfl,rfl⟩
 ·rw [eql_nilI t p hp',hg]; simp only [Sem.run_bind,Sem.run_pure,Result.andThen_ok]; rw [run_equal_nilI ht _ hp]; rfl
 ·rw [neq_nilI t p hp',hg]; simp only [Sem.run_bind,Sem.run_pure,Result.andThen_ok]; rw [run_equal_nilI ht b hp]; rfl
theorem run_nilS {t e:TypeId} {x:Operand} {ad:Option Addr} {m c:Nat} (ht:P.underlying t=some (.slice e)) :
  (do eqGuard .eql t x (.const (.slice none 0 0)) (.slice ad m c) (.slice none 0 0); binOp .eql t (.slice ad m c) (.slice none 0 0):Sem Value).run P w = .ok (.bool ad.isNone) w:=by
 simp [eqGuard_at_slice,eql_slice,run_equal_nilS ht]
theorem op_nilS {t u e:TypeId} {x:Operand} {es:Nat} {fl:Bool} {xs:List V} (ho:o.op = .binOp .eql t x (.const (.slice none 0 0)) u) (hR:RelF B n F ρ s a w) (ht:P.underlying t=some (.slice e))
  (hx:s.ev x = .sl es fl xs)
  (hk:if xs.length=0 then fin (envP P n gives C) o s (.c (.bool true)) K∧fin (envP P n gives C) o s (.c (.bool false)) K else fin (envP P n gives C) o s (.c (.bool false)) K):PurOk C P n gives F ρ s o a w K:=by
 have he:=hR.ev x
 rw [hx] at he
 generalize hc:a.eval x=c at he
 cases he with
 | sl cf hn hcap hf ha hw hF hv =>
  rename_i ad m cap g p
  have hrun:=fun w=>run_nilS (P:=P) (w:=w) (x:=x) (ad:=ad) (m:=m) (c:=cap) ht
  by_cases h0:xs.length=0
  ·rw [if_pos h0] at hk
   cases ad
   ·exact op_bin ho hR hc rfl hrun rfl hk.1
   ·exact op_bin ho hR hc rfl hrun rfl hk.2
  ·rw [if_neg h0] at hk
   rcases ha with ha | ha
   ·omega
   ·subst ha
    exact op_bin ho hR hc rfl hrun rfl hk
end
end Go.Proofs.YtdjldmolhkkipaaGreatDoor.Eng
end
section
set_option linter.unusedVariables false
set_option linter.unusedSimpArgs false
namespace Go.Proofs.YtdjldmolhkkipaaGreatDoor.Eng
open Go
section
variable {P:Program} {gives:FuncId→Bool} {C:CL}
variable {B:Base} {n:Nat} {F:Fz} {ρ:Rho} {s:S} {a:Act} {w:World} {o:Oper} {K:S→Prop} {T:Nat→Prop}
def Gives (cl:Cl) (F:Fz) (ρ:Rho) (cell:Kd→Option V→Prop→(V→Prop)→Prop):Prop :=
 ∀ kd o (K:V→Prop),cell kd o False K→∃ u v,o=some u∧(∀ c,VR cl F ρ u c→VR cl F ρ v c)∧K v
theorem VR.nilEs {cl:Cl} {es es':Nat} {fl:Bool} {c:Value} (h:VR cl F ρ (.sl es fl []) c):VR cl F ρ (.sl es' fl []) c:=by
 cases h with
 | sl cf hn hc hf ha hw hF hv =>
  exact .sl cf hn hc hf ha (fun i x h=>by simp at h) (fun i x j h=>by simp at h) (fun i x j y h=>by simp at h)
theorem asInt_inv {k:IntKind} {o:Option V} {K:Int→Prop} (h:asInt k o False K):∃ m,o=some (.c (.int k m))∧K m:=by
 unfold asInt at h
 split at h
 ·split at h
  ·rename_i k' m hk; subst hk; exact ⟨m,rfl,h⟩
  ·exact h.elim
 ·exact h.elim
theorem asBool_inv {o:Option V} {K:Bool→Prop} (h:asBool o False K):∃ b,o=some (.c (.bool b))∧K b:=by
 unfold asBool at h
 split at h
 ·exact ⟨_,rfl,h⟩
 ·exact h.elim
theorem asStr_inv {o:Option V} {K:ByteArray→Prop} (h:asStr o False K):∃ b,o=some (.c (.string b))∧K b:=by
 unfold asStr at h
 split at h
 ·exact ⟨_,rfl,h⟩
 ·exact h.elim
theorem asOth_inv {o:Option V} {K:V→Prop} (h:asOth o False K):∃ v,o=some v∧K v:=by
 unfold asOth at h
 split at h
 ·exact ⟨_,rfl,h⟩
 ·exact h.elim
theorem asSl_inv {es:Nat} {o:Option V} {K:Bool→List V→Prop} (h:asSl es o False K):∃ es' fl xs,o=some (.sl es' fl xs)∧(es=es'∨xs=[])∧K fl xs:=by
 unfold asSl at h
 split at h
 ·rename_i es' fl xs
  cases hb:(Nat.beq es es' || xs.isEmpty)
  ·rw [hb] at h; exact h.elim
  ·rw [hb] at h
   refine ⟨es',fl,xs,rfl,?_,h⟩
   rcases Bool.or_eq_true_iff.1 hb with h1 | h1
   ·exact .inl (Nat.eq_of_beq_eq_true h1)
   ·exact .inr (by simpa using h1)
 ·exact h.elim
theorem givesM {cl:Cl}:Gives cl F ρ asCellM:=by
 intro kd o K h
 cases kd with
 | int k=>obtain ⟨m,e,hk⟩:=asInt_inv h; exact ⟨_,_,e,fun _ h=>h,hk⟩
 | bool=>obtain ⟨m,e,hk⟩:=asBool_inv h; exact ⟨_,_,e,fun _ h=>h,hk⟩
 | str=>obtain ⟨m,e,hk⟩:=asStr_inv h; exact ⟨_,_,e,fun _ h=>h,hk⟩
 | sl es=>obtain ⟨m,e,hk⟩:=asOth_inv h; exact ⟨_,_,e,fun _ h=>h,hk⟩
 | ptr t=>obtain ⟨m,e,hk⟩:=asOth_inv h; exact ⟨_,_,e,fun _ h=>h,hk⟩
 | oth=>obtain ⟨m,e,hk⟩:=asOth_inv h; exact ⟨_,_,e,fun _ h=>h,hk⟩
theorem givesP {cl:Cl}:Gives cl F ρ asCellP:=by
 intro kd o K h
 cases kd with
 | int k=>obtain ⟨m,e,hk⟩:=asInt_inv h; exact ⟨_,_,e,fun _ h=>h,hk⟩
 | bool=>obtain ⟨m,e,hk⟩:=asBool_inv h; exact ⟨_,_,e,fun _ h=>h,hk⟩
 | str=>obtain ⟨m,e,hk⟩:=asStr_inv h; exact ⟨_,_,e,fun _ h=>h,hk⟩
 | sl es =>
  obtain ⟨es',fl,xs,e,he,hk⟩:=asSl_inv h
  refine ⟨_,_,e,fun c h=>?_,hk⟩
  rcases he with rfl | rfl
  ·exact h
  ·exact h.nilEs
 | ptr t=>obtain ⟨m,e,hk⟩:=asOth_inv h; exact ⟨_,_,e,fun _ h=>h,hk⟩
 | oth=>obtain ⟨m,e,hk⟩:=asOth_inv h; exact ⟨_,_,e,fun _ h=>h,hk⟩
theorem asCells_inv {cl:Cl} {get:Nat→Option V} {cell:Kd→Option V→Prop→(V→Prop)→Prop} (hg:Gives cl F ρ cell) :
  ∀ (kds:List Kd) (off:Nat) (K:List V→Prop),asCells get cell kds off False K →
   ∃ us vs:List V,us.length=kds.length∧vs.length=kds.length∧(∀ i u,us[i]? = some u→get (off+i)=some u) ∧
    (∀ (i:Nat) (u v:V),us[i]? = some u→vs[i]? = some v→∀ c,VR cl F ρ u c→VR cl F ρ v c)∧K vs
 | [],off,K,h=>⟨[],[],rfl,rfl,fun i u h=>by simp at h,fun i u v h=>by simp at h,h⟩
 | kd :: r,off,K,h=>by
  obtain ⟨u,v,e,hv,h'⟩:=hg _ _ _ h
  obtain ⟨us,vs,l1,l2,hus,hvs,hk⟩:=asCells_inv hg r (off+1) _ h'
  refine ⟨u :: us,v :: vs,by simp [l1],by simp [l2],fun i x hx=>?_,fun i x y hx hy=>?_,hk⟩
  ·cases i with
   | zero=>simp at hx; subst hx; exact e
   | succ i=>simp at hx; rw [show off+(i+1)=off+1+i by omega]; exact hus i x hx
  ·cases i with
   | zero=>simp at hx hy; subst hx; subst hy; exact hv
   | succ i=>simp at hx hy; exact hvs i x y hx hy
def At (w:World) (F:Fz) (ρ:Rho) (get:Nat→Option V) (g p:Nat):Prop :=
 ∀ j u,get j=some u→∃ c,clOf w g (p+j)=some c∧okC c=true∧VR (clOf w) F ρ u c
theorem isAgg_run {t:TypeId} {d:TypeDesc} (h:P.underlying t=some d) (w:World):(isAgg t).run P w = .ok (aggB P t) w:=by
 unfold isAgg aggB
 simp only [Sem.run_bind,run_underlying h,Result.andThen_ok,h]
 cases d <;> rfl
theorem info_of_underlying {t:TypeId} {d:TypeDesc} (h:P.underlying t=some d):∃ i,P.info? t=some i:=by
 unfold Program.underlying at h
 cases hi:P.info? t with
 | none=>rw [hi] at h; cases h
 | some i=>exact ⟨i,rfl⟩
theorem sizeOf_run {t:TypeId} {d:TypeDesc} (h:P.underlying t=some d) (w:World):(sizeOf t).run P w = .ok (szOf P t) w:=by
 obtain ⟨i,hi⟩:=info_of_underlying h
 simp [sizeOf,typeInfo,szOf,hi]
theorem kinds_under {t:TypeId} {k:Kd} {d:Nat} (h:kinds P d t=[k]):∃ u,P.underlying t=some u:=by
 cases d with
 | zero=>simp [kinds] at h
 | succ d =>
  rw [kinds] at h
  cases hu:P.underlying t with
  | none=>rw [hu] at h; simp at h
  | some u=>exact ⟨u,rfl⟩
theorem rangeMap {f:Nat→Value} {m i:Nat} {v:Value} (h:((List.range m).map f).toArray[i]? = some v):i < m∧f i=v:=by
 by_cases hi:i < m
 ·simp [hi] at h; exact ⟨hi,h⟩
 ·simp [List.getElem?_eq_none,hi] at h
theorem load_ok {t:TypeId} {get:Nat→Option V} {cell:Kd→Option V→Prop→(V→Prop)→Prop} {off g p:Nat} {Kv:V→Prop} (hg:Gives (clOf w) F ρ cell)
  (hat:At w F ρ get g p) (h:asType P t get cell off False Kv) :
  ∃ v c m,((∀ j,j < m→∃ u,get (off+j)=some u)∧∀ w',(∀ j,j < m→clOf w' g (p+off+j)=clOf w g (p+off+j))→(loadVar t ⟨g,p+off,none⟩).run P w' = .ok c w')∧VR (clOf w) F ρ v c∧Kv v:=by
 unfold asType at h
 cases hb:aggB P t
 ·rw [hb] at h
  simp only [cond_false] at h
  split at h
  ·rename_i kd hkd
   obtain ⟨d,hd⟩:=kinds_under hkd
   obtain ⟨u,v,e,hv,hk⟩:=hg _ _ _ h
   obtain ⟨c,h1,h2,h3⟩:=hat off u e
   refine ⟨v,c,1,⟨fun j hj=>⟨u,by rw [show off+j=off by omega]; exact e⟩,fun w' hw'=>?_⟩,hv c h3,hk⟩
   have h1':w'.cell? ⟨g,p+off,none⟩=some c:=by
    have:=hw' 0 (by omega)
    rw [Nat.add_zero] at this
    exact this.trans h1
   simp [loadVar,isAgg_run hd,hb,h1']
  ·exact h.elim
 ·rw [hb] at h
  simp only [cond_true] at h
  cases hl:Nat.beq (kinds P 9 t).length (szOf P t)
  ·rw [hl] at h; exact h.elim
  ·rw [hl] at h
   simp only [cond_true] at h
   obtain ⟨us,vs,l1,l2,hus,hvs,hk⟩:=asCells_inv hg _ _ _ h
   have hl':=Nat.eq_of_beq_eq_true hl
   have hu:∃ d,P.underlying t=some d:=by
    unfold aggB at hb
    split at hb <;> first | exact ⟨_,by assumption⟩ | cases hb
   obtain ⟨d,hd⟩:=hu
   have hcell:∀ j,∃ c,j < szOf P t→clOf w g (p+off+j)=some c∧okC c=true∧∀ u,us[j]? = some u→VR (clOf w) F ρ u c:=by
    intro j
    by_cases hj:j < szOf P t
    ·have hju:j < us.length:=by rw [l1,hl']; exact hj
     obtain ⟨c,h1,h2,h3⟩:=hat (off+j) us[j] (hus j _ (List.getElem?_eq_getElem hju))
     refine ⟨c,fun _=>⟨by rw [show p+off+j=p+(off+j) by omega]; exact h1,h2,fun u hu'=>?_⟩⟩
     rw [List.getElem?_eq_getElem hju] at hu'; cases hu'; exact h3
    ·exact ⟨default,fun h=>absurd h hj⟩
   let f:Nat→Value:=fun j=>Classical.choose (hcell j)
   have hf:∀ j,j < szOf P t→clOf w g (p+off+j)=some (f j)∧okC (f j)=true∧∀ u,us[j]? = some u→VR (clOf w) F ρ u (f j):=fun j hj=>Classical.choose_spec (hcell j) hj
   refine ⟨.agg vs,.agg ((List.range (szOf P t)).map f).toArray,szOf P t,⟨fun j hj=>⟨_,hus j _ (List.getElem?_eq_getElem (by rw [l1,hl']; exact hj))⟩,fun w' hw'=>?_⟩,.agg (by simp [l2,hl']) (fun i v hv=>?_) (fun i v c hv hc=>?_),hk⟩
   ·have:=run_loadCells (P:=P) w' ⟨g,p+off,none⟩ (szOf P t) f (fun j hj=>by rw [add_lit]; exact (hw' j hj).trans (hf j hj).1)
    simp [loadVar,isAgg_run hd,hb,sizeOf_run hd,this]
   ·obtain ⟨hi,e⟩:=rangeMap hv
    rw [← e]; exact (hf i hi).2.1
   ·obtain ⟨hi,e⟩:=rangeMap hc
    subst e
    have hiu:i < us.length:=by rw [l1,hl']; exact hi
    exact hvs i us[i] v (List.getElem?_eq_getElem hiu) hv _ ((hf i hi).2.2 _ (List.getElem?_eq_getElem hiu))
theorem whole_ok {t:TypeId} {xs:List V} {i g p:Nat} {Kv:V→Prop} (hb:aggB P t=true) (hat:At w F ρ (getC xs i) g p) (h:wholeC (szOf P t) xs[i]? False Kv) :
  ∃ v c m,((∀ j,j < m→∃ u,getC xs i (0+j)=some u)∧∀ w',(∀ j,j < m→clOf w' g (p+0+j)=clOf w g (p+0+j))→(loadVar t ⟨g,p+0,none⟩).run P w' = .ok c w')∧VR (clOf w) F ρ v c∧Kv v:=by
 unfold wholeC asAgg at h
 split at h
 rotate_left
 ·exact h.elim
 rename_i us hi
 split at h
 rotate_left
 ·exact h.elim
 rename_i hl
 have hu:∃ d,P.underlying t=some d:=by
  unfold aggB at hb
  split at hb <;> first | exact ⟨_,by assumption⟩ | cases hb
 obtain ⟨d,hd⟩:=hu
 have hget:∀ j,getC xs i j=us[j]?:=fun j=>by unfold getC; rw [hi]; rfl
 have hcell:∀ j,∃ c,j < szOf P t→clOf w g (p+0+j)=some c∧okC c=true∧∀ u,us[j]? = some u→VR (clOf w) F ρ u c:=by
  intro j
  by_cases hj:j < szOf P t
  ·have hju:j < us.length:=by rw [hl.1]; exact hj
   obtain ⟨c,h1,h2,h3⟩:=hat j us[j] ((hget j).trans (List.getElem?_eq_getElem hju))
   refine ⟨c,fun _=>⟨by rw [Nat.add_zero]; exact h1,h2,fun u hu'=>?_⟩⟩
   rw [List.getElem?_eq_getElem hju] at hu'; cases hu'; exact h3
  ·exact ⟨default,fun h=>absurd h hj⟩
 let f:Nat→Value:=fun j=>Classical.choose (hcell j)
 have hf:∀ j,j < szOf P t→clOf w g (p+0+j)=some (f j)∧okC (f j)=true∧∀ u,us[j]? = some u→VR (clOf w) F ρ u (f j):=fun j hj=>Classical.choose_spec (hcell j) hj
 refine ⟨.ag us,.agg ((List.range (szOf P t)).map f).toArray,szOf P t,⟨fun j hj=>⟨_,(by rw [Nat.zero_add]; exact (hget j).trans (List.getElem?_eq_getElem (by rw [hl.1]; exact hj)))⟩,fun w' hw'=>?_⟩,.ag (by simp [hl.1]) (fun i v c hv hc=>?_),h⟩
 ·have:=run_loadCells (P:=P) w' ⟨g,p+0,none⟩ (szOf P t) f (fun j hj=>by rw [add_lit]; exact (hw' j hj).trans (hf j hj).1)
  rw [Nat.add_zero] at this
  simp [loadVar,isAgg_run hd,hb,sizeOf_run hd,this]
 ·obtain ⟨hi',e⟩:=rangeMap hc
  subst e
  have h1:=List.all_eq_true.1 hl.2 v (List.mem_of_getElem? hv)
  have h2:=(hf _ hi').2.2 _ hv
  cases v <;> simp [isC] at h1
  cases h2
  exact ⟨rfl,(hf _ hi').2.1⟩
theorem run_load' {t:TypeId} {x:Operand} {ad:Addr} {c:Value} (ho:o.op = .load t x) (hx:a.eval x = .pointer (some ad)) (h:(loadVar t ad).run P w = .ok c w) :
  (execOp a.eval o).run P w = .ok (.value c) w:=by
 simp [execOp,ho,hx,Instr.loadAt,Instr.sureAddr,h]
theorem At.cells (hR:RelF B n F ρ s a w) {k:Nat} {kds:List Kd} {cs:List V} (hk:look k s.hp=some (.cells kds cs)):At w F ρ (fun j=>cs[j]?) (ρ k).blk 0:=by
 intro j u hu
 obtain ⟨c,h1,h2,h3⟩:=hR.hr.sr k _ hk j u hu
 exact ⟨c,by rw [Nat.zero_add]; exact h1,h2,h3⟩
theorem getC_inv {xs:List V} {i j:Nat} {u:V} (h:getC xs i j=some u):∃ x,xs[i]? = some x∧x.cells[j]? = some u:=by
 unfold getC at h
 split at h
 ·exact ⟨_,by assumption,h⟩
 ·cases h
theorem At.arr (hR:RelF B n F ρ s a w) {k es ver i:Nat} {xs:List V} {own frz:Bool} (hk:look k s.hp=some (.arr es xs own frz ver)) :
  At w F ρ (getC xs i) (ρ k).ablk ((ρ k).base+i * es):=by
 intro j u hu
 obtain ⟨h1,h2,h3,h4,h5,h6,h7⟩:=hR.hr.sr k _ hk
 obtain ⟨x,hx,hxu⟩:=getC_inv hu
 have hj:j < es:=by rw [← (h5 i x hx).1]; exact (List.getElem?_eq_some_iff.1 hxu).1
 obtain ⟨c,a1,a2,a3,a4⟩:=h6 i x j hx hj
 exact ⟨c,a1,a2,a3 u hxu⟩
def RdOk (C:CL) (P:Program) (n:Nat) (gives:FuncId→Bool) (F:Fz) (ρ:Rho) (s:S) (o:Oper) (a:Act) (w:World) (K:S→Prop) (tk:List Nat):Prop :=
 ∃ (v:V) (c:Value) (RC:Nat→Nat→Prop),fin (envP P n gives C) o s v K∧(∀ w',(∀ g p,RC g p→clOf w' g p=clOf w g p)→(execOp a.eval o).run P w' = .ok (.value c) w')∧VR (clOf w) F ρ v c ∧
  ∀ g p,RC g p→F g p∨∃ k∈tk,∃ x,look k s.hp=some x∧owns ρ k x g p
theorem PurOk.rd {tk:List Nat} (h:PurOk C P n gives F ρ s o a w K):RdOk C P n gives F ρ s o a w K tk :=
 let ⟨v,c,hk,hrun,hv⟩:=h
 ⟨v,c,fun _ _=>False,hk,fun w' _=>hrun w',hv,fun _ _ h=>h.elim⟩
theorem RdOk.ok {tk:List Nat} (h:RdOk C P n gives F ρ s o a w K tk) (hr:RelF B n F ρ s a w):OpOk P B n F ρ s T o a w K :=
 let ⟨_,_,_,hk,hrun,hv,_⟩:=h
 okVal hk (hrun w fun _ _ _=>rfl) hr hv
theorem op_load {t:TypeId} {x:Operand} (ho:o.op = .load t x) (hR:RelF B n F ρ s a w)
  (hk:loadC (envP P n gives C) t (s.ev x) s fun v=>fin (envP P n gives C) o s v K):RdOk C P n gives F ρ s o a w K (pkey (s.ev x)):=by
 have he:=hR.ev x
 generalize hc:a.eval x=c at he
 unfold loadC at hk
 split at hk
 ·rename_i k off hx
  rw [hx] at he ⊢
  cases he
  split at hk
  ·rename_i kds cs hl
   obtain ⟨v,c,m,⟨h0,h1⟩,h2,h3⟩:=load_ok givesM (At.cells hR hl) hk
   rw [Nat.zero_add] at h1
   refine ⟨v,c,fun g p=>g=(ρ k).blk∧∃ j,j < m∧p=off+j,h3,fun w' hw'=>run_load' ho hc (h1 w' fun j hj=>hw' _ _ ⟨rfl,j,hj,rfl⟩),h2,fun g p ⟨e,j,hj,ep⟩=>.inr ⟨k,.head _,_,hl,e,?_⟩⟩
   obtain ⟨u,hu⟩:=h0 j hj
   rw [ep]; exact (List.getElem?_eq_some_iff.1 hu).1
  ·exact hk.elim
 ·rename_i k v i off hx
  rw [hx] at he ⊢
  cases he with
  | pe hv h =>
   rename_i ad
   split at hk
   ·rename_i es xs own frz ver hl
    cases hb:Nat.beq v ver
    ·rw [hb] at hk; exact hk.elim
    ·rw [hb] at hk
     simp only [cond_true] at hk
     have hvv:=Nat.eq_of_beq_eq_true hb
     obtain ⟨b1,b2,b3,b4,b5,b6,b7⟩:=hR.hr.sr k _ hl
     have hk':∃ v c m,((∀ j,j < m→∃ u,getC xs i (off+j)=some u)∧∀ w',(∀ j,j < m→clOf w' (ρ k).ablk ((ρ k).base+i * es+off+j)=clOf w (ρ k).ablk ((ρ k).base+i * es+off+j)) →
       (loadVar t ⟨(ρ k).ablk,(ρ k).base+i * es+off,none⟩).run P w' = .ok c w')∧VR (clOf w) F ρ v c∧fin (envP P n gives C) o s v K:=by
      cases hb':Nat.blt 32 (szOf P t) && aggB P t && Nat.beq off 0
      ·have e':(Nat.blt 32 (szOf (envP P n gives C).P t) && aggB (envP P n gives C).P t && Nat.beq off 0)=false:=hb'
       rw [e'] at hk
       exact load_ok givesP (At.arr (i:=i) hR hl) hk
      ·have e':(Nat.blt 32 (szOf (envP P n gives C).P t) && aggB (envP P n gives C).P t && Nat.beq off 0)=true:=hb'
       rw [e'] at hk
       simp only [Bool.and_eq_true,Nat.beq_eq] at hb'
       obtain ⟨⟨_,hagg⟩,rfl⟩:=hb'
       exact whole_ok hagg (At.arr (i:=i) hR hl) hk
     obtain ⟨v',c,m,⟨h0,h1⟩,h2,h3⟩:=hk'
     refine ⟨v',c,fun g p=>g=(ρ k).ablk∧∃ j,j < m∧p=(ρ k).base+i * es+off+j,h3,fun w' hw'=>run_load' ho hc ?_,h2,fun g p ⟨e,j,hj,ep⟩=>?_⟩
     ·rw [h (by omega),b1]; exact h1 w' fun j hj=>hw' _ _ ⟨rfl,j,hj,rfl⟩
     ·obtain ⟨u,hu⟩:=h0 j hj
      obtain ⟨x,hx1,hx2⟩:=getC_inv hu
      have hlt:off+j < es:=by rw [← (b5 i x hx1).1]; exact (List.getElem?_eq_some_iff.1 hx2).1
      have hi:i < xs.length:=(List.getElem?_eq_some_iff.1 hx1).1
      have hmul:i * es+es≤xs.length * es:=by rw [← Nat.succ_mul]; exact Nat.mul_le_mul_right _ hi
      subst e; subst ep
      cases frz with
      | true =>
       obtain ⟨c',_,_,_,c4⟩:=b6 i x (off+j) hx1 hlt
       exact .inl (by rw [Nat.add_assoc]; exact c4 rfl)
      | false=>exact .inr ⟨k,.head _,_,hl,rfl,by omega,.inl ⟨rfl,by omega⟩⟩
   ·rename_i xs hl
    cases hb:Nat.beq off 0 && Nat.beq v 0
    ·rw [hb] at hk; exact hk.elim
    ·rw [hb] at hk
     simp only [cond_true] at hk
     obtain ⟨b1,b2,b3,b4,b5,b6⟩:=hR.hr.sr k _ hl
     simp only [Bool.and_eq_true] at hb
     have hoff:=Nat.eq_of_beq_eq_true hb.1
     have hv0:=Nat.eq_of_beq_eq_true hb.2
     have hat:At w F ρ (fun j=>bif Nat.beq j 0 then xs[i]? else none) (ρ k).ablk i:=by
      intro j u hu
      cases j with
      | zero=>exact b6 i u hu
      | succ j=>simp [Nat.beq] at hu
     obtain ⟨v',c,m,⟨h0,h1⟩,h2,h3⟩:=load_ok givesM hat hk
     refine ⟨v',c,fun g p=>g=(ρ k).ablk∧∃ j,j < m∧p=i+0+j,h3,fun w' hw'=>run_load' ho hc ?_,h2,fun g p ⟨e,j,hj,ep⟩=>?_⟩
     ·rw [h (by omega),b1,b4,hoff]
      have h1':(loadVar t ⟨(ρ k).ablk,i+0,none⟩).run P w' = .ok c w':=h1 w' fun j hj=>hw' _ _ ⟨rfl,j,hj,rfl⟩
      simpa using h1'
     ·obtain ⟨u,hu⟩:=h0 j hj
      have hj0:j=0:=by
       cases j with
       | zero=>rfl
       | succ j=>simp [Nat.beq] at hu
      subst hj0
      have hu':xs[i]? = some u:=hu
      exact .inr ⟨k,.head _,_,hl,e,by rw [ep]; exact (List.getElem?_eq_some_iff.1 hu').1⟩
   ·exact hk.elim
 ·rename_i xs i off hx
  rw [hx] at he ⊢
  cases he with
  | ep cf hw hF hv =>
   rename_i g p
   have hat:At w F ρ (getC xs i) g p:=by
    intro j u hu
    obtain ⟨x,h1,h2⟩:=getC_inv hu
    exact ⟨cf j,(hF x j u h1 h2).2.1,(hF x j u h1 h2).2.2,hv x j u h1 h2⟩
   obtain ⟨v',c,m,⟨h0,h1⟩,h2,h3⟩:=load_ok givesP hat hk
   refine ⟨v',c,fun g' p'=>g'=g∧∃ j,j < m∧p'=p+off+j,h3,fun w' hw'=>run_load' ho hc (h1 w' fun j hj=>hw' _ _ ⟨rfl,j,hj,rfl⟩),h2,fun g' p' ⟨e,j,hj,ep⟩=>?_⟩
   obtain ⟨u,hu⟩:=h0 j hj
   obtain ⟨x,hx1,hx2⟩:=getC_inv hu
   rw [e,ep,Nat.add_assoc]
   exact .inl (hF x _ u hx1 hx2).1
 ·exact hk.elim
theorem setL_length:∀ (vs cs:List V) (off:Nat),(setL cs off vs).length=cs.length
 | [],cs,off=>rfl
 | v :: r,cs,off=>by rw [setL,setL_length r]; simp
theorem setL_get:∀ (vs cs:List V) (off i:Nat),off+vs.length≤cs.length→(setL cs off vs)[i]? = if off≤i∧i < off+vs.length then vs[i - off]? else cs[i]?
 | [],cs,off,i,h=>by simp [setL]; omega
 | v :: r,cs,off,i,h=>by
  rw [setL,setL_get r _ _ _ (by simp at h ⊢; omega),List.getElem?_set]
  simp only [List.length_cons] at h ⊢
  by_cases h1:off=i
  ·subst h1
   have:off < cs.length:=by omega
   simp [this]; omega
  ·by_cases h2:off+1≤i∧i < off+1+r.length
   ·rw [if_pos h2,if_pos (by omega),show i - off=(i - (off+1))+1 by omega,List.getElem?_cons_succ]
   ·rw [if_neg h2,if_neg h1,if_neg (by omega)]
theorem okCells_mem {cs:List V}:okCells cs=true↔∀ v∈cs,okCell v=true:=by
 induction cs with
 | nil=>simp [okCells]
 | cons v r ih=>simp [okCells,ih]
theorem okCell_ok {cl:Cl} {v:V} {c:Value} (h:okCell v=true) (hv:VR cl F ρ v c):okC c=true:=by
 cases hv <;> first | assumption | rfl | (simp [okCell] at h)
theorem cells_one {c:Value} (h:okC c=true):c.cells = #[c]:=by cases c <;> first | rfl | (simp [okC,Value.oneCell'] at h)
theorem cells_rel {cl:Cl} {v:V} {c:Value} (h:okCells v.cells=true) (hv:VR cl F ρ v c):c.cells.size=v.cells.length ∧
  ∀ (i:Nat) (d:Value),c.cells[i]? = some d→okC d=true∧∀ u,v.cells[i]? = some u→VR cl F ρ u d:=by
 have one:v.cells=[v]→c.cells.size=v.cells.length∧∀ (i:Nat) (d:Value),c.cells[i]? = some d→okC d=true∧∀ u,v.cells[i]? = some u→VR cl F ρ u d:=by
  intro e
  rw [e] at h ⊢
  have hok:okC c=true:=okCell_ok (okCells_mem.1 h v (by simp)) hv
  rw [cells_one hok]
  refine ⟨rfl,fun i d hd=>?_⟩
  cases i with
  | zero=>simp at hd; subst hd; exact ⟨hok,fun u hu=>by simp at hu; subst hu; exact hv⟩
  | succ i=>simp at hd
 cases v with
 | agg cs =>
  cases hv with
  | agg hn hk h' =>
   rename_i vs
   refine ⟨hn.symm,fun i d hd=>⟨hk i d hd,fun u hu=>h' i u d hu hd⟩⟩
 | _=>exact one rfl
theorem setCells_size (b:Nat):∀ (vs:List Value) (p:Nat) (w:World),(w.setCells b p vs).heap.size=w.heap.size
 | [],_,_=>rfl
 | v :: r,p,w=>by rw [World.setCells,setCells_size b r]; simp
theorem setCell_heap (w:World) (b p g:Nat) (v:Value) (h:g≠b):(w.setCell ⟨b,p,none⟩ v).heap[g]? = w.heap[g]?:=by
 simp [World.setCell,Array.getElem?_modify,Ne.symm h]
theorem setCells_heap (b g:Nat) (h:g≠b):∀ (vs:List Value) (p:Nat) (w:World),(w.setCells b p vs).heap[g]? = w.heap[g]?
 | [],_,_=>rfl
 | v :: r,p,w=>by rw [World.setCells,setCells_heap b g h r,setCell_heap _ _ _ _ _ h]
theorem setCells_out (b g q:Nat) (vs:List Value) (p:Nat) (w:World) (h:g=b→q < p∨p+vs.length≤q):clOf (w.setCells b p vs) g q=clOf w g q :=
 World.cell?_setCells_out b vs p w ⟨g,q,none⟩ (fun h1 _=>h h1)
theorem setCells_in (b:Nat) (vs:List Value) (p:Nat) (w:World) (h:∀ j,j < vs.length→(clOf w b (p+j)).isSome=true) (j:Nat) (v:Value) (hv:vs[j]? = some v) :
  clOf (w.setCells b p vs) b (p+j)=some v:=by
 obtain ⟨hj,e⟩:=List.getElem?_eq_some_iff.1 hv
 rw [← e]; exact World.cell?_setCells_in b vs p w h j hj
theorem upd_self (ρ:Rho) (k:Nat):upd ρ k (ρ k)=ρ:=by funext j; simp only [upd]; split <;> simp_all
theorem run_store' {t:TypeId} {x y:Operand} {b p:Nat} {c:Value} (ho:o.op = .store t x y) (hx:a.eval x = .pointer (some ⟨b,p,none⟩)) (hy:a.eval y=c)
  (hz:szOf P t≠0) (hs:c.cells.size=szOf P t) (hc:∀ j,j < c.cells.size→(clOf w b (p+j)).isSome=true) (hf:∀ j,j < c.cells.size→w.frozen? ⟨b,p+j,none⟩=false)
  (h1:∀ v∈c.cells.toList,v.oneCell'=true):(execOp a.eval o).run P w = .ok .skip (w.setCells b p c.cells.toList):=by
 have:=run_storeCells_cells (P:=P) b p c.cells.toList 0 w (by simpa [clOf] using hc) (by simpa using hf) h1
 simp only [Nat.add_zero] at this
 simp only [execOp,ho,hx,hy,Instr.storeAt,Instr.sureAddr,storeVar,Sem.run_bind,Sem.run_pure,Result.andThen_ok,run_sizeOf' hz,hs,ne_eq,not_true_eq_false,if_false,this]
theorem op_storePtr {t:TypeId} {x y:Operand} {k off:Nat} {kds:List Kd} {cs:List V} (ho:o.op = .store t x y) (hR:RelF B n F ρ s a w) (hd:o.dst=none)
  (hx:s.ev x = .ptr k off) (hl:look k s.hp=some (.cells kds cs)) (hsz:(s.ev y).cells.length=szOf P t) (hz:szOf P t≠0) (hok:okCells (s.ev y).cells=true)
  (hoff:off+(s.ev y).cells.length≤cs.length) (hT:T k) (hk:K (s.upd k (.cells kds (setL cs off (s.ev y).cells)))):OpOk P B n F ρ s T o a w K:=by
 have he:=hR.ev x
 rw [hx] at he
 generalize hc:a.eval x=c at he
 cases he
 obtain ⟨d1,d2⟩:=cells_rel hok (hR.ev y)
 generalize hu:s.ev y=u at *
 generalize hcy:a.eval y=cy at *
 have hsr:=hR.hr.sr k _ hl
 have hcell:∀ j,j < cy.cells.size→(clOf w (ρ k).blk (off+j)).isSome=true:=fun j hj=>by
  have hj':off+j < cs.length:=by omega
  obtain ⟨c,h1,_⟩:=hsr (off+j) _ (List.getElem?_eq_getElem hj')
  rw [h1]; rfl
 have hown:∀ q,q < cs.length→owns ρ k (.cells kds cs) (ρ k).blk q:=fun q hq=>⟨rfl,hq⟩
 have hrun:=run_store' (P:=P) ho hc hcy hz (d1.trans hsz) hcell (fun j hj=>(hR.hr.free k _ _ _ hl (hown (off+j) (by omega))).2.1)
  (fun v hv=>by
   obtain ⟨i,hi⟩:=List.getElem?_of_mem hv
   rw [Array.getElem?_toList] at hi
   exact (d2 i v hi).1)
 have hlen:cy.cells.toList.length=u.cells.length:=by simpa using d1
 have hsame:∀ g q,¬ owns ρ k (.cells kds cs) g q→clOf (w.setCells (ρ k).blk off cy.cells.toList) g q=clOf w g q:=fun g q hno=>by
  refine setCells_out _ _ _ _ _ _ fun e=>?_
  subst e
  by_cases hq:q < cs.length
  ·exact absurd (hown q hq) hno
  ·omega
 refine okSkip (F':=F) (ρ':=upd ρ k (ρ k)) hd hk hrun ?_ (.turn hT hl (fun _ _ h=>h) (Nat.le_of_eq (setCells_size _ _ _ _).symm) fun g q _ hno=>hsame g q hno)
 refine hR.turn hl _ (ρ k) F _ w.heap.size (agree.refl _) (setCells_size _ _ _ _) hsame
  ⟨setCells_wd _ _ _ _,fun g q=>World.frozen?_setCells _ _ _ _ _⟩ (fun g hno=>setCells_heap _ _ (fun e=>?_) _ _ _) hR.fr.size (fun q hf=>Nat.lt_irrefl _ (hR.hr.fin _ _ hf))
  (fun j y' q hy' ho'=>Nat.lt_irrefl _ (hR.hr.free j y' _ q hy' ho').2.2) (fun _ _ h=>h) (fun _ _ h=>.inl h) ?_ (fun g q ho'=>?_)
 ·subst e; exact hno 0 (hown 0 (by omega))
 ·rw [upd_self]
  intro i v hv
  rw [setL_get _ _ _ _ hoff] at hv
  by_cases hi:off≤i∧i < off+u.cells.length
  ·rw [if_pos hi] at hv
   have hlt:i - off < cy.cells.size:=by omega
   obtain ⟨e1,e2⟩:=d2 (i - off) cy.cells[i - off] (Array.getElem?_eq_getElem hlt)
   refine ⟨cy.cells[i - off],?_,e1,?_⟩
   ·have:=setCells_in (ρ k).blk cy.cells.toList off w (by simpa using hcell) (i - off) cy.cells[i - off] (by simp [hlt])
    rwa [show off+(i - off)=i by omega] at this
   ·refine (e2 v hv).mono (fun _ _ h=>h) (fun g q c' hf hc'=>?_) (fun _ _=>agree.refl _)
    rw [setCells_out]; exact hc'
    intro e
    by_cases hq:q < cs.length
    ·subst e; exact absurd hf (hR.hr.free k _ _ _ hl (hown q hq)).1
    ·omega
  ·rw [if_neg hi] at hv
   obtain ⟨c',h1,h2,h3⟩:=hsr i v hv
   refine ⟨c',?_,h2,h3.mono (fun _ _ h=>h) (fun g q c'' hf hc'=>?_) (fun _ _=>agree.refl _)⟩
   ·rw [setCells_out]; exact h1
    intro _; omega
   ·rw [setCells_out]; exact hc'
    intro e
    by_cases hq:q < cs.length
    ·subst e; exact absurd hf (hR.hr.free k _ _ _ hl (hown q hq)).1
    ·omega
 ·rw [upd_self] at ho'
  have ho'':owns ρ k (.cells kds cs) g q:=by
   simp only [owns,setL_length] at ho' ⊢; exact ho'
  exact ⟨(hR.hr.free k _ _ _ hl ho'').1,.inl ho''⟩
end
end Go.Proofs.YtdjldmolhkkipaaGreatDoor.Eng
end
section
set_option linter.unusedVariables false
set_option linter.unusedSimpArgs false
namespace Go.Proofs.YtdjldmolhkkipaaGreatDoor.Eng
open Go
section
variable {P:Program} {gives:FuncId→Bool} {C:CL}
variable {B:Base} {n:Nat} {F:Fz} {ρ:Rho} {s:S} {a:Act} {w:World} {o:Oper} {K:S→Prop} {T:Nat→Prop}
structure Row (w:World) (F:Fz) (ρ:Rho) (es:Nat) (xs:List V) (g p:Nat) (frz:Bool):Prop where
 wid:∀ (i:Nat) (x:V),xs[i]? = some x→x.cells.length=es∧flat x=true
 cell:∀ (i:Nat) (x:V) (j:Nat),xs[i]? = some x→j < es→∃ c,clOf w g (p+i * es+j)=some c∧okC c=true ∧
  (∀ (y:V),x.cells[j]? = some y→VR (clOf w) F ρ y c)∧(frz=true→F g (p+i * es+j))
theorem Row.cut {es:Nat} {xs:List V} {g p:Nat} {frz:Bool} (h:Row w F ρ es xs g p frz) (off len:Nat):Row w F ρ es (cutL xs off len) g (p+off * es) frz:=by
 have get:∀ (i:Nat) (x:V),(cutL xs off len)[i]? = some x→xs[off+i]? = some x:=fun i x hx=>by
  unfold cutL at hx
  rw [List.getElem?_take] at hx
  split at hx
  ·rwa [List.getElem?_drop] at hx
  ·cases hx
 refine ⟨fun i x hx=>h.wid _ x (get i x hx),fun i x j hx hj=>?_⟩
 have:=h.cell _ x j (get i x hx) hj
 rwa [show p+off * es+i * es+j=p+(off+i) * es+j by rw [Nat.add_mul]; omega]
theorem HR.row {k es ver:Nat} {xs:List V} {own frz:Bool} {hp:List (Nat×Slot)} (h:HR w F ρ hp) (hl:look k hp=some (.arr es xs own frz ver)) :
  Row w F ρ es xs (ρ k).ablk (ρ k).base frz∧(ρ k).es=es∧(ρ k).len=xs.length∧(ρ k).ver=ver∧xs.length≤(ρ k).cap:=by
 obtain ⟨h1,h2,h3,h4,h5,h6,h7⟩:=h.sr k _ hl
 exact ⟨⟨h5,h6⟩,h1,h2,h3,h4⟩
def frzV (hp:List (Nat×Slot)):V→Bool
 | .sl _ _ _=>true
 | .sla k _=>match look k hp with | some (.arr _ _ _ f _)=>f | _=>false
 | .slm k _ _ _=>match look k hp with | some (.arr _ _ _ f _)=>f | _=>false
 | _=>false
theorem cutL_length {xs:List V} {off len:Nat} (h:off+len≤xs.length):(cutL xs off len).length=len:=by
 simp [cutL]; omega
theorem row_of {hp:List (Nat×Slot)} (hh:HR w F ρ hp) {tm:List (Nat×V)} {v:V} {c:Value} {xs:List V} (hv:VR (clOf w) F ρ v c) (hc:content ⟨tm,hp⟩ v=some xs) :
  ∃ ad cap g p,c = .slice ad xs.length cap∧xs.length≤cap∧(cap=0∨ad=some ⟨g,p,none⟩)∧Row w F ρ (esV hp v) xs g p (frzV hp v):=by
 unfold content at hc
 split at hc
 ·rename_i es fl ys
  cases hc
  cases hv with
  | sl cf hn hcap hf ha hw hF hvv =>
   rename_i ad m cap g p
   subst hn
   exact ⟨ad,cap,g,p,rfl,hcap,ha,hw,fun i x j hx hj=>⟨cf i j,(hF i x j hx hj).2.1,(hF i x j hx hj).2.2,fun y hy=>hvv i x j y hx hy,fun _=>(hF i x j hx hj).1⟩⟩
 ·rename_i k v
  split at hc
  ·rename_i es ys own frz ver hl
   cases hb:Nat.beq v ver
   ·rw [hb] at hc; cases hc
   ·rw [hb] at hc; cases hc
    obtain ⟨r,h1,h2,h3,h4⟩:=hh.row hl
    have:=Nat.eq_of_beq_eq_true hb
    cases hv with
    | sla hv h =>
     rename_i m cap ad
     obtain ⟨b1,b2,b3⟩:=h (by omega)
     simp only [esV,esOf,frzV,show look k hp=some (.arr es xs own frz ver) from hl]
     exact ⟨ad,cap,_,_,by rw [b1,h2],by omega,b3,r⟩
  ·cases hc
 ·rename_i k off len v
  split at hc
  ·rename_i es ys own frz ver hl
   cases hb:Nat.beq v ver
   ·rw [hb] at hc; cases hc
   ·rw [hb] at hc; cases hc
    obtain ⟨r,h1,h2,h3,h4⟩:=hh.row hl
    have:=Nat.eq_of_beq_eq_true hb
    cases hv with
    | slm hv h =>
     rename_i m cap ad
     obtain ⟨b1,b2,b3,b4⟩:=h (by omega)
     simp only [esV,esOf,frzV,show look k hp=some (.arr es ys own frz ver) from hl]
     refine ⟨ad,cap,_,_,by rw [cutL_length (by omega),b1],by rw [cutL_length (by omega)]; omega,b4,?_⟩
     rw [h1]; exact r.cut off len
  ·cases hc
 ·cases hc
theorem sl_of_row {es:Nat} {fl:Bool} {xs:List V} {g p cap:Nat} {ad:Option Addr} (hr:Row w F ρ es xs g p true) (hc:xs.length≤cap) (ha:cap=0∨ad=some ⟨g,p,none⟩) (hfl:fl=true→cap=xs.length) :
  VR (clOf w) F ρ (.sl es fl xs) (.slice ad xs.length cap):=by
 have hcell:∀ i j,∃ c,∀ x,xs[i]? = some x→j < es→clOf w g (p+i * es+j)=some c∧okC c=true∧(∀ (y:V),x.cells[j]? = some y→VR (clOf w) F ρ y c)∧F g (p+i * es+j):=by
  intro i j
  by_cases h:i < xs.length∧j < es
  ·obtain ⟨c,h1,h2,h3,h4⟩:=hr.cell i xs[i] j (List.getElem?_eq_getElem h.1) h.2
   refine ⟨c,fun x hx _=>?_⟩
   rw [List.getElem?_eq_getElem h.1] at hx; cases hx
   exact ⟨h1,h2,h3,h4 rfl⟩
  ·exact ⟨default,fun x hx hj=>absurd ⟨(List.getElem?_eq_some_iff.1 hx).1,hj⟩ h⟩
 let cf:Nat→Nat→Value:=fun i j=>Classical.choose (hcell i j)
 have hcf:=fun i j=>Classical.choose_spec (hcell i j)
 refine .sl cf rfl hc hfl ha hr.wid (fun i x j hx hj=>?_) (fun i x j y hx hy=>?_)
 ·obtain ⟨h1,h2,h3,h4⟩:=hcf i j x hx hj
  exact ⟨h4,h1,h2⟩
 ·have hj:j < es:=by rw [← (hr.wid i x hx).1]; exact (List.getElem?_eq_some_iff.1 hy).1
  exact (hcf i j x hx hj).2.2.1 y hy
theorem handV_sl {hp:List (Nat×Slot)} (hh:HR w F ρ hp) {v:V} {c:Value} {xs:List V} (hv:VR (clOf w) F ρ v c) (hc:content ⟨[],hp⟩ v=some xs) (hf:frzV hp v=true) :
  VR (clOf w) F ρ (.sl (esV hp v) false xs) c:=by
 obtain ⟨ad,cap,g,p,rfl,h1,h2,h3⟩:=row_of hh hv hc
 rw [hf] at h3
 exact sl_of_row h3 h1 h2 (fun h=>by cases h)
theorem RelF.freeze {k es ver:Nat} {xs:List V} {own frz:Bool} (h:RelF B n F ρ s a w) (hl:look k s.hp=some (.arr es xs own frz ver)) :
  ∃ F',RelF B n F' ρ (s.upd k (.arr es xs own true ver)) a w∧(∀ g p,F g p→F' g p):=by
 obtain ⟨h1,h2,h3,h4,h5,h6,h7⟩:=h.hr.sr k _ hl
 let F':Fz:=fun g p=>F g p∨(g=(ρ k).ablk∧(ρ k).base≤p∧p < (ρ k).base+xs.length * es)
 refine ⟨F',?_,fun g p hf=>.inl hf⟩
 have hFk:∀ g p,(g=(ρ k).ablk∧(ρ k).base≤p∧p < (ρ k).base+xs.length * es)→F g p∨owns ρ k (.arr es xs own frz ver) g p:=by
  rintro g p ⟨rfl,hp1,hp2⟩
  cases hfz:frz
  ·exact .inr ⟨rfl,hp1,.inl ⟨rfl,hp2⟩⟩
  ·have he:0 < es:=by
    rcases Nat.eq_zero_or_pos es with e | e
    ·subst e; omega
    ·exact e
   have hi:(p - (ρ k).base) / es < xs.length:=Nat.div_lt_of_lt_mul (by rw [Nat.mul_comm]; omega)
   obtain ⟨c,a1,a2,a3,a4⟩:=h6 _ _ _ (List.getElem?_eq_getElem hi) (Nat.mod_lt (p - (ρ k).base) he)
   have e:(ρ k).base+(p - (ρ k).base) / es * es+(p - (ρ k).base) % es=p:=by
    have:=Nat.div_add_mod (p - (ρ k).base) es
    rw [Nat.mul_comm] at this; omega
   rw [e] at a4
   exact .inl (a4 hfz)
 have:=h.turn hl (.arr es xs own true ver) (ρ k) F' w w.heap.size (agree.refl _) rfl (fun _ _ _=>rfl) ⟨.refl _,fun _ _=>rfl⟩ (fun _ _=>rfl)
  h.fr.size (fun q hf=>Nat.lt_irrefl _ (h.hr.fin _ _ hf)) (fun j y q hy ho=>Nat.lt_irrefl _ (h.hr.free j y _ q hy ho).2.2)
  (fun g p hf=>.inl hf) (fun g p hf=>by
   rcases hf with hf | hf
   ·exact .inl hf
   ·rcases hFk g p hf with hf | hf
    ·exact .inl hf
    ·exact .inr (.inl hf))
  (by
   rw [upd_self]
   refine ⟨h1,h2,h3,h4,h5,fun i x j hx hj=>?_,h7⟩
   obtain ⟨c,a1,a2,a3,a4⟩:=h6 i x j hx hj
   refine ⟨c,a1,a2,fun y hy=>(a3 y hy).mono (fun _ _ h=>.inl h) (fun _ _ _ _ h=>h) (fun _ _=>agree.refl _),fun _=>.inr ⟨rfl,by omega,?_⟩⟩
   have:=idx_lt (List.getElem?_eq_some_iff.1 hx).1 hj
   omega)
  (fun g p ho=>by
   rw [upd_self] at ho
   obtain ⟨rfl,hp1,hp2 | ⟨hp2,hp3,hp4⟩⟩:=ho
   ·cases hp2.1
   ·have ho':owns ρ k (.arr es xs own frz ver) (ρ k).ablk p:=⟨rfl,hp1,.inr ⟨hp2,hp3,hp4⟩⟩
    refine ⟨fun hf=>?_,.inl ho'⟩
    rcases hf with hf | ⟨_,_,hf⟩
    ·exact (h.hr.free k _ _ _ hl ho').1 hf
    ·omega)
 rwa [upd_self] at this
theorem RelF.freeze1 (h:RelF B n F ρ s a w) (k:Nat):∃ F',RelF B n F' ρ (freeze1 s k) a w∧(∀ g p,F g p→F' g p):=by
 unfold Eng.freeze1
 split
 ·rename_i es xs own frz ver hl
  exact h.freeze hl
 ·exact ⟨F,h,fun _ _ h=>h⟩
theorem RelF.freezeL (ks:List Nat):∀ {F:Fz} {s:S},RelF B n F ρ s a w→∃ F',RelF B n F' ρ (freezeL s ks) a w∧(∀ g p,F g p→F' g p):=by
 induction ks with
 | nil=>intro F s h; exact ⟨F,h,fun _ _ h=>h⟩
 | cons k r ih =>
  intro F s h
  obtain ⟨F1,h1,h2⟩:=h.freeze1 k
  obtain ⟨F2,h3,h4⟩:=ih h1
  exact ⟨F2,h3,fun g p hf=>h4 _ _ (h2 _ _ hf)⟩
theorem freezeL_tm:∀ (ks:List Nat) (s:S),(Eng.freezeL s ks).tm=s.tm
 | [],s=>rfl
 | k :: r,s=>by
  rw [Eng.freezeL,freezeL_tm r]
  unfold Eng.freeze1
  split <;> rfl
def froz (ks:List Nat) (k:Nat):Slot→Slot
 | .arr es xs own frz ver=>.arr es xs own (frz || ks.any (Nat.beq k)) ver
 | x=>x
theorem froz_nil (k:Nat) (x:Slot):froz [] k x=x:=by cases x <;> simp [froz]
theorem look_freezeL:∀ (ks:List Nat) (s:S) (k:Nat),look k (Eng.freezeL s ks).hp=(look k s.hp).map (froz ks k)
 | [],s,k=>by
  rw [Eng.freezeL]
  cases look k s.hp <;> simp [froz_nil]
 | j :: r,s,k=>by
  rw [Eng.freezeL,look_freezeL r]
  unfold Eng.freeze1
  split
  ·rename_i es xs own frz ver hl
   simp only [S.upd,look_ins]
   by_cases e:k=j
   ·subst e
    simp [hl,froz,Nat.beq_refl]
   ·have hb:Nat.beq k j=false:=by
     cases hb:Nat.beq k j
     ·rfl
     ·exact absurd (Nat.eq_of_beq_eq_true hb) e
    simp only [e,if_false]
    congr 1
    funext x
    cases x <;> simp [froz,hb]
  ·rename_i hno
   cases hx:look k s.hp with
   | none=>rfl
   | some x =>
    simp only [Option.map_some,Option.some.injEq]
    cases x with
    | arr es xs own frz ver =>
     have hb:Nat.beq k j=false:=by
      cases hb:Nat.beq k j
      ·rfl
      ·rw [Nat.eq_of_beq_eq_true hb] at hx; exact absurd hx (hno _ _ _ _ _)
     simp [froz,hb]
    | _=>rfl
end
end Go.Proofs.YtdjldmolhkkipaaGreatDoor.Eng
end
section
set_option linter.unusedVariables false
set_option linter.unusedSimpArgs false
namespace Go.Proofs.YtdjldmolhkkipaaGreatDoor.Eng
open Go
section
variable {P:Program} {gives:FuncId→Bool} {C:CL}
variable {B:Base} {n:Nat} {F:Fz} {ρ:Rho} {s:S} {a:Act} {w:World} {o:Oper} {K:S→Prop} {T:Nat→Prop}
theorem RelF.newCells (h:RelF B n F ρ s a w) (k:Nat) (kds:List Kd) (cs:List V) (cv:Array Value) (t:TypeId) (hn:cv.size=cs.length)
  (hr:∀ (i:Nat) (d:Value),cv[i]? = some d→okC d=true∧∀ u,cs[i]? = some u→VR (clOf w) F ρ u d∧k∉keysV u) (hk64:64≤k) :
  RelF B n F (upd ρ k ⟨w.heap.size,0,0,0,0,0,0⟩) (s.bind k (.cells kds cs)) a (w.alloc (.cells cv t)):=by
 refine h.bindNew _ k _ _ ?_ (fun g p ho=>?_) (fun p hp=>?_) hk64
 ·intro i u hu
  have hi:i < cv.size:=by rw [hn]; exact (List.getElem?_eq_some_iff.1 hu).1
  obtain ⟨h1,h2⟩:=hr i cv[i] (Array.getElem?_eq_getElem hi)
  obtain ⟨h3,h4⟩:=h2 u hu
  refine ⟨cv[i],?_,h1,?_⟩
  ·rw [upd_same]
   have:=World.cell?_alloc_new w cv t i
   simp only [clOf,this]
   exact Array.getElem?_eq_getElem hi
  ·refine h3.mono (fun _ _ h=>h) (fun _ _ _ _ hc=>clOf_alloc_some hc) (fun j hj=>?_)
   have:j≠k:=fun e=>h4 (e ▸ hj)
   rw [upd_ne _ _ this]; exact agree.refl _
 ·simp only [owns,upd_same] at ho; exact ho.1
 ·rw [World.frozen?_alloc_new] at hp; cases hp
theorem zeroV_run {t:TypeId} {z:V} (h:zeroV P t=some z):∃ i zv,P.info? t=some i∧i.zero=some zv∧ofVal zv=z∧∀ w,(zeroValue t).run P w = .ok zv w:=by
 unfold zeroV at h
 cases hi:P.info? t with
 | none=>simp [hi] at h
 | some i =>
  cases hz:i.zero with
  | none=>simp [hi,hz] at h
  | some zv =>
   simp [hi,hz] at h
   exact ⟨i,zv,rfl,hz,h,fun w=>by simp [zeroValue,typeInfo,hi,hz]⟩
theorem ofCell_keys (v:Value):keysV (ofCell v)=[]:=by unfold ofCell; split <;> rfl
theorem ofVal_keys (v:Value):∀ u∈(ofVal v).cells,keysV u=[]:=by
 unfold ofVal
 split
 ·rename_i cs
  cases cs.toList.all (fun v=>v.oneCell')
  ·intro u hu; simp [V.cells] at hu; subst hu; rfl
  ·intro u hu
   simp only [cond_true,V.cells,List.mem_map] at hu
   obtain ⟨x,_,rfl⟩:=hu
   exact ofCell_keys x
 ·intro u hu
  rename_i hno
  have:(ofCell v).cells=[ofCell v]:=by unfold ofCell; split <;> rfl
  rw [this] at hu
  simp at hu; subst hu; exact ofCell_keys v
theorem VR.ptrNew {cl:Cl} {k g:Nat}:VR cl F (upd ρ k ⟨g,0,0,0,0,0,0⟩) (.ptr k 0) (.pointer (some ⟨g,0,none⟩)):=by
 have:=VR.ptr (cl:=cl) (F:=F) (ρ:=upd ρ k ⟨g,0,0,0,0,0,0⟩) (k:=k) (off:=0)
 rwa [upd_same] at this
theorem op_alloc {t:TypeId} {z:V} {kds:List Kd} (ho:o.op = .alloc t) (hR:RelF B n F ρ s a w) (hz:zeroV P t=some z) (hok:okCells z.cells=true)
  (hT:TD T o) (hk:fresh (envP P n gives C) o s (.cells kds z.cells) (fun k=>.ptr k 0) K):OpOk P B n F ρ s T o a w K:=by
 obtain ⟨i,zv,h1,h2,h3,h4⟩:=zeroV_run hz
 obtain ⟨d1,d2⟩:=cells_rel (F:=F) (ρ:=ρ) (cl:=clOf w) hok (h3 ▸ VR.ofVal zv)
 refine okFresh (c:=.pointer (some ⟨w.heap.size,0,none⟩)) (l:=⟨w.heap.size,0,0,0,0,0,0⟩) (w':=w.alloc (.cells zv.cells t)) hT hk ?_
  (fun k hkk h64=>hR.newCells k kds z.cells zv.cells t d1 (fun i d hd=>⟨(d2 i d hd).1,fun u hu=>⟨(d2 i d hd).2 u hu,?_⟩⟩) h64) (.alloc _ _) (fun k=>.ptrNew)
 ·simp [execOp,ho,Instr.alloc,h4,newVar,newRow]
 ·rw [← h3] at hu
  rw [ofVal_keys zv u (List.mem_of_getElem? hu)]; simp
theorem op_box {t:TypeId} {x:Operand} {kds:List Kd} (ho:o.op = .box t x) (hR:RelF B n F ρ s a w) (hok:okCells (s.ev x).cells=true)
  (hT:TD T o) (hk:fresh (envP P n gives C) o s (.cells kds (s.ev x).cells) (fun k=>.ptr k 0) K):OpOk P B n F ρ s T o a w K:=by
 obtain ⟨d1,d2⟩:=cells_rel hok (hR.ev x)
 refine okFresh (c:=.pointer (some ⟨w.heap.size,0,none⟩)) (l:=⟨w.heap.size,0,0,0,0,0,0⟩) (w':=w.alloc (.cells (a.eval x).cells t)) hT hk ?_
  (fun k hkk h64=>hR.newCells k kds _ _ t d1 (fun i d hd=>⟨(d2 i d hd).1,fun u hu=>⟨(d2 i d hd).2 u hu,fun hm=>hkk ?_⟩⟩) h64) (.alloc _ _) (fun k=>.ptrNew)
 ·simp [execOp,ho,Instr.box,newVar,newRow]
 ·exact keysC_mem.2 ⟨u,List.mem_of_getElem? hu,hm⟩
theorem op_range {t:TypeId} {x:Operand} {v:ByteArray} (ho:o.op = .range t x) (hR:RelF B n F ρ s a w) (hx:s.ev x = .c (.string v)) (ht:isStr P t=true)
  (hT:TD T o) (hk:fresh (envP P n gives C) o s (.iter v 0) (fun k=>.it k) K):OpOk P B n F ρ s T o a w K:=by
 have he:=hR.ev x
 rw [hx] at he
 refine okFresh (c:=.pointer (some ⟨w.heap.size,0,none⟩)) (l:=⟨w.heap.size,0,0,0,0,0,0⟩) (w':=w.alloc (.stringIter v 0)) hT hk ?_ (fun k hkk h64=>hR.bindNew _ k _ _ ?_ (fun g p ho=>?_) (fun p hp=>?_) h64) (.alloc _ _) (fun k=>?_)
 ·simp [execOp,ho,he.c_inv,Instr.range,run_underlying (isStr_some ht)]
 ·simp only [SR,upd_same]
  exact heap_alloc_new w _
 ·simp only [owns,upd_same] at ho; exact ho
 ·simp only [World.frozen?,show (w.alloc (.stringIter v 0)).heap[w.heap.size]? = some (.stringIter v 0) from heap_alloc_new w _] at hp
  cases hp
 ·have:=VR.it (cl:=clOf (w.alloc (.stringIter v 0))) (F:=F) (ρ:=upd ρ k ⟨w.heap.size,0,0,0,0,0,0⟩) (k:=k)
  rwa [upd_same] at this
theorem RelF.newRow (h:RelF B n F ρ s a w) (k es:Nat) (xs:List V) (cv:Array Value) (t:TypeId) (fr:Nat×Nat) (cap:Nat) (hcap:xs.length≤cap) (hfr:fr.1=fr.2∨cap * es≤fr.1)
  (hsz:cap * es≤cv.size)
  (hw:∀ (i:Nat) (x:V),xs[i]? = some x→x.cells.length=es∧flat x=true)
  (hr:∀ (i:Nat) (x:V) (j:Nat),xs[i]? = some x→j < es→∃ c,cv[i * es+j]? = some c∧okC c=true∧∀ y,x.cells[j]? = some y→VR (clOf w) F ρ y c) (hk64:64≤k) :
  RelF B n F (upd ρ k ⟨0,w.heap.size,0,cap,xs.length,es,0⟩) (s.bind k (.arr es xs true false 0)) a (w.alloc (.cells cv t fr)):=by
 have hcl:∀ p,clOf (w.alloc (.cells cv t fr)) w.heap.size p=cv[p]?:=fun p=>World.cell?_alloc_mark w cv t fr p
 refine h.bindNew _ k _ _ ?_ (fun g p ho=>?_) (fun p hp ho=>?_) hk64
 ·show _∧_
  rw [upd_same]
  refine ⟨rfl,rfl,rfl,hcap,hw,fun i x j hx hj=>?_,fun _ p hp1 hp2=>?_⟩
  ·obtain ⟨c,h1,h2,h3⟩:=hr i x j hx hj
   refine ⟨c,by rw [hcl,Nat.zero_add]; exact h1,h2,fun y hy=>?_,fun h=>by cases h⟩
   exact ((h3 y hy).grow fun _ _ _ hc=>clOf_alloc_some hc).flatρ (flat_cells (hw i x hx).2 hy)
  ·rw [hcl]
   have:p < cv.size:=by
    have h1:p < 0+cap * es:=hp2
    omega
   simp [this]
 ·simp only [owns,upd_same] at ho; exact ho.1
 ·obtain ⟨f1,f2⟩:=fr
  simp only [owns,upd_same] at ho
  rw [World.frozen?_alloc_mark] at hp
  simp only [Bool.and_eq_true,decide_eq_true_eq] at hp
  have:p < cap * es:=by
   rcases ho.2.2 with ⟨_,h1⟩ | ⟨_,_,h1⟩
   ·have:xs.length * es≤cap * es:=Nat.mul_le_mul_right _ hcap
    omega
   ·omega
  rcases hfr with h1 | h1 <;> simp only at h1 <;> omega
theorem VR.slaNew {cl:Cl} {k g m cap es:Nat}:VR cl F (upd ρ k ⟨0,g,0,cap,m,es,0⟩) (.sla k 0) (.slice (some ⟨g,0,none⟩) m cap):=by
 refine .sla (Nat.zero_le _) (fun _=>?_)
 rw [upd_same]
 exact ⟨rfl,rfl,.inr rfl⟩
theorem VR.peNew {cl:Cl} {k g m cap es:Nat}:VR cl F (upd ρ k ⟨0,g,0,cap,m,es,0⟩) (.pe k 0 0 0) (.pointer (some ⟨g,0,none⟩)):=by
 refine .pe (Nat.zero_le _) (fun _=>?_)
 rw [upd_same]
 simp
theorem op_allocArr {t:TypeId} {z:V} (ho:o.op = .alloc t) (hR:RelF B n F ρ s a w) (hz:zeroV P t=some z) (hfl:flat z=true) (hok:okCells z.cells=true)
  (hT:TD T o) (hk:fresh (envP P n gives C) o s (.arr z.cells.length [z] true false 0) (fun k=>.pe k 0 0 0) K):OpOk P B n F ρ s T o a w K:=by
 obtain ⟨i,zv,h1,h2,h3,h4⟩:=zeroV_run hz
 obtain ⟨d1,d2⟩:=cells_rel (F:=F) (ρ:=ρ) (cl:=clOf w) hok (h3 ▸ VR.ofVal zv)
 refine okFresh (c:=.pointer (some ⟨w.heap.size,0,none⟩)) (l:=⟨0,w.heap.size,0,1,1,z.cells.length,0⟩) (w':=w.alloc (.cells zv.cells t (0,0))) hT hk ?_
  (fun k hkk h64=>hR.newRow k z.cells.length [z] zv.cells t (0,0) 1 (Nat.le_refl _) (.inl rfl) (by rw [d1]; omega) (fun i x hx=>?_) (fun i x j hx hj=>?_) h64) (.alloc _ _) (fun k=>.peNew)
 ·simp [execOp,ho,Instr.alloc,h4,newVar,newRow]
 ·cases i with
  | zero=>simp at hx; subst hx; exact ⟨rfl,hfl⟩
  | succ i=>simp at hx
 ·cases i with
  | zero =>
   simp at hx; subst hx
   have hj':j < zv.cells.size:=by rw [d1]; exact hj
   obtain ⟨e1,e2⟩:=d2 j zv.cells[j] (Array.getElem?_eq_getElem hj')
   exact ⟨zv.cells[j],by rw [Nat.zero_mul,Nat.zero_add]; exact Array.getElem?_eq_getElem hj',e1,fun y hy=>e2 y hy⟩
  | succ i=>simp at hx
theorem op_stringBytes {src dst e:TypeId} {x:Operand} {v:ByteArray} (ho:o.op = .convert src dst x) (hR:RelF B n F ρ s a w) (hx:s.ev x = .c (.string v))
  (hs:isStr P src=true) (hd:isSlice P dst=some e) (he:isInt P e .u8=true)
  (hT:TD T o) (hk:fresh (envP P n gives C) o s (.arr 1 (bytesV v) true false 0) (fun k=>.sla k 0) K):OpOk P B n F ρ s T o a w K:=by
 have hex:=hR.ev x
 rw [hx] at hex
 have hlen:(bytesV v).length=v.size:=by simp [bytesV]
 have hcap:=grownCap_ge w v.size 0 e
 have hR':=hR.grow (Grows.drew w)
 refine okFresh (c:=.slice (some ⟨w.heap.size,0,none⟩) v.size (grownCap w v.size 0 e)) (l:=⟨0,w.heap.size,0,grownCap w v.size 0 e,(bytesV v).length,1,0⟩) hT hk ?_
  (fun k hkk h64=>hR'.newRow k 1 (bytesV v) (bytesRow v (grownCap w v.size 0 e)) e ((bytesRow v (grownCap w v.size 0 e)).size,(bytesRow v (grownCap w v.size 0 e)).size+1) (grownCap w v.size 0 e) (by rw [hlen]; exact hcap) (.inr ?_) ?_ (fun i x hx=>?_) (fun i x j hx hj=>?_) h64) ((Grows.drew w).trans (.alloc _ _)) (fun k=>by rw [hlen]; exact .slaNew)
 ·simp [execOp,ho,hex.c_inv,run_bytes_of_string w src dst e v (isStr_some hs) (isSlice_some hd) (isInt_some he)]
 ·simp [bytesRow]; omega
 ·simp [bytesRow]; omega
 ·simp only [bytesV,List.getElem?_map] at hx
  cases hb:v.data.toList[i]? with
  | none=>rw [hb] at hx; cases hx
  | some b=>rw [hb] at hx; cases hx; exact ⟨rfl,rfl⟩
 ·have hj0:j=0:=by omega
  subst hj0
  simp only [bytesV,List.getElem?_map] at hx
  cases hb:v.data.toList[i]? with
  | none=>rw [hb] at hx; cases hx
  | some b =>
   rw [hb] at hx; cases hx
   have hi:i < v.data.size:=by
    have:=(List.getElem?_eq_some_iff.1 hb).1
    simpa using this
   refine ⟨_,by rw [Nat.mul_one,Nat.add_zero]; exact bytesRow_at v _ i hi,rfl,fun y hy=>?_⟩
   simp only [V.cells,List.getElem?_cons_zero,Option.some.injEq] at hy
   subst hy
   have e:v.data[i]=b:=by
    rw [Array.getElem?_toList,Array.getElem?_eq_getElem hi] at hb
    exact Option.some.inj hb
   rw [e]; exact .c rfl
end
end Go.Proofs.YtdjldmolhkkipaaGreatDoor.Eng
end
section
set_option linter.unusedVariables false
set_option linter.unusedSimpArgs false
namespace Go.Proofs.YtdjldmolhkkipaaGreatDoor.Eng
open Go
section
variable {P:Program} {gives:FuncId→Bool} {C:CL}
variable {B:Base} {n:Nat} {F:Fz} {ρ:Rho} {s:S} {a:Act} {w:World} {o:Oper} {K:S→Prop} {T:Nat→Prop}
theorem replicate_get {α:Type} {m i:Nat} {x y:α} (h:(List.replicate m x)[i]? = some y):i < m∧y=x:=by
 obtain ⟨h1,h2⟩:=List.getElem?_eq_some_iff.1 h
 simp at h1 h2
 exact ⟨h1,h2.symm⟩
theorem flat_okCell {x:V} (h:flat x=true):okCells x.cells=true∨∃ cs,x = .agg cs:=by
 cases x <;> first | exact .inr ⟨_,rfl⟩ | (left; simp [V.cells,okCells,okCell]; done) | (simp [flat] at h)
theorem ints_some {v:V} {i:Int} (h:ints v=some i):∃ k,v = .c (.int k i):=by
 unfold ints at h
 split at h
 ·cases h; exact ⟨_,rfl⟩
 ·cases h
theorem zero_cells {t:TypeId} {z:V} {i:TypeInfo} {zv:Value} (h3:ofVal zv=z) (hf:flat z=true) :
  zv.cells.size=z.cells.length∧∀ (j:Nat) (d:Value),zv.cells[j]? = some d→okC d=true∧∀ u,z.cells[j]? = some u→VR (clOf w) F ρ u d:=by
 have hok:okCells z.cells=true:=by
  rcases flat_okCell hf with h | ⟨cs,rfl⟩
  ·exact h
  ·unfold ofVal at h3
   split at h3
   ·rename_i vs
    cases hb:vs.toList.all (fun v=>v.oneCell')
    ·rw [hb] at h3; cases h3
    ·rw [hb] at h3
     simp only [cond_true,V.agg.injEq] at h3
     simp only [V.cells]
     rw [← h3]
     refine okCells_mem.2 fun v hv=>?_
     obtain ⟨x,hx,rfl⟩:=List.mem_map.1 hv
     have:=List.all_eq_true.1 hb x hx
     unfold ofCell
     split <;> first | rfl | (simp [Value.oneCell'] at this)
   ·unfold ofCell at h3
    split at h3 <;> cases h3
 exact cells_rel hok (h3 ▸ VR.ofVal zv)
theorem op_makeSlice {t e:TypeId} {x y:Operand} {z:V} {i m:Int} (ho:o.op = .makeSlice t x y) (hR:RelF B n F ρ s a w) (ht:isSlice P t=some e)
  (hx:ints (s.ev x)=some i) (hy:ints (s.ev y)=some m) (hz:zeroV P e=some z) (hf:flat z=true) (hsz:z.cells.length=szOf P e) (hb:bytesOf P e≤1000)
  (hi:0≤i∧i≤m∧m≤4294967296)
  (hT:TD T o) (hk:fresh (envP P n gives C) o s (.arr (szOf P e) (List.replicate i.toNat z) true false 0) (fun k=>.sla k 0) K):OpOk P B n F ρ s T o a w K:=by
 obtain ⟨kx,hx'⟩:=ints_some hx
 obtain ⟨ky,hy'⟩:=ints_some hy
 have hex:=hR.ev x; rw [hx'] at hex
 have hey:=hR.ev y; rw [hy'] at hey
 obtain ⟨ti,zv,h1,h2,h3,h4⟩:=zeroV_run hz
 obtain ⟨d1,d2⟩:=zero_cells (t:=t) (i:=ti) (w:=w) (F:=F) (ρ:=ρ) h3 hf
 have hts:ti.size=szOf P e:=by simp [szOf,h1]
 have htb:ti.bytes≤1000:=by simpa [bytesOf,h1] using hb
 have hbm:(ti.bytes:Int) * m≤281474976710656:=by
  have h5:(ti.bytes:Int) * m≤1000 * m:=Int.mul_le_mul_of_nonneg_right (by omega) (by omega)
  omega
 have hrun:=run_make (P:=P) w t e ti zv (isSlice_some ht) h1 h2 kx ky i m hi.1 hi.2.1 hbm (by omega)
 rw [hts] at hrun
 have hmod:∀ q j,j < szOf P e→(q * szOf P e+j) % zv.cells.size=j:=fun q j hj=>by
  rw [d1,hsz,Nat.add_comm,Nat.add_mul_mod_self_right,Nat.mod_eq_of_lt hj]
 refine okFresh (l:=⟨0,w.heap.size,0,m.toNat,(List.replicate i.toNat z).length,szOf P e,0⟩) hT hk (c:=.slice (some ⟨w.heap.size,0,none⟩) i.toNat m.toNat) ?_
  (fun k hkk h64=>hR.newRow k (szOf P e) (List.replicate i.toNat z) (madeCells zv.cells (m.toNat * szOf P e)) e (0,0) m.toNat (by rw [List.length_replicate]; omega) (.inl rfl) (by rw [size_madeCells]; exact Nat.le_refl _) (fun q u hu=>?_) (fun q u j hu hj=>?_) h64) (.alloc _ _) (fun k=>by rw [List.length_replicate]; exact .slaNew)
 ·simp [execOp,ho,hex.c_inv,hey.c_inv,hrun]
 ·obtain ⟨_,rfl⟩:=replicate_get hu
  exact ⟨hsz,hf⟩
 ·obtain ⟨hq,rfl⟩:=replicate_get hu
  have hj':j < zv.cells.size:=by rw [d1,hsz]; exact hj
  obtain ⟨e1,e2⟩:=d2 j zv.cells[j] (Array.getElem?_eq_getElem hj')
  refine ⟨zv.cells[j],?_,e1,fun y hy=>e2 y hy⟩
  have hlt:q * szOf P e+j < m.toNat * szOf P e:=idx_lt (by omega) hj
  unfold madeCells
  rw [Array.getElem?_map,Array.getElem?_range,if_pos hlt]
  simp only [Option.map_some,Option.some.injEq]
  rw [hmod q j hj]
  exact getElem!_pos zv.cells j hj'
theorem allU8_get {xs:List V} (h:allU8 xs=true) {i:Nat} {x:V} (hx:xs[i]? = some x):∃ m,x = .c (.int .u8 m):=by
 have:=List.all_eq_true.1 h x (List.mem_of_getElem? hx)
 cases x with
 | c v=>cases v with
  | int k m=>cases k <;> first | exact ⟨m,rfl⟩ | (simp [isU8] at this)
  | _=>simp [isU8] at this
 | _=>simp [isU8] at this
theorem foldl_push:∀ (l:List Int) (r:ByteArray),l.foldl (fun r n=>r.push (UInt8.ofNat n.toNat)) r=⟨r.data++(l.map fun n=>UInt8.ofNat n.toNat).toArray⟩
 | [],r=>by simp
 | b :: l,r=>by
  simp only [List.foldl_cons]
  rw [foldl_push l]
  simp [ByteArray.push]
theorem op_bytesString {src dst e:TypeId} {x:Operand} {xs:List V} (ho:o.op = .convert src dst x) (hR:RelF B n F ρ s a w) (hs:isSlice P src=some e)
  (he:isInt P e .u8=true) (hd:isStr P dst=true) (hc:content s (s.ev x)=some xs) (hu:allU8 xs=true)
  (hk:fin (envP P n gives C) o s (.c (.string (packB xs))) K):OpOk P B n F ρ s T o a w K:=by
 obtain ⟨ad,cap,g,p,hav,h1,h2,h3⟩:=row_of hR.hr (tm:=s.tm) (hR.ev x) hc
 refine okVal hk ?_ hR (.c rfl)
 have hconv:=run_convert_bytes_string (P:=P) w src dst e ad xs.length cap (isSlice_some hs) (isInt_some he) (isStr_some hd)
 have hrun:(Conv.bytesToString (.slice ad xs.length cap)).run P w = .ok (.string (packB xs)) w:=by
  cases hx:xs with
  | nil =>
   cases ad with
   | none=>rfl
   | some b=>simp [Conv.bytesToString,loadCells,loadCellsFrom,packB]; rfl
  | cons x0 r =>
   have hpos:cap≠0:=by rw [hx] at h1; simp at h1; omega
   rcases h2 with h2 | h2
   ·exact absurd h2 hpos
   ·subst h2
    have hes:esV s.hp (s.ev x)=1:=by
     have hx0:xs[0]? = some x0:=by rw [hx]; rfl
     obtain ⟨m,rfl⟩:=allU8_get hu hx0
     exact ((h3.wid 0 _ hx0).1).symm
    let ns:List Int:=xs.map fun | .c (.int _ m)=>m | _=>0
    have hns:(ns.map fun n=>UInt8.ofNat n.toNat)=xs.map byteOf:=by
     simp only [ns,List.map_map]
     refine List.map_congr_left fun y hy=>?_
     obtain ⟨i,hi⟩:=List.getElem?_of_mem hy
     obtain ⟨m,rfl⟩:=allU8_get hu hi
     rfl
    have hl:=run_loadCells_list (P:=P) w ⟨g,p,none⟩ (ns.map (Value.int .u8)) (fun j v hj=>by
     simp only [ns,List.map_map,List.getElem?_map] at hj
     cases hxj:xs[j]? with
     | none=>rw [hxj] at hj; cases hj
     | some y =>
      rw [hxj] at hj
      obtain ⟨m,rfl⟩:=allU8_get hu hxj
      simp at hj
      subst hj
      obtain ⟨c,c1,c2,c3,_⟩:=h3.cell j _ 0 hxj (by omega)
      have:=(c3 _ rfl).c_inv
      subst this
      rw [add_lit]
      rw [hes] at c1
      simpa [clOf] using c1)
    have hlen:(ns.map (Value.int .u8)).length=xs.length:=by simp [ns]
    rw [hlen] at hl
    rw [← hx,run_bytesToString w ⟨g,p,none⟩ xs.length cap ns hl,foldl_push,hns]
    have:ByteArray.empty.data = #[]:=rfl
    rw [this]
    simp [packB]
 simp [execOp,ho,hav,hconv,hrun]
theorem run_bounds {isS:Bool} {m cap:Nat} {lo hi:Option Value} {l h:Int} (hlo:(lo=none∧l=0)∨∃ k,lo=some (.int k l)) (hhi:(hi=none∧h=m)∨∃ k,hi=some (.int k h))
  (hm:m≤cap) (h1:0≤h∧h≤(m:Int)) (h2:0≤l∧l≤h) (w:World):(Instr.sliceBounds isS m cap lo hi none).run P w = .ok (l.toNat,h.toNat,cap) w:=by
 have hb:∀ (k:IntKind) (i:Int) (y:Nat) (code:BoundsCode),0≤i→i≤(y:Int)→(Instr.sliceBound (.int k i) y code).run P w = .ok i.toNat w:=fun k i y code g1 g2=>run_sliceBound w k i y code g1 g2
 rcases hhi with ⟨rfl,rfl⟩ | ⟨kh,rfl⟩ <;> rcases hlo with ⟨rfl,rfl⟩ | ⟨kl,rfl⟩
 ·simp [Instr.sliceBounds]
 ·simp [Instr.sliceBounds,hb kl l m _ h2.1 h2.2]
 ·simp [Instr.sliceBounds,hb kh h cap _ h1.1 (by omega)]
 ·simp [Instr.sliceBounds,hb kh h cap _ h1.1 (by omega),hb kl l h.toNat _ h2.1 (by omega)]
theorem optI_inv {u:Option V} {d:Int} {K:Int→Prop} (h:optI False u d K):∃ i,((u=none∧i=d)∨∃ k,u=some (.c (.int k i)))∧K i:=by
 unfold optI at h
 split at h
 ·exact ⟨d,.inl ⟨rfl,rfl⟩,h⟩
 ·exact ⟨_,.inr ⟨_,rfl⟩,h⟩
 ·exact h.elim
theorem optEv (hR:RelF B n F ρ s a w) {x:Option Operand} {i d:Int} (h:((x.map s.ev=none∧i=d)∨∃ k,x.map s.ev=some (.c (.int k i)))) :
  (x.map a.eval=none∧i=d)∨∃ k,x.map a.eval=some (.int k i):=by
 cases x with
 | none=>rcases h with ⟨_,h⟩ | ⟨k,h⟩ <;> simp at h ⊢; exact h
 | some y =>
  rcases h with ⟨h,_⟩ | ⟨k,h⟩
  ·simp at h
  ·simp at h
   have:=hR.ev y
   rw [h] at this
   exact .inr ⟨k,by simp [this.c_inv]⟩
theorem bounds_inv {m l h:Int} {K:Prop} (hb:bounds (envP P n gives C) m l h K):(0≤h∧h≤m)∧(0≤l∧l≤h)∧K:=by
 unfold bounds at hb
 split at hb
 ·split at hb
  ·exact ⟨by assumption,by assumption,hb⟩
  ·exact hb.elim
 ·exact hb.elim
theorem op_slice {t:TypeId} {x:Operand} {lo hi mx:Option Operand} (ho:o.op = .slice t x lo hi mx) (hm:litMx o=true) (hR:RelF B n F ρ s a w)
  (hk:sliceC (envP P n gives C) o t (s.ev x) (lo.map s.ev) (hi.map s.ev) (mx.map s.ev) s K):PurOk C P n gives F ρ s o a w K:=by
 have hex:=hR.ev x
 unfold sliceC at hk
 have eP:(envP P n gives C).P=P:=rfl
 have ef:(envP P n gives C).f=False:=rfl
 simp only [eP,ef] at hk
 split at hk
 ·rename_i b hx
  rw [hx] at hex
  cases hb:(isStr P t && (mx.map s.ev).isNone)
  ·rw [hb] at hk; exact hk.elim
  ·rw [hb] at hk
   simp only [cond_true] at hk
   simp only [Bool.and_eq_true] at hb
   have hmx:mx=none:=by cases mx <;> simp at hb ⊢
   subst hmx
   obtain ⟨l,hl,hk⟩:=optI_inv hk
   obtain ⟨h,hh,hk⟩:=optI_inv hk
   unfold sliceStr at hk
   split at hk
   ·split at hk
    ·rename_i g1 g2
     refine okPur hk (fun w=>?_) hR (.c rfl)
     have hrun:=run_bounds (P:=P) (isS:=false) (cap:=b.size) (optEv hR hl) (optEv hR hh) (Nat.le_refl _) g1 g2 w
     simp only [execOp,ho,hex.c_inv,Option.map_none,Sem.run_bind,run_sliceAt_string w t _ _ _ _ (isStr_some hb.1),Instr.slice,run_underlying (isStr_some hb.1),Result.andThen_ok,Option.isSome_none,Bool.false_eq_true,if_false,Sem.run_pure]
     simp [hrun]
    ·exact hk.elim
   ·exact hk.elim
 ·split at hk
  ·rename_i e m hs hlen
   have hse:=isSlice_some hs
   split at hk
   ·rename_i hmx
    cases hz:Nat.beq (szOf P e) 0
    case true=>rw [hz] at hmx; cases hmx
    have hz0:szOf P e≠0:=fun e0=>by rw [e0] at hz; cases hz
    rw [hz] at hmx
    have hmx':mx=none:=by cases mx <;> simp at hmx ⊢
    subst hmx'
    obtain ⟨l,hl,hkA⟩:=optI_inv hk
    clear hk
    obtain ⟨h,hh,hkB⟩:=optI_inv hkA
    clear hkA
    obtain ⟨g1,g2,hk⟩:=bounds_inv hkB
    clear hkB
    have hP:P.elem t=e:=by simp [Program.elem,hse]
    have hrun:∀ ad cap (w:World),a.eval x = .slice ad m cap→m≤cap→(execOp a.eval o).run P w = .ok (.value (sliced ad l.toNat h.toNat cap (szOf P e))) w:=fun ad cap w hx hcap=>by
     have hb:=run_bounds (P:=P) (isS:=true) (cap:=cap) (optEv hR hl) (optEv hR hh) hcap g1 g2 w
     simp only [execOp,ho,hx,Option.map_none,Sem.run_bind]
     rw [run_sliceAt_slice w t _ _ _ _ (by rw [hP]; exact hse),run_slice_any w t ad m cap (by rw [hP]; exact hse),hb]
     simp [hP,run_sizeOf' hz0]
    have g3:l.toNat≤h.toNat:=by omega
    have g4:h.toNat≤m:=by omega
    have addr:∀ {ad:Option Addr} {g p cap:Nat},m≤cap→(cap=0∨ad=some ⟨g,p,none⟩) →
      (cap - l.toNat=0∨(if cap=l.toNat then ad else ad.map (·.add (l.toNat * szOf P e)))=some ⟨g,p+l.toNat * szOf P e,none⟩):=by
     intro ad g p cap hcap ha
     by_cases hcl:cap=l.toNat
     ·exact .inl (by omega)
     ·rw [if_neg hcl]
      rcases ha with ha | ha
      ·exact absurd ha (by omega)
      ·subst ha
       exact .inr (by simp [add_lit])
    split at hk
    ·rename_i es fl xs hxv
     rw [hxv] at hex hlen
     simp only [lenOf,Option.some.injEq] at hlen
     generalize hcv:a.eval x=cv at hex
     cases hes:(Nat.beq es (szOf P e) || xs.isEmpty)
     ·rw [hes] at hk; exact hk.elim
     rw [hes] at hk
     simp only [cond_true] at hk
     obtain ⟨ad,cap,g,p,hav,r1,r2,r3⟩:=row_of hR.hr (tm:=s.tm) (v:=.sl es fl xs) hex rfl
     have hfl:fl=true→cap=xs.length:=by
      intro hft
      rw [hav] at hex
      cases hex with
      | sl cf hn hc hf ha hw hF hv=>exact hf hft
     rw [hlen] at hav r1
     refine okPur hk (fun w=>hrun ad cap w (hcv.trans hav) r1) hR ?_
     have hcut:(cutL xs l.toNat (h.toNat - l.toNat)).length=h.toNat - l.toNat:=cutL_length (by omega)
     have hrow:=r3.cut l.toNat (h.toNat - l.toNat)
     have hes':szOf P e=es∨xs=[]:=by
      rcases Bool.or_eq_true_iff.1 hes with h1 | h1
      ·exact .inl (Nat.eq_of_beq_eq_true h1).symm
      ·exact .inr (by simpa using h1)
     have hA:cap - l.toNat=0∨(if cap=l.toNat then ad else ad.map (·.add (l.toNat * szOf P e)))=some ⟨g,p+l.toNat * es,none⟩:=by
      rcases hes' with h1 | h1
      ·rw [← h1]; exact addr r1 r2
      ·rw [h1] at hlen; simp at hlen
       have hl0:l.toNat=0:=by omega
       have:=addr r1 r2
       rw [hl0] at this ⊢
       simpa using this
     have hB:(fl && Nat.beq h.toNat xs.length)=true→cap - l.toNat=(cutL xs l.toNat (h.toNat - l.toNat)).length:=fun hft=>by
      simp only [Bool.and_eq_true] at hft
      have:=hfl hft.1
      have:=Nat.eq_of_beq_eq_true hft.2
      rw [hcut]; omega
     have key:=sl_of_row hrow (by rw [hcut]; omega) hA hB
     rw [hcut] at key
     exact key
    ·rename_i k v hxv
     rw [hxv] at hex hlen
     generalize hcv:a.eval x=cv at hex
     split at hk
     ·rename_i es xs own frz ver hl
      cases hb:Nat.beq es (szOf P e)
      ·rw [hb] at hk; exact hk.elim
      rw [hb] at hk
      simp only [cond_true] at hk
      have hes:=Nat.eq_of_beq_eq_true hb
      obtain ⟨c1,c2,c3,c4,_⟩:=hR.hr.sr k _ hl
      simp only [lenOf,hl] at hlen
      cases hbv:Nat.beq v ver
      ·rw [hbv] at hlen; cases hlen
      rw [hbv] at hlen
      simp only [cond_true,Option.some.injEq] at hlen
      have hvv:=Nat.eq_of_beq_eq_true hbv
      cases hex with
      | sla hv hh' =>
       rename_i m' cap ad
       obtain ⟨b1,b2,b3⟩:=hh' (by omega)
       have hm':m'=m:=by omega
       subst hm'
       refine okPur hk (fun w=>hrun ad cap w hcv (by omega)) hR (.slm hv fun _=>⟨rfl,by omega,by omega,?_⟩)
       rw [c1,hes]
       exact addr (by omega) b3
     ·exact hk.elim
    ·rename_i k a0 len v hxv
     rw [hxv] at hex hlen
     generalize hcv:a.eval x=cv at hex
     split at hk
     ·rename_i es xs own frz ver hl
      cases hb:Nat.beq es (szOf P e)
      ·rw [hb] at hk; exact hk.elim
      rw [hb] at hk
      simp only [cond_true] at hk
      have hes:=Nat.eq_of_beq_eq_true hb
      obtain ⟨c1,c2,c3,c4,_⟩:=hR.hr.sr k _ hl
      simp only [lenOf,hl] at hlen
      cases hbv:Nat.beq v ver
      ·rw [hbv] at hlen; cases hlen
      rw [hbv] at hlen
      simp only [cond_true,Option.some.injEq] at hlen
      have hvv:=Nat.eq_of_beq_eq_true hbv
      cases hex with
      | slm hv hh' =>
       rename_i m' cap ad
       obtain ⟨b1,b2,b3,b4⟩:=hh' (by omega)
       have hm':m'=m:=by omega
       subst hm'
       refine okPur hk (fun w=>hrun ad cap w hcv (by omega)) hR (.slm hv fun _=>⟨rfl,by omega,by omega,?_⟩)
       have:=addr (show m'≤cap by omega) b4
       rw [c1,hes] at this ⊢
       rw [Nat.add_mul,← Nat.add_assoc]
       exact this
     ·exact hk.elim
    ·exact hk.elim
   ·rename_i m' hmx
    rw [hm] at hk
    simp only [cond_true] at hk
    unfold zeroSl at hk
    split at hk
    case h_2=>exact hk.elim
    rename_i kh h kq q hlo hhi
    split at hk
    case isFalse=>exact hk.elim
    rename_i h0
    obtain ⟨rfl,rfl⟩:=h0
    cases hz:Nat.beq (szOf P e) 0 with
    | true=>rw [hz] at hmx; cases hmx
    | false =>
    have hz0:szOf P e≠0:=fun e0=>by rw [e0] at hz; cases hz
    rw [hz] at hmx
    simp only [cond_false] at hmx
    have hP:P.elem t=e:=by simp [Program.elem,hse]
    have hlo':lo=none:=by cases lo <;> simp at hlo ⊢
    subst hlo'
    obtain ⟨yh,rfl,hyh⟩:∃ y,hi=some y∧s.ev y = .c (.int kh 0):=by cases hi <;> simp at hhi ⊢; exact hhi
    obtain ⟨ym,rfl,hym⟩:∃ y,mx=some y∧s.ev y = .c (.int kq 0):=by cases mx <;> simp at hmx ⊢; exact hmx
    have eh:=hR.ev yh
    rw [hyh] at eh
    have em:=hR.ev ym
    rw [hym] at em
    obtain ⟨ad,n',cap,hxv⟩:∃ ad n' cap,a.eval x = .slice ad n' cap:=by
     generalize a.eval x=cv at hex
     unfold lenOf at hlen
     split at hlen
     ·rename_i hv; rw [hv] at hex; cases hex; exact ⟨_,_,_,rfl⟩
     ·rename_i hv; rw [hv] at hex; cases hex; exact ⟨_,_,_,rfl⟩
     ·rename_i hv; rw [hv] at hex; cases hex; exact ⟨_,_,_,rfl⟩
     ·cases hlen
    refine okPur hk (c:=.slice ad 0 0) (fun w=>?_) hR (.sl (g:=0) (p:=0) (fun _ _=>default) rfl (Nat.le_refl _) (fun _=>rfl) (.inl rfl) (fun i x h=>by simp at h) (fun i x j h=>by simp at h) (fun i x j y h=>by simp at h))
    have hb:∀ (k:IntKind) (y:Nat) (code:BoundsCode),(Instr.sliceBound (.int k 0) y code).run P w = .ok 0 w:=fun k y code=>run_sliceBound w k 0 y code (Int.le_refl _) (by omega)
    simp only [execOp,ho,hxv,Option.map_none,Option.map_some,eh.c_inv,em.c_inv,Sem.run_bind]
    rw [run_sliceAt_slice w t _ _ _ _ (by rw [hP]; exact hse),run_slice_any w t ad n' cap (by rw [hP]; exact hse)]
    simp [Instr.sliceBounds,hb,hP,run_sizeOf' hz0,sliced]
  ·exact hk.elim
theorem op_slice3 {t:TypeId} {x:Operand} {lo hi mx:Option Operand} (ho:o.op = .slice t x lo hi mx) (hm:litMx o=false) (hR:RelF B n F ρ s a w)
  (hT:∀ k∈skeys (s.ev x),T k)
  (hk:sliceC (envP P n gives C) o t (s.ev x) (lo.map s.ev) (hi.map s.ev) (mx.map s.ev) s K):OpOk P B n F ρ s T o a w K:=by
 have hex:=hR.ev x
 obtain ⟨ym,rfl⟩:∃ y,mx=some y:=by
  cases mx with
  | none=>simp [litMx,ho] at hm
  | some y=>exact ⟨y,rfl⟩
 unfold sliceC at hk
 have eP:(envP P n gives C).P=P:=rfl
 have ef:(envP P n gives C).f=False:=rfl
 simp only [eP,ef] at hk
 split at hk
 ·simp at hk
 split at hk
 case h_2=>exact hk.elim
 rename_i e m hs hlen
 have hse:=isSlice_some hs
 split at hk
 ·rename_i hmx
  cases hz:Nat.beq (szOf P e) 0 <;> rw [hz] at hmx <;> simp at hmx
 rename_i m' hmx
 rw [hm] at hk
 simp only [cond_false] at hk
 unfold headSl at hk
 split at hk
 case h_2=>exact hk.elim
 rename_i kh h kq q hlo hhi
 split at hk
 case isFalse=>exact hk.elim
 rename_i h0
 obtain ⟨g1,rfl,g2⟩:=h0
 cases hz:Nat.beq (szOf P e) 0 with
 | true=>rw [hz] at hmx; cases hmx
 | false =>
 have hz0:szOf P e≠0:=fun e0=>by rw [e0] at hz; cases hz
 rw [hz] at hmx
 simp only [cond_false,Option.map_some,Option.some.injEq] at hmx
 have hP:P.elem t=e:=by simp [Program.elem,hse]
 have hlo':lo=none:=by cases lo <;> simp at hlo ⊢
 subst hlo'
 obtain ⟨yh,rfl,hyh⟩:∃ y,hi=some y∧s.ev y = .c (.int kh h):=by cases hi <;> simp at hhi ⊢; exact hhi
 have eh:=hR.ev yh
 rw [hyh] at eh
 have em:=hR.ev ym
 rw [hmx] at em
 split at hk
 case h_2=>exact hk.elim
 rename_i k v hxv
 rw [hxv] at hex hlen hT
 generalize hcv:a.eval x=cv at hex
 split at hk
 case h_2=>exact hk.elim
 rename_i es xs own frz ver hl
 cases hb:Nat.beq v ver && Nat.beq es (szOf P e)
 ·rw [eP,hb] at hk; exact hk.elim
 rw [eP,hb] at hk
 simp only [cond_true] at hk
 simp only [Bool.and_eq_true] at hb
 have hv0:=Nat.eq_of_beq_eq_true hb.1
 have hes:=Nat.eq_of_beq_eq_true hb.2
 subst hv0
 simp only [lenOf,hl,Nat.beq_refl,cond_true,Option.some.injEq] at hlen
 obtain ⟨h1,h2,h3,h4,h5,h6,h7⟩:=hR.hr.sr k _ hl
 cases hex with
 | sla hv hh' =>
 rename_i m0 cap ad
 obtain ⟨b1,b2,b3⟩:=hh' h3.symm
 have hmn:m0=m:=by omega
 subst hmn
 have hle:h.toNat≤xs.length:=by omega
 have hb':∀ (k:IntKind) (y:Nat) (code:BoundsCode),h≤(y:Int)→(Instr.sliceBound (.int k h) y code).run P w = .ok h.toNat w:=fun k y code hy=>run_sliceBound w k h y code g1 hy
 have hrun:(execOp a.eval o).run P w = .ok (.value (.slice (if h.toNat=0 then ad else ad.map (·.add 0)) h.toNat h.toNat)) w:=by
  simp only [execOp,ho,hcv,Option.map_none,Option.map_some,eh.c_inv,em.c_inv,Sem.run_bind]
  rw [run_sliceAt_slice w t _ _ _ _ (by rw [hP]; exact hse),run_slice_any w t ad m0 cap (by rw [hP]; exact hse)]
  simp [Instr.sliceBounds,hb' kq cap .slice3Acap (by omega),hb' kh h.toNat .slice3B (by omega),hP,run_sizeOf' hz0,sliced]
 have hag:agree (ρ k) { ρ k with len:=h.toNat,cap:=h.toNat,ver:=v+1 }:=⟨rfl,.inr (by simp only [h3]; exact Nat.lt_succ_self _)⟩
 have er:(upd ρ k { ρ k with len:=h.toNat,cap:=h.toNat,ver:=v+1 }) k={ ρ k with len:=h.toNat,cap:=h.toNat,ver:=v+1 }:=upd_same _ _ _
 have htl:(xs.take h.toNat).length=h.toNat:=by simp; omega
 have hmul:h.toNat * es≤xs.length * es:=Nat.mul_le_mul_right _ hle
 have hsub:∀ g p,owns (upd ρ k { ρ k with len:=h.toNat,cap:=h.toNat,ver:=v+1 }) k (.arr es (xs.take h.toNat) own frz (v+1)) g p→owns ρ k (.arr es xs own frz v) g p:=fun g p ho=>by
  simp only [owns,er,htl] at ho ⊢
  obtain ⟨o1,o2,o3⟩:=ho
  refine ⟨o1,o2,?_⟩
  rcases o3 with ⟨o3,o4⟩ | ⟨_,o3,o4⟩
  ·exact .inl ⟨o3,by omega⟩
  ·omega
 have hR':=hR.turn hl (.arr es (xs.take h.toNat) own frz (v+1)) { ρ k with len:=h.toNat,cap:=h.toNat,ver:=v+1 } F w w.heap.size hag rfl (fun _ _ _=>rfl) ⟨.refl _,fun _ _=>rfl⟩ (fun _ _=>rfl) hR.fr.size
  (fun p hf=>Nat.lt_irrefl _ (hR.hr.fin _ _ hf)) (fun j y p hy ho=>Nat.lt_irrefl _ (hR.hr.free j y _ p hy ho).2.2) (fun _ _ h=>h) (fun _ _ h=>.inl h) (by
   simp only [SR,er]
   refine ⟨h1,htl.symm,trivial,by omega,fun i x hx=>?_,fun i x j hx hj=>?_,fun _ p hp1 hp2=>?_⟩
   ·rw [List.getElem?_take] at hx
    split at hx
    ·exact h5 i x hx
    ·cases hx
   ·rw [List.getElem?_take] at hx
    split at hx
    ·obtain ⟨c',c1,c2,c3,c4⟩:=h6 i x j hx hj
     exact ⟨c',c1,c2,fun y hy=>(c3 y hy).mono (fun _ _ h=>h) (fun _ _ _ _ h=>h) fun j hj=>by rw [flat_keys y (flat_cells (h5 i x hx).2 hy)] at hj; (cases hj),c4⟩
    ·cases hx
   ·rw [htl] at hp1; omega) (fun g p ho=>⟨fun hf=>(hR.hr.free k _ g p hl (hsub g p ho)).1 hf,.inl (hsub g p ho)⟩)
 refine okTurn hk hrun hR' (Kept.turn (hT k (.head _)) hl (fun _ _ h=>h) (Nat.le_refl _) (fun _ _ _ _=>rfl)) ?_
 refine .sla (by rw [er]; exact Nat.le_refl _) fun _=>?_
 rw [er]
 refine ⟨rfl,rfl,?_⟩
 by_cases e0:h.toNat=0
 ·exact .inl e0
 ·rw [if_neg e0]
  rcases b3 with b3 | b3
  ·omega
  ·rw [b3]; exact .inr (by simp [add_lit])
end
end Go.Proofs.YtdjldmolhkkipaaGreatDoor.Eng
end
section
set_option linter.unusedVariables false
set_option linter.unusedSimpArgs false
namespace Go.Proofs.YtdjldmolhkkipaaGreatDoor.Eng
open Go
section
variable {P:Program} {gives:FuncId→Bool} {C:CL}
variable {B:Base} {n:Nat} {F:Fz} {ρ:Rho} {s:S} {a:Act} {w:World} {o:Oper} {K:S→Prop} {T:Nat→Prop}
set_option maxRecDepth 20000 in
theorem wrapN {m:Nat} (h:m≤4398046511104):IntKind.i64.wrap (m:Int)=(m:Int):=by
 rw [IntKind.wrap_i64]; omega
structure Adds (P:Program) (e u:TypeId) (x:Value) (m:Nat) (news:List Value) (w:World):Prop where
 kind:(∃ d,P.underlying u=some d∧((∃ e',d = .slice e')∨d = .string)∧(∀ w',(Builtin.lenOf x).run P w' = .ok m w') ∧
   ∀ w',(∀ ad,w'.cell? ad=w.cell? ad)→(Builtin.firstCells (szOf P e) m x).run P w' = .ok news.toArray w') ∨
  (∃ k q z,P.underlying u=some (.int k)∧x = .int .i64 (q:Nat)∧m=q∧q≤4398046511104∧((P.info? e).bind (·.zero))=some z∧news.toArray=Builtin.zeroCells z.cells m∧z.cells.size=szOf P e)
set_option maxRecDepth 4000 in
theorem run_append_in {t u e ty:TypeId} {x:Value} {m sLen sCap:Nat} {news:List Value} {base:Option Addr} (ht:P.underlying t=some (.slice e)) (hz:szOf P e≠0)
  (hx:Adds P e u x m news w) (hb:m * bytesOf P e≤281474976710656) (h:sLen+m≤sCap) :
  (Builtin.append_ #[t,u] ty #[.slice base sLen sCap,x]).run P w=match base with
   | some b=>((storeCells (b.add (sLen * szOf P e)) news).run P w).andThen fun _ w'=>.ok (.slice base (sLen+m) sCap) w'
   | none=>.ok (.slice base (sLen+m) sCap) w:=by
 have hsz:=run_sizeOf' (P:=P) hz
 obtain ⟨ti,hti⟩:=info_of_underlying ht
 have hie:∃ i,P.info? e=some i:=by
  unfold szOf at hz
  cases hi:P.info? e with
  | none=>rw [hi] at hz; simp at hz
  | some i=>exact ⟨i,rfl⟩
 obtain ⟨ie,hie⟩:=hie
 have hby:bytesOf P e=ie.bytes:=by simp [bytesOf,hie]
 rcases hx.kind with ⟨d,hd,hds,hl,hf⟩ | ⟨k,q,z,hd,rfl,rfl,hq,hzz,hn,hzs⟩
 ·have hf':=hf w (fun _=>rfl)
  have hl':=hl w
  clear hf hl
  rcases hds with ⟨e',rfl⟩ | rfl
  ·cases base
   ·simp [Builtin.append_,run_underlying ht,run_underlying hd,hsz,hl',h,hf']
   ·simp [Builtin.append_,run_underlying ht,run_underlying hd,hsz,hl',h,hf']
  ·cases base
   ·simp [Builtin.append_,run_underlying ht,run_underlying hd,hsz,hl',h,hf']
   ·simp [Builtin.append_,run_underlying ht,run_underlying hd,hsz,hl',h,hf']
 ·have hw:IntKind.i64.wrap (m:Int)=(m:Int):=wrapN hq
  rw [hie] at hzz
  have hzz':ie.zero=some z:=by simpa using hzz
  have hnb:¬ (281474976710656 < (m:Int) * (ie.bytes:Int)):=by
   rw [hby] at hb
   rw [← Int.natCast_mul]
   generalize m * ie.bytes=q at hb ⊢
   omega
  have hsi:ie.size=szOf P e:=by simp [szOf,hie]
  by_cases hm0:m=0
  ·subst hm0
   have hnil:news=[]:=by
    have:=congrArg Array.size hn
    rw [Builtin.zeroCells] at this
    simpa using this
   subst hnil
   have hw0:IntKind.i64.wrap 0=0:=hw
   have h':sLen≤sCap:=h
   cases base <;> simp [Builtin.append_,run_underlying ht,run_underlying hd,hsz,typeInfo,hie,Go.asInt,asIntOf,hw0,h',storeCells]
  ·have hms:¬ (m=0∨szOf P e=0):=by omega
   cases base <;> simp [show ¬ ((m:Int) < 0) by omega,Builtin.append_,run_underlying ht,run_underlying hd,hsz,typeInfo,zeroValue,hie,hzz',Go.asInt,asIntOf,hw,hnb,h,hms,hm0,hz,Function.comp_def,← hn]
   exact fun hc=>absurd hc (Nat.mul_ne_zero hm0 hz)
set_option maxRecDepth 4000 in
theorem run_append_out {t u e ty:TypeId} {x:Value} {m sLen sCap:Nat} {news olds:List Value} {base:Option Addr} {z:Value} (ht:P.underlying t=some (.slice e)) (hz:szOf P e≠0)
  (hx:Adds P e u x m news w) (hzv:((P.info? e).bind (·.zero))=some z) (h:¬ (sLen+m≤sCap)) (hb:(sLen+m+1000) * bytesOf P e≤70368744177664) (hby0:sLen+m≤70368744177664)
  (ho:(Builtin.firstCells (szOf P e) sLen (.slice base sLen sCap)).run P w.drew = .ok olds.toArray w.drew) :
  (Builtin.append_ #[t,u] ty #[.slice base sLen sCap,x]).run P w =
   .ok (.slice (some ⟨w.heap.size,0,none⟩) (sLen+m) (grownCap w (sLen+m) sCap e))
    (w.drew.alloc (.cells ((olds++news).toArray++Builtin.zeroCells z.cells (grownCap w (sLen+m) sCap e - (sLen+m))) e)):=by
 have hsz:=run_sizeOf' (P:=P) hz
 have hie:∃ i,P.info? e=some i:=by
  unfold szOf at hz
  cases hi:P.info? e with
  | none=>rw [hi] at hz; simp at hz
  | some i=>exact ⟨i,rfl⟩
 obtain ⟨ie,hie⟩:=hie
 rw [hie] at hzv
 have hzv':ie.zero=some z:=by simpa using hzv
 have hby:bytesOf P e=ie.bytes:=by simp [bytesOf,hie]
 have hfit:Builtin.nextslicecap (sLen+m) sCap * ie.bytes≤281474976710656:=growslice_fits (by omega) (by
  rw [← hby]
  have:(sLen+m) * bytesOf P e≤(sLen+m+1000) * bytesOf P e:=Nat.mul_le_mul_right _ (by omega)
  omega)
 have h48:¬ (281474976710656 < Builtin.nextslicecap (sLen+m) sCap * ie.bytes):=by omega
 have h63:¬ (9223372036854775807 < (sLen:Int)+(m:Int)):=by omega
 rcases hx.kind with ⟨d,hd,hds,hl,hf⟩ | ⟨k,q,z',hd,rfl,rfl,hq,hzz,hn,hzs⟩
 ·have hf':=hf w.drew (fun _=>rfl)
  rcases hds with ⟨e',rfl⟩ | rfl
  ·simp [Builtin.append_,run_underlying ht,run_underlying hd,hsz,typeInfo,zeroValue,hie,hzv',hl,h,h63,h48,Question.forced,hf',ho,newRow,grownCap,Function.comp_def]
   rw [← List.append_toArray,Array.append_assoc]
  ·simp [Builtin.append_,run_underlying ht,run_underlying hd,hsz,typeInfo,zeroValue,hie,hzv',hl,h,h63,h48,Question.forced,hf',ho,newRow,grownCap,Function.comp_def]
   rw [← List.append_toArray,Array.append_assoc]
 ·have hw:IntKind.i64.wrap (m:Int)=(m:Int):=wrapN hq
  have hzz2:z'=z:=by rw [hie] at hzz; simp at hzz; rw [hzv'] at hzz; exact (Option.some.inj hzz).symm
  subst hzz2
  have hnb:¬ (281474976710656 < (m:Int) * (ie.bytes:Int)):=by
   rw [hby] at hb
   have h1:m * ie.bytes≤(sLen+m+1000) * ie.bytes:=Nat.mul_le_mul_right _ (by omega)
   rw [← Int.natCast_mul]
   generalize m * ie.bytes=q at h1 ⊢
   generalize (sLen+m+1000) * ie.bytes=q2 at h1 hb
   omega
  by_cases hm0:m=0
  ·subst hm0
   have hnil:news=[]:=by
    have:=congrArg Array.size hn
    rw [Builtin.zeroCells] at this
    simpa using this
   subst hnil
   simp only [Nat.add_zero] at h h48 h63
   have hw0:IntKind.i64.wrap 0=0:=hw
   simp [hw0,Builtin.append_,run_underlying ht,run_underlying hd,hsz,typeInfo,zeroValue,hie,hzv',Go.asInt,asIntOf,hw,h,h48,Question.forced,ho,newRow,grownCap,Function.comp_def]
   omega
  ·simp [show ¬ ((m:Int) < 0) by omega,Builtin.append_,run_underlying ht,run_underlying hd,hsz,typeInfo,zeroValue,hie,hzv',Go.asInt,asIntOf,hw,hnb,h,h63,h48,hm0,hz,Question.forced,ho,newRow,grownCap,Function.comp_def,← hn]
   rw [if_neg (Nat.mul_ne_zero hm0 hz),← List.append_toArray,Array.append_assoc]
end
end Go.Proofs.YtdjldmolhkkipaaGreatDoor.Eng
end
section
set_option linter.unusedVariables false
set_option linter.unusedSimpArgs false
namespace Go.Proofs.YtdjldmolhkkipaaGreatDoor.Eng
open Go
section
variable {P:Program} {gives:FuncId→Bool} {C:CL}
variable {B:Base} {n:Nat} {F:Fz} {ρ:Rho} {s:S} {a:Act} {w:World} {o:Oper} {K:S→Prop} {T:Nat→Prop}
structure NewC (w:World) (F:Fz) (ρ:Rho) (es:Nat) (ys:List V) (news:List Value):Prop where
 len:news.length=ys.length * es
 wid:∀ (i:Nat) (y:V),ys[i]? = some y→y.cells.length=es∧flat y=true
 cell:∀ (i:Nat) (y:V) (j:Nat),ys[i]? = some y→j < es→∃ c,news[i * es+j]? = some c∧okC c=true∧∀ z,y.cells[j]? = some z→VR (clOf w) F ρ z c
 one:∀ c∈news,okC c=true
theorem divmod_lt {j m es:Nat} (h:j < m * es):j / es < m∧j % es < es∧j / es * es+j % es=j:=by
 have he:0 < es:=by
  cases es with
  | zero=>omega
  | succ e=>omega
 refine ⟨(Nat.div_lt_iff_lt_mul he).2 h,Nat.mod_lt _ he,?_⟩
 rw [Nat.mul_comm]; exact Nat.div_add_mod j es
theorem Row.cells {es:Nat} {xs:List V} {g p:Nat} {frz:Bool} (h:Row w F ρ es xs g p frz) :
  ∃ cs:List Value,NewC w F ρ es xs cs∧∀ j v,cs[j]? = some v→clOf w g (p+j)=some v:=by
 have key:∀ j,j < xs.length * es→∃ c,clOf w g (p+j)=some c∧okC c=true:=fun j hj=>by
  obtain ⟨h1,h2,h3⟩:=divmod_lt hj
  obtain ⟨c,c1,c2,_⟩:=h.cell (j / es) _ (j % es) (List.getElem?_eq_getElem h1) h2
  rw [Nat.add_assoc,h3] at c1
  exact ⟨c,c1,c2⟩
 have get:∀ j v,((List.range (xs.length * es)).map fun j=>(clOf w g (p+j)).getD undef)[j]? = some v→clOf w g (p+j)=some v:=fun j v hv=>by
  rw [List.getElem?_map] at hv
  cases hr:(List.range (xs.length * es))[j]? with
  | none=>rw [hr] at hv; cases hv
  | some t =>
   rw [hr] at hv
   obtain ⟨h1,h2⟩:=List.getElem?_eq_some_iff.1 hr
   simp only [List.getElem_range] at h2
   subst h2
   simp only [Option.map_some,Option.some.injEq] at hv
   obtain ⟨c,c1,_⟩:=key j (by simpa using h1)
   rw [c1] at hv ⊢
   simpa using hv
 refine ⟨(List.range (xs.length * es)).map fun j=>(clOf w g (p+j)).getD undef,⟨by simp,h.wid,fun i y j hy hj=>?_,fun c hc=>?_⟩,get⟩
 ·obtain ⟨c,c1,c2,c3,_⟩:=h.cell i y j hy hj
  have:=idx_lt (List.getElem?_eq_some_iff.1 hy).1 hj
  refine ⟨c,?_,c2,c3⟩
  rw [List.getElem?_map,List.getElem?_range this]
  simp [← Nat.add_assoc,c1]
 ·obtain ⟨j,hj⟩:=List.getElem?_of_mem hc
  have h1:=get j c hj
  have h2:j < xs.length * es:=by
   have:=(List.getElem?_eq_some_iff.1 hj).1
   simpa using this
  obtain ⟨c',c1,c2⟩:=key j h2
  rw [c1] at h1; cases h1; exact c2
theorem run_first {es m cap g p:Nat} {ad:Option Addr} {cs:List Value} (hl:cs.length=m * es) (hc:m≤cap) (ha:cap=0∨ad=some ⟨g,p,none⟩) (h:∀ j v,cs[j]? = some v→clOf w g (p+j)=some v) :
  (Builtin.firstCells es m (.slice ad m cap)).run P w = .ok cs.toArray w:=by
 rcases ha with h0 | h0
 ·have:m=0:=by omega
  subst this
  have:cs=[]:=List.eq_nil_of_length_eq_zero (by simpa using hl)
  subst this
  cases ad with
  | none=>exact run_firstCells_none w es 0 0 cap
  | some b=>exact run_firstCells_some w es 0 b 0 cap [] (by simp) (fun j v hv=>by simp at hv)
 ·subst h0
  exact run_firstCells_some w es m _ m cap cs hl (fun j v hv=>by rw [add_lit]; exact h j v hv)
theorem cutL_get {xs:List V} {off len i:Nat} (hi:i < len):(cutL xs off len)[i]? = xs[off+i]?:=by
 unfold cutL
 rw [List.getElem?_take,if_pos hi,List.getElem?_drop]
theorem NewC.app {es:Nat} {xs ys:List V} {cs ds:List Value} (h:NewC w F ρ es xs cs) (h':NewC w F ρ es ys ds):NewC w F ρ es (xs++ys) (cs++ds):=by
 refine ⟨by rw [List.length_append,List.length_append,h.len,h'.len,Nat.add_mul],fun i y hy=>?_,fun i y j hy hj=>?_,fun c hc=>?_⟩
 ·rw [List.getElem?_append] at hy
  split at hy
  ·exact h.wid i y hy
  ·exact h'.wid _ y hy
 ·rw [List.getElem?_append] at hy
  split at hy
  ·rename_i hi
   obtain ⟨c,c1,c2⟩:=h.cell i y j hy hj
   exact ⟨c,by rw [List.getElem?_append_left (by rw [h.len]; exact idx_lt hi hj)]; exact c1,c2⟩
  ·rename_i hi
   obtain ⟨c,c1,c2⟩:=h'.cell _ y j hy hj
   refine ⟨c,?_,c2⟩
   have e:i * es+j=xs.length * es+((i - xs.length) * es+j):=by
    have:i=xs.length+(i - xs.length):=by omega
    conv=>lhs; rw [this,Nat.add_mul]
    omega
   rw [List.getElem?_append_right (by rw [h.len]; omega),h.len,e,Nat.add_sub_cancel_left]; exact c1
 ·rcases List.mem_append.1 hc with hc | hc
  ·exact h.one c hc
  ·exact h'.one c hc
theorem NewC.turn {es:Nat} {ys:List V} {news:List Value} {w':World} {F':Fz} {ρ':Rho} (h:NewC w F ρ es ys news) (hF:∀ g o,F g o→F' g o) (hc:∀ g o c,F g o→clOf w g o=some c→clOf w' g o=some c):NewC w' F' ρ' es ys news :=
 ⟨h.len,h.wid,fun i y j hy hj=>by
  obtain ⟨c,c1,c2,c3⟩:=h.cell i y j hy hj
  refine ⟨c,c1,c2,fun z hz=>?_⟩
  have hf:=flat_cells (h.wid i y hy).2 hz
  exact ((c3 z hz).flatρ (ρ':=ρ') hf).mono hF hc (fun _ _=>agree.refl _),h.one⟩
theorem run_builtin {c:Call} {b:Builtin} (ho:o.op = .call c) (hc:c.callee = .builtin b) :
  ∃ ty cs,(execOp a.eval o).run P w=(builtin b c.argTypes ty cs (c.args.map a.eval)).run P w:=by
 refine ⟨o.type,c.args.map fun | .const _=>true | _=>false,?_⟩
 simp only [execOp,ho,resolve,hc,Sem.run_bind,Sem.run_pure,Result.andThen_ok,invoke]
 rfl
theorem run_append_op {c:Call} {r:Value} {t u:TypeId} {x y:Value} {w':World} (ho:o.op = .call c) (hc:c.callee = .builtin .append) (hT:∀ ty,(Builtin.append_ c.argTypes ty (c.args.map a.eval)).run P w = .ok r w') :
  (execOp a.eval o).run P w = .ok (.value r) w':=by
 obtain ⟨ty,cs,h⟩:=run_builtin (P:=P) (w:=w) (a:=a) ho hc
 rw [h]
 simp [Go.builtin,hT ty]
theorem Row.new {w':World} {F':Fz} {ρ':Rho} {es:Nat} {xs:List V} {cs:List Value} {g p:Nat} {frz:Bool} (h:NewC w F ρ es xs cs) (hF:∀ g o,F g o→F' g o) (hc:∀ g o c,F g o→clOf w g o=some c→clOf w' g o=some c)
  (hcl:∀ j v,cs[j]? = some v→clOf w' g (p+j)=some v) (hf:frz=true→∀ j,j < cs.length→F' g (p+j)):Row w' F' ρ' es xs g p frz :=
 ⟨h.wid,fun i x j hx hj=>by
  obtain ⟨c,c1,c2,c3⟩:=h.cell i x j hx hj
  have hfl:=(h.wid i x hx).2
  refine ⟨c,by rw [Nat.add_assoc]; exact hcl _ _ c1,c2,fun y hy=>((c3 y hy).flatρ (ρ':=ρ') (flat_cells hfl hy)).mono hF hc (fun _ _=>agree.refl _),fun hz=>?_⟩
  rw [Nat.add_assoc]
  exact hf hz _ (List.getElem?_eq_some_iff.1 c1).1⟩
theorem Row.app {es:Nat} {xs ys:List V} {g p:Nat} {frz:Bool} (h:Row w F ρ es xs g p frz) (h':Row w F ρ es ys g (p+xs.length * es) frz):Row w F ρ es (xs++ys) g p frz:=by
 refine ⟨fun i y hy=>?_,fun i y j hy hj=>?_⟩
 ·rw [List.getElem?_append] at hy
  split at hy
  ·exact h.wid i y hy
  ·exact h'.wid _ y hy
 ·rw [List.getElem?_append] at hy
  split at hy
  ·exact h.cell i y j hy hj
  ·rename_i hi
   have:=h'.cell _ y j hy hj
   rwa [show p+xs.length * es+(i - xs.length) * es+j=p+i * es+j by
    have:i=xs.length+(i - xs.length):=by omega
    conv=>rhs; rw [this,Nat.add_mul]
    omega] at this
theorem append_in_core {c:Call} {t u e:TypeId} {x:Value} {k off sLen sCap es ver m:Nat} {xs ys:List V} {frz:Bool} {ad:Option Addr} {news:List Value}
  (ho:o.op = .call c) (hc:c.callee = .builtin .append) (hts:c.argTypes = #[t,u]) (hargs:c.args.map a.eval = #[.slice ad sLen sCap,x])
  (hR:RelF B n F ρ s a w) (hl:look k s.hp=some (.arr es xs true frz ver)) (ht:P.underlying t=some (.slice e)) (hes:szOf P e=es) (hz:es≠0)
  (hx:Adds P e u x m news w) (hm:m=ys.length) (hn:NewC w F ρ es ys news) (hb:m * bytesOf P e≤281474976710656) (hroom:sLen+m≤sCap)
  (hoff:off+sLen≤xs.length) (hcap:sCap+off=(ρ k).cap) (ha:sCap=0∨ad=some ⟨(ρ k).ablk,(ρ k).base+off * es,none⟩) (hfz:frz=false∨off+sLen=xs.length)
  (hT:T k):∃ (F':Fz) (w':World),(execOp a.eval o).run P w = .ok (.value (.slice ad (sLen+m) sCap)) w'∧RelF B n F' (upd ρ k ⟨(ρ k).blk,(ρ k).ablk,(ρ k).base+off * es,sCap,sLen+m,es,ver+1⟩) (s.upd k (.arr es (cutL xs off sLen++ys) true frz (ver+1))) a w'∧Kept F ρ s w T F' (upd ρ k ⟨(ρ k).blk,(ρ k).ablk,(ρ k).base+off * es,sCap,sLen+m,es,ver+1⟩) (s.upd k (.arr es (cutL xs off sLen++ys) true frz (ver+1))) w'∧VR (clOf w') F' (upd ρ k ⟨(ρ k).blk,(ρ k).ablk,(ρ k).base+off * es,sCap,sLen+m,es,ver+1⟩) (.sla k (ver+1)) (.slice ad (sLen+m) sCap):=by
 obtain ⟨row,e1,e2,e3,e4⟩:=hR.hr.row hl
 obtain ⟨_,_,_,_,_,_,e7⟩:=hR.hr.sr k _ hl
 have hag0:(ρ k).blk=(ρ k).blk:=rfl
 have hp1:off * es+sLen * es=(off+sLen) * es:=(Nat.add_mul _ _ _).symm
 have hp2:(off+sLen) * es+m * es=(off+sLen+m) * es:=(Nat.add_mul _ _ _).symm
 have hp5:sLen * es+m * es=(sLen+m) * es:=(Nat.add_mul _ _ _).symm
 have hp3:(off+sLen+m) * es≤(ρ k).cap * es:=Nat.mul_le_mul_right _ (by omega)
 have hp4:(off+sLen) * es≤xs.length * es:=Nat.mul_le_mul_right _ hoff
 have hp6:sCap * es+off * es=(ρ k).cap * es:=by rw [← Nat.add_mul,hcap]
 have hnl:news.length=m * es:=by rw [hn.len,hm]
 have howns:∀ q,owns ρ k (.arr es xs true frz ver) (ρ k).ablk q↔((ρ k).base≤q∧((frz=false∧q < (ρ k).base+xs.length * es)∨((ρ k).base+xs.length * es≤q∧q < (ρ k).base+(ρ k).cap * es))):=fun q=>by
  simp only [owns,true_and]
 have hxc:xs.length * es≤(ρ k).cap * es:=Nat.mul_le_mul_right _ e4
 generalize hg:(ρ k).ablk=g at *
 generalize hb0:(ρ k).base=b0 at *
 generalize hcp:(ρ k).cap=cp at *
 have hin:∀ q,b0+(off+sLen) * es≤q→q < b0+(off+sLen+m) * es→owns ρ k (.arr es xs true frz ver) g q:=fun q h1 h2=>by
  rw [howns]
  refine ⟨by omega,?_⟩
  rcases hfz with h | h
  ·by_cases hq:q < b0+xs.length * es
   ·exact .inl ⟨h,hq⟩
   ·exact .inr ⟨by omega,by omega⟩
  ·rw [h] at h1; exact .inr ⟨by omega,by omega⟩
 have hsome:∀ q,b0≤q→q < b0+cp * es→(clOf w g q).isSome=true:=fun q h1 h2=>by
  by_cases hq:q < b0+xs.length * es
  ·obtain ⟨d1,d2,d3⟩:=divmod_lt (j:=q - b0) (m:=xs.length) (es:=es) (by omega)
   obtain ⟨c,c1,_⟩:=row.cell ((q - b0) / es) _ ((q - b0) % es) (List.getElem?_eq_getElem d1) d2
   rw [show b0+(q - b0) / es * es+(q - b0) % es=q by omega] at c1
   rw [c1]; rfl
  ·exact e7 rfl q (by omega) h2
 have hrun:(execOp a.eval o).run P w = .ok (.value (.slice ad (sLen+m) sCap)) (w.setCells g (b0+(off+sLen) * es) news):=by
  refine run_append_op (t:=t) (u:=u) (x:=x) (y:=x) ho hc fun ty=>?_
  rw [hts,hargs]
  rw [run_append_in (P:=P) (w:=w) (t:=t) (u:=u) (e:=e) (ty:=ty) (x:=x) (m:=m) (sLen:=sLen) (sCap:=sCap) (news:=news) (base:=ad) ht (by rw [hes]; exact hz) hx hb hroom,hes]
  rcases ha with h2 | h2
  ·have hm0:m=0:=by omega
   have:news=[]:=List.eq_nil_of_length_eq_zero (by rw [hnl,hm0,Nat.zero_mul])
   subst this
   cases ad <;> simp [storeCells,World.setCells]
  ·subst h2
   simp only [add_lit]
   rw [show b0+off * es+sLen * es=b0+(off+sLen) * es by omega]
   have:=run_storeCells_cells (P:=P) g (b0+(off+sLen) * es) news 0 w (fun j hj=>by rw [Nat.add_zero]; exact hsome _ (by omega) (by omega))
    (fun j hj=>by rw [Nat.add_zero]; exact (hR.hr.free k _ _ _ hl (hin _ (by omega) (by omega))).2.1) hn.one
   rw [Nat.add_zero] at this
   simp [this]
 have hcut:(cutL xs off sLen).length=sLen:=cutL_length hoff
 have hF1:∀ q o,F q o→¬ owns ρ k (.arr es xs true frz ver) q o:=fun q o hf hw=>(hR.hr.free k _ _ _ hl hw).1 hf
 have hsame:∀ q p,¬ owns ρ k (.arr es xs true frz ver) q p→clOf (w.setCells g (b0+(off+sLen) * es) news) q p=clOf w q p:=fun q p hno=>by
  refine setCells_out _ _ _ _ _ _ fun he=>?_
  subst he
  rw [hnl]
  by_cases h1:p < b0+(off+sLen) * es
  ·exact .inl h1
  ·by_cases h2:p < b0+(off+sLen+m) * es
   ·exact absurd (hin p (by omega) h2) hno
   ·right; omega
 have hlast:frz=true→off+sLen=xs.length:=fun h=>by
  rcases hfz with h' | h'
  ·rw [h] at h'; cases h'
  ·exact h'
 refine ⟨fun q p=>F q p∨(frz=true∧q=g∧b0+xs.length * es≤p∧p < b0+(xs.length+m) * es),_,hrun,
  (hR.turn hl _ _ _ _ w.heap.size ⟨rfl,.inr (by simp [e3])⟩ (setCells_size _ _ _ _) hsame ⟨setCells_wd _ _ _ _,fun q p=>World.frozen?_setCells _ _ _ _ _⟩ (fun q hno=>?_) hR.fr.size
   (fun q hf=>Nat.lt_irrefl _ (hR.hr.fin _ _ hf)) (fun j y' q hy' ho'=>Nat.lt_irrefl _ (hR.hr.free j y' _ q hy' ho').2.2) (fun _ _ h=>.inl h) (fun q p hf=>?_) ?_ (fun q p hw=>?_)),
  .turn hT hl (fun _ _ h=>.inl h) (Nat.le_of_eq (setCells_size _ _ _ _).symm) fun q p _ hno=>hsame q p hno,.sla (by simp [upd_same]) fun _=>?_⟩
 ·by_cases he:q=g
  ·subst he
   by_cases hm0:m=0
   ·have:news=[]:=List.eq_nil_of_length_eq_zero (by rw [hnl,hm0,Nat.zero_mul])
    subst this; rfl
   ·have:0 < m * es:=Nat.mul_pos (by omega) (by omega)
    exact absurd (hin (b0+(off+sLen) * es) (Nat.le_refl _) (by omega)) (hno _)
  ·exact setCells_heap _ _ he _ _ _
 ·rcases hf with h1 | ⟨h1,h2,h3,h4⟩
  ·exact .inl h1
  ·subst h2
   refine .inr (.inl ?_)
   rw [howns]
   have:(xs.length+m) * es=(off+sLen+m) * es:=by rw [hlast h1]
   exact ⟨by omega,.inr ⟨h3,by omega⟩⟩
 ·have hrow:Row (w.setCells g (b0+(off+sLen) * es) news) (fun q p=>F q p∨(frz=true∧q=g∧b0+xs.length * es≤p∧p < b0+(xs.length+m) * es))
    (upd ρ k ⟨(ρ k).blk,g,b0+off * es,sCap,sLen+m,es,ver+1⟩) es (cutL xs off sLen++ys) g (b0+off * es) frz:=by
   refine Row.app ?_ ?_
   ·have r0:=row.cut off sLen
    refine ⟨r0.wid,fun i y j hy hj=>?_⟩
    obtain ⟨c,c1,c2,c3,c4⟩:=r0.cell i y j hy hj
    have hi:=idx_lt (List.getElem?_eq_some_iff.1 hy).1 hj
    rw [hcut] at hi
    refine ⟨c,?_,c2,fun z hz=>?_,fun h=>.inl (c4 h)⟩
    ·rw [setCells_out]; exact c1
     intro _; left; omega
    ·exact ((c3 z hz).flatρ (flat_cells (r0.wid i y hy).2 hz)).mono (fun _ _ h=>.inl h) (fun q p c' hf hc'=>by rw [hsame q p (hF1 q p hf)]; exact hc') (fun _ _=>agree.refl _)
   ·rw [hcut,show b0+off * es+sLen * es=b0+(off+sLen) * es by omega]
    refine Row.new hn (fun _ _ h=>.inl h) (fun q p c' hf hc'=>by rw [hsame q p (hF1 q p hf)]; exact hc') (fun j v hv=>?_) (fun h j hj=>.inr ⟨h,rfl,?_,?_⟩)
    ·exact setCells_in _ _ _ _ (fun i hi=>hsome _ (by omega) (by omega)) j v hv
    ·rw [← hlast h]; omega
    ·rw [← hlast h]; omega
  show _∧_
  rw [upd_same]
  refine ⟨rfl,by rw [List.length_append,hcut,hm],rfl,by rw [List.length_append,hcut,← hm]; exact hroom,hrow.wid,hrow.cell,fun _ p h1 h2=>?_⟩
  rw [List.length_append,hcut,← hm] at h1
  simp only at h1 h2
  rw [setCells_out]
  ·exact hsome p (by omega) (by omega)
  ·intro _; right; omega
 ·simp only [owns,upd_same,List.length_append,hcut,← hm] at hw
  obtain ⟨h1,h2,h3⟩:=hw
  subst h1
  have h4:owns ρ k (.arr es xs true frz ver) q p:=by
   rw [howns]
   refine ⟨by omega,?_⟩
   rcases h3 with ⟨h3,h4⟩ | ⟨_,h3,h4⟩
   ·by_cases hq:p < b0+xs.length * es
    ·exact .inl ⟨h3,hq⟩
    ·exact .inr ⟨by omega,by omega⟩
   ·by_cases hq:p < b0+xs.length * es
    ·rcases hfz with h5 | h5
     ·exact .inl ⟨h5,hq⟩
     ·rw [← h5] at hq; omega
    ·exact .inr ⟨by omega,by omega⟩
  refine ⟨fun hf=>?_,.inl h4⟩
  rcases hf with hf | ⟨f1,_,f3,f4⟩
  ·exact hF1 _ _ hf h4
  ·rcases h3 with ⟨h3,_⟩ | ⟨_,h3,_⟩
   ·rw [h3] at f1; cases f1
   ·have:(xs.length+m) * es=(off+sLen+m) * es:=by rw [hlast f1]
    omega
 ·rw [upd_same]
  exact ⟨rfl,rfl,ha⟩
theorem append_in {c:Call} {t u e:TypeId} {x:Value} {k off sLen sCap es ver m:Nat} {xs ys:List V} {frz:Bool} {ad:Option Addr} {news:List Value}
  (ho:o.op = .call c) (hc:c.callee = .builtin .append) (hts:c.argTypes = #[t,u]) (hargs:c.args.map a.eval = #[.slice ad sLen sCap,x])
  (hR:RelF B n F ρ s a w) (hl:look k s.hp=some (.arr es xs true frz ver)) (ht:P.underlying t=some (.slice e)) (hes:szOf P e=es) (hz:es≠0)
  (hx:Adds P e u x m news w) (hm:m=ys.length) (hn:NewC w F ρ es ys news) (hb:m * bytesOf P e≤281474976710656) (hroom:sLen+m≤sCap)
  (hoff:off+sLen≤xs.length) (hcap:sCap+off=(ρ k).cap) (ha:sCap=0∨ad=some ⟨(ρ k).ablk,(ρ k).base+off * es,none⟩) (hfz:frz=false∨off+sLen=xs.length)
  (hT:T k) (hk:fin (envP P n gives C) o (s.upd k (.arr es (cutL xs off sLen++ys) true frz (ver+1))) (.sla k (ver+1)) K):OpOk P B n F ρ s T o a w K:=by
 obtain ⟨F',w',h1,h2,h3,h4⟩:=append_in_core (T:=T) ho hc hts hargs hR hl ht hes hz hx hm hn hb hroom hoff hcap ha hfz hT
 exact okTurn hk h1 h2 h3 h4
theorem append_keep {c:Call} {t u e:TypeId} {x:Value} {k sCap es ver m:Nat} {xs ys:List V} {frz:Bool} {ad:Option Addr} {news:List Value}
  (ho:o.op = .call c) (hc:c.callee = .builtin .append) (hts:c.argTypes = #[t,u]) (hargs:c.args.map a.eval = #[.slice ad xs.length sCap,x])
  (hR:RelF B n F ρ s a w) (hl:look k s.hp=some (.arr es xs true frz ver)) (ht:P.underlying t=some (.slice e)) (hes:szOf P e=es) (hz:es≠0)
  (hx:Adds P e u x m news w) (hm:m=ys.length) (hn:NewC w F ρ es ys news) (hb:m * bytesOf P e≤281474976710656) (hroom:xs.length+m≤sCap)
  (hcap:sCap=(ρ k).cap) (ha:sCap=0∨ad=some ⟨(ρ k).ablk,(ρ k).base,none⟩)
  (hT:T k) (hk:fin (envP P n gives C) o (s.keep k ver xs.length (.arr es (xs++ys) true frz (ver+1))) (.sla k (ver+1)) K):OpOk P B n F ρ s T o a w K:=by
 obtain ⟨row,e1,e2,e3,e4⟩:=hR.hr.row hl
 obtain ⟨F',w',h1,h2,h3,h4⟩:=append_in_core (T:=T) (off:=0) (sLen:=xs.length) ho hc hts hargs hR hl ht hes hz hx hm hn hb hroom (by omega) (by omega) (by rw [Nat.zero_mul,Nat.add_zero]; exact ha) (.inr (Nat.zero_add _)) hT
 rw [show cutL xs 0 xs.length=xs by simp [cutL]] at h2 h3
 refine okTurn hk h1 ⟨h2.size,h2.defers,fun q v hv=>?_,h2.hr,h2.fr⟩ ⟨h3.fup,h3.size,h3.cell,h3.own⟩ h4
 simp only [S.keep] at hv
 rw [look_map (keepV k ver xs.length)] at hv
 cases hu:look q s.tm with
 | none=>rw [hu] at hv; cases hv
 | some v0 =>
  rw [hu] at hv; cases hv
  have hold:=h2.tm q v0 hu
  cases v0 with
  | sla j vv =>
   simp only [keepV]
   cases hb:Nat.beq j k && Nat.beq vv ver
   ·exact hold
   ·simp only [Bool.and_eq_true] at hb
    have hj:=Nat.eq_of_beq_eq_true hb.1
    have hvv:=Nat.eq_of_beq_eq_true hb.2
    subst hj; subst hvv
    simp only [cond_true]
    have h0:=hR.tm q _ hu
    generalize a.tmps.getD q undef=c0 at h0 ⊢
    cases h0 with
    | sla hv' h' =>
     obtain ⟨f1,f2,f3⟩:=h' e3.symm
     refine .slm (by rw [upd_same]; exact Nat.le_refl _) fun _=>?_
     rw [upd_same]
     refine ⟨by rw [f1,e2],by simp,by simp; omega,?_⟩
     simpa using f3
  | _=>exact hold
end
end Go.Proofs.YtdjldmolhkkipaaGreatDoor.Eng
end
