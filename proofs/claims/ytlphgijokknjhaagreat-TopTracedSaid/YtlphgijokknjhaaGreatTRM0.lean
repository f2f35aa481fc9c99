/- The evaluator, the functions of this seat and what they compute: some texts in one, in short names. Conditions: those of each law. -/
import Derived.Orders
import Derived.KernelRfl
import Derived.WalkKit
import Derived.RangeFuncRecord
import Derived.Maps.RangeRun
set_option linter.all false
set_option maxRecDepth 100000
set_option maxHeartbeats 4000000
namespace Go.Proofs.YtlphgijokknjhaaGreat.Ev
open Go
inductive V where
 |undef
 |bool (b:Bool)
 |int (k:IntKind) (n:Int)
 |str (s:ByteArray)
 |nil
 |aa (id gen off:Nat)
 |lp (own:Bool) (cs:List V) (off:Nat)
 |slice (a:V) (len cap:Nat) (tail:Bool)
 |map (r:Option Nat)
 |func (f:FuncId) (cs:List V)
 |nilFunc
 |nilIface
 |agg (cs:List V)
 |tuple (vs:List V)
 |hR (id:Nat)
instance:Inhabited V:=⟨.undef⟩
inductive Slot where
 |fresh
 |dead
 |own (cs:List V) (bo:Nat)
 |dk (kk vk:IntKind) (es:List (Int×Int))
 |cZ (es:List (V×V))
 |jB (mid n:Nat) (seen:List Nat)
 |loop (st:LoopState)
structure H where
 next:Nat
 m:Nat→Slot
def H.empty:H:=⟨0,fun _=> .fresh⟩
def H.put (h:H)(id:Nat)(s:Slot):H:={h with m:=fun i=>bif Nat.beq i id then s else h.m i}
def H.new(h:H)(cs:List V)(bo:Nat):H:={next:=h.next+1,m:=fun i=>bif Nat.beq i h.next then .own cs bo else h.m i}
def Slot.isObj:Slot→Bool
 |.dk .. |.cZ _|.jB .. |.loop _=>true
 |_=>false
def H.hP(h:H)(s:Slot):H:={next:=h.next+1,m:=fun i=>bif Nat.beq i h.next then s else h.m i}
def H.begin(h:H)(id:Nat):Option H:=
 match h.m id with
 |.loop .ready=>some (h.put id (.loop .busy))
 |_=>none
def H.GB(h:H)(id:Nat):Option H:=
 match h.m id with
 |.loop .busy=>some (h.put id (.loop .ready))
 |_=>none
def H.GC(h:H)(id:Nat):Option H:=
 match h.m id with
 |.loop .ready=>some (h.put id (.loop .exhausted))
 |_=>none
def H.de (h:H)(n:Nat):H:={h with next:=h.next+n}
def H.from(h:H):V→Option (List V)
 |.lp _ cs off=>some (cs.drop off)
 |.aa id gen off=>match h.m id with
  |.own cs _=>if cs.length=gen then some (cs.drop off)else none
  |_=>none
 |_=>none
def H.rd (h:H)(a:V):Option V:=(h.from a).bind fun cs=>cs.head?
def H.fv(h:H)(a:V)(n:Nat):Option (List V):=(h.from a).bind fun cs=>if n≤cs.length∧n≠0 then some (cs.take n)else none
def splice (cs:List V)(off:Nat)(vs:List V):List V:=cs.take off++vs++cs.drop (off+vs.length)
def H.aY(h:H)(a:V)(vs:List V):Option H:=
 match a with
 |.aa id gen off=>match h.m id with
  |.own cs e=>if cs.length=gen∧off+vs.length≤cs.length then some (h.put id (.own (splice cs off vs) e))else none
  |_=>none
 |_=>none
def H.wr(h:H)(a v:V):Option H:=h.aY a [v]
def V.add:V→Nat→V
 |.aa id gen off,n=> .aa id gen (off+n)
 |.lp f cs off,n=> .lp f cs (off+n)
 |v,_=>v
def V.bm:V→Bool
 |.aa .. =>true
 |.lp _ cs _=>!cs.isEmpty
 |_=>false
def V.h_:V→Bool
 |.lp _ cs _=>cs.isEmpty
 |_=>false
def V.cS:V→Bool
 |.aa .. |.func .. |.hR _=>true
 |.lp _ cs _=>!cs.isEmpty
 |_=>false
def V.RB:V→Bool
 |.agg _|.tuple _|.undef=>false
 |_=>true
structure au where
 a:V
 len:Nat
 cap:Nat
 tail:Bool
inductive ab where
 |int (k:IntKind)
 |bool |str |ptr |slice |map|dyn |tok
 |row (ls:List ab)
mutual
@[reducible] def ab.C:ab→Type
 |.int _=>Int
 |.bool=>Bool
 |.str=>ByteArray
 |.ptr=>V
 |.slice=>au
 |.map=>Option Nat
 |.dyn=>V
 |.tok=>Unit
 |.row ls=>List (LT ls)
@[reducible] def LT:List ab→Type
 |[]=>Unit
 |[l]=>l.C
 |l::b3::ls=>l.C×LT (b3::ls)
end
def ab.pack:(l:ab)→V→Option l.C
 |.int k,.int e_ n=>if k=e_ then some n else none
 |.bool,.bool b=>some b
 |.str,.str s=>some s
 |.ptr,v=>some v
 |.slice,.slice a l c t=>some ⟨a,l,c,t⟩
 |.map,.map r=>some r
 |.dyn,v=>some v
 |.tok,.undef=>some ()
 |_,_=>none
def ab.un:(l:ab)→l.C→V
 |.int k,n=> .int k n
 |.bool,b=> .bool b
 |.str,s=> .str s
 |.ptr,a=>a
 |.slice,s=> .slice s.a s.len s.cap s.tail
 |.map,r=> .map r
 |.dyn,v=>v
 |.tok,_=> .undef
 |.row _,_=> .undef
def LT.pack:(ls:List ab)→List V→Option (LT ls)
 |[],[]=>some ()
 |[l],[v]=>l.pack v
 |l::b3::ls,v::vs=>(l.pack v).bind fun x=>(LT.pack (b3::ls) vs).bind fun y=>some (x,y)
 |_,_=>none
def LT.un:(ls:List ab)→LT ls→List V
 |[],_=>[]
 |[l],x=>[l.un x]
 |l::b3::ls,x=>l.un x.1::LT.un (b3::ls) x.2
inductive ai where
 |leaf (l:ab)
 |agg (ls:List ab)
abbrev ai.C:ai→Type
 |.leaf l=>l.C
 |.agg ls=>LT ls
def ai.pack:(t:ai)→V→Option t.C
 |.leaf l,v=>l.pack v
 |.agg ls,.agg vs=>LT.pack ls vs
 |.agg _,_=>none
def ai.un:(t:ai)→t.C→V
 |.leaf l,x=>l.un x
 |.agg ls,x=> .agg (LT.un ls x)
abbrev aj:List ai→Type
 |[]=>Unit
 |[t]=>t.C
 |t::ea::ts=>t.C×aj (ea::ts)
def aj.pack:(ts:List ai)→List V→Option (aj ts)
 |[],[]=>some ()
 |[t],[v]=>t.pack v
 |t::ea::ts,v::vs=>(t.pack v).bind fun x=>(aj.pack (ea::ts) vs).bind fun y=>some (x,y)
 |_,_=>none
def aj.un:(ts:List ai)→aj ts→List V
 |[],_=>[]
 |[t],x=>[t.un x]
 |t::ea::ts,x=>t.un x.1::aj.un (ea::ts) x.2
inductive an where
 |one (t:ai)
 |many (ts:List ai)
abbrev an.C:an→Type
 |.one t=>t.C
 |.many ts=>aj ts
def an.pack:(r:an)→V→Option r.C
 |.one t,v=>t.pack v
 |.many ts,.tuple vs=>aj.pack ts vs
 |.many _,_=>none
def an.un:(r:an)→r.C→V
 |.one t,x=>t.un x
 |.many ts,x=> .tuple (aj.un ts x)
def RC:Value→ab
 |.int k _=> .int k
 |.bool _=> .bool
 |.string _=> .str
 |.pointer _=> .ptr
 |.slice .. => .slice
 |.map _=> .map
 |_=> .dyn
def zeroOf(P:Program)(t:TypeId):Option Value:=(P.info? t).bind (·.zero)
def eL(P:Program)(t:TypeId):Option Nat:=(P.info? t).map (·.size)
def pP(P:Program)(t:TypeId):Option Nat:=(P.info? t).map (·.bytes)
def oZ(P:Program)(t:TypeId):Option Bool:=
 match P.underlying t with
 |some (.struct _)=>some true
 |some (.array ..)=>some true
 |some _=>some false
 |none=>none
def lT(P:Program)(t:TypeId):Option ai:=
 match oZ P t,zeroOf P t with
 |some true,some (.agg cs)=>if eL P t=some cs.size then some (.agg (cs.toList.map RC))else none
 |some true,_=>none
 |some false,some (.agg _)=>none
 |some false,some z=>some (.leaf (RC z))
 |_,_=>none
def Sc (P:Program)(t:TypeId):Option an:=
 match((P.info? t).map (·.desc):Option TypeDesc)with
 |some (.tuple es)=>(es.toList.mapM (lT P)).map .many
 |_=>(lT P t).map .one
def ofConst:Value→V
 |.bool b=> .bool b
 |.int k n=> .int k n
 |.string s=> .str s
 |.pointer none=> .nil
 |.slice none 0 0=> .slice .nil 0 0 false
 |.map none=> .map none
 |.nilFunc=> .nilFunc
 |.nilIface=> .nilIface
 |_=> .undef
def one:Value→Bool
 |.agg _|.tuple _=>false
 |_=>true
def yN:Value→V
 |.agg cs=>if cs.toList.all one then .agg (cs.toList.map ofConst)else .undef
 |v=>ofConst v
def zeroCells(P:Program)(t:TypeId):Option (List V):=
 match zeroOf P t with
 |some z=>if z.cells.toList.all one then some (z.cells.toList.map ofConst)else none
 |none=>none
def V.cells:V→Option (List V)
 |.undef=>none
 |.tuple _=>none
 |.agg cs=>some cs
 |v=>some [v]
def ah(t:ai)(h:H)(a:V):Option t.C:=
 match t with
 |.leaf l=>(h.rd a).bind l.pack
 |.agg ls=>(h.fv a ls.length).bind (LT.pack ls)
def af9:List (Nat×Array Value):=[]
structure Entry where
 quiet:Bool
 fC:List V→H→{R:Type}→(V→H→Option R)→Option R
 mono:Bool:=false
 Km:mono=true→∀(args:List V) (h:H) (i:Nat) (s:Slot) (v:V) (ar:H),h.m i=.fresh→fC args h (fun v h=>some (v,h))=some (v,ar)→fC args (h.put i s) (fun v h=>some (v,h))=some (v,ar.put i s):=by intro h;cases h
 free:Bool:=false
 Kn:free=true→∀(args:List V) (h:H) (v:V) (ar:H),fC args h (fun v h=>some (v,h))=some (v,ar)→
  h.next≤ar.next∧(∀j,h.m j≠.fresh→ar.m j=h.m j)∧∀(i:Nat) (s:Slot),i<h.next→h.m i=.fresh→ar.m i=.fresh∧fC args (h.put i s) (fun v h=>some (v,h))=some (v,ar.put i s):=by intro h;cases h
 loc:Bool:=false
 adE:loc=true→∀(args:List V) (h:H) (v:V) (ar:H),fC args h (fun v h=>some (v,h))=some (v,ar)→
  ∃id g o l c t rest s,args=.slice (.aa id g o) l c t::rest∧h.m id≠.fresh∧ar=h.put id s∧∀cG:H,cG.m id=h.m id→fC args cG (fun v h=>some (v,h))=some (v,cG.put id s):=by intro h;cases h
def Entry.none:Entry:={quiet:=false,fC:=fun _ _ _ _=>Option.none}
structure oa where
 fn:FuncId→Entry
 l8:Entry
 it:FuncId→Entry→Entry
structure Table where
 st:FuncId→Entry
 dg:oa
def Table.nil:Table:=⟨fun _=>Entry.none,⟨fun _=>Entry.none,Entry.none,fun _ _=>Entry.none⟩⟩
def look:List (FuncId×Entry)→(FuncId→Entry)→FuncId→Entry
 |[],T=>T
 |(f,e)::l,T=>fun g=>bif Nat.beq g f then e else look l T g
def uy:List (FuncId×(Entry→Entry))→(FuncId→Entry→Entry)→FuncId→Entry→Entry
 |[],T=>T
 |(f,e)::l,T=>fun g=>bif Nat.beq g f then e else uy l T g
def qe (ls xw:List (FuncId×Entry))(T:Table):Table:=⟨look ls T.st,⟨look xw T.dg.fn,T.dg.l8,T.dg.it⟩⟩
def wk(l:List (FuncId×(Entry→Entry)))(T:Table):Table:=⟨T.st,⟨T.dg.fn,T.dg.l8,uy l T.dg.it⟩⟩
def m2(T:Table)(Y:Entry):Table:=⟨T.st,⟨T.dg.fn,Y,T.dg.it⟩⟩
def Table.at (T:Table):Operand→oa
 |.func _=>⟨T.st,T.dg.l8,T.dg.it⟩
 |_=>T.dg
def eE(T:oa)(v:V)(args:List V)(h:H){R:Type}(k:V→H→Option R):Option R:=
 match v with
 |.func f cs=>(T.fn f).fC (args++cs) h k
 |.hR id=>T.l8.fC (.hR id::args) h k
 |_=>none
def F_(T:oa)(v:V)(args:List V)(h:H){R:Type}(k:V→H→Option R):Option R:=
 match v with
 |.func f cs=>bif (T.fn f).quiet then(T.fn f).fC (args++cs) h k else none
 |_=>none
def Ga(T:oa)(v:V)(args:List V)(h:H){R:Type}(k:V→H→Option R):Option R:=
 match v with
 |.func f cs=>bif (T.fn f).free then(T.fn f).fC (args++cs) h k else none
 |_=>none
def m3(q y:Bool)(T:oa)(v:V)(args:List V)(h:H){R:Type}(k:V→H→Option R):Option R:=bif q then F_ T v args h k else bif y then Ga T v args h k else eE T v args h k
def B4{α:Type}(T:oa)(Y:Entry)(v:V)(args:List V)(h:H)(k:H→Option α):Option α:=
 match v with
 |.func f cs=>(T.it f Y).fC (args++cs) h fun _ h=>k h
 |_=>none
def qf(ts:List ai)(l:Nat)(f:aj ts→H→Option H):Entry:=
 {quiet:=false,fC:=fun args h _ k=>match args with
  |.hR id::alo=>bif Nat.beq id l then(aj.pack ts alo).bind fun x=>(f x h).bind fun ar=>k (.bool true) ar else none
  |_=>none}
abbrev Env:=Nat→V
def Env.set (env:Env)(t:Nat)(v:V):Env:=fun i=>bif Nat.beq i t then v else env i
def aR(env:Env):Operand→V
 |.tmp t=>env t
 |.const v=>yN v
 |.global _=> .undef
 |.func f=> .func f []
def aJ{R:Type}(p:Prop)[Decidable p](x:Option R):Option R:=if p then x else none
def gl(op:BinOp)(k:IntKind)(x y:Int):Int:=
 let a:=BitVec.ofInt k.bits x
 let b:=BitVec.ofInt k.bits y
 k.wrap (match op with
  |.and=>a&&&b
  |.or=>a|||b
  |.xor=>a^^^b
  |_=>a&&&~~~b).toNat
def lJ:List V→List V→Option Bool
 |[],[]=>some true
 |[.int k a],[.int e_ b]=>if k=e_ then some (decide (a=b))else none
 |[.bool a],[.bool b]=>some (a==b)
 |.int k a::xs,.int e_ b::ys=>if k=e_ then(lJ xs ys).map fun r=>decide (a=b)&&r else none
 |.bool a::xs,.bool b::ys=>(lJ xs ys).map fun r=>(a==b)&&r
 |_,_=>none
def pG(P:Program)(t:TypeId):Option IntKind:=
 match P.underlying t with
 |some (.int k)=>some k
 |_=>none
def isBool(P:Program)(t:TypeId):Bool:=
 match P.underlying t with
 |some .bool=>true
 |_=>false
def FH(P:Program)(t:TypeId):Option (List Bool):=
 match P.underlying t with
 |some (.struct fs)=>bif !(P.stoodInHeld t)&&(fs.toList.zipIdx.all fun(f,i)=>f.offset==i&&f.name != "_"&&((pG P f.type).isSome ||isBool P f.type))then some (fs.toList.map fun f=>isBool P f.type)else none
 |_=>none
def fits:List Bool→List V→Bool
 |[],[]=>true
 |false::fz,.int _ _::vs=>fits fz vs
 |true::fz,.bool _::vs=>fits fz vs
 |_,_=>false
def isSlice (P:Program)(t:TypeId):Option TypeId:=
 match P.underlying t with
 |some (.slice e)=>some e
 |_=>none
def yO(op:BinOp)(eb:IntKind)(a:Int)(kf:IntKind)(b:Int){R:Type}(k:V→Option R):Option R:=
 match op with
 |.shl=>aJ (0≤b) (k (.int eb (eb.wrap (a*2^(min b.toNat eb.bits)))))
 |.shr=>aJ (0≤b) (k (.int eb (a.fdiv (2^(min b.toNat eb.bits)))))
 |_=>if eb=kf then
  match op with
  |.add=>k (.int eb (eb.wrap (a+b)))
  |.sub=>k (.int eb (eb.wrap (a-b)))
  |.mul=>k (.int eb (eb.wrap (a*b)))
  |.quo=>aJ (b≠0) (k (.int eb (eb.wrap (a.tdiv b))))
  |.rem=>aJ (b≠0) (k (.int eb (a.tmod b)))
  |.and=>k (.int eb (gl .and eb a b))
  |.or=>k (.int eb (gl .or eb a b))
  |.xor=>k (.int eb (gl .xor eb a b))
  |.andNot=>k (.int eb (gl .andNot eb a b))
  |.eql=>k (.bool (decide (a=b)))
  |.neq=>k (.bool (!decide (a=b)))
  |.lss=>k (.bool (decide (a<b)))
  |.leq=>k (.bool (decide (a≤b)))
  |.gtr=>k (.bool (decide (b<a)))
  |.geq=>k (.bool (decide (b≤a)))
  |_=>none
  else none
def yP(op:BinOp)(a b:ByteArray){R:Type}(k:V→Option R):Option R:=
 match op with
 |.eql=>k (.bool (decide (a=b)))
 |.neq=>k (.bool (!decide (a=b)))
 |.lss=>k (.bool (Op.bytesLess a.toList b.toList))
 |.leq=>k (.bool (Op.bytesLess a.toList b.toList ||decide (a=b)))
 |.gtr=>k (.bool (!(Op.bytesLess a.toList b.toList ||decide (a=b))))
 |.geq=>k (.bool (!Op.bytesLess a.toList b.toList))
 |_=>none
def uI(P:Program)(op:BinOp)(t:TypeId)(x y:V){R:Type}(k:V→Option R):Option R:=
 match x,y with
 |.int eb a,.int kf b=>yO op eb a kf b k
 |.str a,.str b=>yP op a b k
 |.bool a,.bool b=>bif isBool P t then(match op with
   |.eql=>k (.bool (a==b))
   |.neq=>k (.bool (!(a==b)))
   |_=>none)
  else none
 |.slice a _ _ _,.slice .nil 0 0 false=>bif (isSlice P t).isSome&&!a.h_ then(match op with
   |.eql=>k (.bool (!a.bm))
   |.neq=>k (.bool a.bm)
   |_=>none)
  else none
 |.agg xs,.agg ys=>match FH P t with
  |some fz=>bif fits fz xs&&fits fz ys then(match op with
   |.eql=>(lJ xs ys).bind fun r=>k (.bool r)
   |.neq=>(lJ xs ys).bind fun r=>k (.bool (!r))
   |_=>none)
   else none
  |none=>none
 |_,_=>none
def wQ(op:UnOp)(x:V){R:Type}(k:V→Option R):Option R:=
 match op,x with
 |.neg,.int kd n=>k (.int kd (kd.wrap (0-n)))
 |.not,.bool b=>k (.bool (!b))
 |.xor,.int kd n=>k (.int kd (gl .xor kd (if kd.signed then -1 else kd.max) n))
 |_,_=>none
def oT(place:Nat→Option (Nat×Nat))(cells:List V):List (Nat×V)→Option (List V)
 |[]=>some cells
 |(i,v)::rest=>
  match place i,v.cells with
  |some (off,size),some cs=>if cs.length=size∧off+cs.length≤cells.length then oT place (splice cells off cs) rest else none
  |_,_=>none
def JB(P:Program)(t:TypeId):Option (Nat→Option (Nat×Nat)):=
 match P.underlying t with
 |some (.struct fs)=>bif fs.toList.all fun f=>(eL P f.type).isSome then some fun i=>(fs[i]?).map fun f=>(f.offset,(eL P f.type).getD 0)else none
 |some (.array _ e)=>(eL P e).map fun s i=>some (i*s,s)
 |_=>none
def eI(z:List V):Nat→List V
 |0=>[]
 |n+1=>z++eI z n
def oM(env:Env)(ps:Array (Nat×Operand)):List (Nat×V):=ps.toList.map fun p=>(p.1,aR env p.2)
def yt (P:Program)(t:TypeId)(f:Nat):Option (Nat×TypeId):=
 match P.underlying t with
 |some (.struct fs)=>(fs[f]?).map fun g=>(g.offset,g.type)
 |_=>none
def uz(P:Program)(t:TypeId)(cs:List V)(off:Nat):Option V:=
 match lT P t,eL P t with
 |some (.leaf _),_=>cs[off]?
 |some (.agg _),some n=>if off+n≤cs.length then some (.agg ((cs.drop off).take n))else none
 |_,_=>none
def mY(P:Program)(t:TypeId)(v:V){R:Type}(k:List V→Option R):Option R:=
 match lT P t with
 |some (.leaf _)=>aJ (v.RB=true) (k [v])
 |some (.agg _)=>match v with
  |.agg cs=>k cs
  |_=>none
 |none=>none
def sI(y x:Int):Int:=if y<x then y else x
def wm(y x:Int):Int:=if y>x then y else x
def ei:Nat:=2^36
def newAt (h:H)(at_:Option Nat)(cs:List V)(bo gen:Nat){R:Type}(k:V→H→Option R):Option R:=
 match at_ with
 |none=>k (.aa h.next gen 0) (h.new cs bo)
 |some i=>k (.aa i gen 0) (h.put i (.own cs bo))
def cellsOf(h:H)(v:V)(bo:Nat):Option (Nat×List V):=
 match v with
 |.slice a len _ _=>if len=0 then some (0,[])else (h.fv a (len*bo)).map fun cs=>(len,cs)
 |_=>none
def iF(h:H)(at_:Option Nat)(bo bytes:Nat)(s:V)(cs:List V)(n:Nat){R:Type}(k:V→H→Option R):Option R:=
 match s with
 |.slice a len cap tail=>
  if n=0 then k (.slice a len cap tail) h else
  aJ (len+n≤ei∧bytes≤2^11) (
  match a with
  |.aa id gen off=>match h.m id with
   |.own eA e=>
    if cap=0 then(if tail=false∧len=0∧at_=none then newAt h none cs bo (n*bo) fun p ar=>k (.slice p n n true) ar else none)
    else if len+n≤cap then(h.aY (.aa id gen (off+len*bo)) cs).bind fun ar=>k (.slice a (len+n) cap tail) ar
    else if off=0∧tail=true∧eA.length=gen∧e=bo∧cap*bo=gen∧len≤cap∧0<bo then
     k (.slice (.aa id ((len+n)*bo) 0) (len+n) (len+n) true) (h.put id (.own (eA.take (len*bo)++cs) bo))
    else if tail=false∧at_=none then(cellsOf h (.slice (.aa id gen off) len cap tail) bo).bind fun o=>newAt h none (o.2++cs) bo ((len+n)*bo) fun p ar=>k (.slice p (len+n) (len+n) true) ar
    else none
   |_=>none
  |_=>
   if cap=0∧tail=false∧len=0 then
    newAt h at_ cs bo (n*bo) fun p ar=>k (.slice p n n true) ar
   else if tail=false∧cap<len+n then
    (cellsOf h (.slice a len cap tail) bo).bind fun o=>newAt h at_ (o.2++cs) bo ((len+n)*bo) fun p ar=>k (.slice p (len+n) (len+n) true) ar
   else none)
 |_=>none
def uh(P:Program)(t:TypeId):Option (Nat×TypeId):=
 match P.underlying t with
 |some (.array n e)=>some (n,e)
 |_=>none
def c7(h:H)(at_:Option Nat)(bo bytes:Nat)(s:au)(cs:List V)(n:Nat):Option (au×H):=
 iF h at_ bo bytes (.slice s.a s.len s.cap s.tail) cs n fun v ar=>match v with
  |.slice a l c t=>some (⟨a,l,c,t⟩,ar)
  |_=>none
def se (P:Program)(u:TypeId)(z:List V)(bytes:Nat)(h:H)(x:V)(bo:Nat):Option (Nat×List V):=
 match isSlice P u with
 |some _=>cellsOf h x bo
 |none=>match P.underlying u,x with
  |some (.int .i64),.int _ m=>aJ (0≤m∧m≤ei∧bytes≤2^11) (some (m.toNat,eI z m.toNat))
  |_,_=>none
def pL(v:Option V)(d:Nat){R:Type}(k:Int→Option R):Option R:=
 match v with
 |none=>k d
 |some (.int _ n)=>k n
 |some _=>none
def ra(size:Nat)(a:V)(len cap:Nat)(tail:Bool)(lo hi ju:Option V){R:Type}(k:V→Option R):Option R:=
 match ju with
 |none=>pL lo 0 fun l=>pL hi len fun r=>
   aJ (0≤l∧l≤r∧r≤cap) (k (.slice (a.add (l.toNat*size)) (r.toNat-l.toNat) (cap-l.toNat) tail))
 |some ju=>match hi with
  |none=>none
  |some hi=>pL lo 0 fun l=>pL (some hi) 0 fun r=>pL (some ju) 0 fun m=>
   aJ (0≤l∧l≤r∧r≤m∧m≤cap) (k (.slice (a.add (l.toNat*size)) (r.toNat-l.toNat) (m.toNat-l.toNat) false))
def B5(h:H)(a:V)(z:List V)(len:Nat):Option H:=if len=0 then some h else h.aY a (eI z len)
def lF(P:Program)(b:Builtin)(argTypes:Array TypeId)(at_:Option Nat)(args:List V)(h:H){R:Type}(k:V→H→Option R):Option R:=
 match b,args with
 |.len,[x]=>match argTypes[0]? with
  |some t=>match P.underlying t,x with
   |some (.slice _),.slice _ n _ _=>k (.int .i64 n) h
   |some .string,.str s=>k (.int .i64 s.size) h
   |some (.array n _),_=>k (.int .i64 n) h
   |_,_=>none
  |none=>none
 |.cap,[.slice _ _ c t]=>match argTypes[0]? with
  |some u=>bif (isSlice P u).isSome&&!t then k (.int .i64 c) h else none
  |none=>none
 |.min,[.int eb a,.int _ b]=>k (.int eb (sI b a)) h
 |.max,[.int eb a,.int _ b]=>k (.int eb (wm b a)) h
 |.min,[.int eb a,.int _ b,.int _ c]=>k (.int eb (sI c (sI b a))) h
 |.max,[.int eb a,.int _ b,.int _ c]=>k (.int eb (wm c (wm b a))) h
 |.append,[s,x]=>match argTypes[0]?,argTypes[1]? with
  |some t,some u=>match isSlice P t with
   |some e=>match eL P e,pP P e,zeroCells P e with
    |some bo,some bytes,some z=>if z.length=bo then match s with
      |.slice a l EB t=>(se P u z bytes h x bo).bind fun c=>(c7 h at_ bo bytes ⟨a,l,EB,t⟩ c.2 c.1).bind fun r=>k (.slice r.1.a r.1.len r.1.cap r.1.tail) r.2
      |_=>none
     else none
    |_,_,_=>none
   |none=>none
  |_,_=>none
 |.copy,[.slice a len _ _,x]=>match argTypes[0]? with
  |some t=>match isSlice P t with
   |some e=>match eL P e with
    |some bo=>(cellsOf h x bo).bind fun c=>
      if min c.1 len=0 then k (.int .i64 0) h
      else (h.aY a (c.2.take (min c.1 len*bo))).bind fun ar=>k (.int .i64 (min c.1 len:Nat)) ar
    |none=>none
   |none=>none
  |none=>none
 |.clear,[.slice a len _ _]=>match argTypes[0]? with
  |some t=>match isSlice P t with
   |some e=>match zeroCells P e with
    |some z=>(B5 h a z len).bind fun ar=>k (.tuple []) ar
    |none=>none
   |none=>none
  |none=>none
 |_,_=>none
def yQ(P:Program)(t:TypeId)(v:V){R:Type}(k:V→Option R):Option R:=
 match Sc P t with
 |some r=>(r.pack v).bind fun x=>k (r.un x)
 |none=>none
def BW(P:Program)(t:TypeId)(v:V){R:Type}(k:V→Option R):Option R:=
 match v,Sc P t with
 |.tuple [.undef,x],some (.many [_,t2])=>(t2.pack x).bind fun y=>k (.tuple [.undef,t2.un y])
 |_,_=>none
def q_(b:Bool)(P:Program)(t:TypeId)(v:V){R:Type}(k:V→Option R):Option R:=bif b then BW P t v k else yQ P t v k
structure fw where
 lits:List Nat
 conds:List (Nat×List Nat×List ai×Option Nat×Option Nat)
 loops:List (Nat×List Nat×List ai×List Nat×List ai×Option Nat×Option Nat)
 dB:List (Nat×List Nat×List ai)
 CT:List (Nat×List ai):=[]
 apps:List Nat:=[]
 inr:Bool:=false
 wR:List Nat:=[]
 DC:List Nat:=[]
 ix:List Nat:=[]
 mL:List Nat:=[]
 CU:List Nat:=[]
 SD:List (Nat×ai×ai):=[]
 wS:List Nat:=[]
def lK(k:Int):List (Int×Int)→Option Nat
 |[]=>none
 |(a,_)::es=>if k=a then some 0 else (lK k es).map (· +1)
def getM(k:Int):List (Int×Int)→Option Int
 |[]=>none
 |(a,v)::es=>if k=a then some v else getM k es
def iR(k v:Int):List (Int×Int)→List (Int×Int)
 |[]=>[(k,v)]
 |(a,u)::es=>if k=a then(a,v)::es else (a,u)::iR k v es
def isMap(P:Program)(t:TypeId):Option (IntKind×IntKind):=
 match P.underlying t with
 |some (.map a b)=>match P.underlying a,zeroOf P b with
  |some (.int kk),some (.int vk 0)=>some (kk,vk)
  |_,_=>none
 |_=>none
def H.dk(h:H)(id:Nat)(kk vk:IntKind):Option (List (Int×Int)):=
 match h.m id with
 |.dk k v es=>if k=kk∧v=vk then some es else none
 |_=>none
def ab.er:(l:ab)→l.C→l.C→Bool
 |.int _,a,b=>decide (a=b)
 |.str,a,b=>decide (a=b)
 |_,_,_=>false
def LT.er:(ls:List ab)→LT ls→LT ls→Bool
 |[],_,_=>true
 |[l],a,b=>l.er a b
 |l::b3::ls,a,b=>l.er a.1 b.1&&LT.er (b3::ls) a.2 b.2
def ai.er:(t:ai)→t.C→t.C→Bool
 |.leaf l,a,b=>l.er a b
 |.agg ls,a,b=>LT.er ls a b
def ab.isInt:ab→Bool
 |.int _=>true
 |_=>false
def Ko(P:Program)(a:TypeId):Option ai:=
 match P.underlying a with
 |some (.int k)=>some (.leaf (.int k))
 |some .string=>some (.leaf .str)
 |some (.struct _)=>match FH P a,lT P a with
  |some fz,some (.agg ls)=>bif (fz.all fun b=>!b)&&Nat.beq fz.length ls.length&&ls.all ab.isInt then some (.agg ls)else none
  |_,_=>none
 |_=>none
def mx(P:Program)(t:TypeId):Option (ai×ai×V):=
 match P.underlying t with
 |some (.map a b)=>match Ko P a,lT P b,zeroOf P b with
  |some kt,some bM,some z=>some (kt,bM,yN z)
  |_,_,_=>none
 |_=>none
def zY(kt bM:ai):List (V×V)→Option (List (kt.C×bM.C))
 |[]=>some []
 |(a,b)::es=>(kt.pack a).bind fun x=>(bM.pack b).bind fun y=>(zY kt bM es).bind fun l=>some ((x,y)::l)
def ho(kt bM:ai)(l:List (kt.C×bM.C)):List (V×V):=l.map fun p=>(kt.un p.1,bM.un p.2)
def H.cZ(h:H)(id:Nat)(kt bM:ai):Option (List (kt.C×bM.C)):=
 match h.m id with
 |.cZ es=>zY kt bM es
 |_=>none
def gA(kt:ai){β:Type}(x:kt.C):List (kt.C×β)→Option Nat
 |[]=>none
 |p::l=>bif kt.er x p.1 then some 0 else (gA kt x l).map (· +1)
def p2(kt:ai){β:Type}(z:β)(x:kt.C)(l:List (kt.C×β)):β×Bool:=
 match gA kt x l with
 |some i=>(((l[i]?).map (·.2)).getD z,true)
 |none=>(z,false)
def my (h:H)(id:Nat)(kt bM:ai)(z:bM.C)(x:kt.C):Option (bM.C×Bool):=(h.cZ id kt bM).map fun l=>p2 kt z x l
def uJ(kt:ai){β:Type}(x:kt.C)(v:β)(l:List (kt.C×β)):List (kt.C×β):=
 match gA kt x l with
 |some i=>l.set i (x,v)
 |none=>l++[(x,v)]
def p3(h:H)(id:Nat)(kt bM:ai)(x:kt.C)(v:bM.C):Option H:=
 (h.cZ id kt bM).map fun l=>h.put id (.cZ (ho kt bM (uJ kt x v l)))
def K3(h:H)(id:Nat)(kt bM:ai)(z:bM.C)(x:kt.C):Option ((bM.C×Int)×H):=
 (h.cZ id kt bM).map fun l=>match gA kt x l with
  |some i=>((((l[i]?).map (·.2)).getD z,(i:Int)),h)
  |none=>((z,(l.length:Int)),h.put id (.cZ (ho kt bM (l++[(x,z)]))))
def gQ(h:H)(id:Nat)(kt bM:ai)(i:Int)(v:bM.C):Option H:=
 (h.cZ id kt bM).bind fun l=>aJ (0≤i∧i<l.length) (some (h.put id (.cZ (ho kt bM (l.modify i.toNat fun p=>(p.1,v))))))
def K4{α:Type}(k:Nat):List (Nat×α)→Option α
 |[]=>none
 |(i,a)::l=>bif Nat.beq i k then some a else K4 k l
mutual
def V.beq:V→V→Bool
 |.undef,.undef |.nil,.nil |.nilFunc,.nilFunc |.nilIface,.nilIface=>true
 |.bool a,.bool b=>a==b
 |.int k a,.int e_ b=>decide (k=e_)&&decide (a=b)
 |.str a,.str b=>decide (a=b)
 |.aa a b c,.aa cb c6 bg=>decide (a=cb)&&decide (b=c6)&&decide (c=bg)
 |.lp f cs o,.lp hF dw dL=>(f==hF)&&V.p4 cs dw&&decide (o=dL)
 |.slice a l c t,.slice cb b3 bg ea=>V.beq a cb&&decide (l=b3)&&decide (c=bg)&&(t==ea)
 |.map r,.map fa=>decide (r=fa)
 |.func f cs,.func hF dw=>decide (f=hF)&&V.p4 cs dw
 |.agg cs,.agg dw=>V.p4 cs dw
 |.tuple cs,.tuple dw=>V.p4 cs dw
 |.hR a,.hR b=>decide (a=b)
 |_,_=>false
def V.p4:List V→List V→Bool
 |[],[]=>true
 |a::l,b::b3=>V.beq a b&&V.p4 l b3
 |_,_=>false
end
def BX(h ar:H)(fZ mid n:Nat)(seen:List Nat):Bool:=
 (match h.m mid,ar.m mid with
 |.cZ es,.cZ fx=>V.p4 (es.map (·.1)) (fx.map (·.1))&&V.p4 (es.map (·.2)) (fx.map (·.2))
 |_,_=>false)&&
 (match ar.m fZ with
 |.jB qC AE bc=>decide (qC=mid)&&decide (AE=n)&&decide (bc=seen)
 |_=>false)
def iterAt (h:H)(a:V):Option (Nat×Nat×Nat):=
 match a with
 |.aa fZ 0 0=>match h.m fZ with
  |.jB mid n []=>match h.m mid with
   |.cZ es=>aJ (es.length=n∧n≤2^40) (some (fZ,mid,n))
   |_=>none
  |_=>none
 |_=>none
def K5(h:H)(a:V)(kt bM:ai):Option (kt.C×bM.C):=
 match a with
 |.aa fZ 0 0=>match h.m fZ with
  |.jB mid n seen=>(seen.getLast?).bind fun i=>(h.cZ mid kt bM).bind fun l=>aJ (l.length=n) (l[i]?)
  |_=>none
 |_=>none
def K6(A:fw)(dst:Option Tmp):Operand→Bool
 |.func _=>false
 |_=>A.mL.any fun t=>dst==some t
def vN(P:Program)(ts:Array TypeId)(args:List V)(h:H){R:Type}(k:V→H→Option R):Option R:=
 match ts[0]?,args with
 |some t,[.map (some id)]=>match mx P t with
  |some (kt,bM,_)=>(h.cZ id kt bM).bind fun l=>k (.int .i64 l.length) h
  |none=>none
 |_,_=>none
def gO(P:Program)(T:Table)(A:fw)(o:Oper)(at_:Option Nat)(env:Env)(h:H){R:Type}(k:V→H→Option R):Option R:=
 match o.op with
 |.move x |.assign x=>k (aR env x) h
 |.pick c a b=>match aR env c,aR env a,aR env b with
  |.bool c,.bool p,.bool q=>k (.bool (cond c p q)) h
  |.bool c,HI,Nx=>cond c (k HI h) (k Nx h)
  |_,_,_=>none
 |.alloc e=>(zeroCells P e).bind fun z=>newAt h at_ z z.length z.length k
 |.box e x=>mY P e (aR env x) fun z=>bif A.wR.any fun t=>o.dst==some t then k (.lp true z 0) h else newAt h at_ z z.length z.length k
 |.build t ps=>match zeroCells P t,JB P t with
  |some z,some place=>(oT place z (oM env ps)).bind fun cs=>k (.agg cs) h
  |_,_=>none
 |.buildSlice t n ps=>match isSlice P t with
  |some e=>match eL P e with
   |some bo=>(if n*bo=0 then some []else (zeroCells P e).bind fun z=>aJ (z.length=bo) (some (eI z n))).bind fun iO=>
    (oT (fun i=>some (i*bo,bo)) iO (oM env ps)).bind fun cs=>
     aJ (n*bo≤2^20) (
     bif A.lits.any fun t=>o.dst==some t then newAt h at_ cs bo cs.length fun p ar=>k (.slice p n n false) ar
     else k (.slice (.lp true cs 0) n n false) h)
   |none=>none
  |none=>none
 |.load t a=>match lT P t with
  |some ty=>(ah ty (bif A.DC.any fun t=>o.dst==some t then H.empty else h) (aR env a)).bind fun x=>k (ty.un x) h
  |none=>none
 |.store t a x=>match eL P t with
  |some n=>mY P t (aR env x) fun vs=>if vs.length=n then(h.aY (aR env a) vs).bind fun ar=>k (.tuple []) ar else none
  |none=>none
 |.nilCheck x=>aJ ((aR env x).cS=true) (k (aR env x) h)
 |.binOp op t x y _=>uI P op t (aR env x) (aR env y) fun v=>k v h
 |.unOp op _ x=>wQ op (aR env x) fun v=>k v h
 |.convert src dst x=>bif (P.underlying src).isNone then none else match pG P dst,aR env x with
  |some kd,.int _ n=>k (.int kd (kd.wrap n)) h
  |none,.str s=>match P.underlying dst with
   |some .string=>k (.str s) h
   |_=>none
  |_,_=>none
 |.makeFunc (.func f) first cs=>match first.toList with
  |[]=>k (.func f (cs.toList.map (aR env))) h
  |_=>none
 |.makeSlice t l c=>match isSlice P t,aR env l,aR env c with
  |some e,.int .i64 l,.int .i64 c=>match zeroCells P e,pP P e,eL P e with
   |some z,some bytes,some bo=>aJ (0≤l∧l≤c∧c≤ei∧bytes≤2^11∧z.length=bo)
     (newAt h at_ (eI z c.toNat) bo (c.toNat*bo) fun p ar=>k (.slice p l.toNat c.toNat true) ar)
   |_,_,_=>none
  |_,_,_=>none
 |.slice t x lo hi ju=>match isSlice P t with
  |some e=>match aR env x with
   |.slice a len cap tail=>match eL P e with
    |some size=>ra size a len cap tail (lo.map (aR env)) (hi.map (aR env)) (ju.map (aR env)) fun v=>k v h
    |none=>none
   |_=>none
  |none=>match uh P t with
   |some (n,e)=>match eL P e with
    |some size=>aJ ((aR env x).bm=true) (ra size (aR env x) n n false (lo.map (aR env)) (hi.map (aR env)) (ju.map (aR env)) fun v=>k v h)
    |none=>none
   |none=>none
 |.fieldAddr t x f=>match yt P t f with
  |some (off,pn)=>match eL P pn with
   |some (_+1)=>aJ ((aR env x).bm=true) (k ((aR env x).add off) h)
   |_=>none
  |none=>none
 |.field t x f=>match yt P t f,aR env x with
  |some (off,pn),.agg cs=>(uz P pn cs off).bind fun v=>k v h
  |_,_=>none
 |.indexAddr t x AF=>match isSlice P t with
  |some e=>match aR env x,aR env AF with
   |.slice a len _ _,.int _ i=>match eL P e with
    |some size=>aJ (0≤i∧i<len) (k (a.add (i.toNat*size)) h)
    |none=>none
   |_,_=>none
  |none=>match uh P t,aR env AF with
   |some (n,e),.int _ i=>match eL P e with
    |some size=>aJ ((aR env x).bm=true∧0≤i∧i<n) (k ((aR env x).add (i.toNat*size)) h)
    |none=>none
   |_,_=>none
 |.index t x AF=>match aR env x,aR env AF with
  |.agg cs,.int _ i=>match uh P t with
   |some (n,e)=>match eL P e with
    |some size=>aJ (0≤i∧i<n) ((uz P e cs (i.toNat*size)).bind fun v=>k v h)
    |none=>none
   |none=>none
  |.str s,.int _ i=>match P.underlying t with
   |some .string=>aJ (0≤i∧i<s.size) (k (.int .u8 (((s.data[i.toNat]?).map UInt8.toNat).getD 0:Nat)) h)
   |_=>none
  |_,_=>none
 |.extract x AF=>match aR env x with
  |.tuple vs=>(vs[AF]?).bind fun v=>k v h
  |_=>none
 |.makeMap t r=>match r with
  |none=>match isMap P t with
   |some (kk,vk)=>k (.map (some h.next)) (h.hP (.dk kk vk []))
   |none=>match mx P t with
    |some _=>k (.map (some h.next)) (h.hP (.cZ []))
    |none=>none
  |some _=>none
 |.lookup t m x c=>match isMap P t with
  |some (kk,vk)=>match aR env m,aR env x,c with
   |.map r,.int dc n,false=>aJ (dc=kk) (match r with
    |none=>none
    |some id=>(h.dk id kk vk).bind fun es=>k (.int vk ((getM n es).getD 0)) h)
   |_,_,_=>none
  |none=>match mx P t,aR env m with
   |some (kt,bM,gh),.map r=>r.bind fun id=>(kt.pack (aR env x)).bind fun key=>(bM.pack gh).bind fun z=>(my h id kt bM z key).bind fun p=>k (cond c (.tuple [bM.un p.1,.bool p.2]) (bM.un p.1)) h
   |_,_=>none
 |.mapUpdate t m x y=>match isMap P t with
  |some (kk,vk)=>match aR env m,aR env x,aR env y with
   |.map r,.int dc n,.int qD v=>aJ (dc=kk∧qD=vk) (match r with
    |none=>none
    |some id=>(h.dk id kk vk).bind fun es=>k (.tuple []) (h.put id (.dk kk vk (iR n v es))))
   |_,_,_=>none
  |none=>match mx P t,aR env m with
   |some (kt,bM,_),.map r=>r.bind fun id=>(kt.pack (aR env x)).bind fun key=>(bM.pack (aR env y)).bind fun v=>(p3 h id kt bM key v).bind fun ar=>k (.tuple []) ar
   |_,_=>none
 |.mapEntry t m x=>match isMap P t with
  |some _=>none
  |none=>match mx P t,aR env m with
   |some (kt,bM,gh),.map r=>r.bind fun id=>(kt.pack (aR env x)).bind fun key=>(bM.pack gh).bind fun z=>(K3 h id kt bM z key).bind fun p=>k (.tuple [bM.un p.1.1,.int .i64 p.1.2]) p.2
   |_,_=>none
 |.entryStore t m i y=>match isMap P t with
  |some _=>none
  |none=>match mx P t,aR env m,aR env i with
   |some (kt,bM,_),.map r,.int .i64 i=>r.bind fun id=>(bM.pack (aR env y)).bind fun v=>(gQ h id kt bM i v).bind fun ar=>k (.tuple []) ar
   |_,_,_=>none
 |.range t m=>match isMap P t with
  |some _=>none
  |none=>match mx P t,aR env m with
   |some (kt,bM,_),.map r=>r.bind fun id=>(h.cZ id kt bM).bind fun l=>k (.aa h.next 0 0) (h.hP (.jB id l.length []))
   |_,_=>none
 |.entry x=>match o.dst with
  |some d=>match K4 d A.SD with
   |some (kt,bM)=>(K5 h (aR env x) kt bM).bind fun p=>k (.tuple [kt.un p.1,bM.un p.2]) h
   |none=>none
  |none=>none
 |.call c=>match c.callee with
  |.value f=>m3 (A.ix.any fun t=>o.dst==some t) (K6 A o.dst f) (T.at f) (aR env f) (c.args.toList.map (aR env)) h fun v ar=>q_ (A.CU.any fun t=>o.dst==some t) P o.type v fun v=>k v ar
  |.builtin .len=>bif A.wS.any fun t=>o.dst==some t then vN P c.argTypes (c.args.toList.map (aR env)) h k else lF P .len c.argTypes at_ (c.args.toList.map (aR env)) h k
  |.builtin b=>lF P b c.argTypes at_ (c.args.toList.map (aR env)) h k
  |.invoke .. =>none
 |_=>none
inductive rC where
 |p|r |l |n |w|x |g |m |y
def oO(A:fw)(dst:Option Tmp):Bool:=A.lits.any fun t=>dst==some t
def oU(A:fw)(dst:Option Tmp):Bool:=A.wR.any fun t=>dst==some t
def m4(A:fw)(dst:Option Tmp):Bool:=A.wS.any fun t=>dst==some t
def oP(A:fw)(dst:Option Tmp):Bool:=A.DC.any fun t=>dst==some t
def cls(T:Table)(A:fw)(o:Oper):rC:=
 match o.op with
 |.move _|.assign _|.pick .. |.build .. |.nilCheck _|.binOp .. |.unOp .. |.convert .. |.makeFunc .. |.fieldAddr .. |.field .. |.indexAddr .. |.index .. |.extract .. |.slice .. => .p
 |.buildSlice .. =>bif oO A o.dst then .n else .p
 |.call {callee:=.builtin .len,.. }=>bif m4 A o.dst then .r else .p
 |.call {callee:=.builtin .min,.. }|.call {callee:=.builtin .max,.. }=> .p
 |.load .. =>bif oP A o.dst then .p else .l
 |.box .. =>bif oU A o.dst then .p else .n
 |.alloc _|.makeSlice .. => .n
 |.store .. => .w
 |.lookup .. => .r
 |.call {callee:=.value (.func g),.. }=>bif (T.st g).quiet then(bif (T.st g).mono then .m else .r)else (bif (T.st g).free then .y else bif (T.st g).loc then .w else .x)
 |.call {callee:=.value _,.. }=>bif A.ix.any fun t=>o.dst==some t then .r else bif A.mL.any fun t=>o.dst==some t then .y else .x
 |.call {callee:=.builtin .append,.. }=>bif A.apps.any fun t=>o.dst==some t then .g else .x
 |_=> .x
def lL:rC→rC→Bool
 |.p,_|_,.p|.r,.r |.n,.n |.l,.l |.l,.r |.r,.l |.m,.m |.m,.r |.r,.m |.m,.l |.l,.m |.m,.n |.y,.n |.y,.l |.l,.y=>true
 |_,_=>false
def mZ:rC→rC→Bool
 |.l,.w|.w,.l |.n,.w|.w,.n |.n,.l |.l,.n |.w,.w|.g,.l |.l,.g |.g,.n |.n,.g |.g,.w|.w,.g |.g,.g=>true
 |_,_=>false
def FO(s x:V)(at_:Option Nat):V:=
 match x with
 |.slice (.lp ..) _ _ _=>match s with
  |.slice (.aa id g o) _ _ _=> .aa id g o
  |_=>match at_ with
   |some i=> .aa i 0 0
   |none=> .undef
 |_=> .agg []
def PF:List V→V
 |.slice a _ _ _::_=>a
 |_=> .undef
def addrOf(o:Oper)(at_:Option Nat)(env:Env):V:=
 match o.op with
 |.load _ x=>aR env x
 |.store _ x _=>aR env x
 |.call {callee:=.builtin .append,args:=args,.. }=>match args.toList.map (aR env)with
  |[s,x]=>FO s x at_
  |_=> .agg []
 |.call {callee:=.value (.func _),args:=args,.. }=>PF (args.toList.map (aR env))
 |_=>match at_ with
  |some i=> .aa i 0 0
  |none=> .undef
def yu(o:Oper):List Tmp:=
 match o.op with
 |.load _ (.tmp t)=>[t]
 |.store _ (.tmp t) _=>[t]
 |.call {callee:=.builtin .append,args:=args,.. }=>args.toList.filterMap fun |.tmp t=>some t |_=>none
 |.call {callee:=.value (.func _),args:=args,.. }=>args.toList.filterMap fun |.tmp t=>some t |_=>none
 |_=>[]
def fg:V→V→Bool
 |.aa i _ _,.aa j _ _=>!(Nat.beq i j)
 |.agg _,_|_,.agg _=>false
 |_,_=>true
def steady (ops:Array Oper)(i:Nat):Bool:=
 match ops[i]? with
 |none=>true
 |some o=>(yu o).all fun t=>(ops.toList.drop i).all fun o=>o.dst !=some t
def RD(acc:List Nat)(o:Oper):Nat:=
 o.after.toList.foldl (fun s e=>if Region.binds .any e then s|||2^e.on |||acc.getD e.on 0 else s) 0
def mX:List Oper→List Nat→List Nat
 |[],acc=>acc
 |o::os,acc=>mX os (acc++[RD acc o])
def rC.mD:rC→Bool
 |.n |.g=>true
 |_=>false
def rC.Tj:rC→Bool
 |.x=>true
 |_=>false
def rb(T:Table)(A:fw):List Oper→Nat
 |[]=>0
 |o::os=>bif (cls T A o).mD then rb T A os+1 else rb T A os
def pQ(T:Table)(A:fw)(ops:Array Oper):List (Nat×Nat):=
 let ms:=mX ops.toList []
 ops.toList.zipIdx.flatMap fun(ly,j)=>(ops.toList.take j).zipIdx.filterMap fun(l9,i)=>
  bif !((ms.getD j 0).testBit i)&&mZ (cls T A l9) (cls T A ly)then some (i,j)else none
def yR(T:Table)(A:fw)(ops:Array Oper):Bool:=
 let ms:=mX ops.toList []
 Region.noSelect ops&&((pQ T A ops).all fun p=>steady ops p.1&&steady ops p.2)&&((ops.toList.all fun o=>!(cls T A o).Tj)||Nat.beq (rb T A ops.toList) 0)&&(ops.toList.zipIdx.all fun(ly,j)=>(ly.after.all fun e=>!Region.binds .any e ||Nat.blt e.on j)&&
  ((ops.toList.take j).zipIdx.all fun(l9,i)=>(ms.getD j 0).testBit i||((lL (cls T A l9) (cls T A ly)||mZ (cls T A l9) (cls T A ly))&&l9.apart ops ly)))
def iG(T:Table)(A:fw):List Oper→Nat→List (Oper×Option Nat)
 |[],_=>[]
 |o::os,i=>bif (cls T A o).mD then(o,some i)::iG T A os (i+1)else (o,none)::iG T A os i
def yS(ids:List (Oper×Option Nat))(env:Env)(i:Nat):V:=
 match ids[i]? with
 |some (o,at_)=>addrOf o at_ env
 |none=> .undef
def FP(ids:List (Oper×Option Nat))(env:Env):List (Nat×Nat)→{R:Type}→Option R→Option R
 |[],_,x=>x
 |(i,j)::l,_,x=>aJ (fg (yS ids env i) (yS ids env j)=true) (FP ids env l x)
def p5(N:Nat)(dst:Option Tmp)(v:V)(env:Env){R:Type}(k:Env→Option R):Option R:=
 match dst with
 |none=>k env
 |some d=>bif Nat.blt d N then k (env.set d v)else none
def hN(P:Program)(T:Table)(A:fw)(N:Nat)(ops:Array Oper):List (Oper×Option Nat)→Env→H→{R:Type}→(Env→H→Option R)→Option R
 |[],env,h,_,k=>k env h
 |(o,at_)::os,env,h,_,k=>
  match o.guard with
  |none=>gO P T A o at_ env h fun v ar=>p5 N o.dst v env fun env=>hN P T A N ops os env ar k
  |some (j,want)=>
   match(ops[j]?).bind (·.dst)with
   |none=>none
   |some t=>match env t with
    |.bool g=>cond (bif want then g else !g)
      (gO P T A o at_ (env.set t (.bool want)) h fun v ar=>p5 N o.dst v (env.set t (.bool want)) fun env=>hN P T A N ops os env ar k)
      (p5 N o.dst (.tuple []) (env.set t (.bool (!want))) fun env=>hN P T A N ops os env h k)
    |.tuple []=>p5 N o.dst (.tuple []) env fun env=>hN P T A N ops os env h k
    |_=>none
inductive l_ where
 |normal
 |exit (id:Nat)
 |ret (v:V)
inductive bG(T ajg:Type) where
 |next (t:T)|ret (r:ajg)|aP (t:T)|bW (t:T)
inductive ca(S F:Type) where
 |more (s:S)|done (f:F)
def iter{S F:Type}:Nat→(S→Option (ca S F))→S→Option F
 |0,_,_=>none
 |n+1,f,s=>(f s).bind fun
  |.more bc=>iter n f bc
  |.done x=>some x
def bd:Nat:=2^70
def ef:List Nat→List V→Env→Env
 |t::ts,v::vs,env=>(ef ts vs env).set t v
 |_,_,env=>env
def t_(ops:List Oper):List Nat:=ops.filterMap (·.dst)
def writes:Code→List Nat
 |.region _ ops _=>t_ ops.toList
 |.seq a b=>writes a++writes b
 |.cond _ a b=>writes a++writes b
 |.block _ b|.loop b|.scope b=>writes b
 |_=>[]
def eJ(ws:List Nat)(env:Env):Env:=fun i=>bif ws.any (Nat.beq i)then .undef else env i
def x9:Code→Option Nat
 |.region id _ _=>some id
 |.seq a b=>match x9 a with
  |some r=>some r
  |none=>x9 b
 |.block _ b|.loop b|.scope b=>x9 b
 |.cond _ a b=>match x9 a with
  |some r=>some r
  |none=>x9 b
 |_=>none
def so(ks:List Nat)(ts:List ai)(env:Env):Option (aj ts):=aj.pack ts (ks.map env)
def yw(P:Program)(rs:List ResultVar)(env:Env)(h:H){R:Type}(k:List V→Option R):Option R:=
 match rs with
 |[]=>k []
 |.tmp t::rs=>yw P rs env h fun vs=>k (env t::vs)
 |.cell a t::rs=>match lT P t with
  |some ty=>(ah ty h (env a)).bind fun x=>yw P rs env h fun vs=>k (ty.un x::vs)
  |none=>none
def Fs(P:Program)(fn:Func)(env:Env)(h:H){R:Type}(k:V→Option R):Option R:=
 yw P fn.results.toList env h fun vs=>match vs with
  |[v]=>k v
  |vs=>k (.tuple vs)
def leave (rs:an)(ks:List Nat)(ts:List ai)(x0 bY:Option Nat):l_→Env→H→Option (bG (aj ts) rs.C×H)
 |.normal,env,h=>(so ks ts env).bind fun t=>some (.next t,h)
 |.ret v,_,h=>(rs.pack v).bind fun r=>some (.ret r,h)
 |.exit id,env,h=>
  match x0,bY with
  |some a,some b=>bif Nat.beq id a then(so ks ts env).bind fun t=>some (.aP t,h)else bif Nat.beq id b then(so ks ts env).bind fun t=>some (.bW t,h)else none
  |some a,none=>bif Nat.beq id a then(so ks ts env).bind fun t=>some (.aP t,h)else none
  |_,_=>none
def uq(rs:an)(ks:List Nat)(ts:List ai)(x0 bY:Option Nat)(env:Env){R:Type}(k:l_→Env→H→Option R)(fl:bG (aj ts) rs.C×H):Option R:=
 match fl.1 with
 |.next t=>k .normal (ef ks (aj.un ts t) env) fl.2
 |.ret r=>k (.ret (rs.un r)) env fl.2
 |.aP t=>match x0 with
  |some a=>k (.exit a) (ef ks (aj.un ts t) env) fl.2
  |none=>none
 |.bW t=>match bY with
  |some a=>k (.exit a) (ef ks (aj.un ts t) env) fl.2
  |none=>none
def oN(rs:an)(ks:List Nat)(ts:List ai)(x0 bY:Option Nat)(env:Env){R:Type}(k:l_→Env→H→Option R)(fl:bG (aj ts) rs.C×H):Option R:=
 match fl.1 with
 |.next _=>none
 |.ret r=>k (.ret (rs.un r)) env fl.2
 |.aP t=>match x0 with
  |some a=>k (.exit a) (ef ks (aj.un ts t) env) fl.2
  |none=>none
 |.bW t=>match bY with
  |some a=>k (.exit a) (ef ks (aj.un ts t) env) fl.2
  |none=>none
def g7(rs:an)(ks:List Nat)(ts:List ai)(dc:List Nat)(fI:List ai)(x0 bY:Option Nat):l_→Env→H→Option (ca (aj ts×H) (bG (aj fI) rs.C×H))
 |.normal,env,h=>(so ks ts env).bind fun t=>some (.more (t,h))
 |e,env,h=>(leave rs dc fI x0 bY e env h).bind fun fl=>some (.done fl)
def wo{α:Type}(k:Nat):List (Nat×α)→Option α
 |[]=>none
 |(i,a)::l=>bif Nat.beq i k then some a else wo k l
def J1 (l:Nat)(ajh:H→(l_→Env→H→Option H)→Option H)(aji:Env→H→(l_→Env→H→Option H)→Option H)(h:H):Option H:=
 (h.begin l).bind fun _=>ajh h fun e gn h1=>match e with
  |.normal=>(h1.begin l).bind fun h2=>aji gn h2 fun e2 _ h3=>match e2 with
   |.normal=>h3.GB l
   |_=>none
  |_=>none
noncomputable def F1 {R:Type} (n:Nat) (F:List Nat→Option R):Option R:=
 open Classical in if h:∃r,∀π:List Nat,π.Perm (List.range n)→F π=some r then some (Classical.choose h)else none
def ui{X F:Type}(fZ mid n:Nat)(f g:X×H→Option (ca (X×H) F)):List Nat→List Nat→X×H→Option F
 |_,[],s=>(g s).bind fun r=>match r with
  |.done x=>some x
  |.more _=>none
 |seen,i::π,s=>(f (s.1,s.2.put fZ (.jB mid n (seen++[i])))).bind fun r=>match r with
  |.done x=>some x
  |.more bc=>bif BX (s.2.put fZ (.jB mid n (seen++[i]))) bc.2 fZ mid n (seen++[i])then ui fZ mid n f g (seen++[i]) π bc else none
def mapNext (A:fw)(N id:Nat)(ops:Array Oper)(kO:Bool):Option (Tmp×Tmp×List Oper):=
 bif kO||(wo id A.dB).isSome then none else
 match ops.toList with
 |o::os=>match o.op,o.dst,o.guard with
  |.next (.tmp it) false,some d,none=>bif Nat.blt d N then some (it,d,os)else none
  |_,_,_=>none
 |[]=>none
noncomputable def evalCode (P:Program) (T:Table) (A:fw) (fn:Func) (rs:an):Code→Env→H→{R:Type}→(l_→Env→H→Option R)→Option R
 |.skip,env,h,_,k=>k .normal env h
 |.label _,env,h,_,k=>k .normal env h
 |.exit id,env,h,_,k=>k (.exit id) env h
 |.ret,env,h,_,k=>Fs P fn env h fun v=>k (.ret v) env h
 |.region id ops draw,env,h,_,k=>
  let go:{R:Type}→(Env→H→Option R)→Option R:=fun{_} k=>
   bif draw then(bif yR T A ops then hN P T A fn.ntmps ops (iG T A ops.toList h.next) env (h.de (rb T A ops.toList)) (fun bz ar=>FP (iG T A ops.toList h.next) bz (pQ T A ops) (k bz ar))else none)
   else hN P T A fn.ntmps ops (ops.toList.map fun o=>(o,none)) env h k
  match wo id A.dB with
  |none=>go fun env h=>k .normal env h
  |some (ks,ts)=>(go fun env h=>(so ks ts env).bind fun t=>some (t,h)).bind fun r=>
    k .normal (ef ks (aj.un ts r.1) (eJ (writes (.region id ops draw)) env)) r.2
 |.seq a b,env,h,_,k=>evalCode P T A fn rs a env h fun e env h=>
  match e with
  |.normal=>evalCode P T A fn rs b env h k
  |e=>k e env h
 |.cond c a b,env,h,_,k=>
  match aR env c with
  |.bool g=>
   match(match c with|.tmp t=>wo t A.conds|_=>none)with
   |none=>cond g (evalCode P T A fn rs a env h k) (evalCode P T A fn rs b env h k)
   |some (ks,ts,x0,bY)=>
    (cond g (evalCode P T A fn rs a env h (leave rs ks ts x0 bY)) (evalCode P T A fn rs b env h (leave rs ks ts x0 bY))).bind
     (uq rs ks ts x0 bY (eJ (writes (.cond c a b)) env) k)
  |_=>none
 |.block id b,env,h,_,k=>evalCode P T A fn rs b env h fun e env h=>
  match e with
  |.exit j=>bif Nat.beq j id then k .normal env h else k (.exit j) env h
  |e=>k e env h
 |.loop b,env,h,_,k=>
  match(x9 b).bind fun r=>wo r A.loops with
  |none=>none
  |some (ks,ts,dc,fI,x0,bY)=>bif !(ks.all fun t=>(writes b).any (Nat.beq t))then none else
   (so ks ts env).bind fun t0=>
    let plain:aj ts×H→Option (ca (aj ts×H) (bG (aj fI) rs.C×H)):=fun s=>evalCode P T A fn rs b (ef ks (aj.un ts s.1) (eJ (writes b) env)) s.2 (g7 rs ks ts dc fI x0 bY)
    match b with
    |.seq (.region id ops kO) rest=>match mapNext A fn.ntmps id ops kO with
     |some (it,d,os)=>bif (writes b).any (Nat.beq it)then none else
      (iterAt h (env it)).bind fun p=>F1 p.2.2 fun π=>
       (ui p.1 p.2.1 p.2.2
        (fun s:aj ts×H=>hN P T A fn.ntmps ops (os.map fun o=>(o,none)) ((ef ks (aj.un ts s.1) (eJ (writes b) env)).set d (.tuple [.bool true,.undef,.undef])) s.2 fun bz ar=>evalCode P T A fn rs rest bz ar (g7 rs ks ts dc fI x0 bY))
        (fun s:aj ts×H=>hN P T A fn.ntmps ops (os.map fun o=>(o,none)) ((ef ks (aj.un ts s.1) (eJ (writes b) env)).set d (.tuple [.bool false])) s.2 fun bz ar=>evalCode P T A fn rs rest bz ar (g7 rs ks ts dc fI x0 bY))
        [] π (t0,h)).bind (oN rs dc fI x0 bY (eJ (writes b) env) k)
     |none=>(iter bd plain (t0,h)).bind (oN rs dc fI x0 bY (eJ (writes b) env) k)
    |_=>(iter bd plain (t0,h)).bind (oN rs dc fI x0 bY (eJ (writes b) env) k)
 |.rangeFunc g ps a b,env,h,_,k=>bif A.inr then none else
  match wo (ps.toList.headD 0) A.CT with
  |none=>none
  |some ts=>bif !(Nat.beq ps.size ts.length)||!(decide ps.toList.Nodup)||!(ps.toList.all fun t=>Nat.blt t fn.ntmps)then none else
   B4 T.dg (qf ts h.next fun x h1=>J1 h.next (fun h1 k=>evalCode P T {A with inr:=true} fn rs a (ef ps.toList (aj.un ts x) env) h1 k) (fun gn h2 k=>evalCode P T {A with inr:=true} fn rs b gn h2 k) h1)
    (aR env g) [.hR h.next] (h.hP (.loop .ready)) fun h2=>(h2.GC h.next).bind fun h3=>k .normal env h3
 |_,_,_,_,_=>none
noncomputable def jd (P:Program) (T:Table) (A:fw) (fn:Func) (rs:an) (args:List V) (h:H):Option (rs.C×H):=
 match fn.body with
 |none=>none
 |some c=>bif !(Nat.ble args.length fn.ntmps)then none else evalCode P T A fn rs c (ef (List.range args.length) args fun _=> .undef) h fun e env h=>
  match e with
  |.normal=>Fs P fn env h fun v=>(rs.pack v).bind fun r=>some (r,h)
  |.ret v=>(rs.pack v).bind fun r=>some (r,h)
  |.exit _=>none
def jE{α β:Type}(f:α→Option β):List α→Option (List β)
 |[]=>some []
 |v::vs=>(f v).bind fun x=>(jE f vs).bind fun xs=>some (x::xs)
def chunks(w:Nat):Nat→List V→List (List V)
 |0,_=>[]
 |n+1,cs=>cs.take w::chunks w n (cs.drop w)
def V.readable (lp:Bool):V→Bool
 |.aa .. =>true
 |.lp f _ _=>lp||f
 |_=>false
mutual
def cE(lp:Bool)(h:H):(l:ab)→V→Option l.C
 |.int k,.int e_ n=>if k=e_ then some n else none
 |.bool,.bool b=>some b
 |.str,.str s=>some s
 |.tok,_=>some ()
 |.row ls,.slice a len _ _=>if len=0 then some []else (bif a.readable lp then h.fv a (len*ls.length)else none).bind fun cs=>jE (fun c=>ax lp h ls c) (chunks ls.length len cs)
 |_,_=>none
def ax(lp:Bool)(h:H):(ls:List ab)→List V→Option (LT ls)
 |[],[]=>some ()
 |[l],[v]=>cE lp h l v
 |l::b3::ls,v::vs=>(cE lp h l v).bind fun x=>(ax lp h (b3::ls) vs).bind fun y=>some (x,y)
 |_,_=>none
end
def bB(lp:Bool)(h:H)(ls:List ab)(s:au):Option (List (LT ls)):=cE lp h (.row ls) (.slice s.a s.len s.cap s.tail)
def aB(lp:Bool)(h:H):(t:ai)→V→Option t.C
 |.leaf l,v=>cE lp h l v
 |.agg ls,.agg vs=>ax lp h ls vs
 |.agg _,_=>none
def az(lp:Bool)(h:H):(ts:List ai)→List V→Option (aj ts)
 |[],[]=>some ()
 |[t],[v]=>aB lp h t v
 |t::ea::ts,v::vs=>(aB lp h t v).bind fun x=>(az lp h (ea::ts) vs).bind fun y=>some (x,y)
 |_,_=>none
def oV(lp:Bool)(h:H){α:Type}:(ls:List ab)→List V→(LT ls→Option α)→Option α
 |[],[],k=>k ()
 |[l],[v],k=>(cE lp h l v).bind k
 |l::b3::ls,v::vs,k=>(cE lp h l v).bind fun x=>oV lp h (b3::ls) vs fun y=>k (x,y)
 |_,_,_=>none
def Gb(lp:Bool)(h:H){α:Type}:(t:ai)→V→(t.C→Option α)→Option α
 |.leaf l,v,k=>(cE lp h l v).bind k
 |.agg ls,.agg vs,k=>oV lp h ls vs k
 |.agg _,_,_=>none
def oW(lp:Bool)(h:H){α:Type}:(ts:List ai)→List V→(aj ts→Option α)→Option α
 |[],[],k=>k ()
 |[t],[v],k=>Gb lp h t v k
 |t::ea::ts,v::vs,k=>Gb lp h t v fun x=>oW lp h (ea::ts) vs fun y=>k (x,y)
 |_,_,_=>none
def av(lp:Bool)(h:H):(r:an)→V→Option r.C
 |.one t,v=>aB lp h t v
 |.many ts,.tuple vs=>az lp h ts vs
 |.many _,_=>none
mutual
def ab.lo(f:Bool):(l:ab)→l.C→V
 |.int k,n=> .int k n
 |.bool,b=> .bool b
 |.str,s=> .str s
 |.ptr,a=>a
 |.slice,s=> .slice s.a s.len s.cap s.tail
 |.map,r=> .map r
 |.dyn,v=>v
 |.tok,_=> .undef
 |.row ls,xs=> .slice (.lp f (xs.flatMap fun x=>LT.lo f ls x) 0) xs.length xs.length true
def LT.lo(f:Bool):(ls:List ab)→LT ls→List V
 |[],_=>[]
 |[l],x=>[l.lo f x]
 |l::b3::ls,x=>l.lo f x.1::LT.lo f (b3::ls) x.2
end
def ai.lo(f:Bool):(t:ai)→t.C→V
 |.leaf l,x=>l.lo f x
 |.agg ls,x=> .agg (LT.lo f ls x)
def aj.lo(f:Bool):(ts:List ai)→aj ts→List V
 |[],_=>[]
 |[t],x=>[t.lo f x]
 |t::ea::ts,x=>t.lo f x.1::aj.lo f (ea::ts) x.2
def an.lo(f:Bool):(r:an)→r.C→V
 |.one t,x=>t.lo f x
 |.many ts,x=> .tuple (aj.lo f ts x)
def ae (f:Bool)(ls:List ab)(xs:List (LT ls)):au:=⟨.lp f (xs.flatMap fun x=>LT.lo f ls x) 0,xs.length,xs.length,true⟩
theorem XK{h:H}{i:Nat}{s:Slot}(hi:∀cs e,h.m i≠.own cs e){a:V}{cs:List V}(ak:h.from a=some cs):(h.put i s).from a=some cs:=by
 cases a<;>simp only[H.from,reduceCtorEq]at ak⊢
 ·rename_i id g o
  have bS:id≠i:=fun e=>by
   subst e
   split at ak
   ·rename_i dw dn hm
    exact hi _ _ hm
   ·cases ak
  have:(h.put i s).m id=h.m id:=by
   show(bif Nat.beq id i then s else h.m id)=h.m id
   have:Nat.beq id i=false:=by
    cases aE:Nat.beq id i with
    |false=>rfl
    |true=>exact absurd (Nat.eq_of_beq_eq_true aE) bS
   rw[this];rfl
  rw[this]
  exact ak
 ·exact ak
theorem YZ{h:H}{i:Nat}{s:Slot}(hi:∀cs e,h.m i≠.own cs e){a:V}{n:Nat}{cs:List V}(ak:h.fv a n=some cs):(h.put i s).fv a n=some cs:=by
 unfold H.fv at ak⊢
 simp only[Option.bind_eq_some_iff]at ak
 obtain⟨c,h1,h2⟩:=ak
 rw[XK hi h1]
 exact h2
theorem PG{α β:Type}{f g:α→Option β}(Tk:∀a b,f a=some b→g a=some b):∀{l:List α} {ys:List β},jE f l=some ys→jE g l=some ys
 |[],ys,h=>h
 |a::l,ys,h=>by
  simp only[jE,Option.bind_eq_some_iff,Option.some.injEq]at h⊢
  obtain⟨x,h1,xs,h2,h3⟩:=h
  exact ⟨x,Tk _ _ h1,xs,PG Tk h2,h3⟩
mutual
theorem IB{lp:Bool}{h:H}{i:Nat}{s:Slot}(hi:∀cs e,h.m i≠.own cs e):∀(l:ab) (v:V) (x:l.C),cE lp h l v=some x→cE lp (h.put i s) l v=some x
 |.row ls,v,x,af=>by
  cases v<;>simp only[cE,reduceCtorEq]at af⊢
  rename_i a len cap tail
  split at af
  ·rename_i aO;rw[if_pos aO];exact af
  ·rename_i aO
   rw[if_neg aO]
   simp only[Option.bind_eq_some_iff]at af⊢
   obtain⟨cs,h1,h2⟩:=af
   refine⟨cs, ?_,PG (fun c y=>I3 hi ls c y) h2⟩
   cases aq:a.readable lp with
   |false=>rw[aq]at h1;cases h1
   |true=>rw[aq]at h1;exact YZ hi h1
 |.int k,v,x,af=>by cases v<;>exact af
 |.bool,v,x,af=>by cases v<;>exact af
 |.str,v,x,af=>by cases v<;>exact af
 |.tok,v,x,af=>by cases v<;>exact af
 |.ptr,v,x,af=>by cases v<;>simp[cE]at af
 |.slice,v,x,af=>by cases v<;>simp[cE]at af
 |.map,v,x,af=>by cases v<;>simp[cE]at af
 |.dyn,v,x,af=>by cases v<;>simp[cE]at af
theorem I3{lp:Bool}{h:H}{i:Nat}{s:Slot}(hi:∀cs e,h.m i≠.own cs e):∀(ls:List ab) (vs:List V) (x:LT ls),ax lp h ls vs=some x→ax lp (h.put i s) ls vs=some x
 |[],vs,x,af=>by cases vs<;>exact af
 |[l],vs,x,af=>by
  match vs,af with
  |[v],af=>exact IB hi l v x af
 |l::b3::ls,vs,x,af=>by
  match vs,af with
  |v::vs,af=>
   simp only[ax,Option.bind_eq_some_iff,Option.some.injEq]at af⊢
   obtain⟨y,h1,z,h2,h3⟩:=af
   exact ⟨y,IB hi l v y h1,z,I3 hi (b3::ls) vs z h2,h3⟩
end
theorem PH{lp:Bool}{h:H}{i:Nat}{s:Slot}(hi:∀cs e,h.m i≠.own cs e):∀(t:ai) (v:V) (x:t.C),aB lp h t v=some x→aB lp (h.put i s) t v=some x
 |.leaf l,v,x,af=>IB hi l v x af
 |.agg ls,v,x,af=>by
  cases v<;>simp only[aB,reduceCtorEq]at af⊢
  exact I3 hi ls _ x af
theorem PI{lp:Bool}{h:H}{i:Nat}{s:Slot}(hi:∀cs e,h.m i≠.own cs e):∀(ts:List ai) (vs:List V) (x:aj ts),az lp h ts vs=some x→az lp (h.put i s) ts vs=some x
 |[],vs,x,af=>by cases vs<;>exact af
 |[t],vs,x,af=>by
  match vs,af with
  |[v],af=>exact PH hi t v x af
 |t::ea::ts,vs,x,af=>by
  match vs,af with
  |v::vs,af=>
   simp only[az,Option.bind_eq_some_iff,Option.some.injEq]at af⊢
   obtain⟨y,h1,z,h2,h3⟩:=af
   exact ⟨y,PH hi t v y h1,z,PI hi (ea::ts) vs z h2,h3⟩
theorem O3{lp:Bool}{h:H}{α:Type}:∀(ls:List ab) (vs:List V) (k:LT ls→Option α),oV lp h ls vs k=(ax lp h ls vs).bind k
 |[],[],k=>rfl
 |[],_::_,k=>rfl
 |[l],[],k=>rfl
 |[l],[v],k=>rfl
 |[l],_::_::_,k=>rfl
 |l::b3::ls,[],k=>rfl
 |l::b3::ls,v::vs,k=>by simp only[oV,ax,O3 (b3::ls) vs,Option.bind_assoc,Option.bind_some]
theorem O4{lp:Bool}{h:H}{α:Type}:∀(t:ai) (v:V) (k:t.C→Option α),Gb lp h t v k=(aB lp h t v).bind k
 |.leaf l,v,k=>rfl
 |.agg ls,v,k=>by cases v<;>first |rfl |exact O3 ls _ k
theorem O5{lp:Bool}{h:H}{α:Type}:∀(ts:List ai) (vs:List V) (k:aj ts→Option α),oW lp h ts vs k=(az lp h ts vs).bind k
 |[],[],k=>rfl
 |[],_::_,k=>rfl
 |[l],[],k=>rfl
 |[l],[v],k=>O4 l v k
 |[l],_::_::_,k=>rfl
 |l::b3::ls,[],k=>rfl
 |l::b3::ls,v::vs,k=>by simp only[oW,az,O4,O5 (b3::ls) vs,Option.bind_assoc,Option.bind_some]
def e8(ts:List ai)(rs:an)(f:aj ts→H→Option (rs.C×H)):Entry:=
 {quiet:=false,fC:=fun args h _ k=>(aj.pack ts args).bind fun x=>(f x h).bind fun p=>k (rs.un p.1) p.2}
def G1 (ts:List ai)(rs:an)(f:aj ts→Option rs.C):Entry:=
 {quiet:=true,fC:=fun args h _ k=>(aj.pack ts args).bind fun x=>(f x).bind fun p=>k (rs.un p) h,mono:=true,Km:=fun _ args h i s v ar _ aU=>by
   simp only[Option.bind_eq_some_iff,Option.some.injEq,Prod.mk.injEq]at aU⊢
   obtain⟨x,h1,r,h2,h3,rfl⟩:=aU
   exact ⟨x,h1,r,h2,h3,rfl⟩}
def G2(ts:List ai)(rs:an)(f:aj ts→H→Option rs.C):Entry:=
 {quiet:=true,fC:=fun args h _ k=>(aj.pack ts args).bind fun x=>(f x h).bind fun p=>k (rs.un p) h}
def mE(ts:List ai)(rs:an)(f:aj ts→Option rs.C):Entry:=
 {quiet:=true,fC:=fun args h _ k=>oW true h ts args fun x=>(f x).bind fun r=>k (rs.lo true r) h,mono:=true,Km:=fun _ args h i s v ar hi aU=>by
   rw[O5]at aU⊢
   simp only[Option.bind_eq_some_iff,Option.some.injEq,Prod.mk.injEq]at aU⊢
   obtain⟨x,h1,r,h2,h3,rfl⟩:=aU
   exact ⟨x,PI (fun cs e hh=>by rw[hi]at hh;cases hh) ts args x h1,r,h2,h3,rfl⟩}
end Go.Proofs.YtlphgijokknjhaaGreat.Ev
namespace Go.Proofs.YtlphgijokknjhaaGreat.Ev
open Go Go.RowKit
structure Below(B:Nat)(w ay:World):Prop where
 tj:Go.RowKit.Below B w ay
 drawn:0≤0
theorem Below.refl(B:Nat)(w:World):Below B w w:=⟨Go.RowKit.Below.refl B w,Nat.le_refl _⟩
theorem Below.trans{B:Nat}{a b c:World}(h:Below B a b)(k:Below B b c):Below B a c:=⟨h.tj.trans k.tj,Nat.le_trans h.drawn k.drawn⟩
theorem Below.mono{B UL:Nat}{w ay:World}(h:Below B w ay)(iy:UL≤B):Below UL w ay:=⟨h.tj.mono iy,h.drawn⟩
theorem Below.drew{B:Nat}{a w:World}(h:Below B a w):Below B a w.drew:=⟨h.tj.drew,Nat.le_refl _⟩
theorem Below.alloc{B:Nat}{a w:World}(h:Below B a w)(iy:B≤w.heap.size)(o:Obj):Below B a (w.alloc o):=⟨h.tj.alloc iy o,h.drawn⟩
theorem Below.size{B:Nat}{w ay:World}(h:Below B w ay):w.heap.size≤ay.heap.size:=h.tj.size
theorem Below.block{B:Nat}{w ay:World}(h:Below B w ay):∀k,k<B→ay.heap[k]? =w.heap[k]?:=h.tj.block
structure Ren where
 map:Nat→Nat→Option (Nat×Nat)
 nq:Bool→Nat→Nat→List Value→Prop
 eQ:Nat→Prop
 lp:Nat→Option Loop
mutual
def R(ρ:Ren):V→Value→Prop
 |.undef,_=>True
 |.bool b,w=>w=.bool b
 |.int k n,w=>w=.int k n
 |.str s,w=>w=.string s
 |.nil,w=>w=.pointer none
 |.aa id g o,w=>∃b x,ρ.map id g=some (b,x)∧w=.pointer (some ⟨b,o,none⟩)
 |.lp f cs o,w=>(cs=[]∧w=.pointer none)∨∃b i us,(cs=[]∨ρ.nq f b i us)∧bV ρ cs us∧w=.pointer (some ⟨b,i+o,none⟩)
 |.slice a l c t,w=>∃p bg,w=.slice p l bg∧l≤c∧c≤bg∧(t=false→bg=c)∧(p=none→bg=0)∧(a.h_=true∨p.isSome=a.bm)∧
   (c≠0→R ρ a (.pointer p))∧(∀id g o,a=.aa id g o→t=true→∃b x,ρ.map id g=some (b,x)∧bg=c+x)
 |.map r,w=>(r=none∧w=.map none)∨(∃id b x,r=some id∧ρ.map id 0=some (b,x)∧w=.map (some b))
 |.func f cs,w=>∃us:List Value,w=.func (.func f) #[] us.toArray∧cm ρ cs us
 |.nilFunc,w=>w=.nilFunc
 |.nilIface,w=>w=.nilIface
 |.agg cs,w=>∃us:List Value,w=.agg us.toArray∧bV ρ cs us
 |.tuple cs,w=>∃us:List Value,w=.tuple us.toArray∧cm ρ cs us
 |.hR id,w=>∃b x,ρ.map id 0=some (b,x)∧w=.func (.yield b) #[] #[]
def cm(ρ:Ren):List V→List Value→Prop
 |[],us=>us=[]
 |v::vs,us=>∃u cw,us=u::cw∧R ρ v u∧cm ρ vs cw
def bV(ρ:Ren):List V→List Value→Prop
 |[],us=>us=[]
 |v::vs,us=>∃u cw,us=u::cw∧u.oneCell'=true∧R ρ v u∧bV ρ vs cw
end
def Ren.le (ρ a7:Ren):Prop:=
 (∀id g x,ρ.map id g=some x→a7.map id g=some x)∧(∀f b i us,ρ.nq f b i us→a7.nq f b i us)∧(∀b,ρ.eQ b→a7.eQ b)∧∀b K,ρ.lp b=some K→a7.lp b=some K
def Ren.o3(ρ a7:Ren):Prop:=
 (∀id g x,ρ.map id g=some x→a7.map id g=some x)∧∀f b i us,ρ.nq f b i us→a7.nq f b i us
theorem Ren.le.refl(ρ:Ren):ρ.le ρ:=⟨fun _ _ _ h=>h,fun _ _ _ _ h=>h,fun _ h=>h,fun _ _ h=>h⟩
theorem Ren.le.trans{a b c:Ren}(h:a.le b)(k:b.le c):a.le c:=⟨fun _ _ _ e=>k.1 _ _ _ (h.1 _ _ _ e),fun _ _ _ _ e=>k.2.1 _ _ _ _ (h.2.1 _ _ _ _ e),fun _ e=>k.2.2.1 _ (h.2.2.1 _ e),fun _ _ e=>k.2.2.2 _ _ (h.2.2.2 _ _ e)⟩
theorem Ren.le.o3{a b:Ren}(h:a.le b):a.o3 b:=⟨h.1,h.2.1⟩
mutual
theorem yF{ρ a7:Ren}(aq:ρ.o3 a7):∀(v:V) (w:Value),R ρ v w→R a7 v w
 |.undef,_,_=>by simp[R]
 |.bool b,w,h=>by simpa[R]using h
 |.int k n,w,h=>by simpa[R]using h
 |.str s,w,h=>by simpa[R]using h
 |.nil,w,h=>by simpa[R]using h
 |.aa id g o,w,h=>by
  simp only[R]at h⊢
  obtain⟨b,x,h1,h2⟩:=h
  exact ⟨b,x,aq.1 _ _ _ h1,h2⟩
 |.lp f cs o,w,h=>by
  simp only[R]at h⊢
  rcases h with h|⟨b,i,us,h1,h2,h3⟩
  ·exact .inl h
  ·exact .inr ⟨b,i,us,h1.imp id (aq.2 _ _ _ _),BM aq cs us h2,h3⟩
 |.slice a l c t,w,h=>by
  simp only[R]at h⊢
  obtain⟨p,bg,h1,h2,h3,aI,ba,bp,bE,h8⟩:=h
  exact ⟨p,bg,h1,h2,h3,aI,ba,bp,fun ao=>yF aq a _ (bE ao),fun id g o e ajj=>let ⟨b,x,aG,e2⟩:=h8 id g o e ajj;⟨b,x,aq.1 _ _ _ aG,e2⟩⟩
 |.map r,w,h=>by
  simp only[R]at h⊢
  rcases h with h|⟨id,b,x,h1,h2,h3⟩
  ·exact .inl h
  ·exact .inr ⟨id,b,x,h1,aq.1 _ _ _ h2,h3⟩
 |.func f cs,w,h=>by
  simp only[R]at h⊢
  obtain⟨us,h1,h2⟩:=h
  exact ⟨us,h1,yx aq cs us h2⟩
 |.nilFunc,w,h=>by simpa[R]using h
 |.nilIface,w,h=>by simpa[R]using h
 |.agg cs,w,h=>by
  simp only[R]at h⊢
  obtain⟨us,h1,h2⟩:=h
  exact ⟨us,h1,BM aq cs us h2⟩
 |.tuple cs,w,h=>by
  simp only[R]at h⊢
  obtain⟨us,h1,h2⟩:=h
  exact ⟨us,h1,yx aq cs us h2⟩
 |.hR id,w,h=>by
  simp only[R]at h⊢
  obtain⟨b,x,h1,h2⟩:=h
  exact ⟨b,x,aq.1 _ _ _ h1,h2⟩
theorem yx{ρ a7:Ren}(aq:ρ.o3 a7):∀(vs:List V) (us:List Value),cm ρ vs us→cm a7 vs us
 |[],us,h=>by simpa[cm]using h
 |v::vs,us,h=>by
  simp only[cm]at h⊢
  obtain⟨u,cw,h1,h2,h3⟩:=h
  exact ⟨u,cw,h1,yF aq v u h2,yx aq vs cw h3⟩
theorem BM{ρ a7:Ren}(aq:ρ.o3 a7):∀(vs:List V) (us:List Value),bV ρ vs us→bV a7 vs us
 |[],us,h=>by simpa[bV]using h
 |v::vs,us,h=>by
  simp only[bV]at h⊢
  obtain⟨u,cw,h1,h2,h3,aI⟩:=h
  exact ⟨u,cw,h1,h2,yF aq v u h3,BM aq vs cw aI⟩
end
theorem aaq{ρ a7:Ren}(aq:ρ.le a7)(v:V)(w:Value):R ρ v w→R a7 v w:=yF aq.o3 v w
theorem ZU{ρ a7:Ren}(aq:ρ.le a7)(vs:List V)(us:List Value):cm ρ vs us→cm a7 vs us:=yx aq.o3 vs us
theorem nH{ρ a7:Ren}(aq:ρ.le a7)(vs:List V)(us:List Value):bV ρ vs us→bV a7 vs us:=BM aq.o3 vs us
section rows
variable{ρ:Ren}
theorem pR:∀{vs:List V} {us:List Value},cm ρ vs us↔vs.length=us.length∧∀(i:Nat) v u,vs[i]? =some v→us[i]? =some u→R ρ v u:=by
 intro vs
 induction vs with
 |nil=>intro us;cases us<;>simp[cm]
 |cons v vs ih=>
  intro us
  cases us with
  |nil=>simp[cm]
  |cons u us=>
   simp only[cm,List.cons.injEq,List.length_cons,Nat.add_right_cancel_iff]
   constructor
   ·rintro⟨kg,cw,⟨rfl,rfl⟩,h1,h2⟩
    obtain⟨h3,aI⟩:=ih.1 h2
    refine⟨h3,fun i=>?_⟩
    cases i with
    |zero=>intro gJ kg aG e2;simp at aG e2;subst aG;subst e2;exact h1
    |succ i=>intro gJ kg aG e2;simp at aG e2;exact aI i _ _ aG e2
   ·rintro⟨h1,h2⟩
    exact ⟨u,us,⟨rfl,rfl⟩,h2 0 _ _ rfl rfl,ih.2 ⟨h1,fun i gJ kg aG e2=>h2 (i+1) gJ kg (by simpa using aG) (by simpa using e2)⟩⟩
theorem jT:∀{vs:List V} {us:List Value},bV ρ vs us↔vs.length=us.length∧∀(i:Nat) v u,vs[i]? =some v→us[i]? =some u→u.oneCell'=true∧R ρ v u:=by
 intro vs
 induction vs with
 |nil=>intro us;cases us<;>simp[bV]
 |cons v vs ih=>
  intro us
  cases us with
  |nil=>simp[bV]
  |cons u us=>
   simp only[bV,List.cons.injEq,List.length_cons,Nat.add_right_cancel_iff]
   constructor
   ·rintro⟨kg,cw,⟨rfl,rfl⟩,aO,h1,h2⟩
    obtain⟨h3,aI⟩:=ih.1 h2
    refine⟨h3,fun i=>?_⟩
    cases i with
    |zero=>intro gJ kg aG e2;simp at aG e2;subst aG;subst e2;exact ⟨aO,h1⟩
    |succ i=>intro gJ kg aG e2;simp at aG e2;exact aI i _ _ aG e2
   ·rintro⟨h1,h2⟩
    exact ⟨u,us,⟨rfl,rfl⟩,(h2 0 _ _ rfl rfl).1,(h2 0 _ _ rfl rfl).2,ih.2 ⟨h1,fun i gJ kg aG e2=>h2 (i+1) gJ kg (by simpa using aG) (by simpa using e2)⟩⟩
theorem bV.cm{vs:List V}{us:List Value}(h:bV ρ vs us):cm ρ vs us:=pR.2 ⟨(jT.1 h).1,fun i v u aG e2=>((jT.1 h).2 i v u aG e2).2⟩
theorem bV.length{vs:List V}{us:List Value}(h:bV ρ vs us):vs.length=us.length:=(jT.1 h).1
theorem cm.length{vs:List V}{us:List Value}(h:cm ρ vs us):vs.length=us.length:=(pR.1 h).1
theorem bV.at{vs:List V}{us:List Value}(h:bV ρ vs us){i:Nat}{v:V}(aU:vs[i]? =some v):∃u,us[i]? =some u∧u.oneCell'=true∧R ρ v u:=by
 have bn:i<us.length:=by rw[←h.length];exact (List.getElem?_eq_some_iff.1 aU).1
 exact ⟨us[i],List.getElem?_eq_getElem bn,(jT.1 h).2 i v _ aU (List.getElem?_eq_getElem bn)⟩
theorem cm.at{vs:List V}{us:List Value}(h:cm ρ vs us){i:Nat}{v:V}(aU:vs[i]? =some v):∃u,us[i]? =some u∧R ρ v u:=by
 have bn:i<us.length:=by rw[←h.length];exact (List.getElem?_eq_some_iff.1 aU).1
 exact ⟨us[i],List.getElem?_eq_getElem bn,(pR.1 h).2 i v _ aU (List.getElem?_eq_getElem bn)⟩
theorem bV.GD{vs:List V}{us:List Value}(h:bV ρ vs us):∀u∈us,u.oneCell'=true:=by
 intro u hu
 obtain⟨i,hi,rfl⟩:=List.getElem_of_mem hu
 have aq:i<vs.length:=by rw[h.length];exact hi
 exact ((jT.1 h).2 i vs[i] _ (List.getElem?_eq_getElem aq) (List.getElem?_eq_getElem hi)).1
theorem bV.append{a b:List V}{x y:List Value}(h:bV ρ a x)(k:bV ρ b y):bV ρ (a++b) (x++y):=by
 refine jT.2 ⟨by simp[h.length,k.length],fun i v u aG e2=>?_⟩
 rcases Nat.lt_or_ge i a.length with hi|hi
 ·rw[List.getElem?_append_left hi]at aG
  rw[List.getElem?_append_left (by rw[←h.length];exact hi)]at e2
  exact (jT.1 h).2 i v u aG e2
 ·rw[List.getElem?_append_right hi]at aG
  rw[List.getElem?_append_right (by rw[←h.length];exact hi),←h.length]at e2
  exact (jT.1 k).2 _ v u aG e2
theorem cm.append{a b:List V}{x y:List Value}(h:cm ρ a x)(k:cm ρ b y):cm ρ (a++b) (x++y):=by
 refine pR.2 ⟨by simp[h.length,k.length],fun i v u aG e2=>?_⟩
 rcases Nat.lt_or_ge i a.length with hi|hi
 ·rw[List.getElem?_append_left hi]at aG
  rw[List.getElem?_append_left (by rw[←h.length];exact hi)]at e2
  exact (pR.1 h).2 i v u aG e2
 ·rw[List.getElem?_append_right hi]at aG
  rw[List.getElem?_append_right (by rw[←h.length];exact hi),←h.length]at e2
  exact (pR.1 k).2 _ v u aG e2
theorem bV.take{a:List V}{x:List Value}(h:bV ρ a x)(n:Nat):bV ρ (a.take n) (x.take n):=by
 refine jT.2 ⟨by simp[h.length],fun i v u aG e2=>?_⟩
 rw[List.getElem?_take]at aG e2
 split at aG
 ·rename_i hi
  rw[if_pos hi]at e2
  exact (jT.1 h).2 i v u aG e2
 ·cases aG
theorem bV.drop{a:List V}{x:List Value}(h:bV ρ a x)(n:Nat):bV ρ (a.drop n) (x.drop n):=by
 refine jT.2 ⟨by simp[h.length],fun i v u aG e2=>?_⟩
 rw[List.getElem?_drop]at aG e2
 exact (jT.1 h).2 _ v u aG e2
theorem bV.splice{a vs:List V}{x us:List Value}(h:bV ρ a x)(k:bV ρ vs us)(o:Nat):bV ρ (splice a o vs) (x.take o++us++x.drop (o+us.length)):=by
 unfold Ev.splice
 rw[←k.length]
 exact ((h.take o).append k).append (h.drop _)
theorem vO:bV ρ [] []:=by simp[bV]
theorem RE:cm ρ [] []:=by simp[cm]
theorem aar{α:Type}(l:List α)(f:α→V)(g:α→Value)(h:∀x∈l,R ρ (f x) (g x)):cm ρ (l.map f) (l.map g):=by
 induction l with
 |nil=>simp[cm]
 |cons x l ih=>simp only[List.map_cons,cm];exact ⟨_,_,rfl,h x (by simp),ih fun y aK=>h y (by simp[aK])⟩
theorem Oa(cs:List V)(o:Nat)(vs:List V)(h:o+vs.length≤cs.length):(splice cs o vs).length=cs.length:=by
 simp only[Ev.splice,List.length_append,List.length_take,List.length_drop]
 omega
theorem R.one{v:V}{u:Value}(h:R ρ v u){cs:List V}(ao:v.cells=some cs):bV ρ cs u.cells.toList:=by
 cases v<;>simp only[V.cells,Option.some.injEq,reduceCtorEq]at ao<;>try subst ao
 case bool b=>have ar:=h;simp only[R]at ar;subst ar;exact ⟨_,_,rfl,rfl,h,by simp[bV]⟩
 case hR id=>have ar:=h;simp only[R]at ar;obtain⟨b,x,_,rfl⟩:=ar;exact ⟨_,_,rfl,rfl,h,by simp[bV]⟩
 case int k n=>have ar:=h;simp only[R]at ar;subst ar;exact ⟨_,_,rfl,rfl,h,by simp[bV]⟩
 case str s=>have ar:=h;simp only[R]at ar;subst ar;exact ⟨_,_,rfl,rfl,h,by simp[bV]⟩
 case nil=>have ar:=h;simp only[R]at ar;subst ar;exact ⟨_,_,rfl,rfl,h,by simp[bV]⟩
 case nilFunc=>have ar:=h;simp only[R]at ar;subst ar;exact ⟨_,_,rfl,rfl,h,by simp[bV]⟩
 case nilIface=>have ar:=h;simp only[R]at ar;subst ar;exact ⟨_,_,rfl,rfl,h,by simp[bV]⟩
 case aa id g o=>
  have ar:=h
  simp only[R]at ar
  obtain⟨b,x,_,rfl⟩:=ar
  exact ⟨_,_,rfl,rfl,h,by simp[bV]⟩
 case lp fl c o=>
  have ar:=h
  simp only[R]at ar
  rcases ar with⟨_,rfl⟩|⟨b,i,us,_,_,rfl⟩
  ·exact ⟨_,_,rfl,rfl,h,by simp[bV]⟩
  ·exact ⟨_,_,rfl,rfl,h,by simp[bV]⟩
 case slice a l c t=>
  have ar:=h
  simp only[R]at ar
  obtain⟨p,bg,rfl,_⟩:=ar
  exact ⟨_,_,rfl,rfl,h,by simp[bV]⟩
 case map r=>
  have ar:=h
  simp only[R]at ar
  rcases ar with⟨_,rfl⟩|⟨_,_,_,_,_,rfl⟩
  ·exact ⟨_,_,rfl,rfl,h,by simp[bV]⟩
  ·exact ⟨_,_,rfl,rfl,h,by simp[bV]⟩
 case func f c=>
  have ar:=h
  simp only[R]at ar
  obtain⟨us,rfl,_⟩:=ar
  exact ⟨_,_,rfl,rfl,h,by simp[bV]⟩
 case agg c=>
  simp only[R]at h
  obtain⟨us,rfl,h⟩:=h
  simpa[Value.cells]using h
theorem Wa(u:Value):one u=u.oneCell':=by cases u<;>rfl
theorem PJ(u:Value):R ρ (ofConst u) u:=by
 unfold ofConst
 split
 case h_5=>exact ⟨none,0,rfl,Nat.le_refl _,Nat.le_refl _,fun _=>rfl,fun _=>rfl,.inr rfl,fun h=>absurd rfl h,fun _ _ _ h=>by cases h⟩
 all_goals simp[R]
theorem c8{i id:Nat}(h:i≠id):Nat.beq i id=false:=by
 cases aE:Nat.beq i id with
 |false=>rfl
 |true=>exact absurd (Nat.eq_of_beq_eq_true aE) h
theorem Ft (us:List Value)(h:us.all one=true):bV ρ (us.map ofConst) us:=by
 refine jT.2 ⟨by simp,fun i v u aG e2=>?_⟩
 rw[List.getElem?_map,e2]at aG
 simp at aG
 subst aG
 exact ⟨by rw[←Wa];exact List.all_eq_true.1 h u (List.mem_of_getElem? e2),PJ u⟩
theorem Qn(u:Value):R ρ (yN u) u:=by
 unfold yN
 split
 ·rename_i cs
  split
  ·rename_i h
   simp only[R]
   exact ⟨cs.toList,by simp,Ft _ h⟩
  ·simp[R]
 ·exact PJ u
end rows
theorem ab.fu:∀(l:ab) (v:V) (x:l.C),l.pack v=some x→l.un x=v:=by
 intro l v x h
 cases l<;>cases v<;>simp[ab.pack]at h<;>(try subst h)<;>(try rfl)
 obtain⟨rfl,rfl⟩:=h
 rfl
theorem LT.fu:∀(ls:List ab) (vs:List V) (x:LT ls),LT.pack ls vs=some x→LT.un ls x=vs
 |[],[],x,h=>by simp[LT.un]
 |[],_::_,x,h=>by simp[LT.pack]at h
 |[l],[],x,h=>by simp[LT.pack]at h
 |[l],[v],x,h=>by simp only[LT.pack]at h;simp only[LT.un,ab.fu l v x h]
 |[l],_::_::_,x,h=>by simp[LT.pack]at h
 |l::b3::ls,[],x,h=>by simp[LT.pack]at h
 |l::b3::ls,v::vs,x,h=>by
  simp only[LT.pack,Option.bind_eq_some_iff,Option.some.injEq]at h
  obtain⟨y,aK,z,bH,rfl⟩:=h
  simp only[LT.un,ab.fu l v y aK,LT.fu (b3::ls) vs z bH]
theorem ai.fu:∀(t:ai) (v:V) (x:t.C),t.pack v=some x→t.un x=v
 |.leaf l,v,x,h=>ab.fu l v x h
 |.agg ls,v,x,h=>by
  cases v<;>simp only[ai.pack,reduceCtorEq]at h
  simp only[ai.un,LT.fu _ _ _ h]
theorem aj.fu:∀(ts:List ai) (vs:List V) (x:aj ts),aj.pack ts vs=some x→aj.un ts x=vs
 |[],[],x,h=>by simp[aj.un]
 |[],_::_,x,h=>by simp[aj.pack]at h
 |[l],[],x,h=>by simp[aj.pack]at h
 |[l],[v],x,h=>by simp only[aj.pack]at h;simp only[aj.un,ai.fu l v x h]
 |[l],_::_::_,x,h=>by simp[aj.pack]at h
 |l::b3::ls,[],x,h=>by simp[aj.pack]at h
 |l::b3::ls,v::vs,x,h=>by
  simp only[aj.pack,Option.bind_eq_some_iff,Option.some.injEq]at h
  obtain⟨y,aK,z,bH,rfl⟩:=h
  simp only[aj.un,ai.fu l v y aK,aj.fu (b3::ls) vs z bH]
theorem an.fu:∀(r:an) (v:V) (x:r.C),r.pack v=some x→r.un x=v
 |.one t,v,x,h=>ai.fu t v x h
 |.many ts,v,x,h=>by
  cases v<;>simp only[an.pack,reduceCtorEq]at h
  simp only[an.un,aj.fu _ _ _ h]
def mU(kk vk:IntKind)(es:List (Int×Int)):Array MapEntry:=(es.zipIdx.map fun(e,i)=>({key:=.int kk e.1,val:=.int vk e.2,born:=i}:MapEntry)).toArray
def fV(e:Value×Value)(i:Nat):MapEntry:={key:=e.1,val:=e.2,born:=i}
def dR(us:List (Value×Value)):Array MapEntry:=(us.zipIdx.map fun p=>fV p.1 p.2).toArray
def gX(ρ:Ren)(b:Nat):Slot→Obj→Prop
 |.jB mid n seen,o=>∃tG,ρ.map mid 0=some (tG,0)∧o=.mapIter (some tG) n seen.toArray n
 |.cZ es,o=>∃us,o=.map (dR us) us.length∧cm ρ (es.map (·.1)) (us.map (·.1))∧cm ρ (es.map (·.2)) (us.map (·.2))
 |.loop st,o=>∃K,ρ.lp b=some K∧o=.loop {K with state:=st,pending:=none}
 |.dk kk vk es,o=>o=.map (mU kk vk es) es.length
 |_,_=>False
theorem Qo{ρ a7:Ren}(aq:ρ.o3 a7)(aa:∀b K,ρ.lp b=some K→a7.lp b=some K){b:Nat}{s:Slot}{o:Obj}(h:gX ρ b s o):gX a7 b s o:=by
 cases s<;>simp only[gX]at h⊢
 ·exact h
 ·obtain⟨us,h1,h2,h3⟩:=h
  exact ⟨us,h1,yx aq _ _ h2,yx aq _ _ h3⟩
 ·obtain⟨tG,h1,h2⟩:=h
  exact ⟨tG,aq.1 _ _ _ h1,h2⟩
 ·obtain⟨K,h1,h2⟩:=h
  exact ⟨K,aa _ _ h1,h2⟩
theorem JC{ρ a7:Ren}(aq:ρ.le a7){b:Nat}{s:Slot}{o:Obj}(h:gX ρ b s o):gX a7 b s o:=Qo aq.o3 aq.2.2.2 h
theorem FI{ρ:Ren}{b:Nat}{s:Slot}{o:Obj}(h:gX ρ b s o):(∀c t f,o≠.cells c t f)∧∀d,o≠.deferred d:=by
 cases s<;>simp only[gX]at h
 ·subst h;exact ⟨fun _ _ _ e=>(by cases e),fun _ e=>(by cases e)⟩
 ·obtain⟨us,rfl,_⟩:=h
  exact ⟨fun _ _ _ e=>(by cases e),fun _ e=>(by cases e)⟩
 ·obtain⟨tG,_,rfl⟩:=h
  exact ⟨fun _ _ _ e=>(by cases e),fun _ e=>(by cases e)⟩
 ·obtain⟨K,h1,rfl⟩:=h
  exact ⟨fun _ _ _ e=>(by cases e),fun _ e=>(by cases e)⟩
structure GF(base:Nat)(ρ:Ren)(h:H)(w:World):Prop where
 obj:∀id s,h.m id=s→s.isObj=true→∃b o,ρ.map id 0=some (b,0)∧base≤b∧w.heap[b]? =some o∧gX ρ b s o
 sep:∀id da s bc b c6,id≠da→h.m id=s→s.isObj=true→h.m da=bc→bc.isObj=true→ρ.map id 0=some (b,0)→ρ.map da 0=some (c6,0)→b≠c6
 eQ:∀D,ρ.eQ D→w.heap[D]? =some (.deferred (some []))
 lp:∀b K,ρ.lp b=some K→b<w.heap.size
theorem GF.jZ{base:Nat}{ρ a7:Ren}{h ar:H}{w ay:World}(a8:GF base ρ h w)(hle:ρ.le a7)(hm:∀id s,ar.m id=s→s.isObj=true→h.m id=s)(G3:∀D,a7.eQ D→ρ.eQ D)(zZ:∀b K,a7.lp b=some K→ρ.lp b=some K)
  (hw:∀(b:Nat) (o:Obj),w.heap[b]? =some o→(∀c t f,o≠Obj.cells c t f)→ay.heap[b]? =some o)(cf:w.heap.size≤ay.heap.size):GF base a7 ar ay:=by
 have back:∀id s b,ar.m id=s→s.isObj=true→a7.map id 0=some b→ρ.map id 0=some b:=fun id s b h1 h2 h3=>by
  obtain⟨EC,o,aw,_,_,_⟩:=a8.obj id s (hm id s h1 h2) h2
  rw[hle.1 _ _ _ aw]at h3
  rw[aw,h3]
 refine⟨fun id s h1 h2=>?_,fun id da s bc b c6 bS h1 h2 h3 aI ba bp=>?_,fun D cP=>?_,fun b K aE=>Nat.lt_of_lt_of_le (a8.lp b K (zZ b K aE)) cf⟩
 ·obtain⟨b,o,aw,aH,aW,bq⟩:=a8.obj id s (hm id s h1 h2) h2
  exact ⟨b,o,hle.1 _ _ _ aw,aH,hw b o aW (FI bq).1,JC hle bq⟩
 ·exact a8.sep id da s bc b c6 bS (hm id s h1 h2) h2 (hm da bc h3 aI) aI (back id s _ h1 h2 ba) (back da bc _ h3 aI bp)
 ·exact hw D _ (a8.eQ D (G3 D cP)) (fun _ _ _ e=>by cases e)
def tH(base:Nat)(w:World):Prop:=∀p∈af9,p.1<base∧∃t fr,w.heap[p.1]? =some (.cells p.2 t fr)
theorem tH.below{base:Nat}{w ay:World}(h:tH base w)(aE:Below base w ay):tH base ay:=fun p aa=>
 let ⟨h1,t,fr,h2⟩:=h p aa
 ⟨h1,t,fr,by rw[aE.block _ h1];exact h2⟩
theorem tH.mono{base Sd:Nat}{w:World}(h:tH base w)(aE:base≤Sd):tH Sd w:=fun p aa=>⟨Nat.lt_of_lt_of_le (h p aa).1 aE,(h p aa).2⟩
structure Rel(base:Nat)(ρ:Ren)(h:H)(w:World):Prop where
 ma:tH base w
 aE:base≤w.heap.size
 used:∀id g x,ρ.map id g=some x→h.m id≠.fresh
 own:∀id cs e,h.m id=.own cs e→∃b x c t,ρ.map id cs.length=some (b,x)∧base≤b∧w.heap[b]? =some (.cells c t (0,0))∧
  c.size=cs.length+x*e∧bV ρ cs (c.toList.take cs.length)
 kz:∀id g x cs e,ρ.map id g=some x→h.m id=.own cs e→g≤cs.length
 top:∀id,h.next≤id→h.m id=.fresh
 sep:∀id da cs dw e dn b x c6 fm,id≠da→h.m id=.own cs e→h.m da=.own dw dn→ρ.map id cs.length=some (b,x)→ρ.map da dw.length=some (c6,fm)→b≠c6
 jg:∀f b i us,ρ.nq f b i us→∃c t fr,w.heap[b]? =some (.cells c t fr)∧∀j u,us[j]? =some u→c[i+j]? =some u
 k7:∀b i us,ρ.nq true b i us→base≤b
 je:∀f b i us id cs e x,ρ.nq f b i us→h.m id=.own cs e→ρ.map id cs.length≠some (b,x)
 eF:GF base ρ h w
section aa5
variable{base:Nat}{ρ:Ren}{h:H}{w:World}
theorem Rel.ext (af:Rel base ρ h w){ay:World}(hx:Below w.heap.size w ay):Rel base ρ h ay:=by
 have aN:∀(b:Nat) (o:Obj),w.heap[b]? =some o→ay.heap[b]? =some o:=fun b o e=>by
  rw[hx.block b (Array.getElem?_eq_some_iff.1 e).1];exact e
 refine⟨af.ma.below (hx.mono af.aE),Nat.le_trans af.aE hx.size,af.used,fun id cs e hm=>?_,af.kz,af.top,af.sep,fun f b i us ak=>?_,af.k7,af.je,af.eF.jZ (Ren.le.refl _) (fun _ _ h _=>h) (fun _ h=>h) (fun _ _ h=>h) (fun b o e _=>aN b o e) hx.size⟩
 ·obtain⟨b,x,c,t,h1,h2,h3,aI,ba⟩:=af.own id cs e hm
  exact ⟨b,x,c,t,h1,h2,aN _ _ h3,aI,ba⟩
 ·obtain⟨c,t,fr,h1,h2⟩:=af.jg f b i us ak
  exact ⟨c,t,fr,aN _ _ h1,h2⟩
def Ren.with(ρ:Ren)(id g:Nat)(x:Nat×Nat):Ren:={ρ with map:=fun i j=>if i=id∧j=g then some x else ρ.map i j}
theorem Ren.JD{id g:Nat}{x:Nat×Nat}(aM:ρ.map id g=none):ρ.le (ρ.with id g x):=by
 refine⟨fun i j y aK=>?_,fun _ _ _ _ h=>h,fun _ h=>h,fun _ _ h=>h⟩
 simp only[Ren.with]
 split
 ·rename_i ao;obtain⟨rfl,rfl⟩:=ao;rw[aM]at aK;cases aK
 ·exact aK
theorem Ren.lG(id g:Nat)(x:Nat×Nat):(ρ.with id g x).map id g=some x:=by simp[Ren.with]
theorem Ren.kq{id g i j:Nat}{x:Nat×Nat}(aM:¬(i=id∧j=g)):(ρ.with id g x).map i j=ρ.map i j:=by simp[Ren.with,aM]
theorem Rel.make (af:Rel base ρ h w){id:Nat}(ak:h.m id=.fresh){cs:List V}{e x:Nat}{c:Array Value}{t:TypeId}(ao:bV ρ cs (c.toList.take cs.length))
  (ad:c.size=cs.length+x*e){ar:H}(hm:ar.m=fun i=>bif Nat.beq i id then .own cs e else h.m i)(aM:h.next≤ar.next)(aT:id<ar.next):
  ρ.le (ρ.with id cs.length (w.heap.size,x))∧Rel base (ρ.with id cs.length (w.heap.size,x)) ar (w.alloc (.cells c t)):=by
 have nN:∀g,ρ.map id g=none:=fun g=>by
  cases aV:ρ.map id g with
  |none=>rfl
  |some y=>exact absurd ak (af.used id g y aV)
 have hle:ρ.le (ρ.with id cs.length (w.heap.size,x)):=Ren.JD (nN _)
 have dP:ar.m id=.own cs e:=by rw[hm];simp
 have ev:∀i,i≠id→ar.m i=h.m i:=fun i hi=>by
  rw[hm]
  have:Nat.beq i id=false:=c8 hi
  simp[this]
 have wT:=Below.refl w.heap.size w
 have c9:=af.ext (wT.alloc (Nat.le_refl _) (.cells c t))
 refine⟨hle,⟨c9.ma,c9.aE,fun i g y aK=>?_,fun i dw dn hi=>?_,fun i g y dw dn aK hi=>?_,fun i hi=>?_, ?_,fun f b i us j6=>?_,af.k7, ?_,c9.eF.jZ hle (fun i s hi ad=>by
  by_cases cg:i=id
  ·subst cg;rw[dP]at hi;subst hi;cases ad
  ·rw[←ev i cg];exact hi) (fun _ h=>h) (fun _ _ h=>h) (fun _ _ e _=>e) (Nat.le_refl _)⟩⟩
 ·by_cases hi:i=id
  ·subst hi;rw[dP];simp
  ·rw[ev i hi]
   rw[Ren.kq (fun hh=>hi hh.1)]at aK
   exact af.used i g y aK
 ·by_cases cg:i=id
  ·subst cg
   rw[dP]at hi
   cases hi
   refine⟨w.heap.size,x,c,t,Ren.lG _ _ _,af.aE,heap_alloc_new w _,ad,nH hle _ _ ao⟩
  ·rw[ev i cg]at hi
   obtain⟨b,y,bg,ea,h1,h2,h3,aI,ba⟩:=c9.own i dw dn hi
   exact ⟨b,y,bg,ea,hle.1 _ _ _ h1,h2,h3,aI,nH hle _ _ ba⟩
 ·by_cases cg:i=id
  ·subst cg
   rw[dP]at hi
   cases hi
   by_cases aQ:g=cs.length
   ·omega
   ·rw[Ren.kq (fun hh=>aQ hh.2),nN g]at aK;cases aK
  ·rw[ev i cg]at hi
   rw[Ren.kq (fun hh=>cg hh.1)]at aK
   exact af.kz i g y dw dn aK hi
 ·rw[ev i (by omega)];exact af.top i (by omega)
 ·intro i c3 bL a_ aG e2 b y c6 gK bS h1 h2 h3 aI
  by_cases hi:i=id
  ·subst hi
   rw[dP]at h1;cases h1
   rw[Ren.lG]at h3;cases h3
   rw[ev c3 (Ne.symm bS)]at h2
   rw[Ren.kq (fun hh=>bS hh.1.symm)]at aI
   obtain⟨b2,b5,cY,t3,aw,aH,aW,bq,bU⟩:=af.own c3 a_ e2 h2
   rw[aw]at aI;cases aI
   have:=(Array.getElem?_eq_some_iff.1 aW).1
   omega
  ·by_cases ej:c3=id
   ·subst ej
    rw[dP]at h2;cases h2
    rw[Ren.lG]at aI;cases aI
    rw[ev i hi]at h1
    rw[Ren.kq (fun hh=>hi hh.1)]at h3
    obtain⟨b2,b5,cY,t3,aw,aH,aW,bq,bU⟩:=af.own i bL aG h1
    rw[aw]at h3;cases h3
    have:=(Array.getElem?_eq_some_iff.1 aW).1
    omega
   ·rw[ev i hi]at h1
    rw[ev c3 ej]at h2
    rw[Ren.kq (fun hh=>hi hh.1)]at h3
    rw[Ren.kq (fun hh=>ej hh.1)]at aI
    exact af.sep i c3 bL a_ aG e2 b y c6 gK bS h1 h2 h3 aI
 ·exact c9.jg f b i us j6
 ·intro f b i us da dw dn y j6 hi
  by_cases cg:da=id
  ·subst cg
   rw[dP]at hi;cases hi
   rw[Ren.lG]
   intro he;cases he
   obtain⟨cY,t3,fr,aw,_⟩:=af.jg f _ i us j6
   have:=(Array.getElem?_eq_some_iff.1 aw).1
   omega
  ·rw[ev da cg]at hi
   rw[Ren.kq (fun hh=>cg hh.1)]
   exact af.je f b i us da dw dn y j6 hi
def Ren.froze (ρ:Ren)(b:Nat)(us:List Value):Ren:={ρ with nq:=fun f c6 i cw=>(c6=b∧i=0∧cw=us)∨ρ.nq f c6 i cw}
theorem Ren.nE{b:Nat}{us:List Value}:ρ.le (ρ.froze b us):=⟨fun _ _ _ h=>h,fun _ _ _ _ h=> .inr h,fun _ h=>h,fun _ _ h=>h⟩
theorem Rel.lit (af:Rel base ρ h w)(c:Array Value)(t:TypeId):Rel base (ρ.froze w.heap.size c.toList) h (w.alloc (.cells c t)):=by
 have c9:=af.ext ((Below.refl w.heap.size w).alloc (Nat.le_refl _) (.cells c t))
 refine⟨c9.ma,c9.aE,c9.used,fun id cs e hm=>?_,c9.kz,c9.top,c9.sep,fun f b i us ak=>?_,fun b i us ak=>?_,fun f b i us id cs e x ak hm=>?_,c9.eF.jZ Ren.nE (fun _ _ h _=>h) (fun _ h=>h) (fun _ _ h=>h) (fun _ _ e _=>e) (Nat.le_refl _)⟩
 ·obtain⟨b,x,bg,ea,h1,h2,h3,aI,ba⟩:=c9.own id cs e hm
  exact ⟨b,x,bg,ea,h1,h2,h3,aI,nH Ren.nE _ _ ba⟩
 ·rcases ak with⟨rfl,rfl,rfl⟩|ak
  ·exact ⟨c,t,(0,0),heap_alloc_new w _,fun j u hu=>by simpa using hu⟩
  ·exact c9.jg f b i us ak
 ·rcases ak with⟨rfl,rfl,rfl⟩|ak
  ·exact af.aE
  ·exact af.k7 b i us ak
 ·rcases ak with⟨rfl,rfl,rfl⟩|ak
  ·intro he
   obtain⟨b2,b5,cY,t3,aw,aH,aW,bq,bU⟩:=af.own id cs e hm
   have fP:ρ.map id cs.length=some (w.heap.size,x):=he
   rw[aw]at fP;cases fP
   have:=(Array.getElem?_eq_some_iff.1 aW).1
   omega
  ·exact c9.je f b i us id cs e x ak hm
theorem Rel.write (af:Rel base ρ h w){id:Nat}{cs dw:List V}{e b x:Nat}{c bg:Array Value}{t:TypeId}(hm:h.m id=.own cs e)(aE:ρ.map id cs.length=some (b,x))
  (ao:w.heap[b]? =some (.cells c t (0,0)))(aq:dw.length=cs.length)(ad:bg.size=c.size)(f_:bV ρ dw (bg.toList.take dw.length)):
  Rel base ρ (h.put id (.own dw e)) (w.setRow b bg)∧Below base w (w.setRow b bg):=by
 have dP:(h.put id (.own dw e)).m id=.own dw e:=by simp[H.put]
 have ev:∀i,i≠id→(h.put id (.own dw e)).m i=h.m i:=fun i hi=>by
  have:Nat.beq i id=false:=c8 hi
  simp[H.put,this]
 obtain⟨EC,x0,iO,t0,aw,aH,aW,bq,bU⟩:=af.own id cs e hm
 rw[aE]at aw;cases aw
 rw[ao]at aW;cases aW
 have ie:(w.setRow b bg).heap[b]? =some (.cells bg t (0,0)):=setRow_heap w b c bg t (0,0) ao
 have hr:∀k,k≠b→(w.setRow b bg).heap[k]? =w.heap[k]?:=fun k aN=>setRow_other w b k bg aN
 have cf:(w.setRow b bg).heap.size=w.heap.size:=by simp[World.setRow]
 refine⟨⟨af.ma.below ⟨⟨rfl,rfl,rfl,by rw[cf];exact Nat.le_refl _,fun k aN=>hr k (by omega)⟩,Nat.le_refl _⟩,by rw[cf];exact af.aE,fun i g y aK=>?_,fun i gE aG hi=>?_,fun i g y gE aG aK hi=>?_,fun i hi=>?_, ?_,fun f b8 i us ak=>?_,af.k7, ?_,af.eF.jZ (Ren.le.refl _) (fun i s hi ad=>by
  by_cases cg:i=id
  ·subst cg;rw[dP]at hi;subst hi;cases ad
  ·rw[←ev i cg];exact hi) (fun _ h=>h) (fun _ _ h=>h) (fun k o e aM=>by
   rw[hr k (fun he=>by subst he;rw[ao]at e;cases e;exact aM _ _ _ rfl)];exact e) (by rw[cf];exact Nat.le_refl _)⟩,⟨⟨rfl,rfl,rfl,by rw[cf];exact Nat.le_refl _,fun k aN=>hr k (by omega)⟩,Nat.le_refl _⟩⟩
 ·by_cases hi:i=id
  ·subst hi;rw[dP];simp
  ·rw[ev i hi];exact af.used i g y aK
 ·by_cases cg:i=id
  ·subst cg
   rw[dP]at hi;cases hi
   exact ⟨b,x,bg,t,by rw[aq];exact aE,aH,ie,by rw[ad,aq];exact bq,f_⟩
  ·rw[ev i cg]at hi
   obtain⟨b8,y,bL,t1,h1,h2,h3,aI,ba⟩:=af.own i gE aG hi
   exact ⟨b8,y,bL,t1,h1,h2,by rw[hr b8 (af.sep i id gE cs aG e b8 y b x cg hi hm h1 aE)];exact h3,aI,ba⟩
 ·by_cases cg:i=id
  ·subst cg
   rw[dP]at hi;cases hi
   rw[aq];exact af.kz i g y cs e aK hm
  ·rw[ev i cg]at hi;exact af.kz i g y gE aG aK hi
 ·have ej:h.next≤i:=hi
  by_cases cg:i=id
  ·subst cg;rw[af.top i ej]at hm;cases hm
  ·rw[ev i cg];exact af.top i ej
 ·intro i c3 bL a_ aG e2 b8 y c6 gK bS h1 h2 h3 aI
  by_cases hi:i=id
  ·subst hi
   rw[dP]at h1;cases h1
   rw[aq]at h3
   rw[ev c3 (Ne.symm bS)]at h2
   exact af.sep i c3 cs a_ e e2 b8 y c6 gK bS hm h2 h3 aI
  ·by_cases ej:c3=id
   ·subst ej
    rw[dP]at h2;cases h2
    rw[aq]at aI
    rw[ev i hi]at h1
    exact af.sep i c3 bL cs aG e b8 y c6 gK bS h1 hm h3 aI
   ·rw[ev i hi]at h1
    rw[ev c3 ej]at h2
    exact af.sep i c3 bL a_ aG e2 b8 y c6 gK bS h1 h2 h3 aI
 ·obtain⟨bL,t1,fr,h1,h2⟩:=af.jg f b8 i us ak
  exact ⟨bL,t1,fr,by rw[hr b8 (fun he=>af.je f b8 i us id cs e x ak hm (he▸aE))];exact h1,h2⟩
 ·intro f b8 i us da gE aG y ak hi
  by_cases cg:da=id
  ·subst cg
   rw[dP]at hi;cases hi
   rw[aq];exact af.je f b8 i us da cs e y ak hm
  ·rw[ev da cg]at hi
   exact af.je f b8 i us da gE aG y ak hi
theorem Rel.grow(af:Rel base ρ h w){id:Nat}{cs dw:List V}{e b x c6 fm:Nat}{bg:Array Value}{t:TypeId}{ay:World}(hm:h.m id=.own cs e)(aE:ρ.map id cs.length=some (b,x))
  (aq:cs.length<dw.length)(fN:Below base w ay)(hr:∀k,k<w.heap.size→k≠b→ay.heap[k]? =w.heap[k]?)(na:c6=b∨w.heap.size≤c6)
  (ao:ay.heap[c6]? =some (.cells bg t (0,0)))(ad:bg.size=dw.length+fm*e)(f_:bV ρ dw (bg.toList.take dw.length)):
  ρ.le (ρ.with id dw.length (c6,fm))∧Rel base (ρ.with id dw.length (c6,fm)) (h.put id (.own dw e)) ay:=by
 have dP:(h.put id (.own dw e)).m id=.own dw e:=by simp[H.put]
 have ev:∀i,i≠id→(h.put id (.own dw e)).m i=h.m i:=fun i hi=>by
  have:Nat.beq i id=false:=c8 hi
  simp[H.put,this]
 have nN:ρ.map id dw.length=none:=by
  cases aV:ρ.map id dw.length with
  |none=>rfl
  |some y=>have:=af.kz id _ y cs e aV hm;omega
 have hle:ρ.le (ρ.with id dw.length (c6,fm)):=Ren.JD nN
 obtain⟨EC,x0,iO,t0,aw,aH,aW,bq,bU⟩:=af.own id cs e hm
 rw[aE]at aw;cases aw
 have lh:base≤c6:=by have:=af.aE;rcases na with rfl |na<;>omega
 refine⟨hle,⟨af.ma.below fN,Nat.le_trans af.aE fN.size,fun i g y aK=>?_,fun i gE aG hi=>?_,fun i g y gE aG aK hi=>?_,fun i hi=>?_, ?_,fun f b8 i us ak=>?_,af.k7, ?_,af.eF.jZ hle (fun i s hi ad=>by
  by_cases cg:i=id
  ·subst cg;rw[dP]at hi;subst hi;cases ad
  ·rw[←ev i cg];exact hi) (fun _ h=>h) (fun _ _ h=>h) (fun k o e aM=>by
   rw[hr k (Array.getElem?_eq_some_iff.1 e).1 (fun he=>by subst he;rw[aW]at e;cases e;exact aM _ _ _ rfl)];exact e) fN.size⟩⟩
 ·by_cases hi:i=id
  ·subst hi;rw[dP];simp
  ·rw[ev i hi]
   rw[Ren.kq (fun hh=>hi hh.1)]at aK
   exact af.used i g y aK
 ·by_cases cg:i=id
  ·subst cg
   rw[dP]at hi;cases hi
   exact ⟨c6,fm,bg,t,Ren.lG _ _ _,lh,ao,ad,nH hle _ _ f_⟩
  ·rw[ev i cg]at hi
   obtain⟨b8,y,bL,t1,h1,h2,h3,aI,ba⟩:=af.own i gE aG hi
   exact ⟨b8,y,bL,t1,hle.1 _ _ _ h1,h2,by rw[hr b8 (Array.getElem?_eq_some_iff.1 h3).1 (af.sep i id gE cs aG e b8 y b x cg hi hm h1 aE)];exact h3,aI,nH hle _ _ ba⟩
 ·by_cases cg:i=id
  ·subst cg
   rw[dP]at hi;cases hi
   by_cases aQ:g=dw.length
   ·omega
   ·rw[Ren.kq (fun hh=>aQ hh.2)]at aK
    have:=af.kz i g y cs e aK hm
    omega
  ·rw[ev i cg]at hi
   rw[Ren.kq (fun hh=>cg hh.1)]at aK
   exact af.kz i g y gE aG aK hi
 ·have ej:h.next≤i:=hi
  by_cases cg:i=id
  ·subst cg;rw[af.top i ej]at hm;cases hm
  ·rw[ev i cg];exact af.top i ej
 ·have key:∀i bL aG b8 y,i≠id→h.m i=.own bL aG→ρ.map i bL.length=some (b8,y)→b8≠c6:=fun i bL aG b8 y bS h1 h3=>by
   obtain⟨b2,cc,a_,t2,ep,aD,gd,kh,xx⟩:=af.own i bL aG h1
   rw[h3]at ep;cases ep
   have bn:=(Array.getElem?_eq_some_iff.1 gd).1
   rcases na with rfl |na
   ·exact af.sep i id bL cs aG e b8 y c6 x bS h1 hm h3 aE
   ·omega
  intro i c3 bL a_ aG e2 b8 y b2 gK bS h1 h2 h3 aI
  by_cases hi:i=id
  ·subst hi
   rw[dP]at h1;cases h1
   rw[Ren.lG]at h3;cases h3
   rw[ev c3 (Ne.symm bS)]at h2
   rw[Ren.kq (fun hh=>bS hh.1.symm)]at aI
   exact (key c3 a_ e2 b2 gK (Ne.symm bS) h2 aI).symm
  ·by_cases ej:c3=id
   ·subst ej
    rw[dP]at h2;cases h2
    rw[Ren.lG]at aI;cases aI
    rw[ev i hi]at h1
    rw[Ren.kq (fun hh=>hi hh.1)]at h3
    exact key i bL aG b8 y hi h1 h3
   ·rw[ev i hi]at h1
    rw[ev c3 ej]at h2
    rw[Ren.kq (fun hh=>hi hh.1)]at h3
    rw[Ren.kq (fun hh=>ej hh.1)]at aI
    exact af.sep i c3 bL a_ aG e2 b8 y b2 gK bS h1 h2 h3 aI
 ·obtain⟨bL,t1,fr,h1,h2⟩:=af.jg f b8 i us ak
  exact ⟨bL,t1,fr,by rw[hr b8 (Array.getElem?_eq_some_iff.1 h1).1 (fun he=>af.je f b8 i us id cs e x ak hm (he▸aE))];exact h1,h2⟩
 ·intro f b8 i us da gE aG y ak hi
  by_cases cg:da=id
  ·subst cg
   rw[dP]at hi;cases hi
   rw[Ren.lG]
   intro he;cases he
   rcases na with rfl |na
   ·exact af.je f _ i us da cs e x ak hm aE
   ·obtain⟨bL,t1,fr,h1,h2⟩:=af.jg f _ i us ak
    have:=(Array.getElem?_eq_some_iff.1 h1).1
    omega
  ·rw[ev da cg]at hi
   rw[Ren.kq (fun hh=>cg hh.1)]
   exact af.je f b8 i us da gE aG y ak hi
theorem Rel.newObj(af:Rel base ρ h w){s:Slot}(ad:s.isObj=true)(K:Option Loop){o:Obj}(e0:gX {(ρ.with h.next 0 (w.heap.size,0))with lp:=fun b=>if b=w.heap.size then K else ρ.lp b} w.heap.size s o):
  ρ.le {(ρ.with h.next 0 (w.heap.size,0))with lp:=fun b=>if b=w.heap.size then K else ρ.lp b}∧Rel base {(ρ.with h.next 0 (w.heap.size,0))with lp:=fun b=>if b=w.heap.size then K else ρ.lp b} (h.hP s) (w.alloc o):=by
 have F2:h.m h.next=.fresh:=af.top _ (Nat.le_refl _)
 have nN:∀g,ρ.map h.next g=none:=fun g=>by
  cases aV:ρ.map h.next g with
  |none=>rfl
  |some y=>exact absurd F2 (af.used h.next g y aV)
 generalize HJ:({(ρ.with h.next 0 (w.heap.size,0))with lp:=fun b=>if b=w.heap.size then K else ρ.lp b}:Ren)=a7 at*
 have hQ:a7.map=(ρ.with h.next 0 (w.heap.size,0)).map:=by rw[←HJ]
 have j6:a7.nq=ρ.nq:=by rw[←HJ];rfl
 have G3:a7.eQ=ρ.eQ:=by rw[←HJ];rfl
 have zZ:∀b,b≠w.heap.size→a7.lp b=ρ.lp b:=fun b aE=>by rw[←HJ];simp[aE]
 have hle:ρ.le a7:=⟨fun i g x hx=>by rw[hQ];exact (Ren.JD (nN 0)).1 i g x hx,fun _ _ _ _ h=>by rw[j6];exact h,fun _ h=>by rw[G3];exact h,fun b HK h=>by
  rw[zZ b (Nat.ne_of_lt (af.eF.lp b HK h))];exact h⟩
 have dP:(h.hP s).m h.next=s:=by simp[H.hP]
 have ev:∀i,i≠h.next→(h.hP s).m i=h.m i:=fun i hi=>by
  have:Nat.beq i h.next=false:=c8 hi
  simp[H.hP,this]
 have aa6:∀cs e,s≠.own cs e:=fun cs e he=>by subst he;cases ad
 have c9:=af.ext ((Below.refl w.heap.size w).alloc (Nat.le_refl _) o)
 have uP:∀i g,i≠h.next→a7.map i g=ρ.map i g:=fun i g hi=>by rw[hQ];exact Ren.kq (fun hh=>hi hh.1)
 have Me:a7.map h.next 0=some (w.heap.size,0):=by rw[hQ];exact Ren.lG _ _ _
 have iI:∀i cs e,(h.hP s).m i=.own cs e→i≠h.next∧h.m i=.own cs e:=fun i cs e hi=>by
  by_cases cg:i=h.next
  ·subst cg;rw[dP]at hi;exact absurd hi (aa6 _ _)
  ·exact ⟨cg,by rw[←ev i cg];exact hi⟩
 refine⟨hle,⟨c9.ma,c9.aE,fun i g y aK=>?_,fun i cs e hi=>?_,fun i g y cs e aK hi=>?_,fun i hi=>?_, ?_,fun f b i us ak=>?_,fun b i us ak=>?_, ?_, ?_⟩⟩
 ·by_cases hi:i=h.next
  ·subst hi;rw[dP];intro he;subst he;cases ad
  ·rw[ev i hi];rw[uP i g hi]at aK;exact af.used i g y aK
 ·obtain⟨cg,hi⟩:=iI i cs e hi
  obtain⟨b,x,c,t,aw,aH,aW,bq,bU⟩:=c9.own i cs e hi
  exact ⟨b,x,c,t,hle.1 _ _ _ aw,aH,aW,bq,nH hle _ _ bU⟩
 ·obtain⟨cg,hi⟩:=iI i cs e hi
  rw[uP i g cg]at aK
  exact af.kz i g y cs e aK hi
 ·have ej:h.next+1≤i:=hi
  rw[ev i (by omega)];exact af.top i (by omega)
 ·intro i c3 bL a_ aG e2 b y c6 gK bS h1 h2 h3 aI
  obtain⟨kD,h1⟩:=iI i bL aG h1
  obtain⟨hS,h2⟩:=iI c3 a_ e2 h2
  rw[uP _ _ kD]at h3
  rw[uP _ _ hS]at aI
  exact af.sep i c3 bL a_ aG e2 b y c6 gK bS h1 h2 h3 aI
 ·rw[j6]at ak;exact c9.jg f b i us ak
 ·rw[j6]at ak;exact af.k7 b i us ak
 ·intro f b i us id cs e x ak hi
  obtain⟨cg,hi⟩:=iI id cs e hi
  rw[uP _ _ cg];rw[j6]at ak
  exact af.je f b i us id cs e x ak hi
 ·have CV:∀i bc,(h.hP s).m i=bc→bc.isObj=true→i≠h.next→∃b o,ρ.map i 0=some (b,0)∧base≤b∧b<w.heap.size∧(w.alloc (Obj.cells #[] 0)).heap[b]? =some o∧gX ρ b bc o:=fun i bc h1 h2 cg=>by
   rw[ev i cg]at h1
   obtain⟨b,dL,aw,aH,aW,bq⟩:=af.eF.obj i bc h1 h2
   have bn:=(Array.getElem?_eq_some_iff.1 aW).1
   exact ⟨b,dL,aw,aH,bn,by rw[Go.RowKit.Below.heap_alloc w _ b bn];exact aW,bq⟩
  refine⟨fun i bc h1 h2=>?_,fun i c3 s1 s2 b c6 bS h1 h2 h3 aI ba bp=>?_,fun D cP=>?_,fun b HK aE=>?_⟩
  ·by_cases cg:i=h.next
   ·subst cg
    rw[dP]at h1
    subst h1
    exact ⟨w.heap.size,o,Me,af.aE,heap_alloc_new w _,e0⟩
   ·rw[ev i cg]at h1
    obtain⟨b,dL,aw,aH,aW,bq⟩:=c9.eF.obj i bc h1 h2
    exact ⟨b,dL,hle.1 _ _ _ aw,aH,aW,JC hle bq⟩
  ·have key:∀i bc b,(h.hP s).m i=bc→bc.isObj=true→i≠h.next→a7.map i 0=some (b,0)→b<w.heap.size:=fun i bc b h1 h2 cg h3=>by
    obtain⟨EC,dL,aw,aH,aW,_⟩:=CV i bc h1 h2 cg
    rw[uP i 0 cg,aw]at h3
    cases h3;exact aW
   by_cases kD:i=h.next
   ·subst kD
    rw[Me]at ba;cases ba
    have:=key c3 s2 c6 h3 aI (Ne.symm bS) bp
    omega
   ·by_cases hS:c3=h.next
    ·subst hS
     rw[Me]at bp;cases bp
     have:=key i s1 b h1 h2 kD ba
     omega
    ·rw[ev i kD]at h1
     rw[ev c3 hS]at h3
     rw[uP i 0 kD]at ba
     rw[uP c3 0 hS]at bp
     exact af.eF.sep i c3 s1 s2 b c6 bS h1 h2 h3 aI ba bp
  ·rw[G3]at cP;exact c9.eF.eQ D cP
  ·rw[World.size_alloc]
   by_cases lh:b=w.heap.size
   ·omega
   ·rw[zZ b lh]at aE
    have:=af.eF.lp b HK aE
    omega
theorem Rel.setObj(af:Rel base ρ h w){id b:Nat}{s bc:Slot}{dL:Obj}(hm:h.m id=s)(ad:s.isObj=true)(g9:bc.isObj=true)(aE:ρ.map id 0=some (b,0))(e0:gX ρ b bc dL):
  Rel base ρ (h.put id bc) (w.putObj b dL)∧Below base w (w.putObj b dL):=by
 have dP:(h.put id bc).m id=bc:=by simp[H.put]
 have ev:∀i,i≠id→(h.put id bc).m i=h.m i:=fun i hi=>by
  have:Nat.beq i id=false:=c8 hi
  simp[H.put,this]
 obtain⟨EC,o,aw,aH,aW,bq⟩:=af.eF.obj id s hm ad
 rw[aE]at aw;cases aw
 have bn:=(Array.getElem?_eq_some_iff.1 aW).1
 have ie:(w.putObj b dL).heap[b]? =some dL:=World.putObj_heap_same bn
 have hr:∀k,k≠b→(w.putObj b dL).heap[k]? =w.heap[k]?:=fun k aN=>World.putObj_heap_other aN
 have cf:(w.putObj b dL).heap.size=w.heap.size:=World.putObj_size
 have bS:∀k c t f,w.heap[k]? =some (.cells c t f)→k≠b:=fun k c t f aN he=>by
  subst he;rw[aW]at aN;cases aN;exact (FI bq).1 _ _ _ rfl
 have iI:∀i cs e,(h.put id bc).m i=.own cs e→i≠id∧h.m i=.own cs e:=fun i cs e hi=>by
  by_cases cg:i=id
  ·subst cg;rw[dP]at hi;subst hi;cases g9
  ·exact ⟨cg,by rw[←ev i cg];exact hi⟩
 refine⟨⟨af.ma.below ⟨⟨rfl,rfl,rfl,by rw[cf];exact Nat.le_refl _,fun k aN=>hr k (by omega)⟩,Nat.le_refl _⟩,by rw[cf];exact af.aE,fun i g y aK=>?_,fun i cs e hi=>?_,fun i g y cs e aK hi=>?_,fun i hi=>?_, ?_,fun f b8 i us ak=>?_,af.k7, ?_, ?_⟩,⟨⟨rfl,rfl,rfl,by rw[cf];exact Nat.le_refl _,fun k aN=>hr k (by omega)⟩,Nat.le_refl _⟩⟩
 ·by_cases hi:i=id
  ·subst hi;rw[dP];intro he;subst he;cases g9
  ·rw[ev i hi];exact af.used i g y aK
 ·obtain⟨cg,hi⟩:=iI i cs e hi
  obtain⟨b8,x,c,t,ep,aD,gd,kh,xx⟩:=af.own i cs e hi
  exact ⟨b8,x,c,t,ep,aD,by rw[hr b8 (bS _ _ _ _ gd)];exact gd,kh,xx⟩
 ·exact af.kz i g y cs e aK (iI i cs e hi).2
 ·have ej:h.next≤i:=hi
  by_cases cg:i=id
  ·subst cg;rw[af.top i ej]at hm;subst hm;cases ad
  ·rw[ev i cg];exact af.top i ej
 ·intro i c3 bL a_ aG e2 b8 y c6 gK o4 h1 h2 h3 aI
  exact af.sep i c3 bL a_ aG e2 b8 y c6 gK o4 (iI _ _ _ h1).2 (iI _ _ _ h2).2 h3 aI
 ·obtain⟨c,t,fr,h1,h2⟩:=af.jg f b8 i us ak
  exact ⟨c,t,fr,by rw[hr b8 (bS _ _ _ _ h1)];exact h1,h2⟩
 ·intro f b8 i us da cs e x ak hi
  exact af.je f b8 i us da cs e x ak (iI _ _ _ hi).2
 ·have Mf:∀i s1,(h.put id bc).m i=s1→s1.isObj=true→i≠id→h.m i=s1:=fun i s1 h1 h2 cg=>by rw[←ev i cg];exact h1
  refine⟨fun i s1 h1 h2=>?_,fun i c3 s1 s2 b8 b2 o4 h1 h2 h3 aI ba bp=>?_,fun D cP=>?_,fun b8 K z1=>by rw[cf];exact af.eF.lp b8 K z1⟩
  ·by_cases cg:i=id
   ·subst cg
    rw[dP]at h1;subst h1
    exact ⟨b,dL,aE,aH,ie,e0⟩
   ·obtain⟨b8,nr,ep,aD,gd,kh⟩:=af.eF.obj i s1 (Mf i s1 h1 h2 cg) h2
    exact ⟨b8,nr,ep,aD,by rw[hr b8 (af.eF.sep i id s1 s b8 b cg (Mf i s1 h1 h2 cg) h2 hm ad ep aE)];exact gd,kh⟩
  ·have pick:∀i s1,(h.put id bc).m i=s1→s1.isObj=true→∃s2,h.m i=s2∧s2.isObj=true:=fun i s1 h1 h2=>by
    by_cases cg:i=id
    ·subst cg;exact ⟨s,hm,ad⟩
    ·exact ⟨s1,Mf i s1 h1 h2 cg,h2⟩
   obtain⟨t1,gi,u7⟩:=pick i s1 h1 h2
   obtain⟨t2,v1,v2⟩:=pick c3 s2 h3 aI
   exact af.eF.sep i c3 t1 t2 b8 b2 o4 gi u7 v1 v2 ba bp
  ·rw[hr D (fun he=>by subst he;have:=af.eF.eQ D cP;rw[aW]at this;cases this;exact (FI bq).2 _ rfl)]
   exact af.eF.eQ D cP
theorem Rel.aas(af:Rel base ρ h w):ρ.le {ρ with eQ:=fun D=>D=w.heap.size∨ρ.eQ D}∧Rel base {ρ with eQ:=fun D=>D=w.heap.size∨ρ.eQ D} h (w.alloc (.deferred (some []))):=by
 have hle:ρ.le {ρ with eQ:=fun D=>D=w.heap.size∨ρ.eQ D}:=⟨fun _ _ _ h=>h,fun _ _ _ _ h=>h,fun _ h=> .inr h,fun _ _ h=>h⟩
 have c9:=af.ext ((Below.refl w.heap.size w).alloc (Nat.le_refl _) (.deferred (some [])))
 refine⟨hle,⟨c9.ma,c9.aE,c9.used,fun id cs e hm=>?_,c9.kz,c9.top,c9.sep,c9.jg,c9.k7,c9.je,⟨fun id s h1 h2=>?_,c9.eF.sep,fun D cP=>?_,c9.eF.lp⟩⟩⟩
 ·obtain⟨b,x,c,t,aw,aH,aW,bq,bU⟩:=c9.own id cs e hm
  exact ⟨b,x,c,t,aw,aH,aW,bq,nH hle _ _ bU⟩
 ·obtain⟨b,o,aw,aH,aW,bq⟩:=c9.eF.obj id s h1 h2
  exact ⟨b,o,aw,aH,aW,JC hle bq⟩
 ·rcases cP with rfl |cP
  ·exact heap_alloc_new w _
  ·exact c9.eF.eQ D cP
theorem Rel.ZV(af:Rel base ρ h w){D:Nat}(aE:base≤D)(cP:ρ.eQ D):Rel base {ρ with eQ:=fun E=>E≠D∧ρ.eQ E} h (w.putObj D (.deferred none))∧Below base w (w.putObj D (.deferred none)):=by
 have aW:=af.eF.eQ D cP
 have hr:∀k,k≠D→(w.putObj D (.deferred none)).heap[k]? =w.heap[k]?:=fun k aN=>World.putObj_heap_other aN
 have cf:(w.putObj D (.deferred none)).heap.size=w.heap.size:=World.putObj_size
 have bS:∀k c t f,w.heap[k]? =some (.cells c t f)→k≠D:=fun k c t f aN he=>by
  subst he;rw[aW]at aN;cases aN
 have aO:ρ.o3 {ρ with eQ:=fun E=>E≠D∧ρ.eQ E}:=⟨fun _ _ _ h=>h,fun _ _ _ _ h=>h⟩
 refine⟨⟨af.ma.below ⟨⟨rfl,rfl,rfl,by rw[cf];exact Nat.le_refl _,fun k aN=>hr k (by omega)⟩,Nat.le_refl _⟩,by rw[cf];exact af.aE,af.used,fun i cs e hi=>?_,af.kz,af.top,af.sep,fun f b8 i us ak=>?_,af.k7,af.je,⟨fun i s h1 h2=>?_,af.eF.sep,fun E fA=>?_,fun b K lz=>by rw[cf];exact af.eF.lp b K lz⟩⟩,⟨⟨rfl,rfl,rfl,by rw[cf];exact Nat.le_refl _,fun k aN=>hr k (by omega)⟩,Nat.le_refl _⟩⟩
 ·obtain⟨b8,x,c,t,ep,aD,gd,kh,xx⟩:=af.own i cs e hi
  exact ⟨b8,x,c,t,ep,aD,by rw[hr b8 (bS _ _ _ _ gd)];exact gd,kh,BM aO _ _ xx⟩
 ·obtain⟨c,t,fr,h1,h2⟩:=af.jg f b8 i us ak
  exact ⟨c,t,fr,by rw[hr b8 (bS _ _ _ _ h1)];exact h1,h2⟩
 ·obtain⟨b8,nr,ep,aD,gd,kh⟩:=af.eF.obj i s h1 h2
  have:gX {ρ with eQ:=fun E=>E≠D∧ρ.eQ E} b8 s nr:=Qo aO (fun _ _ e=>e) kh
  exact ⟨b8,nr,ep,aD,by rw[hr b8 (fun he=>by subst he;rw[aW]at gd;cases gd;exact (FI kh).2 _ rfl)];exact gd,this⟩
 ·rw[hr E fA.1];exact af.eF.eQ E fA.2
end aa5
end Go.Proofs.YtlphgijokknjhaaGreat.Ev
namespace Go.Proofs.YtlphgijokknjhaaGreat.Ev
open Go Go.RowKit
def m5(w w2:World):Prop:=∀(b:Nat) c t fr,w.heap[b]? =some (Obj.cells c t fr)→w2.heap[b]? =some (Obj.cells c t fr)
theorem m5.cell{w w2:World}(ad:m5 w w2){a:Addr}{u:Value}(h:w.cell? a=some u):w2.cell? a=some u:=by
 unfold World.cell? at h⊢
 cases aE:w.heap[a.block]? with
 |none=>rw[aE]at h;cases h
 |some o=>
  rw[aE]at h
  cases o with
  |cells c t fr=>rw[ad _ _ _ _ aE];exact h
  |_=>cases h
def rD(base:Nat)(ρ:Ren)(ar:H)(v:V)(w:World):Ending→World→Prop:=fun e ay=>
 ∃a7 val,ρ.le a7∧Rel base a7 ar ay∧Below base w ay∧e=.returned val∧R a7 v val
def vS(P:Program)(g:FuncId)(us:Array Value)(w:World)(Q:Ending→World→Prop):Prop:=
 ((callFunc g us).run P w=.ok (.enter g us) w∧Calls P g us w Q)∨∃val ay,(callFunc g us).run P w=.ok (.value val) ay∧Q (.returned val) ay
theorem vS.mono{P:Program}{g:FuncId}{us:Array Value}{w:World}{Q UM:Ending→World→Prop}(h:vS P g us w Q)(aV:∀e ay,Q e ay→UM e ay):vS P g us w UM:=by
 rcases h with⟨h1,h2⟩|⟨val,ay,h1,h2⟩
 ·exact .inl ⟨h1,Calls.mono h2 aV⟩
 ·exact .inr ⟨val,ay,h1,aV _ _ h2⟩
def iW(ro:Option Nat):Fence:={Fence.wide with round:=ro}
def aa7(P:Program)(b:Nat)(us:Array Value)(w:World)(Q:Ending→World→Prop):Prop:=
 ∃f tmps assign body ay,(Instr.yield b us).run P w=.ok (.round b f tmps assign body) ay∧RoundIn Fence.wide 0 P b f tmps assign body ay Q
def re (P:Program)(g:FuncId)(args:List V)(h:H)(v:V)(ar:H):Prop:=
 ∀base ρ w us,Rel base ρ h w→cm ρ args us→vS P g us.toArray w (rD base ρ ar v w)
def uK(e:Entry):Prop:=∀args h,∃r:Option (V×H),∀(α:Type) (k:V→H→Option α),e.fC args h k=r.bind fun p=>k p.1 p.2
def eR(P:Program)(g:FuncId)(e:Entry):Prop:=
 ∀args h,(∃r:Option (V×H),∀(α:Type) (k:V→H→Option α),e.fC args h k=r.bind fun p=>k p.1 p.2)∧
  ∀v ar,e.fC args h (fun v h=>some (v,h))=some (v,ar)→(e.quiet=true→ar=h)∧re P g args h v ar
def ob(P:Program)(base:Nat)(ED:Ren)(Y:Entry):Prop:=
 ∀args h v ar,Y.fC args h (fun v h=>some (v,h))=some (v,ar)→∃id alo,args=.hR id::alo∧
  ∀ρ w us b x,ED.le ρ→Rel base ρ h w→cm ρ alo us→ρ.map id 0=some (b,x)→aa7 P b us.toArray w (rD base ρ ar v w)
theorem ob.mono{P:Program}{base:Nat}{ρ a7:Ren}{Y:Entry}(h:ob P base ρ Y)(aq:ρ.le a7):ob P base a7 Y:=fun args hh v ar aU=>
 let ⟨id,alo,e,k⟩:=h args hh v ar aU
 ⟨id,alo,e,fun po w us b x g=>k po w us b x (aq.trans g)⟩
theorem uK.none:uK Entry.none:=fun _ _=>⟨Option.none,fun _ _=>rfl⟩
theorem ob.none{P:Program}{base:Nat}{ρ:Ren}:ob P base ρ Entry.none:=fun args h v ar aU=>by simp[Entry.none]at aU
def o0(P:Program)(g:FuncId)(I:Entry→Entry):Prop:=
 ∀Y,uK Y→∀base ED,ob P base ED Y→∀args h (α:Type) (k:V→H→Option α) (res:α),(I Y).fC args h k=some res→
  ∀ρ w us,ED.le ρ→Rel base ρ h w→cm ρ args us→(callFunc g us.toArray).run P w=.ok (.enter g us.toArray) w∧Calls P g us.toArray w fun e ay=>∃v ar,k v ar=some res∧rD base ρ ar v w e ay
theorem o0.none (P:Program)(g:FuncId):o0 P g fun _=>Entry.none:=fun Y hG=>fun _ _ _ args h α k res aU=>by simp[Entry.none]at aU
def y4(P:Program)(D:oa):Prop:=(∀g,eR P g (D.fn g))∧(∀g,o0 P g (D.it g))∧uK D.l8
def eT(P:Program)(T:Table):Prop:=(∀g,eR P g (T.st g))∧y4 P T.dg
def jC(P:Program)(T:Table):Prop:=eT P T∧∀base ρ,ob P base ρ T.dg.l8
theorem Entry.vH(P:Program)(g:FuncId):eR P g Entry.none:=by
 intro args h
 refine⟨⟨Option.none,fun _ _=>rfl⟩,fun v ar aU=>?_⟩
 simp[Entry.none]at aU
theorem eT.nil(P:Program):eT P Table.nil:=⟨Entry.vH P,Entry.vH P,o0.none P,uK.none⟩
theorem jC.nil(P:Program):jC P Table.nil:=⟨eT.nil P,fun _ _=>ob.none⟩
theorem look_ok{P:Program}{T:FuncId→Entry}(bt:∀g,eR P g (T g)):∀{l:List (FuncId×Entry)},(∀p∈l,eR P p.1 p.2)→∀g,eR P g (look l T g)
 |[],_=>bt
 |(f,e)::l,h=>by
  intro g
  simp only[look]
  by_cases aQ:g=f
  ·subst aQ
   have:=h (g,e) (by simp)
   simpa using this
  ·have aE:Nat.beq g f=false:=c8 aQ
   simp only[aE,cond_false]
   exact look_ok bt (fun p aa=>h p (by simp[aa])) g
theorem Qp{P:Program}{T:FuncId→Entry→Entry}(bt:∀g,o0 P g (T g)):∀{l:List (FuncId×(Entry→Entry))},(∀p∈l,o0 P p.1 p.2)→∀g,o0 P g (uy l T g)
 |[],_=>bt
 |(f,e)::l,h=>by
  intro g
  by_cases aQ:g=f
  ·subst aQ
   have:=h (g,e) (by simp)
   have he:uy ((g,e)::l) T g=e:=by simp[uy]
   rw[he];exact this
  ·have aE:Nat.beq g f=false:=c8 aQ
   have he:uy ((f,e)::l) T g=uy l T g:=by simp only[uy,aE,cond_false]
   rw[he]
   exact Qp bt (fun p aa=>h p (by simp[aa])) g
theorem eT.qe{P:Program}{T:Table}(bt:eT P T){ls xw:List (FuncId×Entry)}(h1:∀p∈ls,eR P p.1 p.2)(h2:∀p∈xw,eR P p.1 p.2):eT P (qe ls xw T):=
 ⟨look_ok bt.1 h1,look_ok bt.2.1 h2,bt.2.2⟩
theorem eT.wk{P:Program}{T:Table}(bt:eT P T){l:List (FuncId×(Entry→Entry))}(h1:∀p∈l,o0 P p.1 p.2):eT P (wk l T):=
 ⟨bt.1,bt.2.1,Qp bt.2.2.1 h1,bt.2.2.2⟩
theorem eT.m2{P:Program}{T:Table}(bt:eT P T){Y:Entry}(hG:uK Y):eT P (m2 T Y):=⟨bt.1,bt.2.1,bt.2.2.1,hG⟩
theorem eT.at{P:Program}{T:Table}(bt:eT P T)(f:Operand):y4 P (T.at f):=by
 cases f<;>first |exact ⟨bt.1,bt.2.2⟩|exact bt.2
theorem jC.qe{P:Program}{T:Table}(bt:jC P T){ls xw:List (FuncId×Entry)}(h1:∀p∈ls,eR P p.1 p.2)(h2:∀p∈xw,eR P p.1 p.2):jC P (qe ls xw T):=
 ⟨bt.1.qe h1 h2,bt.2⟩
theorem jC.wk{P:Program}{T:Table}(bt:jC P T){l:List (FuncId×(Entry→Entry))}(h1:∀p∈l,o0 P p.1 p.2):jC P (wk l T):=
 ⟨bt.1.wk h1,bt.2⟩
theorem Table.aa8(T:Table)(f:Operand):(T.at f).l8=T.dg.l8:=by cases f<;>rfl
theorem Jl{P:Program}{T:oa}(bt:y4 P T){v:V}{args:List V}{h:H}{α:Type}{k:V→H→Option α}{res:α}(ad:eE T v args h k=some res):
  (∃g cs r ar,v=.func g cs∧(T.fn g).fC (args++cs) h (fun v h=>some (v,h))=some (r,ar)∧k r ar=some res)∨
   ∃id r ar,v=.hR id∧T.l8.fC (.hR id::args) h (fun v h=>some (v,h))=some (r,ar)∧k r ar=some res:=by
 cases v<;>simp only[eE,reduceCtorEq]at ad
 case func g cs=>
  obtain⟨⟨r,aM⟩,_⟩:=bt.1 g (args++cs) h
  rw[aM]at ad
  cases r with
  |none=>simp at ad
  |some p=>exact .inl ⟨g,cs,p.1,p.2,rfl,by rw[aM];rfl,by simpa using ad⟩
 case hR id=>
  obtain⟨r,aM⟩:=bt.2.2 (.hR id::args) h
  rw[aM]at ad
  cases r with
  |none=>simp at ad
  |some p=>exact .inr ⟨id,p.1,p.2,rfl,by rw[aM];rfl,by simpa using ad⟩
theorem Jm{q y:Bool}{T:oa}{v:V}{args:List V}{h:H}{α:Type}{k:V→H→Option α}{res:α}(ad:m3 q y T v args h k=some res):eE T v args h k=some res∧(q=true→∃g cs,v=.func g cs∧(T.fn g).quiet=true)∧(q=false→y=true→∃g cs,v=.func g cs∧(T.fn g).free=true):=by
 cases q with
 |false=>
  cases y with
  |false=>exact ⟨ad,fun h=>(by cases h),fun _ h=>(by cases h)⟩
  |true=>
   simp only[m3,cond_true,cond_false]at ad
   cases v<;>simp only[Ga,reduceCtorEq]at ad
   rename_i g cs
   cases aV:(T.fn g).free with
   |false=>rw[aV]at ad;cases ad
   |true=>rw[aV]at ad;exact ⟨ad,fun h=>(by cases h),fun _ _=>⟨g,cs,rfl,aV⟩⟩
 |true=>
  simp only[m3,cond_true]at ad
  cases v<;>simp only[F_,reduceCtorEq]at ad
  rename_i g cs
  cases aV:(T.fn g).quiet with
  |false=>rw[aV]at ad;cases ad
  |true=>rw[aV]at ad;exact ⟨ad,fun _=>⟨g,cs,rfl,aV⟩,fun h=>(by cases h)⟩
theorem WM{P:Program}{q y:Bool}{T:oa}(bt:y4 P T){g:FuncId}{cs args:List V}{h ar:H}{v:V}(aV:q=true→(T.fn g).quiet=true)(aK:y=true→(T.fn g).free=true)(ao:(T.fn g).fC (args++cs) h (fun v h=>some (v,h))=some (v,ar)){α:Type}{k:V→H→Option α}:m3 q y T (.func g cs) args h k=k v ar:=by
 obtain⟨⟨r,af⟩,_⟩:=bt.1 g (args++cs) h
 rw[af]at ao
 cases r with
 |none=>simp at ao
 |some r=>
  simp at ao
  obtain⟨aG,e2⟩:=ao
  have aN:∀k:V→H→Option α,(T.fn g).fC (args++cs) h k=k v ar:=fun k=>by rw[af,←aG,←e2];rfl
  cases q with
  |true=>simp only[m3,cond_true,F_,aV rfl,aN]
  |false=>
   cases y with
   |true=>simp only[m3,cond_true,cond_false,Ga,aK rfl,aN]
   |false=>exact aN k
def du(ρ:Ren)(env:Env)(a:Act):Prop:=∀t,R ρ (env t) (a.tmps.getD t undef)
theorem du.mono{ρ a7:Ren}{env:Env}{a:Act}(h:du ρ env a)(aq:ρ.le a7):du a7 env a:=fun t=>aaq aq _ _ (h t)
theorem du.aR{ρ:Ren}{env:Env}{a:Act}(h:du ρ env a)(x:Operand):R ρ (aR env x) (a.eval x):=by
 cases x with
 |tmp t=>exact h t
 |const v=>exact Qn v
 |global g=>simp[Ev.aR,R]
 |func f=>simp only[Ev.aR,Act.eval,R];exact ⟨[],rfl,by simp[cm]⟩
theorem du.args{ρ:Ren}{env:Env}{a:Act}(h:du ρ env a)(xs:Array Operand):cm ρ (xs.toList.map (Ev.aR env)) (xs.map a.eval).toList:=by
 rw[Array.toList_map]
 exact aar _ _ _ fun x _=>h.aR x
section tables
variable{P:Program}{t:TypeId}
theorem Oj{z:Value}(h:zeroOf P t=some z):∃i,P.info? t=some i∧i.zero=some z:=by
 unfold zeroOf at h
 cases hi:P.info? t with
 |none=>simp[hi]at h
 |some i=>exact ⟨i,rfl,by simpa[hi]using h⟩
theorem Ol{n:Nat}(h:eL P t=some n):∃i,P.info? t=some i∧i.size=n:=by
 unfold eL at h
 cases hi:P.info? t with
 |none=>simp[hi]at h
 |some i=>exact ⟨i,rfl,by simpa[hi]using h⟩
theorem E2{n:Nat}(h:pP P t=some n):∃i,P.info? t=some i∧i.bytes=n:=by
 unfold pP at h
 cases hi:P.info? t with
 |none=>simp[hi]at h
 |some i=>exact ⟨i,rfl,by simpa[hi]using h⟩
theorem nF{z:Value}(h:zeroOf P t=some z)(w:World):(zeroValue t).run P w=.ok z w:=by
 obtain⟨i,h1,h2⟩:=Oj h
 simp[zeroValue,typeInfo,h1,h2]
theorem hM{n:Nat}(h:eL P t=some n)(w:World):(sizeOf t).run P w=.ok n w:=by
 obtain⟨i,h1,h2⟩:=Ol h
 simp[sizeOf,typeInfo,h1,h2]
theorem vI{b:Bool}(h:oZ P t=some b)(w:World):(isAgg t).run P w=.ok b w:=by
 unfold oZ at h
 cases hu:P.underlying t with
 |none=>simp[hu]at h
 |some d=>
  unfold isAgg
  rw[Sem.run_bind,run_underlying hu w]
  cases d<;>simp_all
theorem oF{e:TypeId}(h:isSlice P t=some e):P.underlying t=some (.slice e):=by
 unfold isSlice at h
 split at h<;>simp_all
theorem IN{n:Nat}{e:TypeId}(h:uh P t=some (n,e)):P.underlying t=some (.array n e):=by
 unfold uh at h
 split at h<;>simp_all
theorem Bp{k:IntKind}(h:pG P t=some k):P.underlying t=some (.int k):=by
 unfold pG at h
 split at h<;>simp_all
theorem x5{cs:List V}(h:zeroCells P t=some cs):∃z,zeroOf P t=some z∧z.cells.toList.all one=true∧cs=z.cells.toList.map ofConst:=by
 unfold zeroCells at h
 split at h
 ·rename_i z bH
  split at h
  ·rename_i a8
   exact ⟨z,bH,a8,(Option.some.inj h).symm⟩
  ·cases h
 ·cases h
theorem PK{l:ab}(h:lT P t=some (.leaf l)):oZ P t=some false:=by
 unfold lT at h
 split at h<;>(try split at h)<;>simp_all
theorem Qq{ls:List ab}(h:lT P t=some (.agg ls)):oZ P t=some true∧eL P t=some ls.length:=by
 unfold lT at h
 split at h<;>(try split at h)<;>simp_all
 subst h
 simp
end tables
section cells
variable{P:Program}{base:Nat}{ρ:Ren}{h:H}{w:World}
theorem JE(af:Rel base ρ h w){a:V}{cs:List V}(ak:h.from a=some cs){p:Addr}(bD:R ρ a (.pointer (some p))):
  ∃b o us,Value.pointer (some p)=.pointer (some ⟨b,o,none⟩)∧bV ρ cs us∧∀j u,us[j]? =some u→w.cell? ⟨b,o+j,none⟩=some u:=by
 cases a<;>simp only[H.from,reduceCtorEq]at ak
 case lp fl rE off=>
  simp only[Option.some.injEq]at ak
  subst ak
  simp only[R]at bD
  rcases bD with⟨_,hx⟩|⟨b,i,us,h1,h2,hx⟩
  ·cases hx
  cases hx
  rcases h1 with rfl |h1
  ·refine⟨b,i+off,us.drop off,rfl,h2.drop off,fun j u hu=>?_⟩
   have:us=[]:=by simpa[bV]using h2
   subst this
   simp at hu
  obtain⟨c,t,fr,h3,aI⟩:=af.jg fl b i us h1
  refine⟨b,i+off,us.drop off,rfl,h2.drop off,fun j u hu=>?_⟩
  rw[List.getElem?_drop]at hu
  have:=aI _ _ hu
  simp only[World.cell?,h3,Option.isSome_none,Bool.false_eq_true,if_false]
  rw[show i+off+j=i+(off+j) by omega]
  exact this
 case aa id gen off=>
  split at ak
  ·rename_i rE e hm
   split at ak
   ·rename_i aQ
    simp only[Option.some.injEq]at ak
    subst ak
    simp only[R]at bD
    obtain⟨b,x,h1,hx⟩:=bD
    cases hx
    obtain⟨c6,fm,c,t,aw,aH,aW,bq,bU⟩:=af.own id rE e hm
    rw[aQ,h1]at aw;cases aw
    refine⟨b,off,(c.toList.take rE.length).drop off,rfl,bU.drop off,fun j u hu=>?_⟩
    rw[List.getElem?_drop,List.getElem?_take]at hu
    split at hu
    ·simp only[World.cell?,aW,Option.isSome_none,Bool.false_eq_true,if_false]
     simpa using hu
    ·cases hu
   ·cases ak
  ·cases ak
theorem OI(af:Rel base ρ h w){t:TypeId}{ty:ai}(g_:lT P t=some ty){a:V}{x:ty.C}(hx:ah ty h a=some x){p:Addr}(bD:R ρ a (.pointer (some p))):
  ∃val,(∀w2,m5 w w2→(loadVar t p).run P w2=.ok val w2)∧R ρ (ty.un x) val:=by
 cases ty with
 |leaf l=>
  simp only[ah,Option.bind_eq_some_iff]at hx
  obtain⟨v,aU,aa⟩:=hx
  simp only[H.rd,Option.bind_eq_some_iff]at aU
  obtain⟨cs,ak,hh⟩:=aU
  obtain⟨b,o,us,he,f_,ao⟩:=JE af ak bD
  cases he
  cases cs with
  |nil=>simp at hh
  |cons gJ cs=>
   simp at hh;subst hh
   simp only[bV]at f_
   obtain⟨u,cw,rfl,h1,h2,h3⟩:=f_
   have kx:=ao 0 u rfl
   refine⟨u, ?_,by simp only[ai.un,ab.fu l gJ x aa];exact h2⟩
   intro w2 gF
   simp only[Nat.add_zero]at kx
   have kx:=gF.cell kx
   simp[loadVar,vI (PK g_),kx]
 |agg ls=>
  simp only[ah,Option.bind_eq_some_iff]at hx
  obtain⟨vs,aU,aa⟩:=hx
  simp only[H.fv,Option.bind_eq_some_iff]at aU
  obtain⟨cs,ak,hh⟩:=aU
  split at hh
  ·rename_i aM
   simp only[Option.some.injEq]at hh
   subst hh
   obtain⟨b,o,us,he,f_,ao⟩:=JE af ak bD
   cases he
   obtain⟨bu,bs⟩:=Qq g_
   have hlen:(us.take ls.length).length=ls.length:=by rw[List.length_take,←f_.length];omega
   have Se:=fun w2 (gF:m5 w w2)=>run_loadCells_list (P:=P) w2 ⟨b,o,none⟩ (us.take ls.length) (fun j v aL=>by
    rw[List.getElem?_take]at aL
    split at aL
    ·rw[Addr.add_lit];exact gF.cell (ao j v aL)
    ·cases aL)
   rw[hlen]at Se
   refine⟨.agg (us.take ls.length).toArray, ?_, ?_⟩
   ·intro w2 gF
    simp[loadVar,vI bu,hM bs,Se w2 gF]
   ·simp only[ai.un,LT.fu ls _ x aa,R]
    exact ⟨_,rfl,f_.take _⟩
  ·cases hh
theorem WN(af:Rel base ρ h w){t:TypeId}{ty:ai}(g_:lT P t=some ty){a:V}{x:ty.C}(hx:ah ty h a=some x){p:Addr}(bD:R ρ a (.pointer (some p))):
  ∃val,(loadVar t p).run P w=.ok val w∧R ρ (ty.un x) val:=
 let ⟨val,h1,h2⟩:=OI af g_ hx bD
 ⟨val,h1 w (fun _ _ _ _ h=>h),h2⟩
theorem F3(af:Rel base ρ h w){a:V}{vs:List V}{ar:H}(hw:h.aY a vs=some ar){p:Addr}(bD:R ρ a (.pointer (some p))){us:List Value}(aU:bV ρ vs us):
  ∃ay,(storeCells p us).run P w=.ok () ay∧Rel base ρ ar ay∧Below base w ay:=by
 cases a<;>simp only[H.aY,reduceCtorEq]at hw
 rename_i id gen off
 split at hw
 ·rename_i cs e hm
  split at hw
  ·rename_i aQ
   obtain⟨aQ,hle⟩:=aQ
   simp only[Option.some.injEq]at hw
   subst hw
   simp only[R]at bD
   obtain⟨b,x,h1,he⟩:=bD
   cases he
   obtain⟨c6,fm,c,t,aw,aH,aW,bq,bU⟩:=af.own id cs e hm
   rw[aQ,h1]at aw;cases aw
   have a6:=run_storeCells_at P b off t us 0 c w aW (by rw[←aU.length];omega) aU.GD
   simp only[Nat.add_zero]at a6
   have hlen:off+us.length≤c.toList.length:=by simp only[Array.length_toList];rw[←aU.length];omega
   have G4:=af.write (dw:=splice cs off vs) (bg:=(c.toList.take off++us++c.toList.drop (off+us.length)).toArray) hm (by rw[aQ];exact h1) aW (Oa cs off vs hle)
    (by simp only[List.size_toArray,List.length_append,List.length_take,List.length_drop];simp only[Array.length_toList]at*;omega)
    (by
     have ad:=bU.splice aU off
     rw[Oa cs off vs hle]
     simp only
     have:(c.toList.take off++us++c.toList.drop (off+us.length)).take cs.length=(c.toList.take cs.length).take off++us++(c.toList.take cs.length).drop (off+us.length):=by
      have ha:cs.length≤c.toList.length:=by simp only[Array.length_toList];omega
      have hT:=aU.length
      rw[List.append_assoc,List.take_append,List.take_append]
      simp only[List.length_take,List.append_assoc]
      rw[List.take_take,List.take_take,List.take_drop]
      rw[List.drop_take]
      have aG:min cs.length off=min off cs.length:=Nat.min_comm _ _
      have e2:us.take (cs.length-min off c.toList.length)=us:=List.take_of_length_le (by omega)
      rw[aG,e2]
      congr 2
      rw[List.take_drop]
      congr 2
      omega
     rw[this]
     exact ad)
   exact ⟨_,a6,G4.1,G4.2⟩
  ·cases hw
 ·cases hw
end cells
section ops
variable{P:Program}{T:Table}{A:fw}{o:Oper}{base:Nat}{ρ:Ren}{h:H}{w:World}{a:Act}{env:Env}{next:Act→World→Prop}{Q:Exit→Act→World→Prop}{α:Type}{k:V→H→Option α}{res:α}{ro:Option Nat}
abbrev fX(base:Nat)(ρ:Ren)(w:World)(k:V→H→Option α)(res:α)(o:Oper)(a:Act)(next:Act→World→Prop):Prop:=
 ∀a7 v ar val ay,ρ.le a7→Rel base a7 ar ay→Below base w ay→R a7 v val→k v ar=some res→next (a.put o.dst val) ay
def _root_.Go.Oper.e1 (ro:Option Nat)(P:Program)(o:Oper)(a:Act)(w:World)(next:Act→World→Prop)(Q:Exit→Act→World→Prop):Prop:=
 o.uponIn (iW ro) 0 P a next Q ((execOp a.eval o).run P w)
theorem dX{val:Value}{ay:World}(cV:(execOp a.eval o).run P w=.ok (.value val) ay)(aM:next (a.put o.dst val) ay):o.e1 ro P a w next Q:=by
 unfold Oper.e1;rw[cV];exact aM
theorem Bq{ay:World}(cV:(execOp a.eval o).run P w=.ok .skip ay)(aM:next (a.put o.dst undef) ay):o.e1 ro P a w next Q:=by
 unfold Oper.e1;rw[cV];exact aM
theorem RF(jj:∀c,o.op≠.defer c)(h:o.e1 ro P a w next Q):o.wpIn (iW ro) 0 P a w next Q:=by
 refine⟨fun _ _=>trivial, ?_⟩
 rw[show(iW ro).round=ro from rfl,Oper.semAt_eq ro a.eval o jj]
 exact h
theorem fX.same (aQ:fX base ρ w k res o a next)(af:Rel base ρ h w){v:V}{val:Value}(aU:R ρ v val)(aN:k v h=some res):next (a.put o.dst val) w:=
 aQ ρ v h val w (Ren.le.refl _) af (Below.refl _ _) aU aN
theorem fe{p:Prop}[Decidable p]{β:Type}{x:Option β}{y:β}(hh:aJ p x=some y):p∧x=some y:=by
 unfold aJ at hh
 split at hh
 ·rename_i aa;exact ⟨aa,hh⟩
 ·cases hh
theorem dA{kd:IntKind}{n:Int}{u:Value}:R ρ (.int kd n) u↔u=.int kd n:=by simp[R]
theorem hk{b:Bool}{u:Value}:R ρ (.bool b) u↔u=.bool b:=by simp[R]
theorem y5{b:ByteArray}{u:Value}:R ρ (.str b) u↔u=.string b:=by simp[R]
theorem ur:R ρ (.tuple []) undef:=by simp only[R];exact ⟨[],rfl,by simp[cm]⟩
theorem XL{β:Type}{op:BinOp}{eb kf:IntKind}{x y:Int}{k:V→Option β}{res:β}(ad:yO op eb x kf y k=some res)(t:TypeId)(gx mb:Operand)(w:World):
  ∃v val,(do eqGuard op t gx mb (.int eb x) (.int kf y);binOp op t (.int eb x) (.int kf y):Sem Value).run P w=.ok val w∧R ρ v val∧k v=some res:=by
 have aQ:eqGuard op t gx mb (.int eb x) (.int kf y)=pure ():=eqGuard_at_int ..
 rw[aQ]
 simp only[pure_bind]
 cases op<;>simp only[yO]at ad
 case shl=>
  obtain⟨aO,h1⟩:=fe ad
  refine⟨_,_, ?_,dA.2 rfl,h1⟩
  simp only[binOp,Op.shift]
  rw[if_neg (by omega)]
  rfl
 case shr=>
  obtain⟨aO,h1⟩:=fe ad
  refine⟨_,_, ?_,dA.2 rfl,h1⟩
  simp only[binOp,Op.shift]
  rw[if_neg (by omega)]
  rfl
 all_goals
  split at ad
  case isFalse=>cases ad
  rename_i aN
  subst aN
 case quo=>
  obtain⟨aO,h1⟩:=fe ad
  refine⟨_,_, ?_,dA.2 rfl,h1⟩
  simp[binOp,Op.intDiv,aO]
 case rem=>
  obtain⟨aO,h1⟩:=fe ad
  refine⟨_,_, ?_,dA.2 rfl,h1⟩
  simp[binOp,Op.intDiv,aO]
 case eql=>exact ⟨_,_,by simp[binOp,Op.intCmp];rfl,hk.2 (by congr 1),ad⟩
 case neq=>exact ⟨_,_,by simp[binOp,Op.intCmp];rfl,hk.2 (by congr 1),ad⟩
 case lss=>exact ⟨_,_,by simp[binOp,Op.intCmp],hk.2 rfl,ad⟩
 case leq=>exact ⟨_,_,by simp[binOp,Op.intCmp],hk.2 rfl,ad⟩
 case gtr=>exact ⟨_,_,by simp[binOp,Op.intCmp],hk.2 rfl,ad⟩
 case geq=>exact ⟨_,_,by simp[binOp,Op.intCmp],hk.2 rfl,ad⟩
 all_goals exact ⟨_,_,by simp only[binOp,ne_eq,not_true_eq_false,if_false];rfl,dA.2 rfl,ad⟩
theorem bytes_beq(x y:ByteArray):(x.toList==y.toList)=decide (x=y):=by
 rw[Bool.eq_iff_iff,beq_iff_eq,decide_eq_true_iff,ByteArray.toList_eq,ByteArray.toList_eq]
 constructor
 ·intro hh
  cases x;cases y
  congr 1
  exact Array.toList_inj.1 hh
 ·intro hh;rw[hh]
theorem XM{β:Type}{op:BinOp}{x y:ByteArray}{k:V→Option β}{res:β}(ad:yP op x y k=some res)(t:TypeId)(gx mb:Operand)(w:World):
  ∃v val,(do eqGuard op t gx mb (.string x) (.string y);binOp op t (.string x) (.string y):Sem Value).run P w=.ok val w∧R ρ v val∧k v=some res:=by
 have aQ:eqGuard op t gx mb (.string x) (.string y)=pure ():=eqGuard_at_string ..
 rw[aQ]
 simp only[pure_bind]
 cases op<;>simp only[yP,reduceCtorEq]at ad
 all_goals exact ⟨_,_,by simp only[binOp,Op.stringOp];rfl,hk.2 (by simp only[bytes_beq]),ad⟩
theorem E3{P:Program}(d:Nat):∀(fs:List Field) (i:Nat) (xs ys:List V) (us vs:List Value) (r:Bool) (w:World),
  (∀p∈fs.zipIdx i,p.1.offset=p.2∧p.1.name≠ "_"∧((pG P p.1.type).isSome ||isBool P p.1.type)=true)→bV ρ xs us→bV ρ ys vs→fits (fs.map fun f=>isBool P f.type) xs=true→fits (fs.map fun f=>isBool P f.type) ys=true→lJ xs ys=some r→
  ∀(cw hv:List Value),cw.length=i→hv.length=i→(Op.eqFields (d+1) (cw++us).toArray (hv++vs).toArray fs).run P w=.ok r w
 |[],i,xs,ys,us,vs,r,w,_,hx,aK,gY,h5,he,cw,hv,_,_=>by
  have:xs=[]:=by cases xs with|nil=>rfl |cons _ _=>simp[fits]at gY
  have:ys=[]:=by cases ys with|nil=>rfl |cons _ _=>simp[fits]at h5
  subst_vars
  simp[lJ]at he
  simp[Op.eqFields,←he]
 |f::fs,i,xs,ys,us,vs,r,w,ak,hx,aK,gY,h5,he,cw,hv,iz,hH=>by
  cases xs with
  |nil=>cases aE:isBool P f.type<;>simp[fits,aE]at gY
  |cons x xs=>
  cases ys with
  |nil=>cases aE:isBool P f.type<;>simp[fits,aE]at h5
  |cons y ys=>
  simp only[bV]at hx aK
  obtain⟨u,tk,rfl,nr,bw,hx⟩:=hx
  obtain⟨v,G5,rfl,mc,bJ,aK⟩:=aK
  obtain⟨cy,dd,dF⟩:=ak (f,i) (by simp[List.zipIdx_cons])
  have len:∀(fz:List Bool) (l:List V),fits fz l=true→l.length=fz.length:=by
   intro fz
   induction fz with
   |nil=>intro l h;cases l<;>simp[fits]at h⊢
   |cons b fz ih=>
    intro l h
    cases l with
    |nil=>cases b<;>simp[fits]at h
    |cons v l=>cases b<;>cases v<;>simp[fits]at h<;>simp[ih _ h]
  cases z2:isBool P f.type with
  |false=>
   rw[z2,Bool.or_false]at dF
   simp only at dF
   obtain⟨u9,rF⟩:=Option.isSome_iff_exists.1 dF
   have hu:=Bp rF
   have wq:(isAgg f.type).run P w=.ok false w:=vI (by unfold oZ;rw[hu]) w
   have dh:(part f.type (cw++u::tk).toArray f.offset).run P w=.ok u w:=by
    simp only at cy
    simp[part,wq,cy,←iz]
   have cH:(part f.type (hv++v::G5).toArray f.offset).run P w=.ok v w:=by
    simp only at cy
    simp[part,wq,cy,←hH]
   simp only[List.map_cons,z2]at gY h5
   have key:∃aw jv jw fa,x=.int aw jv∧y=.int aw jw∧lJ xs ys=some fa∧r=(decide (jv=jw)&&fa)∧fits (fs.map fun f=>isBool P f.type) xs=true∧fits (fs.map fun f=>isBool P f.type) ys=true:=by
    cases x<;>simp only[fits,Bool.false_eq_true]at gY
    rename_i aw jv
    cases y<;>simp only[fits,Bool.false_eq_true]at h5
    rename_i aH jw
    have AG:=(len _ _ gY).trans (len _ _ h5).symm
    cases xs with
    |nil=>
     cases ys with
     |nil=>
      simp only[lJ]at he
      split at he
      ·rename_i aN
       subst aN
       simp only[Option.some.injEq]at he
       exact ⟨aw,jv,jw,true,rfl,rfl,rfl,by simp[he],gY,h5⟩
      ·cases he
     |cons _ _=>simp at AG
    |cons _ _=>
     simp only[lJ]at he
     split at he
     ·rename_i aN
      subst aN
      simp only[Option.map_eq_some_iff]at he
      obtain⟨fa,h1,h2⟩:=he
      exact ⟨aw,jv,jw,fa,rfl,rfl,h1,h2.symm,gY,h5⟩
     ·cases he
   obtain⟨aw,jv,jw,fa,rfl,rfl,fP,rfl,Ny,Nz⟩:=key
   rw[dA]at bw bJ
   subst bw;subst bJ
   have aG:=run_equalIn_int (P:=P) w d f.type aw u9 jv jw hu
   have ih:=E3 d fs (i+1) xs ys tk G5 fa w (fun p aa=>ak p (by simp[List.zipIdx_cons,aa])) hx aK Ny Nz fP (cw++[.int aw jv]) (hv++[.int aw jw]) (by simp[iz]) (by simp[hH])
   simp only[List.append_assoc,List.singleton_append]at ih
   simp only[Op.eqFields,ne_eq,dd,not_false_eq_true,if_true,Sem.run_bind,dh,Result.andThen_ok,cH,aG]
   by_cases aM:jv=jw
   ·subst aM;simpa using ih
   ·simp[aM]
  |true=>
   have hu:P.underlying f.type=some .bool:=by
    unfold isBool at z2
    split at z2
    ·assumption
    ·cases z2
   have wq:(isAgg f.type).run P w=.ok false w:=vI (by unfold oZ;rw[hu]) w
   have dh:(part f.type (cw++u::tk).toArray f.offset).run P w=.ok u w:=by
    simp only at cy
    simp[part,wq,cy,←iz]
   have cH:(part f.type (hv++v::G5).toArray f.offset).run P w=.ok v w:=by
    simp only at cy
    simp[part,wq,cy,←hH]
   simp only[List.map_cons,z2]at gY h5
   have key:∃jv jw fa,x=.bool jv∧y=.bool jw∧lJ xs ys=some fa∧r=((jv==jw)&&fa)∧fits (fs.map fun f=>isBool P f.type) xs=true∧fits (fs.map fun f=>isBool P f.type) ys=true:=by
    cases x<;>simp only[fits,Bool.false_eq_true]at gY
    rename_i jv
    cases y<;>simp only[fits,Bool.false_eq_true]at h5
    rename_i jw
    have AG:=(len _ _ gY).trans (len _ _ h5).symm
    cases xs with
    |nil=>
     cases ys with
     |nil=>
      simp only[lJ,Option.some.injEq]at he
      exact ⟨jv,jw,true,rfl,rfl,rfl,by simp[he],gY,h5⟩
     |cons _ _=>simp at AG
    |cons _ _=>
     simp only[lJ,Option.map_eq_some_iff]at he
     obtain⟨fa,h1,h2⟩:=he
     exact ⟨jv,jw,fa,rfl,rfl,h1,h2.symm,gY,h5⟩
   obtain⟨jv,jw,fa,rfl,rfl,fP,rfl,Ny,Nz⟩:=key
   simp only[R]at bw bJ
   subst bw;subst bJ
   have aG:=run_equalIn_bool (P:=P) w d f.type jv jw hu
   have ih:=E3 d fs (i+1) xs ys tk G5 fa w (fun p aa=>ak p (by simp[List.zipIdx_cons,aa])) hx aK Ny Nz fP (cw++[.bool jv]) (hv++[.bool jw]) (by simp[iz]) (by simp[hH])
   simp only[List.append_assoc,List.singleton_append]at ih
   simp only[Op.eqFields,ne_eq,dd,not_false_eq_true,if_true,Sem.run_bind,dh,Result.andThen_ok,cH,aG]
   cases jv<;>cases jw<;>first |(simp;done)|simpa using ih
theorem Ob{P:Program}{β γ:Type}(f:β→Sem γ)(g:β→γ):∀(l:List β) (w:World),(∀x∈l,∀w,(f x).run P w=.ok (g x) w)→(l.mapM f).run P w=.ok (l.map g) w
 |[],w,_=>by simp
 |x::l,w,h=>by
  simp only[List.mapM_cons,Sem.run_bind,h x (by simp) w,Result.andThen_ok,Ob f g l w (fun y aK=>h y (by simp[aK])),List.map_cons,Sem.run_pure]
theorem Vl{P:Program}{β γ:Type}(f:β→Sem γ)(g:β→γ)(l:Array β)(w:World)(h:∀x∈l.toList,∀w,(f x).run P w=.ok (g x) w):(l.mapM f).run P w=.ok (l.map g) w:=by
 rw[Array.mapM_eq_mapM_toList]
 simp only[Sem.run_map,Ob f g l.toList w h,Result.andThen_ok]
 congr 1
 apply Array.ext'
 simp
theorem Q5:∀(us:List Value) (k off:Nat) (cells:Array Value),off+k+us.length≤cells.size→
  ((us.zipIdx k).foldl (fun cs (p:Value×Nat)=>cs.setIfInBounds (off+p.2) p.1) cells).toList=cells.toList.take (off+k)++us++cells.toList.drop (off+k+us.length)
 |[],k,off,cells,_=>by simp
 |u::us,k,off,cells,h=>by
  simp only[List.length_cons]at h
  simp only[List.zipIdx_cons,List.foldl_cons]
  rw[Q5 us (k+1) off _ (by simp;omega)]
  have bn:off+k<cells.toList.length:=by simp;omega
  have e:=list_seg_step cells.toList (off+k) u us (by simp;omega)
  simpa[Array.toList_setIfInBounds,Nat.add_assoc,Nat.add_comm,Nat.add_left_comm]using e
theorem BY{env:Env}{a:Act}(he:du ρ env a){place:Nat→Option (Nat×Nat)}:∀(ps:List (Nat×Operand)) (cells:List V) (us:List Value) (dw:List V),
  oT place cells (ps.map fun p=>(p.1,aR env p.2))=some dw→bV ρ cells us→∃cw,Instr.fill place us.toArray (ps.map fun p=>(p.1,a.eval p.2))=some cw.toArray∧bV ρ dw cw
 |[],cells,us,dw,ad,ao=>by
  simp only[List.map_nil,oT,Option.some.injEq]at ad
  subst ad
  exact ⟨us,rfl,ao⟩
 |(i,x)::ps,cells,us,dw,ad,ao=>by
  simp only[List.map_cons,oT]at ad
  split at ad
  ·rename_i off size cs aa aU
   split at ad
   ·rename_i aq
    obtain⟨nb,jk⟩:=aq
    have hu:=(he.aR x).one aU
    have cf:(a.eval x).cells.size=size:=by rw[←nb,hu.length];simp
    have hlen:=ao.length
    have lj:=hu.length
    simp only[Array.length_toList]at lj
    obtain⟨cw,h1,h2⟩:=BY he ps _ (us.take off++(a.eval x).cells.toList++us.drop (off+(a.eval x).cells.toList.length)) dw ad (ao.splice hu off)
    refine⟨cw, ?_,h2⟩
    simp only[List.map_cons,Instr.fill,aa]
    rw[if_neg (by simp only[cf,ne_eq,not_true_eq_false,false_or,Bool.or_eq_true,decide_eq_true_eq,List.size_toArray];omega)]
    rw[←h1]
    congr 1
    apply Array.ext'
    have ak:=Q5 (a.eval x).cells.toList 0 off us.toArray (by simp;omega)
    simp only[Nat.add_zero]at ak
    rw[←Array.foldl_toList,Array.toList_zipIdx]
    simpa using ak
   ·cases ad
  ·cases ad
theorem vi(z:List V)(n:Nat):(eI z n).length=n*z.length:=by
 induction n with
 |zero=>simp[eI]
 |succ n ih=>simp only[eI,List.length_append,ih,Nat.add_mul,Nat.one_mul];omega
theorem N1 (z:List V):∀(n i:Nat),i<n*z.length→(eI z n)[i]? =z[i%z.length]?
 |0,i,h=>by simp at h
 |n+1,i,h=>by
  simp only[eI]
  rcases Nat.lt_or_ge i z.length with hi|hi
  ·rw[List.getElem?_append_left hi,Nat.mod_eq_of_lt hi]
  ·rw[List.getElem?_append_right hi,N1 z n (i-z.length) (by rw[Nat.add_mul]at h;omega)]
   congr 1
   rw[Nat.mod_eq_sub_mod hi]
theorem Fu{z:Value}(bH:z.cells.toList.all one=true)(n:Nat):bV ρ (eI (z.cells.toList.map ofConst) n) ((Array.range (n*z.cells.size)).map (z.cells[· %z.cells.size]!)).toList:=by
 have f_:=Ft (ρ:=ρ) z.cells.toList bH
 refine jT.2 ⟨by simp[vi],fun i v u aG e2=>?_⟩
 have hi:i<n*z.cells.size:=by
  have:=(List.getElem?_eq_some_iff.1 aG).1
  rw[vi]at this
  simpa using this
 have gD:0<z.cells.size:=by
  rcases Nat.eq_zero_or_pos z.cells.size with aO|aO
  ·rw[aO]at hi;simp at hi
  ·exact aO
 rw[N1 _ n i (by simpa using hi)]at aG
 simp only[List.length_map,Array.length_toList]at aG
 have hm:i%z.cells.size<z.cells.size:=Nat.mod_lt _ gD
 have DD:u=z.cells[i%z.cells.size]!:=by
  simp only[Array.toList_map,Array.toList_range,List.getElem?_map,List.getElem?_range hi,Option.map_some,Option.some.injEq]at e2
  exact e2.symm
 refine (jT.1 f_).2 (i%z.cells.size) v u aG ?_
 rw[DD,getElem!_pos z.cells _ hm]
 simp
theorem FJ{at_:Option Nat}(af:Rel base ρ h w)(gG:∀i,at_=some i→h.m i=.fresh∧i<h.next){cs:List V}{e:Nat}{β:Type}{k:V→H→Option β}{res:β}
  (ad:newAt h at_ cs e cs.length k=some res){c:Array Value}{t:TypeId}(ao:bV ρ cs c.toList):
  ∃a7 id ar,ρ.le a7∧Rel base a7 ar (w.alloc (.cells c t))∧Below base w (w.alloc (.cells c t))∧a7.map id cs.length=some (w.heap.size,0)∧k (.aa id cs.length 0) ar=some res:=by
 have aq:c.size=cs.length+0*e:=by have:=ao.length;simp at this;omega
 have kE:bV ρ cs (c.toList.take cs.length):=by rw[List.take_of_length_le (by rw[ao.length];exact Nat.le_refl _)];exact ao
 have aE:Below base w (w.alloc (.cells c t)):=(Below.refl base w).alloc af.aE _
 cases at_ with
 |none=>
  simp only[newAt]at ad
  have:=af.make (id:=h.next) (af.top _ (Nat.le_refl _)) (t:=t) kE aq (ar:=h.new cs e) rfl (by simp[H.new]) (by simp[H.new])
  exact ⟨_,h.next,_,this.1,this.2,aE,Ren.lG _ _ _,ad⟩
 |some i=>
  simp only[newAt]at ad
  obtain⟨ak,hi⟩:=gG i rfl
  have:=af.make (id:=i) ak (t:=t) kE aq (ar:=h.put i (.own cs e)) rfl (by simp[H.put]) (by simpa[H.put]using hi)
  exact ⟨_,i,_,this.1,this.2,aE,Ren.lG _ _ _,ad⟩
theorem V.aat (v:V)(n:Nat):(v.add n).bm=v.bm:=by cases v<;>rfl
theorem V.WO(v:V)(n:Nat):(v.add n).h_=v.h_:=by cases v<;>rfl
theorem Cd{v:V}{q:Addr}(aV:R ρ v (.pointer (some q)))(n:Nat):R ρ (v.add n) (.pointer (some (q.add n))):=by
 cases v<;>try (simp[R]at aV;done)
 case undef=>simp[V.add,R]
 case aa id g o=>
  simp only[R,Value.pointer.injEq,Option.some.injEq]at aV
  obtain⟨b,x,h1,rfl⟩:=aV
  simp only[V.add,R]
  exact ⟨b,x,h1,by rw[Addr.add_lit]⟩
 case lp fl cs o=>
  simp only[R,Value.pointer.injEq,Option.some.injEq,reduceCtorEq,and_false,false_or]at aV
  obtain⟨b,i,us,h1,h2,rfl⟩:=aV
  simp only[V.add,R]
  exact .inr ⟨b,i,us,h1,h2,by rw[Addr.add_lit,Nat.add_assoc]⟩
theorem K7{v:V}(aM:v.bm=true){u:Value}(hu:R ρ v u):∃q,u=.pointer (some q):=by
 cases v<;>simp only[V.bm,Bool.false_eq_true]at aM
 ·simp only[R]at hu;obtain⟨b,x,_,rfl⟩:=hu;exact ⟨_,rfl⟩
 ·simp only[R]at hu
  rcases hu with⟨rfl,_⟩|⟨b,i,us,_,_,rfl⟩
  ·simp at aM
  ·exact ⟨_,rfl⟩
theorem mv{v:V}{l c:Nat}{gZ:Bool}{u:Value}(hu:R ρ (.slice v l c gZ) u):∃p bg,u=.slice p l bg∧l≤c∧c≤bg∧(gZ=false→bg=c)∧(p=none→bg=0)∧(v.h_=true∨p.isSome=v.bm)∧
   (c≠0→R ρ v (.pointer p))∧(∀id g o,v=.aa id g o→gZ=true→∃b x,ρ.map id g=some (b,x)∧bg=c+x):=by simpa only[R]using hu
theorem r6{P:Program}{kd:IntKind}{i:Int}{y:Nat}(aO:0≤i)(h1:i≤y)(code:BoundsCode)(w:World):(Instr.sliceBound (.int kd i) y code).run P w=.ok i.toNat w:=by
 simp[Instr.sliceBound,asIntOf,aO,h1]
theorem PL{size:Nat}{v:V}{l c:Nat}{gZ:Bool}{lo hi ju:Option Operand}{env:Env}{a:Act}(he:du ρ env a){β:Type}{k:V→Option β}{res:β}{p:Option Addr}{bg:Nat}
  (ad:ra size v l c gZ (lo.map (aR env)) (hi.map (aR env)) (ju.map (aR env)) k=some res)
  (uQ:l≤c)(wU:c≤bg)(uR:gZ=false→bg=c)(wV:p=none→bg=0)(uS:v.h_=true∨p.isSome=v.bm)(wW:c≠0→R ρ v (.pointer p))
  (gR:∀id g o,v=.aa id g o→gZ=true→∃b x,ρ.map id g=some (b,x)∧bg=c+x)(aga:Bool)(w:World):
  ∃b3 fa qC gJ,(Instr.sliceBounds aga l bg (lo.map a.eval) (hi.map a.eval) (ju.map a.eval)).run P w=.ok (b3,fa,qC) w∧
   R ρ gJ (.slice (if qC=b3 then p else p.map (·.add (b3*size))) (fa-b3) (qC-b3))∧k gJ=some res:=by
 have bound:∀(x:Option Operand) (d:Nat) (f:Int→Option β),pL (x.map (aR env)) d f=some res→
   (x=none∧f d=some res)∨∃y kd n,x=some y∧a.eval y=.int kd n∧f n=some res:=by
  intro x d f ak
  cases x with
  |none=>exact .inl ⟨rfl,ak⟩
  |some y=>
   simp only[Option.map_some,pL]at ak
   split at ak
   ·rename_i hh;cases hh
   ·rename_i kd n hh
    have aK:=he.aR y
    simp only[Option.some.injEq]at hh
    rw[hh,dA]at aK
    exact .inr ⟨y,kd,n,rfl,aK,ak⟩
   ·cases ak
 have fin:∀(rT EE xy:Nat) (G6:Bool) (cn:Nat),rT≤EE→EE≤cn→cn≤c→(xy=cn+(bg-c)∧G6=gZ∧cn=c∨xy=cn∧G6=false)→
   R ρ (.slice (v.add (rT*size)) (EE-rT) (cn-rT) G6) (.slice (if xy=rT then p else p.map (·.add (rT*size))) (EE-rT) (xy-rT)):=by
  intro rT EE xy G6 cn h1 h2 h3 aI
  simp only[R]
  have aki:xy≤bg:=by rcases aI with⟨aI,-,-⟩|⟨aI,-⟩<;>omega
  refine⟨_,_,rfl,by omega,by rcases aI with⟨aI,-,-⟩|⟨aI,-⟩<;>omega,fun bk=>?_,fun aa=>?_, ?_,fun bS=>?_,fun id g o aU bk=>?_⟩
  ·rcases aI with⟨aI,ba,bp⟩|⟨aI,-⟩
   ·subst ba;have:=uR bk;omega
   ·omega
  ·split at aa
   ·have:=wV aa;omega
   ·have:p=none:=by cases p<;>simp_all
    have:=wV this;omega
  ·rw[V.aat,V.WO]
   rcases uS with uS|uS
   ·exact .inl uS
   ·right
    rw[←uS]
    split
    ·rfl
    ·cases p<;>rfl
  ·have jl:c≠0:=by omega
   have af:=wW jl
   have adF:xy≠rT:=by rcases aI with⟨aI,-,-⟩|⟨aI,-⟩<;>omega
   rw[if_neg adF]
   cases p with
   |none=>have:=wV rfl;omega
   |some q=>exact Cd af _
  ·rcases aI with⟨aI,ba,bp⟩|⟨aI,ba⟩
   ·subst ba
    cases v<;>simp only[V.add,reduceCtorEq,V.aa.injEq]at aU
    obtain⟨rfl,rfl,rfl⟩:=aU
    obtain⟨b,x,aw,aH⟩:=gR _ _ _ rfl bk
    exact ⟨b,x,aw,by omega⟩
   ·subst ba;cases bk
 cases ju with
 |none=>
  simp only[Option.map_none,ra]at ad
  rcases bound lo 0 _ ad with⟨aG,wX⟩|⟨l8,rU,nl,aG,el,wX⟩<;>subst aG
  ·rcases bound hi l _ wX with⟨e2,qg⟩|⟨UN,xz,lA,e2,xA,qg⟩<;>subst e2
   ·obtain⟨⟨bu,bs,b6⟩,qh⟩:=fe qg
    refine⟨0,l,bg,_,by simp[Instr.sliceBounds], ?_,qh⟩
    exact fin 0 l bg gZ c (by omega) uQ (Nat.le_refl _) (.inl ⟨by omega,rfl,rfl⟩)
   ·obtain⟨⟨bu,bs,b6⟩,qh⟩:=fe qg
    refine⟨0,lA.toNat,bg,_, ?_, ?_,qh⟩
    ·simp[Instr.sliceBounds,xA,r6 (P:=P) (kd:=xz) (i:=lA) (y:=bg) (by omega) (by omega)]
    ·exact fin 0 lA.toNat bg gZ c (by omega) (by omega) (Nat.le_refl _) (.inl ⟨by omega,rfl,rfl⟩)
  ·rcases bound hi l _ wX with⟨e2,qg⟩|⟨UN,xz,lA,e2,xA,qg⟩<;>subst e2
   ·obtain⟨⟨bu,bs,b6⟩,qh⟩:=fe qg
    refine⟨nl.toNat,l,bg,_, ?_, ?_,qh⟩
    ·simp[Instr.sliceBounds,el,r6 (P:=P) (kd:=rU) (i:=nl) (y:=l) (by omega) (by omega)]
    ·exact fin nl.toNat l bg gZ c (by omega) uQ (Nat.le_refl _) (.inl ⟨by omega,rfl,rfl⟩)
   ·obtain⟨⟨bu,bs,b6⟩,qh⟩:=fe qg
    refine⟨nl.toNat,lA.toNat,bg,_, ?_, ?_,qh⟩
    ·simp[Instr.sliceBounds,el,xA,r6 (P:=P) (kd:=xz) (i:=lA) (y:=bg) (by omega) (by omega),r6 (P:=P) (kd:=rU) (i:=nl) (y:=lA.toNat) (by omega) (by omega)]
    ·exact fin nl.toNat lA.toNat bg gZ c (by omega) (by omega) (Nat.le_refl _) (.inl ⟨by omega,rfl,rfl⟩)
 |some m=>
  simp only[Option.map_some,ra]at ad
  cases hi with
  |none=>simp at ad
  |some UN=>
   simp only[Option.map_some]at ad
   have b2:∀(x:Operand) (f:Int→Option β),pL (some (aR env x)) 0 f=some res→∃kd n,a.eval x=.int kd n∧f n=some res:=by
    intro x f ak
    rcases bound (some x) 0 f ak with⟨aO,_⟩|⟨y,kd,n,aO,h1,h2⟩
    ·cases aO
    ·cases aO;exact ⟨kd,n,h1,h2⟩
   rcases bound lo 0 _ ad with⟨aG,wX⟩|⟨l8,rU,nl,aG,el,wX⟩<;>subst aG
   ·obtain⟨xz,lA,xA,qg⟩:=b2 _ _ wX
    obtain⟨NA,qE,em,qh⟩:=b2 _ _ qg
    obtain⟨⟨bu,bs,b6,cd⟩,Mg⟩:=fe qh
    refine⟨0,lA.toNat,qE.toNat,_, ?_, ?_,Mg⟩
    ·simp[Instr.sliceBounds,xA,em,r6 (P:=P) (kd:=NA) (i:=qE) (y:=bg) (by omega) (by omega),r6 (P:=P) (kd:=xz) (i:=lA) (y:=qE.toNat) (by omega) (by omega)]
    ·exact fin 0 lA.toNat qE.toNat false qE.toNat (by omega) (by omega) (by omega) (.inr ⟨rfl,rfl⟩)
   ·obtain⟨xz,lA,xA,qg⟩:=b2 _ _ wX
    obtain⟨NA,qE,em,qh⟩:=b2 _ _ qg
    obtain⟨⟨bu,bs,b6,cd⟩,Mg⟩:=fe qh
    refine⟨nl.toNat,lA.toNat,qE.toNat,_, ?_, ?_,Mg⟩
    ·simp[Instr.sliceBounds,el,xA,em,r6 (P:=P) (kd:=NA) (i:=qE) (y:=bg) (by omega) (by omega),r6 (P:=P) (kd:=xz) (i:=lA) (y:=qE.toNat) (by omega) (by omega),
      r6 (P:=P) (kd:=rU) (i:=nl) (y:=lA.toNat) (by omega) (by omega)]
    ·exact fin nl.toNat lA.toNat qE.toNat false qE.toNat (by omega) (by omega) (by omega) (.inr ⟨rfl,rfl⟩)
end ops
end Go.Proofs.YtlphgijokknjhaaGreat.Ev
namespace Go.Proofs.YtlphgijokknjhaaGreat.Ev
open Go Go.RowKit
variable{P:Program}{ρ:Ren}
theorem qU{us:List (Value×Value)}:(dR us).toList=us.zipIdx.map fun p=>fV p.1 p.2:=by simp[dR]
theorem E4{us:List (Value×Value)}{i:Nat}:(dR us)[i]? =(us[i]?).map fun p=>fV p i:=by
 rw[←Array.getElem?_toList,qU,List.getElem?_map,List.getElem?_zipIdx]
 cases us[i]?<;>simp
theorem Be{us:List (Value×Value)}:(dR us).size=us.length:=by simp[dR]
theorem Oc{us:List (Value×Value)}{k v:Value}:(dR us).push {key:=k,val:=v,born:=us.length}=dR (us++[(k,v)]):=by
 apply Array.ext'
 rw[Array.toList_push,qU,qU,List.zipIdx_append,List.map_append]
 simp[fV]
theorem Ie{us:List (Value×Value)}{i:Nat}{f:MapEntry→MapEntry}{g:Value×Value→Value×Value}(ak:∀p,f (fV p i)=fV (g p) i):(dR us).modify i f=dR (us.modify i g):=by
 apply Array.ext'
 rw[qU,Array.toList_modify,qU]
 refine List.ext_getElem? fun j=>?_
 simp only[List.getElem?_modify,List.getElem?_map,List.getElem?_zipIdx]
 by_cases aL:i=j
 ·subst aL
  cases us[i]? with
  |none=>simp
  |some p=>simp[ak]
 ·cases us[j]?<;>simp[aL]
def ab.c0:(l:ab)→l.C→Value
 |.int k,n=> .int k n
 |.str,s=> .string s
 |_,_=> .nilFunc
def LT.gm:(ls:List ab)→LT ls→List Value
 |[],_=>[]
 |[l],x=>[l.c0 x]
 |l::b3::ls,x=>l.c0 x.1::LT.gm (b3::ls) x.2
def ai.c0:(t:ai)→t.C→Value
 |.leaf l,x=>l.c0 x
 |.agg ls,x=> .agg (LT.gm ls x).toArray
inductive nI(P:Program)(a:TypeId):ai→Prop where
 |int (k:IntKind) (h:P.underlying a=some (.int k)):nI P a (.leaf (.int k))
 |str (h:P.underlying a=some .string):nI P a (.leaf .str)
 |row (fs:Array Field) (ls:List ab) (h:P.underlying a=some (.struct fs)) (a6:P.stoodInHeld a=false)
   (lY:∀p∈fs.toList.zipIdx,p.1.offset=p.2∧p.1.name≠ "_"∧(pG P p.1.type).isSome=true) (aq:fs.toList.length=ls.length) (hi:ls.all ab.isInt=true):nI P a (.agg ls)
theorem WQ{a:TypeId}{kt:ai}(h:Ko P a=some kt):nI P a kt:=by
 unfold Ko at h
 split at h
 ·rename_i k hu
  cases h
  exact .int k hu
 ·rename_i hu
  cases h
  exact .str hu
 ·rename_i fs hu
  split at h
  ·rename_i fz ls aE bk
   cases ao:((fz.all fun b=>!b)&&Nat.beq fz.length ls.length&&ls.all ab.isInt)with
   |false=>rw[ao]at h;cases h
   |true=>
    rw[ao]at h
    cases h
    simp only[Bool.and_eq_true]at ao
    obtain⟨⟨h1,h2⟩,h3⟩:=ao
    unfold FH at aE
    rw[hu]at aE
    simp only at aE
    cases bF:(!(P.stoodInHeld a)&&(fs.toList.zipIdx.all fun(f,i)=>f.offset==i&&f.name != "_"&&((pG P f.type).isSome ||isBool P f.type)))with
    |false=>rw[bF]at aE;cases aE
    |true=>
     rw[bF]at aE
     cases aE
     simp only[Bool.and_eq_true,Bool.not_eq_true',List.all_eq_true]at bF
     obtain⟨d1,d2⟩:=bF
     refine .row fs ls hu d1 (fun p aa=>?_) (by simpa using h2) h3
     have:=d2 p aa
     simp only[Bool.and_eq_true,beq_iff_eq,bne_iff_ne,Bool.or_eq_true]at this
     refine⟨this.1.1,this.1.2, ?_⟩
     rcases this.2 with e |e
     ·exact e
     ·have hm:p.1∈fs.toList:=by
       obtain⟨i,hi,he⟩:=List.mem_iff_getElem.1 aa
       rw[←he]
       simp
      have:=List.all_eq_true.1 h1 (isBool P p.1.type) (List.mem_map.2 ⟨p.1,hm,rfl⟩)
      rw[e]at this
      cases this
  ·cases h
 ·cases h
theorem Q6:∀(ls:List ab) (x:LT ls) (us:List Value),ls.all ab.isInt=true→bV ρ (LT.un ls x) us→us=LT.gm ls x
 |[],x,us,_,h=>by simpa[LT.un,bV,LT.gm]using h
 |[l],x,us,hi,h=>by
  cases l<;>simp[ab.isInt]at hi
  simp only[LT.un,ab.un,bV]at h
  obtain⟨u,cw,rfl,_,h1,rfl⟩:=h
  rw[dA]at h1
  simp[LT.gm,ab.c0,h1]
 |l::b3::ls,x,us,hi,h=>by
  simp only[List.all_cons,Bool.and_eq_true]at hi
  obtain⟨kD,hS⟩:=hi
  cases l<;>simp[ab.isInt]at kD
  simp only[LT.un,ab.un,bV]at h
  obtain⟨u,cw,rfl,_,h1,h2⟩:=h
  rw[dA]at h1
  rw[Q6 (b3::ls) x.2 cw (by simpa using hS) h2]
  simp[LT.gm,ab.c0,h1]
theorem Sf{a:TypeId}{kt:ai}(ak:nI P a kt){x:kt.C}{u:Value}(h:R ρ (kt.un x) u):u=kt.c0 x:=by
 cases ak with
 |int k _=>exact dA.1 h
 |str _=>exact y5.1 h
 |row fs ls _ _ _ _ hi=>
  simp only[ai.un,R]at h
  obtain⟨us,rfl,h2⟩:=h
  rw[Q6 ls x us hi h2]
  rfl
theorem PM:∀(ls:List ab) (x:LT ls),(LT.gm ls x).length=ls.length
 |[],_=>rfl
 |[l],_=>rfl
 |l::b3::ls,x=>by simp[LT.gm,PM (b3::ls) x.2]
theorem Sg:∀(ls:List ab) (x y:LT ls),ls.all ab.isInt=true→LT.er ls x y=true→x=y
 |[],_,_,_,_=>rfl
 |[l],x,y,hi,h=>by
  cases l<;>simp[ab.isInt]at hi
  simpa[LT.er,ab.er]using h
 |l::b3::ls,x,y,hi,h=>by
  simp only[List.all_cons,Bool.and_eq_true]at hi
  obtain⟨kD,hS⟩:=hi
  cases l<;>simp[ab.isInt]at kD
  simp only[LT.er,ab.er,Bool.and_eq_true,decide_eq_true_eq]at h
  exact Prod.ext h.1 (Sg (b3::ls) x.2 y.2 (by simpa using hS) h.2)
theorem Jn{a:TypeId}{kt:ai}(ak:nI P a kt){x y:kt.C}(h:kt.er x y=true):x=y:=by
 cases ak with
 |int k _=>simpa[ai.er,ab.er]using h
 |str _=>simpa[ai.er,ab.er]using h
 |row fs ls _ _ _ _ hi=>exact Sg ls x y hi h
theorem O6:∀(ls:List ab) (x y:LT ls),ls.all ab.isInt=true→lJ (LT.un ls x) (LT.un ls y)=some (LT.er ls x y)
 |[],_,_,_=>rfl
 |[l],x,y,hi=>by
  cases l<;>simp[ab.isInt]at hi
  simp[LT.un,ab.un,lJ,LT.er,ab.er]
 |l::b3::ls,x,y,hi=>by
  simp only[List.all_cons,Bool.and_eq_true]at hi
  obtain⟨kD,hS⟩:=hi
  cases l<;>simp[ab.isInt]at kD
  have ih:=O6 (b3::ls) x.2 y.2 (by simpa using hS)
  have bS:∃v vs,LT.un (b3::ls) x.2=v::vs:=by cases ls<;>simp[LT.un]
  have adG:∃v vs,LT.un (b3::ls) y.2=v::vs:=by cases ls<;>simp[LT.un]
  obtain⟨v,vs,aG⟩:=bS
  obtain⟨v2,akj,e2⟩:=adG
  simp only[LT.un,ab.un,LT.er,ab.er]
  rw[aG,e2]at ih⊢
  simp[lJ,ih]
theorem J2:∀(ls:List ab) (x:LT ls),ls.all ab.isInt=true→bV ρ (LT.un ls x) (LT.gm ls x)
 |[],_,_=>by simp[LT.un,LT.gm,bV]
 |[l],x,hi=>by
  cases l<;>simp[ab.isInt]at hi
  simp only[LT.un,ab.un,LT.gm,ab.c0,bV]
  exact ⟨_,_,rfl,rfl,dA.2 rfl,rfl⟩
 |l::b3::ls,x,hi=>by
  simp only[List.all_cons,Bool.and_eq_true]at hi
  obtain⟨kD,hS⟩:=hi
  cases l<;>simp[ab.isInt]at kD
  simp only[LT.un,ab.un,LT.gm,ab.c0,bV]
  exact ⟨_,_,rfl,rfl,dA.2 rfl,J2 (b3::ls) x.2 (by simpa using hS)⟩
theorem Jo:∀(ls:List ab) (fz:List Bool) (x:LT ls),ls.all ab.isInt=true→fz.length=ls.length→(∀b∈fz,b=false)→fits fz (LT.un ls x)=true
 |[],fz,_,_,aq,_=>by
  cases fz with
  |nil=>rfl
  |cons _ _=>simp at aq
 |[l],fz,x,hi,aq,aE=>by
  cases l<;>simp[ab.isInt]at hi
  match fz,aq with
  |[b],_=>rw[aE b (by simp)];rfl
 |l::b3::ls,fz,x,hi,aq,aE=>by
  simp only[List.all_cons,Bool.and_eq_true]at hi
  obtain⟨kD,hS⟩:=hi
  cases l<;>simp[ab.isInt]at kD
  match fz,aq with
  |b::fz,aq=>
   rw[aE b (by simp)]
   simp only[LT.un,ab.un,fits]
   exact Jo (b3::ls) fz x.2 (by simpa using hS) (by simpa using aq) fun c ao=>aE c (by simp[ao])
theorem Qr(x y:ByteArray):(x==y)=decide (x=y):=by
 cases x with|mk a=>cases y with|mk b=>
 have:((⟨a⟩:ByteArray)==⟨b⟩)=(a==b):=rfl
 rw[this,Bool.eq_iff_iff,beq_iff_eq,decide_eq_true_iff,ByteArray.mk.injEq]
theorem I4{β:Type}{kt:ai}{kind:TypeDesc}(x:kt.C)(ad:∀y:kt.C,Instr.sameNow kind (kt.c0 x) (kt.c0 y)=some (kt.er x y)):∀(l:List (kt.C×β)) (us:List (Value×Value)) (b j:Nat),us.map (·.1)=l.map (fun p=>kt.c0 p.1)→
  Instr.findNow kind (kt.c0 x) ((us.zipIdx b).map fun p=>fV p.1 p.2) j=some ((gA kt x l).map fun i=>(j+i,((us[i]?).map (·.2)).getD .nilFunc))
 |[],us,b,j,aN=>by
  have:us=[]:=by simpa using aN
  subst this
  rfl
 |p::l,[],b,j,aN=>by simp at aN
 |p::l,u::us,b,j,aN=>by
  simp only[List.map_cons,List.cons.injEq]at aN
  obtain⟨h1,h2⟩:=aN
  simp only[List.zipIdx_cons,List.map_cons,Instr.findNow,fV,h1,ad,gA]
  cases kt.er x p.1 with
  |true=>simp
  |false=>
   simp only[cond_false]
   have ih:=I4 x ad l us (b+1) (j+1) h2
   simp only[fV]at ih
   rw[ih]
   cases gA kt x l<;>simp[Nat.add_assoc,Nat.add_comm,Nat.add_left_comm]
theorem Om{β:Type}{kt:ai}{a:TypeId}(x:kt.C)(w:World)(ad:∀y:kt.C,(Op.equal a (kt.c0 x) (kt.c0 y)).run P w=.ok (kt.er x y) w):∀(l:List (kt.C×β)) (us:List (Value×Value)) (b j:Nat),us.map (·.1)=l.map (fun p=>kt.c0 p.1)→
  (Instr.findAsking a (kt.c0 x) ((us.zipIdx b).map fun p=>fV p.1 p.2) j).run P w=.ok ((gA kt x l).map fun i=>(j+i,((us[i]?).map (·.2)).getD .nilFunc)) w
 |[],us,b,j,aN=>by
  have:us=[]:=by simpa using aN
  subst this
  simp[Instr.findAsking,gA]
 |p::l,[],b,j,aN=>by simp at aN
 |p::l,u::us,b,j,aN=>by
  simp only[List.map_cons,List.cons.injEq]at aN
  obtain⟨h1,h2⟩:=aN
  have ih:=Om x w ad l us (b+1) (j+1) h2
  simp only[List.zipIdx_cons,List.map_cons,Instr.findAsking,fV,h1,Sem.run_bind,ad,Result.andThen_ok,gA]
  cases kt.er x p.1 with
  |true=>simp
  |false=>
   simp only[fV]at ih
   simp only[cond_false,Bool.false_eq_true,if_false,ih]
   cases gA kt x l<;>simp[Nat.add_assoc,Nat.add_comm,Nat.add_left_comm]
theorem Vv{a:TypeId}{fs:Array Field}{ls:List ab}(hu:P.underlying a=some (.struct fs))(a6:P.stoodInHeld a=false)(lY:∀p∈fs.toList.zipIdx,p.1.offset=p.2∧p.1.name≠ "_"∧(pG P p.1.type).isSome=true)(aq:fs.toList.length=ls.length)(hi:ls.all ab.isInt=true)(x y:LT ls)(w:World):
  (Op.equal a (.agg (LT.gm ls x).toArray) (.agg (LT.gm ls y).toArray)).run P w=.ok (LT.er ls x y) w:=by
 have aE:∀f∈fs.toList,isBool P f.type=false:=fun f ak=>by
  obtain⟨i,hi,rfl⟩:=List.mem_iff_getElem.1 ak
  have:=(lY (fs.toList[i],i) (by rw[List.mem_zipIdx_iff_getElem?];simp[hi])).2.2
  obtain⟨k,aN⟩:=Option.isSome_iff_exists.1 this
  unfold isBool
  rw[Bp aN]
 have gen:∀d,(Op.equalIn (d+2) a (.agg (LT.gm ls x).toArray) (.agg (LT.gm ls y).toArray)).run P w=.ok (LT.er ls x y) w:=fun d=>by
  have DE:P.fieldsOf a=fs:=by simp[Program.fieldsOf,hu]
  rw[run_equalIn_struct w (d+1) a _ _ (by rw[DE];exact hu) a6,DE]
  have Tl:∀b∈fs.toList.map (fun f=>isBool P f.type),b=false:=fun b hm=>by
   obtain⟨f,ak,rfl⟩:=List.mem_map.1 hm
   exact aE f ak
  have:=E3 (ρ:=⟨fun _ _=>none,fun _ _ _ _=>False,fun _=>False,fun _=>none⟩) (P:=P) d fs.toList 0 (LT.un ls x) (LT.un ls y) (LT.gm ls x) (LT.gm ls y) (LT.er ls x y) w
   (fun p aa=>by obtain⟨h1,h2,h3⟩:=lY p aa;exact ⟨h1,h2,by rw[h3];rfl⟩) (J2 ls x hi) (J2 ls y hi) (Jo ls _ x hi (by simpa using aq) Tl) (Jo ls _ y hi (by simpa using aq) Tl) (O6 ls x y hi) [] [] rfl rfl
  simpa using this
 exact gen 9998
theorem I5{β:Type}{a:TypeId}{kt:ai}(ak:nI P a kt)(x:kt.C)(l:List (kt.C×β))(us:List (Value×Value))(aN:us.map (·.1)=l.map (fun p=>kt.c0 p.1))(w:World):
  (Instr.findKey a (kt.c0 x) (dR us).toList).run P w=.ok ((gA kt x l).map fun i=>(i,((us[i]?).map (·.2)).getD .nilFunc)) w:=by
 unfold Instr.findKey
 rw[qU]
 cases ak with
 |int k hu=>
  have:=I4 (kt:=.leaf (.int k)) (kind:=.int k) x (fun y=>by simp[ai.c0,ab.c0,Instr.sameNow,ai.er,ab.er];rfl) l us 0 0 aN
  simp only[Sem.run_bind,run_underlying hu,Result.andThen_ok,this,Sem.run_pure,Nat.zero_add]
 |str hu=>
  have:=I4 (kt:=.leaf .str) (kind:=.string) x (fun y=>by
   exact congrArg some (Qr x y)) l us 0 0 aN
  simp only[Sem.run_bind,run_underlying hu,Result.andThen_ok,this,Sem.run_pure,Nat.zero_add]
 |row fs ls hu a6 lY aq hi=>
  cases us with
  |nil=>
   have:l=[]:=by simpa using aN.symm
   subst this
   simp[run_underlying hu,Instr.findNow,gA]
  |cons u us=>
   have aM:Instr.findNow (.struct fs) (ai.c0 (.agg ls) x) (((u::us).zipIdx).map fun p=>fV p.1 p.2) 0=none:=by
    simp only[List.zipIdx_cons,List.map_cons,Instr.findNow]
    have:Instr.sameNow (.struct fs) (ai.c0 (.agg ls) x) (fV u 0).key=none:=by
     simp[ai.c0,Instr.sameNow]
    rw[this]
   simp only[Sem.run_bind,run_underlying hu,Result.andThen_ok,aM]
   have:=Om (P:=P) (kt:=.agg ls) (a:=a) x w (fun y=>Vv hu a6 lY aq hi x y w) l (u::us) 0 0 aN
   simpa using this
theorem N6{β:Type}(f:β→Sem (ForInStep PUnit))(w:World):∀l:List β,(∀x∈l,(f x).run P w=.ok (.yield ⟨⟩) w)→(forIn l PUnit.unit (fun x _=>f x)).run P w=.ok ⟨⟩ w
 |[],_=>by simp
 |x::l,h=>by
  rw[List.forIn_cons]
  simp only[Sem.run_bind,h x (by simp),Result.andThen_ok]
  exact N6 f w l fun y aK=>h y (by simp[aK])
theorem On(em:Bool)(n:Nat){t:TypeId}{k e_:IntKind}{m:Int}(hu:P.underlying t=some (.int k))(w:World):(Instr.checkKey em (n+1) t (.int e_ m)).run P w=.ok () w:=by
 unfold Instr.checkKey
 simp only[Sem.run_bind,run_underlying hu,Result.andThen_ok,Sem.run_pure]
theorem PN:∀(ls:List ab) (x:LT ls) (i:Nat) (h:i<(LT.gm ls x).length),ls.all ab.isInt=true→∃e_ m,(LT.gm ls x)[i]=.int e_ m
 |[],_,i,h,_=>by simp[LT.gm]at h
 |[l],x,i,h,bD=>by
  cases l<;>simp[ab.isInt]at bD
  simp[LT.gm]at h
  subst h
  exact ⟨_,_,rfl⟩
 |l::b3::ls,x,i,h,bD=>by
  simp only[List.all_cons,Bool.and_eq_true]at bD
  obtain⟨Mh,Mi⟩:=bD
  cases l<;>simp[ab.isInt]at Mh
  cases i with
  |zero=>exact ⟨_,_,rfl⟩
  |succ i=>
   simp only[LT.gm,List.getElem_cons_succ]
   exact PN (b3::ls) x.2 i (by simpa[LT.gm]using h) (by simpa using Mi)
theorem IP{a:TypeId}{kt:ai}(ak:nI P a kt)(em:Bool)(x:kt.C)(w:World):(Instr.checkKey em 10000 a (kt.c0 x)).run P w=.ok () w:=by
 cases ak with
 |int k hu=>exact On em 9999 hu w
 |str hu=>
  unfold Instr.checkKey
  simp only[Sem.run_bind,run_underlying hu,Result.andThen_ok,Sem.run_pure,ai.c0,ab.c0]
 |row fs ls hu a6 lY aq hi=>
  show(Instr.checkKey em (9999+1) a (.agg (LT.gm ls x).toArray)).run P w=_
  unfold Instr.checkKey
  simp only[Sem.run_bind,run_underlying hu,Result.andThen_ok]
  rw[←Array.forIn_toList]
  have key:∀f∈fs.toList,∃k e_ m,P.underlying f.type=some (.int k)∧f.name≠ "_"∧(part f.type (LT.gm ls x).toArray f.offset).run P w=.ok (.int e_ m) w:=fun f nc=>by
   obtain⟨i,hS,Mj⟩:=List.mem_iff_getElem.1 nc
   obtain⟨cy,dd,dF⟩:=lY (f,i) (by rw[List.mem_zipIdx_iff_getElem?,List.getElem?_eq_getElem hS,Mj])
   obtain⟨k,aN⟩:=Option.isSome_iff_exists.1 dF
   have uT:=Bp aN
   have wq:(isAgg f.type).run P w=.ok false w:=vI (by unfold oZ;rw[uT]) w
   have hlen:i<(LT.gm ls x).length:=by rw[PM];omega
   obtain⟨e_,m,aU⟩:=PN ls x i hlen hi
   refine⟨k,e_,m,uT,dd, ?_⟩
   simp only at cy
   simp[part,wq,cy,←aU,hlen]
  have K8:∀r:Result PUnit,r=.ok ⟨⟩ w→(r.andThen fun _ ay=>Sem.run P (pure ()) ay)=.ok () w:=fun r e=>by rw[e];simp
  refine K8 _ (N6 (P:=P) _ w fs.toList fun f nc=>?_)
  obtain⟨k,e_,m,h1,h2,h3⟩:=key f nc
  have ao:=On (P:=P) em 9998 (t:=f.type) (e_:=e_) (m:=m) h1 w
  simp only[h2,ne_eq,not_false_eq_true,if_true,Sem.run_bind,h3,Result.andThen_ok,ao,Sem.run_pure]
theorem Oo(n:Nat):∀(ls:List ab) (x:LT ls),ls.all ab.isInt=true→((LT.gm ls x).zip (LT.gm ls x)).all (fun(a,b)=>Instr.sameBits n a b)=true
 |[],_,_=>rfl
 |[l],x,hi=>by
  cases l<;>simp[ab.isInt]at hi
  simp[LT.gm,ab.c0,Instr.sameBits]
 |l::b3::ls,x,hi=>by
  simp only[List.all_cons,Bool.and_eq_true]at hi
  obtain⟨kD,hS⟩:=hi
  cases l<;>simp[ab.isInt]at kD
  simp only[LT.gm,ab.c0,List.zip_cons_cons,List.all_cons,Instr.sameBits,beq_self_eq_true,Bool.and_self,Bool.true_and]
  exact Oo n (b3::ls) x.2 (by simpa using hS)
theorem PO{a:TypeId}{kt:ai}(ak:nI P a kt)(x:kt.C)(w:World):(Instr.keyThatStays (kt.c0 x) (kt.c0 x)).run P w=.ok (kt.c0 x) w:=by
 have:Instr.sameBits 10000 (kt.c0 x) (kt.c0 x)=true:=by
  cases ak with
  |int k hu=>simp[ai.c0,ab.c0,Instr.sameBits]
  |str hu=>exact (Qr x x).trans (decide_eq_true rfl)
  |row fs ls hu a6 lY aq hi=>
   have h:=Oo 9999 ls x hi
   show Instr.sameBits (9999+1) _ _=true
   simp only[ai.c0,Instr.sameBits,List.size_toArray,beq_self_eq_true,Bool.true_and]
   exact h
 unfold Instr.keyThatStays
 rw[this]
 simp
end Go.Proofs.YtlphgijokknjhaaGreat.Ev
namespace Go.Proofs.YtlphgijokknjhaaGreat.Ev
open Go Go.RowKit
section step
variable{P:Program}{T:Table}{A:fw}{base:Nat}{ρ:Ren}{h:H}{w:World}{a:Act}{env:Env}{next:Act→World→Prop}{Q:Exit→Act→World→Prop}{α:Type}{k:V→H→Option α}{res:α}{ro:Option Nat}
theorem IQ(af:Rel base ρ h w){v:V}{bo:Nat}{n:Nat}{cs:List V}(ad:cellsOf h v bo=some (n,cs)){u:Value}(hu:R ρ v u):
  ∃p bg us,u=.slice p n bg∧bV ρ cs us∧us.length=n*bo∧((n=0∧us=[])∨∃b o,p=some ⟨b,o,none⟩∧∀j x,us[j]? =some x→w.cell? ((⟨b,o,none⟩:Addr).add j)=some x):=by
 cases v<;>simp only[cellsOf,reduceCtorEq]at ad
 rename_i v l c gZ
 obtain⟨p,bg,rfl,h1,h2,h3,aI,ba,bp,bE⟩:=mv hu
 split at ad
 ·rename_i aq
  simp only[Option.some.injEq,Prod.mk.injEq]at ad
  obtain⟨rfl,rfl⟩:=ad
  subst aq
  exact ⟨p,bg,[],rfl,vO,by simp,.inl ⟨rfl,rfl⟩⟩
 ·rename_i aq
  simp only[Option.map_eq_some_iff,Prod.mk.injEq]at ad
  obtain⟨dw,ad,rfl,rfl⟩:=ad
  have agb:=bp (by omega)
  obtain⟨q,rfl⟩:∃q,p=some q:=by
   cases p with
   |none=>have:=aI rfl;omega
   |some q=>exact ⟨q,rfl⟩
  simp only[H.fv,Option.bind_eq_some_iff]at ad
  obtain⟨rE,ak,hh⟩:=ad
  split at hh
  ·rename_i hle
   have hle:=hle.1
   simp only[Option.some.injEq]at hh
   subst hh
   obtain⟨b,o,us,he,f_,ao⟩:=JE af ak agb
   cases he
   refine⟨_,bg,us.take (l*bo),rfl,f_.take _, ?_,.inr ⟨b,o,rfl,fun j x hx=>?_⟩⟩
   ·rw[List.length_take,←f_.length];omega
   ·rw[List.getElem?_take]at hx
    split at hx
    ·rw[Addr.add_lit];exact ao j x hx
    ·cases hx
  ·cases hh
theorem PQ{t:TypeId}{v:V}{u:Value}(hu:R ρ v u){β:Type}{k:List V→Option β}{res:β}(ao:mY P t v k=some res):∃cs,k cs=some res∧bV ρ cs u.cells.toList:=by
 unfold mY at ao
 split at ao
 ·obtain⟨h1,h2⟩:=fe ao
  refine⟨_,h2,hu.one ?_⟩
  cases v<;>simp[V.RB]at h1<;>rfl
 ·split at ao
  ·exact ⟨_,ao,hu.one rfl⟩
  ·cases ao
 ·cases ao
theorem WR{o:Oper}{at_:Option Nat}(af:Rel base ρ h w)(gG:∀i,at_=some i→h.m i=.fresh∧i<h.next){e:TypeId}(a8:o.op=.alloc e)
  (ad:((zeroCells P e).bind fun z=>newAt h at_ z z.length z.length k)=some res)(aQ:fX base ρ w k res o a next):o.e1 ro P a w next Q:=by
 simp only[Option.bind_eq_some_iff]at ad
 obtain⟨z,bH,ad⟩:=ad
 obtain⟨gh,eG,gq,rfl⟩:=x5 bH
 obtain⟨a7,id,ar,bu,bs,b6,cd,cp⟩:=FJ (t:=e) (c:=gh.cells) af gG ad (Ft _ gq)
 refine dX (val:=.pointer (some ⟨w.heap.size,0,none⟩)) (ay:=w.alloc (.cells gh.cells e)) ?_ (aQ a7 _ ar _ _ bu bs b6 ?_ cp)
 ·simp[execOp,a8,Instr.alloc,nF eG,newVar,newRow]
 ·simp only[R];exact ⟨_,_,cd,rfl⟩
theorem Y0{o:Oper}{at_:Option Nat}(af:Rel base ρ h w)(he:du ρ env a)(gG:∀i,at_=some i→h.m i=.fresh∧i<h.next){e:TypeId}{x:Operand}(a8:o.op=.box e x)
  (ad:(mY P e (aR env x) fun z=>bif A.wR.any fun t=>o.dst==some t then k (.lp true z 0) h else newAt h at_ z z.length z.length k)=some res)(aQ:fX base ρ w k res o a next):o.e1 ro P a w next Q:=by
 obtain⟨z,ad,bH⟩:=PQ (he.aR x) ad
 have cV:(execOp a.eval o).run P w=.ok (.value (.pointer (some ⟨w.heap.size,0,none⟩))) (w.alloc (.cells (a.eval x).cells e)):=by simp[execOp,a8,Instr.box,newVar,newRow]
 cases eh:A.wR.any fun t=>o.dst==some t with
 |true=>
  rw[eh]at ad
  simp only[cond_true]at ad
  refine dX cV (aQ _ _ h _ _ Ren.nE (af.lit (a.eval x).cells e) ((Below.refl base w).alloc af.aE _) ?_ ad)
  simp only[R]
  exact .inr ⟨_,0,(a.eval x).cells.toList,.inr (.inl ⟨rfl,rfl,rfl⟩),nH Ren.nE _ _ bH,rfl⟩
 |false=>
  rw[eh]at ad
  simp only[cond_false]at ad
  obtain⟨a7,id,ar,bu,bs,b6,cd,cp⟩:=FJ (t:=e) (c:=(a.eval x).cells) af gG ad bH
  refine dX cV (aQ a7 _ ar _ _ bu bs b6 ?_ cp)
  simp only[R];exact ⟨_,_,cd,rfl⟩
theorem WS{o:Oper}(af:Rel base ρ h w)(he:du ρ env a){t:TypeId}{ps:Array (Nat×Operand)}(a8:o.op=.build t ps)
  (ad:(match zeroCells P t,JB P t with
  |some z,some place=>(oT place z (oM env ps)).bind fun cs=>k (.agg cs) h
  |_,_=>none)=some res)(aQ:fX base ρ w k res o a next):o.e1 ro P a w next Q:=by
 split at ad
 ·rename_i z place bH aa
  simp only[Option.bind_eq_some_iff]at ad
  obtain⟨cs,ak,ad⟩:=ad
  obtain⟨gh,eG,gq,rfl⟩:=x5 bH
  obtain⟨us,h1,h2⟩:=BY he (place:=place) ps.toList _ gh.cells.toList cs ak (Ft _ gq)
  refine dX (val:=.agg us.toArray) (ay:=w) ?_ (aQ.same af (by simp only[R];exact ⟨us,rfl,h2⟩) ad)
  unfold JB at aa
  have akk:(Array.map (fun x:Nat×Operand=>(x.1,a.eval x.2)) ps).toList=ps.toList.map fun p=>(p.1,a.eval p.2):=by simp
  have CW:(ps.map fun(i,x)=>(i,a.eval x)).toList=ps.toList.map fun p=>(p.1,a.eval p.2):=by simp
  split at aa
  ·rename_i fs hu
   cases ey:fs.toList.all fun f=>(eL P f.type).isSome with
   |false=>rw[ey]at aa;simp at aa
   |true=>
    rw[ey]at aa
    simp only[cond_true,Option.some.injEq]at aa
    have hm:=Vl (P:=P) (fun f:Field=>(do pure (f.offset,←sizeOf f.type):Sem (Nat×Nat))) (fun f=>(f.offset,(eL P f.type).getD 0)) fs w (fun f ak w=>by
     have:=List.all_eq_true.1 ey f ak
     obtain⟨n,aM⟩:=Option.isSome_iff_exists.1 this
     simp[hM aM,aM])
    have y6:Instr.fill (fun i=>(fs.map fun f=>(f.offset,(eL P f.type).getD 0))[i]?) gh.cells (ps.map fun(i,x)=>(i,a.eval x)).toList=some us.toArray:=by
     rw[CW,←h1,←aa]
     congr 1
     funext i
     simp
    simp only[execOp,a8,Instr.build,Sem.run_bind,nF eG,Result.andThen_ok,run_underlying hu,hm,y6,Sem.run_pure]
  ·rename_i n e hu
   simp only[Option.map_eq_some_iff]at aa
   obtain⟨s,cf,rfl⟩:=aa
   have y6:Instr.fill (fun i=>some (i*s,s)) gh.cells (ps.map fun(i,x)=>(i,a.eval x)).toList=some us.toArray:=by
    rw[CW,←h1]
   simp only[execOp,a8,Instr.build,Sem.run_bind,nF eG,Result.andThen_ok,run_underlying hu,hM cf,y6,Sem.run_pure]
  ·cases aa
 ·cases ad
theorem Ve{o:Oper}{at_:Option Nat}(af:Rel base ρ h w)(he:du ρ env a)(gG:∀i,at_=some i→h.m i=.fresh∧i<h.next){t:TypeId}{n:Nat}{ps:Array (Nat×Operand)}(a8:o.op=.buildSlice t n ps)
  (ad:(match isSlice P t with
  |some e=>match eL P e with
   |some bo=>(if n*bo=0 then some []else (zeroCells P e).bind fun z=>aJ (z.length=bo) (some (eI z n))).bind fun iO=>
    (oT (fun i=>some (i*bo,bo)) iO (oM env ps)).bind fun cs=>
     aJ (n*bo≤2^20) (
     bif A.lits.any fun t=>o.dst==some t then newAt h at_ cs bo cs.length fun p ar=>k (.slice p n n false) ar
     else k (.slice (.lp true cs 0) n n false) h)
   |none=>none
  |none=>none)=some res)(aQ:fX base ρ w k res o a next):o.e1 ro P a w next Q:=by
 split at ad
 ·rename_i e gR
  split at ad
  ·rename_i bo cf
   simp only[Option.bind_eq_some_iff]at ad
   obtain⟨iO,aO,cs,ak,ad⟩:=ad
   obtain⟨hle,ad⟩:=fe ad
   have hu:=oF gR
   have hzero:∃G7:List Value,bV ρ iO G7∧∀w:World,(do
     let zero←if n*bo=0 then pure #[]else do pure (←zeroValue e).cells
     pure ((Array.range (n*bo)).map (zero[· %zero.size]!)):Sem (Array Value)).run P w=.ok G7.toArray w:=by
    by_cases aM:n*bo=0
    ·rw[if_pos aM]at aO
     simp only[Option.some.injEq]at aO
     subst aO
     exact ⟨[],vO,fun w=>by simp[aM,Array.range_zero']⟩
    ·rw[if_neg aM]at aO
     simp only[Option.bind_eq_some_iff]at aO
     obtain⟨z,bH,aO⟩:=aO
     obtain⟨o5,aO⟩:=fe aO
     simp only[Option.some.injEq]at aO
     subst aO
     obtain⟨gh,eG,gq,rfl⟩:=x5 bH
     simp only[List.length_map,Array.length_toList]at o5
     refine⟨_,Fu gq n,fun w=>?_⟩
     rw[←o5]at aM⊢
     simp only[aM,if_false,Sem.run_bind,nF eG,Result.andThen_ok,Sem.run_pure,Array.toArray_toList]
   obtain⟨G7,adH,aa9⟩:=hzero
   obtain⟨us,h1,h2⟩:=BY he (place:=fun i=>some (i*bo,bo)) ps.toList iO G7 cs ak adH
   have CW:(ps.map fun(i,x)=>(i,a.eval x)).toList=ps.toList.map fun p=>(p.1,a.eval p.2):=by simp
   have cV:∀w:World,(execOp a.eval o).run P w=.ok (.value (.slice (some ⟨w.heap.size,0,none⟩) n n)) (w.alloc (.cells us.toArray e)):=fun w=>by
    have qi:¬n*bo>2^24:=by
     have:(2:Nat)^20≤2^24:=by decide
     omega
    have aO:=aa9 w
    simp only[Sem.run_bind]at aO
    simp only[execOp,a8,Instr.buildSlice,Sem.run_bind,run_underlying hu,Result.andThen_ok,hM cf,if_neg qi,Sem.run_pure,Sem.run_ite]at aO⊢
    by_cases aM:n*bo=0
    ·simp only[aM,if_true,Result.andThen_ok]at aO⊢
     have DF:=(Result.ok.inj aO).1
     simp only[DF,CW,h1]
     simp[newRow]
    ·simp only[aM,if_false]at aO⊢
     cases Tm:(zeroValue e).run P w with
     |halt x ay=>rw[Tm]at aO;simp at aO
     |ok gh ay=>
      rw[Tm]at aO
      simp only[Result.andThen_ok]at aO⊢
      have DF:=(Result.ok.inj aO).1
      have Mk:=(Result.ok.inj aO).2
      subst Mk
      simp only[DF,CW,h1]
      simp[newRow]
   cases eh:A.lits.any fun t=>o.dst==some t with
   |true=>
    rw[eh]at ad
    simp only[cond_true]at ad
    obtain⟨a7,id,ar,bu,bs,b6,cd,cp⟩:=FJ (t:=e) (c:=us.toArray) af gG ad (by simpa using h2)
    refine dX (cV w) (aQ a7 _ ar _ _ bu bs b6 ?_ cp)
    simp only[R]
    exact ⟨_,_,rfl,Nat.le_refl _,Nat.le_refl _,fun _=>rfl,fun hh=>(by cases hh),.inr rfl,fun _=>⟨_,_,cd,rfl⟩,fun _ _ _ _ hh=>by cases hh⟩
   |false=>
    rw[eh]at ad
    simp only[cond_false]at ad
    refine dX (cV w) (aQ _ _ h _ _ Ren.nE (af.lit us.toArray e) ((Below.refl base w).alloc af.aE _) ?_ ad)
    simp only[R]
    exact ⟨_,_,rfl,Nat.le_refl _,Nat.le_refl _,fun _=>rfl,fun hh=>(by cases hh),(by cases cs<;>simp[V.h_,V.bm]),fun _=> .inr ⟨_,0,us,.inr (.inl ⟨rfl,rfl,rfl⟩),nH Ren.nE _ _ h2,rfl⟩,fun _ _ _ hh=>by cases hh⟩
  ·cases ad
 ·cases ad
theorem XN{h:H}{ty:ai}{v:V}{y:ty.C}(aK:ah ty H.empty v=some y):ah ty h v=some y:=by
 cases v
 case lp f cs o=>cases ty<;>exact aK
 case aa id g o=>cases ty<;>simp[ah,H.rd,H.fv,H.from,H.empty]at aK
 all_goals cases ty<;>simp[ah,H.rd,H.fv,H.from]at aK
theorem XO{o:Oper}(af:Rel base ρ h w)(he:du ρ env a){t:TypeId}{x:Operand}(a8:o.op=.load t x)
  {b:Bool}(ad:(match lT P t with
  |some ty=>(ah ty (bif b then H.empty else h) (aR env x)).bind fun x=>k (ty.un x) h
  |none=>none)=some res)(aQ:fX base ρ w k res o a next):o.e1 ro P a w next Q:=by
 split at ad
 ·rename_i ty g_
  simp only[Option.bind_eq_some_iff]at ad
  obtain⟨y,wY,ad⟩:=ad
  have aK:ah ty h (aR env x)=some y:=by
   cases b with
   |false=>exact wY
   |true=>exact XN wY
  have hx:=he.aR x
  have aa:∃p,a.eval x=.pointer (some p):=by
   cases aU:aR env x<;>rw[aU]at aK hx
   case aa=>simp only[R]at hx;obtain⟨b,_,_,hx⟩:=hx;exact ⟨_,hx⟩
   case lp=>
    simp only[R]at hx
    rcases hx with⟨rfl,_⟩|⟨b,i,us,_,_,hx⟩
    ·cases ty<;>simp[ah,H.rd,H.fv,H.from]at aK
    ·exact ⟨_,hx⟩
   all_goals cases ty<;>simp[ah,H.rd,H.fv,H.from]at aK
  obtain⟨p,aa⟩:=aa
  rw[aa]at hx
  obtain⟨val,aq,Ml⟩:=WN af g_ aK hx
  exact dX (val:=val) (ay:=w) (by simp[execOp,a8,Instr.loadAt,aa,Instr.sureAddr,aq]) (aQ.same af Ml ad)
 ·cases ad
theorem WT{o:Oper}(af:Rel base ρ h w)(he:du ρ env a){t:TypeId}{x y:Operand}(a8:o.op=.store t x y)
  (ad:(match eL P t with
  |some n=>mY P t (aR env y) fun vs=>if vs.length=n then(h.aY (aR env x) vs).bind fun ar=>k (.tuple []) ar else none
  |none=>none)=some res)(aQ:fX base ρ w k res o a next):o.e1 ro P a w next Q:=by
 split at ad
 ·rename_i n aM
  obtain⟨vs,ad,hu⟩:=PQ (he.aR y) ad
  split at ad
  ·rename_i aq
   simp only[Option.bind_eq_some_iff]at ad
   obtain⟨ar,hw,ad⟩:=ad
   have hx:=he.aR x
   have aa:∃p,a.eval x=.pointer (some p):=by
    cases agc:aR env x<;>rw[agc]at hw hx
    case aa=>simp only[R]at hx;obtain⟨b,_,_,hx⟩:=hx;exact ⟨_,hx⟩
    all_goals simp[H.aY]at hw
   obtain⟨p,aa⟩:=aa
   rw[aa]at hx
   obtain⟨ay,h1,h2,h3⟩:=F3 (P:=P) af hw hx hu
   have cf:(a.eval y).cells.size=n:=by have:=hu.length;simp at this;omega
   refine Bq (ay:=ay) ?_ (aQ ρ _ ar _ ay (Ren.le.refl _) h2 h3 ur ad)
   simp[execOp,a8,Instr.storeAt,aa,Instr.sureAddr,storeVar,hM aM,cf,h1]
  ·cases ad
 ·cases ad
theorem PR{o:Oper}(af:Rel base ρ h w)(he:du ρ env a){x:Operand}(a8:o.op=.move x∨o.op=.assign x)(ad:k (aR env x) h=some res)(aQ:fX base ρ w k res o a next):o.e1 ro P a w next Q:=by
 refine dX (val:=a.eval x) (ay:=w) ?_ (aQ.same af (he.aR x) ad)
 rcases a8 with a8|a8<;>simp[execOp,a8]
theorem XP{o:Oper}(af:Rel base ρ h w)(he:du ρ env a){c x y:Operand}(a8:o.op=.pick c x y)
  (ad:(match aR env c,aR env x,aR env y with
  |.bool c,.bool p,.bool q=>k (.bool (cond c p q)) h
  |.bool c,HI,Nx=>cond c (k HI h) (k Nx h)
  |_,_,_=>none)=some res)(aQ:fX base ρ w k res o a next):o.e1 ro P a w next Q:=by
 have ao:=he.aR c
 have hx:=he.aR x
 have aK:=he.aR y
 split at ad
 ·rename_i b p q aG e2 bP
  rw[aG,hk]at ao
  rw[e2,hk]at hx
  rw[bP,hk]at aK
  refine dX (val:=.bool (cond b p q)) (ay:=w) ?_ (aQ.same af (hk.2 rfl) ad)
  cases b<;>simp[execOp,a8,ao,hx,aK,asBool]
 ·rename_i b aG _
  rw[aG,hk]at ao
  cases b with
  |true=>exact dX (val:=a.eval x) (ay:=w) (by simp[execOp,a8,ao,asBool]) (aQ.same af hx ad)
  |false=>exact dX (val:=a.eval y) (ay:=w) (by simp[execOp,a8,ao,asBool]) (aQ.same af aK ad)
 ·cases ad
theorem Vw{o:Oper}(af:Rel base ρ h w)(he:du ρ env a){x:Operand}(a8:o.op=.nilCheck x)
  (ad:aJ ((aR env x).cS=true) (k (aR env x) h)=some res)(aQ:fX base ρ w k res o a next):o.e1 ro P a w next Q:=by
 have hx:=he.aR x
 obtain⟨aM,ad⟩:=fe ad
 have cV:(execOp a.eval o).run P w=.ok (.value (a.eval x)) w:=by
  cases aU:aR env x<;>rw[aU]at aM hx<;>simp only[V.cS,Bool.false_eq_true]at aM
  ·simp only[R]at hx;obtain⟨_,_,_,hu⟩:=hx;simp[execOp,a8,hu]
  ·simp only[R]at hx
   rcases hx with⟨rfl,_⟩|⟨_,_,_,_,_,hu⟩
   ·simp at aM
   ·simp[execOp,a8,hu]
  ·simp only[R]at hx;obtain⟨_,hu,_⟩:=hx;simp[execOp,a8,hu]
  ·simp only[R]at hx;obtain⟨_,_,_,hu⟩:=hx;simp[execOp,a8,hu]
 exact dX cV (aQ.same af hx ad)
theorem ZW{op:BinOp}{t:TypeId}{x y:V}{ux rV:Value}(hx:R ρ x ux)(aK:R ρ y rV){β:Type}{k:V→Option β}{res:β}(ad:uI P op t x y k=some res)(gx mb:Operand)(w:World):
  ∃v val,(do eqGuard op t gx mb ux rV;binOp op t ux rV:Sem Value).run P w=.ok val w∧R ρ v val∧k v=some res:=by
 unfold uI at ad
 split at ad
 ·rw[dA]at hx aK;subst hx;subst aK;exact XL ad t gx mb w
 ·rw[y5]at hx aK;subst hx;subst aK;exact XM ad t gx mb w
 ·rename_i b c
  rw[hk]at hx aK;subst hx;subst aK
  cases aE:isBool P t with
  |false=>rw[aE]at ad;simp at ad
  |true=>
   have hu:P.underlying t=some .bool:=by unfold isBool at aE;split at aE<;>simp_all
   rw[aE]at ad
   simp only[cond_true]at ad
   have aQ:eqGuard op t gx mb (.bool b) (.bool c)=pure ():=eqGuard_at_bool ..
   rw[aQ]
   simp only[pure_bind]
   cases op<;>simp only[reduceCtorEq]at ad
   ·exact ⟨_,_,run_eql_bool w t b c hu,hk.2 rfl,ad⟩
   ·exact ⟨_,_,run_neq_bool w t b c hu,hk.2 rfl,ad⟩
 ·rename_i v l c gZ
  cases wT:((isSlice P t).isSome&&!v.h_)with
  |false=>rw[wT]at ad;simp at ad
  |true=>
   have aE:(isSlice P t).isSome=true:=by simp_all
   have akl:v.h_=false:=by simp_all
   obtain⟨e,gR⟩:=Option.isSome_iff_exists.1 aE
   have hu:=oF gR
   rw[wT]at ad
   simp only[cond_true]at ad
   obtain⟨p,bg,rfl,_,_,_,_,ba,_,_⟩:=mv hx
   obtain⟨bO,a_,rfl,cy,dd,dF,gy,ki,_,_⟩:=mv aK
   have ba:p.isSome=v.bm:=by rcases ba with ba|ba<;>simp_all
   have nd:bO=none:=by cases bO<;>simp_all [V.bm,V.h_]
   subst nd
   have aQ:eqGuard op t gx mb (.slice p l bg) (.slice none 0 a_)=pure ():=eqGuard_at_slice ..
   rw[aQ]
   simp only[pure_bind]
   have heq:(Op.equal t (.slice p l bg) (.slice none 0 a_)).run P w=.ok (!v.bm) w:=by
    have gen:∀d,(Op.equalIn (d+1) t (.slice p l bg) (.slice none 0 a_)).run P w=.ok (!v.bm) w:=fun d=>by
     rw[←ba]
     cases p<;>simp[Op.equalIn,run_underlying hu]
    exact gen 9999
   cases op<;>simp only[reduceCtorEq]at ad
   ·exact ⟨_,.bool (!v.bm),by simp[binOp,heq],hk.2 rfl,ad⟩
   ·exact ⟨_,.bool v.bm,by simp[binOp,heq],hk.2 rfl,ad⟩
 ·rename_i xs ys
  split at ad
  ·rename_i fz ak
   cases aq:(fits fz xs&&fits fz ys)with
   |false=>rw[aq]at ad;simp at ad
   |true=>
    rw[aq]at ad
    simp only[cond_true]at ad
    obtain⟨gY,h5⟩:=Bool.and_eq_true_iff.1 aq
    simp only[R]at hx aK
    obtain⟨us,rfl,hx⟩:=hx
    obtain⟨vs,rfl,aK⟩:=aK
    unfold FH at ak
    split at ak
    ·rename_i fs hu
     cases ey:(!(P.stoodInHeld t)&&(fs.toList.zipIdx.all fun(f,i)=>f.offset==i&&f.name != "_"&&((pG P f.type).isSome ||isBool P f.type)))with
     |false=>rw[ey]at ak;simp at ak
     |true=>
      rw[ey]at ak
      simp only[cond_true,Option.some.injEq]at ak
      subst ak
      simp only[Bool.and_eq_true,Bool.not_eq_true',List.all_eq_true]at ey
      obtain⟨a6,ey⟩:=ey
      have lY:∀p∈fs.toList.zipIdx 0,p.1.offset=p.2∧p.1.name≠ "_"∧((pG P p.1.type).isSome ||isBool P p.1.type)=true:=fun p aa=>by
       have:=ey p aa
       simpa[and_assoc]using this
      have DE:P.fieldsOf t=fs:=by simp[Program.fieldsOf,hu]
      have RG:∀w,(eqGuard op t gx mb (.agg us.toArray) (.agg vs.toArray)).run P w=.ok () w:=fun w=>by
       have sJ:P.eqGuardType P.depth t=false:=by
        have bF:∃d,P.depth=d+2:=⟨2*(P.types.size+Made.depth),rfl⟩
        obtain⟨d,bF⟩:=bF
        rw[bF]
        simp only[Program.eqGuardType,hu]
        rw[←Array.any_toList]
        rw[List.any_eq_false]
        intro f ak
        obtain⟨i,hi,rfl⟩:=List.getElem_of_mem ak
        have:=(lY (fs.toList[i],i) (by rw[List.mem_zipIdx_iff_getElem?];simp[hi])).2.2
        rcases Bool.or_eq_true_iff.1 this with this|this
        ·obtain⟨u9,rF⟩:=Option.isSome_iff_exists.1 this
         rw[Bp rF]
         simp
        ·unfold isBool at this
         split at this
         ·rename_i hu
          rw[hu]
          simp
         ·cases this
       cases op<;>simp[eqGuard,sJ]
      have key:∀r,lJ xs ys=some r→(Op.equal t (.agg us.toArray) (.agg vs.toArray)).run P w=.ok r w:=fun r af=>by
       have gen:∀d,(Op.equalIn (d+2) t (.agg us.toArray) (.agg vs.toArray)).run P w=.ok r w:=fun d=>by
        rw[run_equalIn_struct w (d+1) t us.toArray vs.toArray (by rw[DE];exact hu) a6,DE]
        exact E3 (ρ:=ρ) (P:=P) d fs.toList 0 xs ys us vs r w lY hx aK gY h5 af [] [] rfl rfl
       exact gen 9998
      cases op<;>simp only[Option.bind_eq_some_iff,reduceCtorEq]at ad
      ·obtain⟨r,af,ad⟩:=ad
       exact ⟨_,.bool r,by simp only[Sem.run_bind,RG,Result.andThen_ok,binOp,key r af,Sem.run_pure],hk.2 rfl,ad⟩
      ·obtain⟨r,af,ad⟩:=ad
       exact ⟨_,.bool (!r),by simp only[Sem.run_bind,RG,Result.andThen_ok,binOp,key r af,Sem.run_pure],hk.2 rfl,ad⟩
    ·cases ak
  ·cases ad
 ·cases ad
theorem WU{o:Oper}(af:Rel base ρ h w)(he:du ρ env a){op:BinOp}{t ea:TypeId}{x y:Operand}(a8:o.op=.binOp op t x y ea)(ad:(uI P op t (aR env x) (aR env y) fun v=>k v h)=some res)
  (aQ:fX base ρ w k res o a next):o.e1 ro P a w next Q:=by
 obtain⟨v,val,h1,h2,h3⟩:=ZW (he.aR x) (he.aR y) ad x y w
 refine dX (val:=val) (ay:=w) ?_ (aQ.same af h2 h3)
 simp only[Sem.run_bind]at h1
 simp only[execOp,a8,Sem.run_bind,h1,Result.andThen_ok,Sem.run_pure]
theorem XQ{o:Oper}(af:Rel base ρ h w)(he:du ρ env a){op:UnOp}{t:TypeId}{x:Operand}(a8:o.op=.unOp op t x)(ad:(wQ op (aR env x) fun v=>k v h)=some res)
  (aQ:fX base ρ w k res o a next):o.e1 ro P a w next Q:=by
 have hx:=he.aR x
 unfold wQ at ad
 split at ad
 ·rename_i kd n e
  rw[e,dA]at hx
  exact dX (val:=.int kd (kd.wrap (0-n))) (ay:=w) (by simp[execOp,a8,hx,Op.unary,Op.intArith]) (aQ.same af (dA.2 rfl) ad)
 ·rename_i b e
  rw[e,hk]at hx
  exact dX (val:=.bool (!b)) (ay:=w) (by simp[execOp,a8,hx,Op.unary]) (aQ.same af (hk.2 rfl) ad)
 ·rename_i kd n e
  rw[e,dA]at hx
  exact dX (val:=.int kd (gl .xor kd (if kd.signed then -1 else kd.max) n)) (ay:=w) (by simp[execOp,a8,hx,Op.unary,Op.intBits,gl]) (aQ.same af (dA.2 rfl) ad)
 ·cases ad
theorem VN{o:Oper}(af:Rel base ρ h w)(he:du ρ env a){src dst:TypeId}{x:Operand}(a8:o.op=.convert src dst x)
  (ad:(bif (P.underlying src).isNone then none else match pG P dst,aR env x with
  |some kd,.int _ n=>k (.int kd (kd.wrap n)) h
  |none,.str s=>match P.underlying dst with
   |some .string=>k (.str s) h
   |_=>none
  |_,_=>none)=some res)(aQ:fX base ρ w k res o a next):o.e1 ro P a w next Q:=by
 have hx:=he.aR x
 cases zJ:P.underlying src with
 |none=>rw[zJ]at ad;simp at ad
 |some d=>
  rw[zJ]at ad
  simp only[Option.isNone_some,cond_false]at ad
  split at ad
  ·rename_i kd aH n bF e
   rw[e,dA]at hx
   exact dX (val:=.int kd (kd.wrap n)) (ay:=w) (by simp[execOp,a8,hx,convert,run_underlying zJ,run_underlying (Bp bF),Conv.intToInt]) (aQ.same af (dA.2 rfl) ad)
  ·rename_i s bF e
   rw[e,y5]at hx
   split at ad
   ·rename_i hu
    exact dX (val:=.string s) (ay:=w) (by simp[execOp,a8,hx,convert,run_underlying zJ,run_underlying hu]) (aQ.same af (y5.2 rfl) ad)
   ·cases ad
  ·cases ad
theorem Vx{o:Oper}(af:Rel base ρ h w)(he:du ρ env a){f:FuncId}{cs:Array Operand}(a8:o.op=.makeFunc (.func f) #[] cs)(ad:k (.func f (cs.toList.map (aR env))) h=some res)
  (aQ:fX base ρ w k res o a next):o.e1 ro P a w next Q:=by
 refine dX (val:=.func (.func f) #[] (cs.map a.eval)) (ay:=w) (by simp only[execOp,a8,Instr.makeFunc,Sem.run_bind,Sem.run_pure,Result.andThen_ok,Array.map_empty]) (aQ.same af ?_ ad)
 simp only[R]
 exact ⟨(cs.map a.eval).toList,by rw[Array.toArray_toList],he.args cs⟩
theorem Vm{o:Oper}{at_:Option Nat}(af:Rel base ρ h w)(he:du ρ env a)(gG:∀i,at_=some i→h.m i=.fresh∧i<h.next){t:TypeId}{x y:Operand}(a8:o.op=.makeSlice t x y)
  (ad:(match isSlice P t,aR env x,aR env y with
  |some e,.int .i64 l,.int .i64 c=>match zeroCells P e,pP P e,eL P e with
   |some z,some bytes,some bo=>aJ (0≤l∧l≤c∧c≤ei∧bytes≤2^11∧z.length=bo)
     (newAt h at_ (eI z c.toNat) bo (c.toNat*bo) fun p ar=>k (.slice p l.toNat c.toNat true) ar)
   |_,_,_=>none
  |_,_,_=>none)=some res)(aQ:fX base ρ w k res o a next):o.e1 ro P a w next Q:=by
 have hx:=he.aR x
 have aK:=he.aR y
 split at ad
 ·rename_i e l c gR aG e2
  rw[aG,dA]at hx
  rw[e2,dA]at aK
  split at ad
  ·rename_i z bytes bo bH aE cf
   obtain⟨⟨bu,bs,b6,cd,cp⟩,ad⟩:=fe ad
   obtain⟨gh,eG,gq,rfl⟩:=x5 bH
   obtain⟨i,hi,agd⟩:=Oj eG
   obtain⟨c3,ej,tl⟩:=E2 aE
   rw[hi]at ej;cases ej
   obtain⟨c3,ej,age⟩:=Ol cf
   rw[hi]at ej;cases ej
   have hlen:(eI (gh.cells.toList.map ofConst) c.toNat).length=c.toNat*bo:=by rw[vi,cp]
   rw[←hlen]at ad
   have nf:gh.cells.size=bo:=by simpa using cp
   have k8:ei=68719476736:=rfl
   rw[k8]at b6
   have aa:(i.bytes:Int)*c≤281474976710656:=by
    have h1:(i.bytes:Int)≤2048:=by rw[tl];omega
    have h2:(i.bytes:Int)*c≤2048*c:=Int.mul_le_mul_of_nonneg_right h1 (by omega)
    omega
   have cV:=run_make (P:=P) w t e i gh (oF gR) hi agd .i64 .i64 l c bu bs aa (by omega)
   obtain⟨a7,id,ar,aw,aH,aW,bq,bU⟩:=FJ (t:=e) (c:=madeCells gh.cells (c.toNat*i.size)) af gG ad (by
    have:=Fu (ρ:=ρ) gq c.toNat
    rw[age,←nf]
    exact this)
   refine dX (val:=.slice (some ⟨w.heap.size,0,none⟩) l.toNat c.toNat) (ay:=w.alloc (.cells (madeCells gh.cells (c.toNat*i.size)) e)) (by simp only[execOp,a8,hx,aK,Sem.run_bind,cV,Result.andThen_ok,Sem.run_pure]) (aQ a7 _ ar _ _ aw aH aW ?_ bU)
   simp only[R]
   refine⟨_,_,rfl,by omega,Nat.le_refl _,fun _=>rfl,fun hh=>(by cases hh),.inr rfl,fun _=>⟨_,_,bq,rfl⟩,fun da g dL hh _=>?_⟩
   cases hh
   exact ⟨_,_,bq,rfl⟩
  ·cases ad
 ·cases ad
theorem Vn{o:Oper}(af:Rel base ρ h w)(he:du ρ env a){t:TypeId}{x:Operand}{f:Nat}(a8:o.op=.fieldAddr t x f)
  (ad:(match yt P t f with
  |some (off,pn)=>match eL P pn with
   |some (_+1)=>aJ ((aR env x).bm=true) (k ((aR env x).add off) h)
   |_=>none
  |none=>none)=some res)(aQ:fX base ρ w k res o a next):o.e1 ro P a w next Q:=by
 have hx:=he.aR x
 split at ad
 ·rename_i off pn ak
  split at ad
  ·rename_i n cf
   obtain⟨aM,ad⟩:=fe ad
   obtain⟨q,aV⟩:=K7 aM hx
   rw[aV]at hx
   unfold yt at ak
   split at ak
   ·rename_i fs hu
    simp only[Option.map_eq_some_iff,Prod.mk.injEq]at ak
    obtain⟨fd,gS,rfl,rfl⟩:=ak
    exact dX (val:=.pointer (some (q.add fd.offset))) (ay:=w) (by simp[execOp,a8,aV,Instr.fieldAt,run_underlying hu,gS,Instr.sureAddr,fieldPlace,hM cf]) (aQ.same af (Cd (aV▸hx) _) ad)
   ·cases ak
  ·cases ad
 ·cases ad
theorem Q7{t:TypeId}{cs:List V}{off:Nat}{v:V}(ad:uz P t cs off=some v){us:List Value}(ao:bV ρ cs us)(w:World):∃u,(part t us.toArray off).run P w=.ok u w∧R ρ v u:=by
 unfold uz at ad
 split at ad
 ·rename_i l n g_
  obtain⟨u,h1,h2,h3⟩:=ao.at ad
  exact ⟨u,by simp[part,vI (PK g_),h1],h3⟩
 ·rename_i l n g_ cf
  split at ad
  ·rename_i hle
   simp only[Option.some.injEq]at ad
   subst ad
   refine⟨.agg (us.toArray.extract off (off+n)),by simp[part,vI (Qq g_).1,hM cf], ?_⟩
   simp only[R]
   refine⟨(us.drop off).take n, ?_,(ao.drop off).take n⟩
   congr 1
   apply Array.ext'
   simp[List.extract_eq_take_drop]
  ·cases ad
 ·cases ad
theorem WV{o:Oper}(af:Rel base ρ h w)(he:du ρ env a){t:TypeId}{x:Operand}{f:Nat}(a8:o.op=.field t x f)
  (ad:(match yt P t f,aR env x with
  |some (off,pn),.agg cs=>(uz P pn cs off).bind fun v=>k v h
  |_,_=>none)=some res)(aQ:fX base ρ w k res o a next):o.e1 ro P a w next Q:=by
 have hx:=he.aR x
 split at ad
 ·rename_i off pn cs ak e
  simp only[Option.bind_eq_some_iff]at ad
  obtain⟨v,aU,ad⟩:=ad
  rw[e]at hx
  simp only[R]at hx
  obtain⟨us,hu,ao⟩:=hx
  obtain⟨u,h1,h2⟩:=Q7 aU ao w
  unfold yt at ak
  split at ak
  ·rename_i fs z6
   simp only[Option.map_eq_some_iff,Prod.mk.injEq]at ak
   obtain⟨fd,gS,rfl,rfl⟩:=ak
   exact dX (val:=u) (ay:=w) (by simp[execOp,a8,hu,Instr.field,run_underlying z6,gS,asAgg,h1]) (aQ.same af h2 ad)
  ·cases ak
 ·cases ad
theorem Vo{o:Oper}(af:Rel base ρ h w)(he:du ρ env a){t:TypeId}{x y:Operand}(a8:o.op=.indexAddr t x y)
  (ad:(match isSlice P t with
  |some e=>match aR env x,aR env y with
   |.slice a len _ _,.int _ i=>match eL P e with
    |some size=>aJ (0≤i∧i<len) (k (a.add (i.toNat*size)) h)
    |none=>none
   |_,_=>none
  |none=>match uh P t,aR env y with
   |some (n,e),.int _ i=>match eL P e with
    |some size=>aJ ((aR env x).bm=true∧0≤i∧i<n) (k ((aR env x).add (i.toNat*size)) h)
    |none=>none
   |_,_=>none)=some res)(aQ:fX base ρ w k res o a next):o.e1 ro P a w next Q:=by
 have hx:=he.aR x
 have aK:=he.aR y
 split at ad
 ·rename_i e gR
  split at ad
  ·rename_i v len cap gZ kd i aG e2
   rw[e2,dA]at aK
   rw[aG]at hx
   split at ad
   ·rename_i size cf
    obtain⟨⟨bu,bs⟩,ad⟩:=fe ad
    obtain⟨p,bg,hu,cy,dd,dF,gy,ki,jM,pq⟩:=mv hx
    have aU:=jM (by omega)
    cases p with
    |none=>have:=gy rfl;omega
    |some q=>
     refine dX (val:=.pointer (some (q.add (i.toNat*size)))) (ay:=w) ?_ (aQ.same af (Cd aU _) ad)
     simp[execOp,a8,hu,aK,Instr.indexAt,asIntOf,run_underlying (oF gR),bu,bs,hM cf]
   ·cases ad
  ·cases ad
 ·split at ad
  ·rename_i n e kd i lb e2
   rw[e2,dA]at aK
   split at ad
   ·rename_i size cf
    obtain⟨⟨ox,bu,bs⟩,ad⟩:=fe ad
    obtain⟨q,aV⟩:=K7 ox hx
    rw[aV]at hx
    refine dX (val:=.pointer (some (q.add (i.toNat*size)))) (ay:=w) ?_ (aQ.same af (Cd (aV▸hx) _) ad)
    simp[execOp,a8,aV,aK,Instr.indexAt,asIntOf,run_underlying (IN lb),Instr.sureAddr,bu,bs,hM cf]
   ·cases ad
  ·cases ad
theorem WW{o:Oper}(af:Rel base ρ h w)(he:du ρ env a){t:TypeId}{x y:Operand}(a8:o.op=.index t x y)
  (ad:(match aR env x,aR env y with
  |.agg cs,.int _ i=>match uh P t with
   |some (n,e)=>match eL P e with
    |some size=>aJ (0≤i∧i<n) ((uz P e cs (i.toNat*size)).bind fun v=>k v h)
    |none=>none
   |none=>none
  |.str s,.int _ i=>match P.underlying t with
   |some .string=>aJ (0≤i∧i<s.size) (k (.int .u8 (((s.data[i.toNat]?).map UInt8.toNat).getD 0:Nat)) h)
   |_=>none
  |_,_=>none)=some res)(aQ:fX base ρ w k res o a next):o.e1 ro P a w next Q:=by
 have hx:=he.aR x
 have aK:=he.aR y
 split at ad
 ·rename_i cs kd i aG e2
  rw[e2,dA]at aK
  rw[aG]at hx
  simp only[R]at hx
  obtain⟨us,hu,ao⟩:=hx
  split at ad
  ·rename_i n e lb
   split at ad
   ·rename_i size cf
    obtain⟨⟨bu,bs⟩,ad⟩:=fe ad
    simp only[Option.bind_eq_some_iff]at ad
    obtain⟨v,aU,ad⟩:=ad
    obtain⟨u,h1,h2⟩:=Q7 aU ao w
    exact dX (val:=u) (ay:=w) (by simp[execOp,a8,hu,aK,Instr.index,asIntOf,run_underlying (IN lb),bu,bs,hM cf,h1]) (aQ.same af h2 ad)
   ·cases ad
  ·cases ad
 ·rename_i s kd i aG e2
  rw[e2,dA]at aK
  rw[aG,y5]at hx
  split at ad
  ·rename_i hu
   obtain⟨⟨bu,bs⟩,ad⟩:=fe ad
   have bn:i.toNat<s.size:=by omega
   have mB:s[i.toNat]? =some s[i.toNat]:=by simp[bn]
   refine dX (val:=.int .u8 s[i.toNat].toNat) (ay:=w) ?_ (aQ.same af (dA.2 ?_) ad)
   ·simp[execOp,a8,hx,aK,Instr.index,asIntOf,run_underlying hu,bu,mB]
   ·have:s.data[i.toNat]? =some s[i.toNat]:=by
     rw[Array.getElem?_eq_getElem bn];rfl
    rw[this]
    rfl
  ·cases ad
 ·cases ad
theorem VO{o:Oper}(af:Rel base ρ h w)(he:du ρ env a){x:Operand}{i:Nat}(a8:o.op=.extract x i)
  (ad:(match aR env x with
  |.tuple vs=>(vs[i]?).bind fun v=>k v h
  |_=>none)=some res)(aQ:fX base ρ w k res o a next):o.e1 ro P a w next Q:=by
 have hx:=he.aR x
 split at ad
 ·rename_i vs e
  simp only[Option.bind_eq_some_iff]at ad
  obtain⟨v,aU,ad⟩:=ad
  rw[e]at hx
  simp only[R]at hx
  obtain⟨us,hu,aq⟩:=hx
  obtain⟨u,h1,h2⟩:=aq.at aU
  exact dX (val:=u) (ay:=w) (by simp[execOp,a8,hu,Instr.extract,h1]) (aQ.same af h2 ad)
 ·cases ad
theorem WX{o:Oper}(af:Rel base ρ h w)(he:du ρ env a){t:TypeId}{x:Operand}{lo hi ju:Option Operand}(a8:o.op=.slice t x lo hi ju)
  (ad:(match isSlice P t with
  |some e=>match aR env x with
   |.slice a len cap tail=>match eL P e with
    |some size=>ra size a len cap tail (lo.map (aR env)) (hi.map (aR env)) (ju.map (aR env)) fun v=>k v h
    |none=>none
   |_=>none
  |none=>match uh P t with
   |some (n,e)=>match eL P e with
    |some size=>aJ ((aR env x).bm=true) (ra size (aR env x) n n false (lo.map (aR env)) (hi.map (aR env)) (ju.map (aR env)) fun v=>k v h)
    |none=>none
   |none=>none)=some res)(aQ:fX base ρ w k res o a next):o.e1 ro P a w next Q:=by
 have hx:=he.aR x
 split at ad
 ·rename_i e gR
  split at ad
  ·rename_i v len cap gZ aG
   rw[aG]at hx
   split at ad
   ·rename_i size cf
    obtain⟨p,bg,hu,cy,dd,dF,gy,ki,jM,pq⟩:=mv hx
    obtain⟨b3,fa,qC,gJ,h1,h2,h3⟩:=PL (P:=P) he ad cy dd dF gy ki jM pq true w
    refine dX (ay:=w) ?_ (aQ.same af h2 h3)
    simp[execOp,a8,hu,Instr.sliceAt,Instr.slice,run_underlying (oF gR),h1,hM cf]
   ·cases ad
  ·cases ad
 ·split at ad
  ·rename_i n e lb
   split at ad
   ·rename_i size cf
    obtain⟨ox,ad⟩:=fe ad
    obtain⟨q,aV⟩:=K7 ox hx
    rw[aV]at hx
    obtain⟨b3,fa,qC,gJ,h1,h2,h3⟩:=PL (P:=P) (p:=some q) (bg:=n) he ad (Nat.le_refl _) (Nat.le_refl _) (fun _=>rfl) (fun hh=>by cases hh) (.inr (by rw[ox];rfl)) (fun _=>hx) (fun _ _ _ _ hh=>by cases hh) false w
    refine dX (ay:=w) ?_ (aQ.same af h2 h3)
    simp only[execOp,a8,aV,Instr.sliceAt,Sem.run_bind,run_underlying (IN lb),Result.andThen_ok,Instr.sureAddr,Sem.run_pure,h1,hM cf]
    split<;>rfl
   ·cases ad
  ·cases ad
theorem XR{t:TypeId}{v:V}{β:Type}{k:V→Option β}{res:β}(ad:yQ P t v k=some res):k v=some res:=by
 unfold yQ at ad
 split at ad
 ·rename_i r af
  simp only[Option.bind_eq_some_iff]at ad
  obtain⟨x,hx,ad⟩:=ad
  rw[an.fu r v x hx]at ad
  exact ad
 ·cases ad
theorem IS{b:Bool}{t:TypeId}{v:V}{β:Type}{k:V→Option β}{res:β}(ad:q_ b P t v k=some res):k v=some res:=by
 cases b with
 |false=>exact XR ad
 |true=>
  simp only[q_,cond_true,BW]at ad
  split at ad
  ·simp only[Option.bind_eq_some_iff]at ad
   obtain⟨y,aK,ad⟩:=ad
   rw[ai.fu _ _ y aK]at ad
   exact ad
  ·cases ad
theorem Bj{g:FuncId}{fn:Func}(ak:P.funcs[g]? =some fn)(aE:fn.body.isNone=false)(aM:(fn.name== "runtime.NumGoroutine")=false)(args:Array Value)(w:World):(callFunc g args).run P w=.ok (.enter g args) w:=by
 simp only[callFunc,Sem.run_bind,run_program,Result.andThen_ok,ak,aM,aE,Bool.false_eq_true,if_false,Sem.run_pure]
theorem XS{o:Oper}(bt:eT P T)(hG:ob P base ρ T.dg.l8)(af:Rel base ρ h w)(he:du ρ env a){f:Operand}{args:Array Operand}{ts:Array TypeId}(a8:o.op=.call {callee:=.value f,args:=args,argTypes:=ts})
  {q ajk u:Bool}(ad:m3 q ajk (T.at f) (aR env f) (args.toList.map (aR env)) h (fun v ar=>q_ u P o.type v fun v=>k v ar)=some res)(aQ:fX base ρ w k res o a next):o.e1 ro P a w next Q:=by
 have ad:=(Jm ad).1
 have z7:=he.aR f
 rcases Jl (bt.at _) ad with⟨g,cs,r,ar,aU,ao,aN⟩|⟨id,r,ar,aU,ao,aN⟩
 ·have lO:=(((bt.at _).1 g _ h).2 r ar ao).2
  have aN:=IS aN
  rw[aU]at z7
  simp only[R]at z7
  obtain⟨us,hu,aq⟩:=z7
  have y7:=(he.args args).append aq
  have yT:=lO base ρ w _ af y7
  have cV:(execOp a.eval o).run P w=(callFunc g (#[]++args.map a.eval++us.toArray)).run P w:=by
   simp only[execOp,a8,resolve,Sem.run_bind,hu,Deferred.ofValue,Sem.run_pure,Result.andThen_ok,invoke]
  have lb:((args.map a.eval).toList++us).toArray= #[]++args.map a.eval++us.toArray:=by
   apply Array.ext'
   simp
  rw[lb]at yT
  have uL:∀e ay,rD base ρ ar r w e ay→∃val,e=.returned val∧next (a.put o.dst val) ay:=fun e ay fP=>by
   obtain⟨a7,val,bu,bs,b6,rfl,cp⟩:=fP
   exact ⟨val,rfl,aQ a7 r ar val ay bu bs b6 cp aN⟩
  unfold Oper.e1
  rw[cV]
  rcases yT with⟨aG,e2⟩|⟨val,ay,aG,e2⟩
  ·rw[aG]
   refine⟨fun h=>(by cases h), ?_⟩
   have bP:CallsIn (iW ro) (0-1) P g (#[]++args.map a.eval++us.toArray) w (rD base ρ ar r w):=callsIn_wide.2 e2
   refine CallsIn.mono bP fun e ay fP=>?_
   obtain⟨val,rfl,aM⟩:=uL e ay fP
   exact aM
  ·rw[aG]
   obtain⟨aj3,mF,aM⟩:=uL _ _ e2
   cases mF
   exact aM
 ·have aN:=IS aN
  rw[Table.aa8]at ao
  obtain⟨da,alo,aau,lO⟩:=hG _ _ _ _ ao
  cases aau
  rw[aU]at z7
  simp only[R]at z7
  obtain⟨b,x,aE,hu⟩:=z7
  obtain⟨hF,tmps,Tn,UO,ay,aK,F4⟩:=lO ρ w _ b x (Ren.le.refl _) af (he.args args) aE
  have cV:(execOp a.eval o).run P w=.ok (.round b hF tmps Tn UO) ay:=by
   have lb:(#[]++args.map a.eval:Array Value)=(args.map a.eval).toList.toArray:=by
    apply Array.ext'
    simp
   simp only[execOp,a8,resolve,Sem.run_bind,hu,Deferred.ofValue,Sem.run_pure,Result.andThen_ok,invoke,lb,aK]
  unfold Oper.e1
  rw[cV]
  refine⟨fun h=>(by cases h), ?_⟩
  have bP:RoundIn (iW ro) (0-1) P b hF tmps Tn UO ay (rD base ρ ar r w):=F4
  refine RoundIn.mono bP fun e w2 fP=>?_
  obtain⟨a7,val,bu,bs,b6,rfl,cp⟩:=fP
  exact aQ a7 r ar val w2 bu bs b6 cp aN
theorem Vp{ts:Array TypeId}{ty t u e dn:TypeId}{bo:Nat}(aO:ts[0]? =some t)(h1:ts[1]? =some u)(bk:P.underlying t=some (.slice e))(hu:P.underlying u=some (.slice dn))(cf:eL P e=some bo)
  {p gx:Option Addr}{sl sc n qF:Nat}{news:List Value}{w ay:World}(p6:(Builtin.firstCells bo n (.slice gx n qF)).run P w=.ok news.toArray w)(j0:sl+n≤sc)
  (a6:(p=none∧ay=w)∨∃q,p=some q∧(storeCells (q.add (sl*bo)) news).run P w=.ok () ay):
  (Builtin.append_ ts ty #[.slice p sl sc,.slice gx n qF]).run P w=.ok (.slice p (sl+n) sc) ay:=by
 rcases a6 with⟨rfl,rfl⟩|⟨q,rfl,a6⟩
 ·simp[Builtin.append_,aO,h1,run_underlying bk,run_underlying hu,hM cf,Builtin.lenOf,j0,p6]
 ·simp[Builtin.append_,aO,h1,run_underlying bk,run_underlying hu,hM cf,Builtin.lenOf,j0,p6,a6]
theorem Vq{ts:Array TypeId}{ty t u e dn:TypeId}{bo bytes:Nat}{z:Value}(aO:ts[0]? =some t)(h1:ts[1]? =some u)(bk:P.underlying t=some (.slice e))(hu:P.underlying u=some (.slice dn))(cf:eL P e=some bo)
  (ng:pP P e=some bytes)(bH:zeroOf P e=some z)
  {p gx:Option Addr}{sl sc n qF:Nat}{olds news:List Value}{w:World}(hold:∀ay,ay.heap=w.heap→(Builtin.firstCells bo sl (.slice p sl sc)).run P ay=.ok olds.toArray ay)
  (p6:∀ay,ay.heap=w.heap→(Builtin.firstCells bo n (.slice gx n qF)).run P ay=.ok news.toArray ay)(qi:sc<sl+n)(k8:sl+n≤ei)(aE:bytes≤2^11):
  (Builtin.append_ ts ty #[.slice p sl sc,.slice gx n qF]).run P w=.ok (.slice (some ⟨w.heap.size,0,none⟩) (sl+n) (grownCap w (sl+n) sc e))
   (w.drew.alloc (.cells (olds.toArray++news.toArray++Builtin.zeroCells z.cells (grownCap w (sl+n) sc e-(sl+n))) e)):=by
 obtain⟨i,hi,tl⟩:=E2 ng
 have af:ei=68719476736:=rfl
 rw[af]at k8
 have lh:(sl+n)*i.bytes≤140737488355328:=by
  have h1:(sl+n)*i.bytes≤68719476736*2048:=Nat.mul_le_mul k8 (by rw[tl];simpa using aE)
  omega
 have j0:=growslice_fits (bytes:=i.bytes) qi lh
 have aM:¬(sl+n≤sc):=by omega
 have GG:¬(9223372036854775807<((sl:Int)+(n:Int))):=by omega
 have GH:¬(281474976710656<Builtin.nextslicecap (sl+n) sc*i.bytes):=by omega
 have lk:=hold w.drew rfl
 have kF:=p6 w.drew rfl
 simp[Builtin.append_,aO,h1,run_underlying bk,run_underlying hu,hM cf,typeInfo,hi,nF bH,Builtin.lenOf,aM,GG,GH,Question.forced,lk,kF,newRow,grownCap,-List.append_toArray,-List.append_assoc,-Array.append_assoc]
theorem Ik{bo n:Nat}{u:Value}{p:Option Addr}{bg:Nat}{us:List Value}{w ay:World}(hw:ay.heap=w.heap)(hlen:us.length=n*bo)
  (ao:(n=0∧us=[])∨∃b o,p=some ⟨b,o,none⟩∧∀j x,us[j]? =some x→w.cell? ((⟨b,o,none⟩:Addr).add j)=some x)(m:Nat):(Builtin.firstCells bo n (.slice p m bg)).run P ay=.ok us.toArray ay:=by
 rcases ao with⟨rfl,rfl⟩|⟨b,o,rfl,ao⟩
 ·cases p<;>simp[Builtin.firstCells,loadCells,loadCellsFrom]
 ·refine run_firstCells_some ay bo n _ m bg us hlen fun j v aU=>?_
  have:=ao j v aU
  simpa[World.cell?,hw]using this
theorem Vf{ts:Array TypeId}{ty t u e:TypeId}{bo bytes:Nat}{z:Value}(aO:ts[0]? =some t)(h1:ts[1]? =some u)(bk:P.underlying t=some (.slice e))(hu:P.underlying u=some (.int .i64))(cf:eL P e=some bo)
  (ng:pP P e=some bytes)(bH:zeroOf P e=some z)(nf:z.cells.size=bo){k:IntKind}{m:Int}(G8:0≤m)(hm:m≤ei)(aE:bytes≤2^11)
  {p:Option Addr}{sl sc:Nat}{w ay:World}(j0:sl+m.toNat≤sc)
  (a6:(p=none∧ay=w)∨∃q,p=some q∧(storeCells (q.add (sl*bo)) (Builtin.zeroCells z.cells m.toNat).toList).run P w=.ok () ay):
  (Builtin.append_ ts ty #[.slice p sl sc,.int k m]).run P w=.ok (.slice p (sl+m.toNat) sc) ay:=by
 obtain⟨i,hi,tl⟩:=E2 ng
 have af:ei=68719476736:=rfl
 rw[af]at hm
 have hw:IntKind.i64.wrap m=m:=by rw[IntKind.wrap_i64];omega
 have sJ:¬m<0:=by omega
 have lh:¬(281474976710656<m*(i.bytes:Int)):=by
  have h1:(i.bytes:Int)≤2048:=by rw[tl];omega
  have h2:m*(i.bytes:Int)≤m*2048:=Int.mul_le_mul_of_nonneg_left h1 G8
  omega
 by_cases qj:m.toNat*bo=0
 ·have wZ:Builtin.zeroCells z.cells m.toNat= #[]:=by simp[Builtin.zeroCells,nf,qj]
  rw[wZ]at a6
  rcases a6 with⟨rfl,rfl⟩|⟨q,rfl,a6⟩
  ·simp[Builtin.append_,aO,h1,run_underlying bk,run_underlying hu,hM cf,asInt,asIntOf,typeInfo,hi,hw,sJ,lh,j0,qj]
  ·simp[Builtin.append_,aO,h1,run_underlying bk,run_underlying hu,hM cf,asInt,asIntOf,typeInfo,hi,hw,sJ,lh,j0,qj,a6]
 ·rcases a6 with⟨rfl,rfl⟩|⟨q,rfl,a6⟩
  ·simp[Builtin.append_,aO,h1,run_underlying bk,run_underlying hu,hM cf,asInt,asIntOf,typeInfo,hi,hw,sJ,lh,j0,qj,nF bH]
  ·simp[Builtin.append_,aO,h1,run_underlying bk,run_underlying hu,hM cf,asInt,asIntOf,typeInfo,hi,hw,sJ,lh,j0,qj,nF bH,a6]
theorem N2{ts:Array TypeId}{ty t u e:TypeId}{bo bytes:Nat}{z:Value}(aO:ts[0]? =some t)(h1:ts[1]? =some u)(bk:P.underlying t=some (.slice e))(hu:P.underlying u=some (.int .i64))(cf:eL P e=some bo)
  (ng:pP P e=some bytes)(bH:zeroOf P e=some z)(nf:z.cells.size=bo){k:IntKind}{m:Int}(G8:0≤m)(hm:m≤ei)(aE:bytes≤2^11)
  {p:Option Addr}{sl sc:Nat}{olds:List Value}{w:World}(hold:∀ay,ay.heap=w.heap→(Builtin.firstCells bo sl (.slice p sl sc)).run P ay=.ok olds.toArray ay)
  (qi:sc<sl+m.toNat)(k8:sl+m.toNat≤ei):
  (Builtin.append_ ts ty #[.slice p sl sc,.int k m]).run P w=.ok (.slice (some ⟨w.heap.size,0,none⟩) (sl+m.toNat) (grownCap w (sl+m.toNat) sc e))
   (w.drew.alloc (.cells (olds.toArray++(Builtin.zeroCells z.cells m.toNat).toList.toArray++Builtin.zeroCells z.cells (grownCap w (sl+m.toNat) sc e-(sl+m.toNat))) e)):=by
 obtain⟨i,hi,tl⟩:=E2 ng
 have af:ei=68719476736:=rfl
 rw[af]at k8 hm
 have hw:IntKind.i64.wrap m=m:=by rw[IntKind.wrap_i64];omega
 have sJ:¬m<0:=by omega
 have DG:¬(281474976710656<m*(i.bytes:Int)):=by
  have h1:(i.bytes:Int)≤2048:=by rw[tl];omega
  have h2:m*(i.bytes:Int)≤m*2048:=Int.mul_le_mul_of_nonneg_left h1 G8
  omega
 have lh:(sl+m.toNat)*i.bytes≤140737488355328:=by
  have h1:(sl+m.toNat)*i.bytes≤68719476736*2048:=Nat.mul_le_mul k8 (by rw[tl];simpa using aE)
  omega
 have j0:=growslice_fits (bytes:=i.bytes) qi lh
 have aM:¬(sl+m.toNat≤sc):=by omega
 have GG:¬(9223372036854775807<((sl:Int)+(m.toNat:Int))):=by omega
 have GH:¬(281474976710656<Builtin.nextslicecap (sl+m.toNat) sc*i.bytes):=by omega
 have lk:=hold w.drew rfl
 have Sh:¬(9223372036854775807<((sl:Int)+max m 0)):=by omega
 by_cases qj:m.toNat*bo=0
 ·have wZ:Builtin.zeroCells z.cells m.toNat= #[]:=by simp[Builtin.zeroCells,nf,qj]
  rw[wZ]
  simp[Builtin.append_,aO,h1,run_underlying bk,run_underlying hu,hM cf,asInt,asIntOf,hw,sJ,DG,qj,typeInfo,hi,nF bH,aM,GG,Sh,GH,Question.forced,lk,newRow,grownCap,-List.append_toArray,-List.append_assoc,-Array.append_assoc]
 ·simp[Builtin.append_,aO,h1,run_underlying bk,run_underlying hu,hM cf,asInt,asIntOf,hw,sJ,DG,qj,typeInfo,hi,nF bH,aM,GG,Sh,GH,Question.forced,lk,newRow,grownCap,-List.append_toArray,-List.append_assoc,-Array.append_assoc]
theorem aav{ts:Array TypeId}{ty t u e:TypeId}{bo bytes:Nat}{xB:List V}(aO:ts[0]? =some t)(h1:ts[1]? =some u)(bk:P.underlying t=some (.slice e))(cf:eL P e=some bo)
  (ng:pP P e=some bytes)(wZ:zeroCells P e=some xB)(o5:xB.length=bo)(af:Rel base ρ h w)
  {x:V}{ux:Value}(hx:R ρ x ux){n:Nat}{cs:List V}(hU:se P u xB bytes h x bo=some (n,cs)):
  ∃z news,zeroOf P e=some z∧z.cells.size=bo∧bV ρ cs news∧news.length=n*bo∧
   (∀{p:Option Addr} {sl sc:Nat} {ay:World},sl+n≤sc→((p=none∧ay=w)∨∃q,p=some q∧(storeCells (q.add (sl*bo)) news).run P w=.ok () ay)→(Builtin.append_ ts ty #[.slice p sl sc,ux]).run P w=.ok (.slice p (sl+n) sc) ay)∧
   (∀{p:Option Addr} {sl sc:Nat} {olds:List Value},(∀ay,ay.heap=w.heap→(Builtin.firstCells bo sl (.slice p sl sc)).run P ay=.ok olds.toArray ay)→sc<sl+n→sl+n≤ei→bytes≤2^11→
    (Builtin.append_ ts ty #[.slice p sl sc,ux]).run P w=.ok (.slice (some ⟨w.heap.size,0,none⟩) (sl+n) (grownCap w (sl+n) sc e))
     (w.drew.alloc (.cells (olds.toArray++news.toArray++Builtin.zeroCells z.cells (grownCap w (sl+n) sc e-(sl+n))) e))):=by
 obtain⟨z,eG,gq,rfl⟩:=x5 wZ
 have nf:z.cells.size=bo:=by simpa using o5
 unfold se at hU
 split at hU
 ·rename_i dn hu
  have hu:=oF hu
  obtain⟨gx,qF,news,rfl,f_,hlen,kx⟩:=IQ af hU hx
  have p6:∀ay,ay.heap=w.heap→(Builtin.firstCells bo n (.slice gx n qF)).run P ay=.ok news.toArray ay:=fun ay hw=>Ik (u:=.nilFunc) hw hlen kx n
  exact ⟨z,news,eG,nf,f_,hlen,fun ak a6=>Vp aO h1 bk hu cf (p6 w rfl) ak a6,fun hold qi k8 aE=>Vq aO h1 bk hu cf ng eG hold p6 qi k8 aE⟩
 ·split at hU
  ·rename_i k m hu
   obtain⟨⟨bu,bs,b6⟩,hU⟩:=fe hU
   simp only[Option.some.injEq,Prod.mk.injEq]at hU
   obtain⟨rfl,rfl⟩:=hU
   rw[dA]at hx
   subst hx
   exact ⟨z,(Builtin.zeroCells z.cells m.toNat).toList,eG,nf,Fu gq m.toNat,by simp[Builtin.zeroCells,nf],fun ak a6=>Vf aO h1 bk hu cf ng eG nf bu bs b6 ak a6,fun hold qi k8 aE=>N2 aO h1 bk hu cf ng eG nf bu bs b6 hold qi k8⟩
  ·cases hU
theorem PS{ts:Array TypeId}{ty t u e:TypeId}{bo bytes:Nat}{xB:List V}(aO:ts[0]? =some t)(h1:ts[1]? =some u)(bk:P.underlying t=some (.slice e))(cf:eL P e=some bo)
  (ng:pP P e=some bytes)(wZ:zeroCells P e=some xB)(o5:xB.length=bo)(af:Rel base ρ h w){at_:Option Nat}(gG:∀i,at_=some i→h.m i=.fresh∧i<h.next)
  {s x:V}{us ux:Value}(ad:R ρ s us)(hx:R ρ x ux){n:Nat}{cs:List V}(hU:se P u xB bytes h x bo=some (n,cs))(aN:iF h at_ bo bytes s cs n k=some res):
  ∃a7 v ar val ay,(Builtin.append_ ts ty #[us,ux]).run P w=.ok val ay∧ρ.le a7∧Rel base a7 ar ay∧Below base w ay∧R a7 v val∧k v ar=some res:=by
 obtain⟨z,news,eG,nf,f_,hlen,hI,kj⟩:=aav (ty:=ty) aO h1 bk cf ng wZ o5 af hx hU
 cases s<;>simp only[iF,reduceCtorEq]at aN
 rename_i v l c gZ
 obtain⟨p,bg,rfl,cy,dd,dF,gy,ki,jM,pq⟩:=mv ad
 split at aN
 ·rename_i aM
  subst aM
  have sK:news=[]:=List.eq_nil_of_length_eq_zero (by simpa using hlen)
  subst sK
  have:=hI (p:=p) (sl:=l) (sc:=bg) (ay:=w) (by omega) (by
   cases p with
   |none=>exact .inl ⟨rfl,rfl⟩
   |some q=>exact .inr ⟨q,rfl,by simp[storeCells]⟩)
  exact ⟨ρ,_,h,_,w,this,Ren.le.refl _,af,Below.refl _ _,by rw[Nat.add_zero];exact ad,aN⟩
 ·rename_i aM
  obtain⟨⟨k8,G9⟩,w0⟩:=fe aN
  clear aN
  have aN:=w0
  clear w0
  have F2:∀(eA:List V) (olds:List Value),bV ρ eA olds→olds.length=l*bo→bg<l+n→(∀ay,ay.heap=w.heap→(Builtin.firstCells bo l (.slice p l bg)).run P ay=.ok olds.toArray ay)→
    newAt h at_ (eA++cs) bo ((l+n)*bo) (fun p ar=>k (.slice p (l+n) (l+n) true) ar)=some res→
    ∃a7 v ar val ay,(Builtin.append_ ts ty #[.slice p l bg,ux]).run P w=.ok val ay∧ρ.le a7∧Rel base a7 ar ay∧Below base w ay∧R a7 v val∧k v ar=some res:=by
   intro eA olds e0 qk qi hold aN
   have cV:=kj (p:=p) (sl:=l) (sc:=bg) (olds:=olds) hold qi k8 G9
   have hy:=grownCap_ge w (l+n) bg e
   generalize grownCap w (l+n) bg e=cap at cV hy
   have z8:bV ρ (eA++cs) (olds++news):=e0.append f_
   have ha:(eA++cs).length=(l+n)*bo:=by rw[z8.length,List.length_append,qk,hlen,Nat.add_mul]
   have kG:Rel base ρ h w.drew:=af.ext (Below.refl _ _).drew
   have SE:bV ρ (eA++cs) ((olds.toArray++news.toArray++Builtin.zeroCells z.cells (cap-(l+n))).toList.take (eA++cs).length):=by
    have:(olds.toArray++news.toArray++Builtin.zeroCells z.cells (cap-(l+n))).toList=(olds++news)++(Builtin.zeroCells z.cells (cap-(l+n))).toList:=by simp
    rw[this,z8.length,List.take_left]
    exact z8
   have Ce:(olds.toArray++news.toArray++Builtin.zeroCells z.cells (cap-(l+n))).size=(eA++cs).length+(cap-(l+n))*bo:=by
    rw[z8.length]
    simp[Builtin.zeroCells,nf]
   have fN:Below base w (w.drew.alloc (.cells (olds.toArray++news.toArray++Builtin.zeroCells z.cells (cap-(l+n))) e)):=(Below.refl base w).drew.alloc af.aE _
   have fin:∀id ar,k (.slice (.aa id ((l+n)*bo) 0) (l+n) (l+n) true) ar=some res→(ρ.le (ρ.with id (eA++cs).length (w.drew.heap.size,cap-(l+n)))∧Rel base (ρ.with id (eA++cs).length (w.drew.heap.size,cap-(l+n))) ar (w.drew.alloc (.cells (olds.toArray++news.toArray++Builtin.zeroCells z.cells (cap-(l+n))) e)))→
     ∃a7 v ar val ay,(Builtin.append_ ts ty #[.slice p l bg,ux]).run P w=.ok val ay∧ρ.le a7∧Rel base a7 ar ay∧Below base w ay∧R a7 v val∧k v ar=some res:=by
    rintro id ar aN ⟨bu,bs⟩
    refine⟨_,_,ar,_,_,cV,bu,bs,fN, ?_,aN⟩
    have hQ:(ρ.with id (eA++cs).length (w.drew.heap.size,cap-(l+n))).map id ((l+n)*bo)=some (w.heap.size,cap-(l+n)):=by rw[←ha];exact Ren.lG _ _ _
    simp only[R]
    exact ⟨_,_,rfl,Nat.le_refl _,by omega,fun hh=>(by cases hh),fun hh=>(by cases hh),.inr rfl,fun _=>⟨_,_,hQ,rfl⟩,fun da g o hh _=>(by cases hh;exact ⟨_,_,hQ,by omega⟩)⟩
   cases at_ with
   |none=>exact fin h.next _ aN (kG.make (id:=h.next) (af.top _ (Nat.le_refl _)) SE Ce (ar:=h.new (eA++cs) bo) rfl (by simp[H.new]) (by simp[H.new]))
   |some i=>
    obtain⟨ak,hi⟩:=gG i rfl
    exact fin i _ aN (kG.make (id:=i) ak SE Ce (ar:=h.put i (.own (eA++cs) bo)) rfl (by simp[H.put]) (by simpa[H.put]using hi))
  have hzero:∀(jl:c=0∧gZ=false∧l=0) (aN:newAt h at_ cs bo (n*bo) (fun p ar=>k (.slice p n n true) ar)=some res),
    ∃a7 v ar val ay,(Builtin.append_ ts ty #[.slice p l bg,ux]).run P w=.ok val ay∧ρ.le a7∧Rel base a7 ar ay∧Below base w ay∧R a7 v val∧k v ar=some res:=by
   rintro⟨rfl,rfl,rfl⟩ aN
   have jl:bg=0:=dF rfl
   subst jl
   exact F2 [] [] vO (by simp) (by omega) (fun ay hw=>by cases p<;>simp[Builtin.firstCells,loadCells,loadCellsFrom]) (by rw[Nat.zero_add];exact aN)
  have SF:∀(rG:gZ=false∧c<l+n) (aN:(cellsOf h (.slice v l c gZ) bo).bind (fun o=>newAt h at_ (o.2++cs) bo ((l+n)*bo) (fun p ar=>k (.slice p (l+n) (l+n) true) ar))=some res),
    ∃a7 v ar val ay,(Builtin.append_ ts ty #[.slice p l bg,ux]).run P w=.ok val ay∧ρ.le a7∧Rel base a7 ar ay∧Below base w ay∧R a7 v val∧k v ar=some res:=by
   rintro⟨uR,w3⟩ aN
   simp only[Option.bind_eq_some_iff]at aN
   obtain⟨⟨m,eA⟩,a8,aN⟩:=aN
   have hm:m=l:=by
    simp only[cellsOf]at a8
    split at a8
    ·rename_i aO;simp only[Option.some.injEq,Prod.mk.injEq]at a8;omega
    ·simp only[Option.map_eq_some_iff,Prod.mk.injEq]at a8;obtain⟨_,_,aO,_⟩:=a8;exact aO.symm
   subst hm
   obtain⟨cH,a_,olds,he,e0,qk,kx⟩:=IQ af a8 ad
   simp only[Value.slice.injEq]at he
   obtain⟨rfl,-,rfl⟩:=he
   have agf:=dF uR
   exact F2 eA olds e0 qk (by omega) (fun ay hw=>Ik (u:=.nilFunc) hw qk kx m) aN
  cases v
  case aa id gen off=>
   simp only at aN
   cases hm:h.m id with
   |own eA e2=>
    rw[hm]at aN
    simp only at aN
    by_cases jl:c=0
    ·rw[if_pos jl]at aN
     split at aN
     ·rename_i bH
      obtain⟨fJ,gz,rfl⟩:=bH
      exact hzero ⟨jl,fJ,gz⟩ aN
     ·cases aN
    rw[if_neg jl]at aN
    have aa:=jM jl
    have nd:=aa
    simp only[R]at nd
    obtain⟨b,x0,aE,w4⟩:=nd
    simp only[Value.pointer.injEq]at w4
    subst w4
    by_cases j0:l+n≤c
    ·rw[if_pos j0]at aN
     simp only[Option.bind_eq_some_iff]at aN
     obtain⟨ar,hw,aN⟩:=aN
     have bD:R ρ (.aa id gen (off+l*bo)) (.pointer (some ((⟨b,off,none⟩:Addr).add (l*bo)))):=Cd (v:=.aa id gen off) aa (l*bo)
     obtain⟨ay,s1,s2,cU⟩:=F3 (P:=P) af hw bD f_
     have:=hI (p:=some ⟨b,off,none⟩) (sl:=l) (sc:=bg) (ay:=ay) (by omega) (.inr ⟨_,rfl,s1⟩)
     refine⟨ρ,_,ar,_,ay,this,Ren.le.refl _,s2,cU, ?_,aN⟩
     simp only[R]
     exact ⟨_,_,rfl,j0,dd,dF,gy,ki,fun _=>⟨_,_,aE,rfl⟩,fun da kP dL aG e2=>pq da kP dL aG e2⟩
    ·rw[if_neg j0]at aN
     split at aN
     ·rename_i oX
      obtain⟨a8,uR,K9,w5,K_,uQ,gD⟩:=oX
      subst a8;subst w5
      obtain⟨c6,fm,cur,UP,aw,aH,aW,bq,bU⟩:=af.own id eA e2 hm
      rw[K9,aE]at aw
      cases aw
      obtain⟨akm,akn,ep,aD⟩:=pq id gen 0 rfl uR
      rw[aE]at ep
      cases ep
      have hold:eA.length=c*e2:=by omega
      have hle:l*e2≤c*e2:=Nat.mul_le_mul_right _ uQ
      have ha:cs.length=n*e2:=by rw[f_.length,hlen]
      have Mm:(eA.take (l*e2)++cs).length=(l+n)*e2:=by
       rw[List.length_append,List.length_take,ha,Nat.add_mul];omega
      have bn:eA.length<(eA.take (l*e2)++cs).length:=by
       rw[Mm,hold];exact Nat.mul_lt_mul_of_pos_right (by omega) gD
      have aba:bV ρ (eA.take (l*e2)) (cur.toList.take (l*e2)):=by
       have:=bU.take (l*e2)
       rw[List.take_take]at this
       rwa [Nat.min_eq_left (by omega)]at this
      have Cf:bV ρ (eA.take (l*e2)++cs) (cur.toList.take (l*e2)++news):=aba.append f_
      have fin:∀b2 b5 (ay:World) (val:Value),(Builtin.append_ ts ty #[.slice (some ⟨b,0,none⟩) l bg,ux]).run P w=.ok (.slice (some ⟨b2,0,none⟩) (l+n) (l+n+b5)) ay→Below base w ay→
        (ρ.le (ρ.with id (eA.take (l*e2)++cs).length (b2,b5))∧Rel base (ρ.with id (eA.take (l*e2)++cs).length (b2,b5)) (h.put id (.own (eA.take (l*e2)++cs) e2)) ay)→
        ∃a7 v ar val ay,(Builtin.append_ ts ty #[.slice (some ⟨b,0,none⟩) l bg,ux]).run P w=.ok val ay∧ρ.le a7∧Rel base a7 ar ay∧Below base w ay∧R a7 v val∧k v ar=some res:=by
       rintro b2 b5 ay val cV fN ⟨bu,bs⟩
       refine⟨_,_,_,_,_,cV,bu,bs,fN, ?_,aN⟩
       have hQ:(ρ.with id (eA.take (l*e2)++cs).length (b2,b5)).map id ((l+n)*e2)=some (b2,b5):=by rw[←Mm];exact Ren.lG _ _ _
       simp only[R]
       exact ⟨_,_,rfl,Nat.le_refl _,by omega,fun hh=>(by cases hh),fun hh=>(by cases hh),.inr rfl,fun _=>⟨_,_,hQ,rfl⟩,fun da g o hh _=>(by cases hh;exact ⟨_,_,hQ,rfl⟩)⟩
      by_cases cI:l+n≤bg
      ·have hmul:(l+n)*e2≤bg*e2:=Nat.mul_le_mul_right _ cI
       have aj4:cur.size=bg*e2:=by rw[bq,hold,aD,Nat.add_mul]
       have a6:=run_storeCells_at P b (l*e2) UP news 0 cur w aW (by rw[Nat.add_mul]at hmul;omega) f_.GD
       simp only[Nat.add_zero]at a6
       have cV:=hI (p:=some ⟨b,0,none⟩) (sl:=l) (sc:=bg) cI (.inr ⟨_,rfl,by rw[Addr.add_lit,Nat.zero_add];exact a6⟩)
       have ie:=setRow_heap w b cur (cur.toList.take (l*e2)++news++cur.toList.drop (l*e2+news.length)).toArray UP (0,0) aW
       have hr:∀j,j≠b→(w.setRow b (cur.toList.take (l*e2)++news++cur.toList.drop (l*e2+news.length)).toArray).heap[j]? =w.heap[j]?:=fun j aL=>setRow_other w b j _ aL
       have fN:Below base w (w.setRow b (cur.toList.take (l*e2)++news++cur.toList.drop (l*e2+news.length)).toArray):=⟨⟨rfl,rfl,rfl,by simp[World.setRow],fun j aL=>hr j (by omega)⟩,Nat.le_refl _⟩
       have kH:bg=l+n+(bg-(l+n)):=by omega
       refine fin b (bg-(l+n)) _ .nilFunc (by rw[←kH];exact cV) fN (af.grow hm (by rw[K9];exact aE) bn fN (fun j _ aL=>hr j aL) (.inl rfl) ie ?_ ?_)
       ·have adI:(bg-(l+n))*e2=bg*e2-(l+n)*e2:=Nat.sub_mul _ _ _
        rw[Mm,adI]
        simp only[List.size_toArray,List.length_append,List.length_take,List.length_drop,Array.length_toList]
        rw[Nat.add_mul]at hmul⊢
        omega
       ·have jk:(eA.take (l*e2)++cs).length=(cur.toList.take (l*e2)++news).length:=Cf.length
        rw[jk]
        simp only[List.take_left]
        exact Cf
      ·have cV:=kj (p:=some ⟨b,0,none⟩) (sl:=l) (sc:=bg) (olds:=cur.toList.take (l*e2)) (fun ay hw=>by
        have Si:(cur.toList.take (l*e2)).length=l*e2:=by
         rw[List.length_take,Array.length_toList,bq];omega
        refine run_firstCells_some ay e2 l _ l bg _ Si fun j v aU=>?_
        rw[List.getElem?_take]at aU
        split at aU
        ·rw[Addr.add_lit,Nat.zero_add]
         simp only[World.cell?,hw,aW,Option.isSome_none,Bool.false_eq_true,if_false]
         simpa using aU
        ·cases aU) (by omega) k8 G9
       have hy:=grownCap_ge w (l+n) bg e
       generalize grownCap w (l+n) bg e=cap at cV hy
       have fN:Below base w (w.drew.alloc (.cells ((cur.toList.take (l*e2)).toArray++news.toArray++Builtin.zeroCells z.cells (cap-(l+n))) e)):=(Below.refl base w).drew.alloc af.aE _
       have kH:cap=l+n+(cap-(l+n)):=by omega
       have agh:=heap_alloc_new w.drew (.cells ((cur.toList.take (l*e2)).toArray++news.toArray++Builtin.zeroCells z.cells (cap-(l+n))) e)
       refine fin w.heap.size (cap-(l+n)) _ .nilFunc (by rw[←kH];exact cV) fN (af.grow hm (by rw[K9];exact aE) bn fN (fun j aL _=>heap_alloc_old w.drew _ aL) (.inr (Nat.le_refl _)) agh ?_ ?_)
       ·rw[Cf.length]
        simp[Builtin.zeroCells,nf]
       ·have:((cur.toList.take (l*e2)).toArray++news.toArray++Builtin.zeroCells z.cells (cap-(l+n))).toList=(cur.toList.take (l*e2)++news)++(Builtin.zeroCells z.cells (cap-(l+n))).toList:=by simp
        rw[this,Cf.length,List.take_left]
        exact Cf
     ·split at aN
      ·rename_i bH
       obtain⟨fJ,rfl⟩:=bH
       exact SF ⟨fJ,by omega⟩ aN
      ·cases aN
   |_=>rw[hm]at aN;simp at aN
  all_goals
   simp only at aN
   split at aN
   ·rename_i jl
    exact hzero jl aN
   ·split at aN
    ·rename_i rG
     exact SF rG aN
    ·cases aN
theorem Oq{o:Oper}(af:Rel base ρ h w)(he:du ρ env a){at_:Option Nat}(gG:∀i,at_=some i→h.m i=.fresh∧i<h.next){b:Builtin}{args:Array Operand}{ts:Array TypeId}(a8:o.op=.call {callee:=.builtin b,args:=args,argTypes:=ts})
  (ad:lF P b ts at_ (args.toList.map (aR env)) h k=some res)(aQ:fX base ρ w k res o a next):o.e1 ro P a w next Q:=by
 have cV:∀(s:Sem Value) (val:Value) (ay:World),(∀cs,builtin b ts o.type cs (args.map a.eval)=(do pure (.value (←s))))→s.run P w=.ok val ay→(execOp a.eval o).run P w=.ok (.value val) ay:=fun s val ay aG e2=>by
  simp only[execOp,a8,resolve,Sem.run_bind,Sem.run_pure,Result.andThen_ok,invoke,aG,e2]
 have Kp:∀v,args.toList.map (aR env)=[v]→∃x,args= #[x]∧aR env x=v:=fun v aU=>by
  obtain⟨l⟩:=args
  match l,aU with
  |[x],aU=>exact ⟨x,rfl,by simpa using aU⟩
 have Gc:∀u v,args.toList.map (aR env)=[u,v]→∃x y,args= #[x,y]∧aR env x=u∧aR env y=v:=fun u v aU=>by
  obtain⟨l⟩:=args
  match l,aU with
  |[x,y],aU=>simp at aU;exact ⟨x,y,rfl,aU.1,aU.2⟩
 have Sj:∀t u v,args.toList.map (aR env)=[t,u,v]→∃x y z,args= #[x,y,z]∧aR env x=t∧aR env y=u∧aR env z=v:=fun t u v aU=>by
  obtain⟨l⟩:=args
  match l,aU with
  |[x,y,z],aU=>simp at aU;exact ⟨x,y,z,rfl,aU.1,aU.2.1,aU.2.2⟩
 unfold lF at ad
 split at ad
 ·rename_i v aU
  obtain⟨x,rfl,rfl⟩:=Kp _ aU
  have hx:=he.aR x
  split at ad
  ·rename_i t bk
   split at ad
   ·rename_i e v2 n c gZ hu ql
    rw[ql]at hx
    obtain⟨p,bg,uT,_⟩:=mv hx
    refine dX (cV (Builtin.len_ ts o.type #[.slice p n bg]) (goInt n) w (by simp[builtin,uT]) ?_) (aQ.same af (dA.2 rfl) ad)
    simp[Builtin.len_,bk,run_underlying hu]
   ·rename_i s hu ql
    rw[ql,y5]at hx
    refine dX (cV (Builtin.len_ ts o.type #[.string s]) (goInt s.size) w (by simp[builtin,hx]) ?_) (aQ.same af (dA.2 rfl) ad)
    simp[Builtin.len_,bk,run_underlying hu]
   ·rename_i n e hu
    refine dX (cV (Builtin.len_ ts o.type #[a.eval x]) (goInt n) w (by simp[builtin]) ?_) (aQ.same af (dA.2 rfl) ad)
    simp[Builtin.len_,bk,run_underlying hu]
   ·cases ad
  ·cases ad
 ·rename_i v n c t aU
  obtain⟨x,rfl,ql⟩:=Kp _ aU
  have hx:=he.aR x
  rw[ql]at hx
  split at ad
  ·rename_i u hu
   cases aE:((isSlice P u).isSome&&!t)with
   |false=>rw[aE]at ad;simp at ad
   |true=>
    rw[aE]at ad
    simp only[cond_true]at ad
    simp only[Bool.and_eq_true,Option.isSome_iff_exists,Bool.not_eq_true']at aE
    obtain⟨⟨e,gR⟩,bk⟩:=aE
    obtain⟨p,bg,uT,_,_,wU,_⟩:=mv hx
    have kE:=wU bk
    subst kE
    refine dX (cV (Builtin.cap_ ts o.type #[.slice p n bg]) (goInt bg) w (by simp[builtin,uT]) ?_) (aQ.same af (dA.2 rfl) ad)
    simp[Builtin.cap_,hu,run_underlying (oF gR)]
  ·cases ad
 ·rename_i eb x kf y aU
  obtain⟨p,q,rfl,aG,e2⟩:=Gc _ _ aU
  have h1:=he.aR p
  have h2:=he.aR q
  rw[aG,dA]at h1
  rw[e2,dA]at h2
  exact dX (cV (Builtin.min_ ts o.type #[.int eb x,.int kf y]) _ w (by simp[builtin,h1,h2]) (run_min_int2 ..)) (aQ.same af (dA.2 rfl) ad)
 ·rename_i eb x kf y aU
  obtain⟨p,q,rfl,aG,e2⟩:=Gc _ _ aU
  have h1:=he.aR p
  have h2:=he.aR q
  rw[aG,dA]at h1
  rw[e2,dA]at h2
  exact dX (cV (Builtin.max_ ts o.type #[.int eb x,.int kf y]) _ w (by simp[builtin,h1,h2]) (run_max_int2 ..)) (aQ.same af (dA.2 rfl) ad)
 ·rename_i eb x kf y NB z aU
  obtain⟨p,q,r,rfl,aG,e2,bP⟩:=Sj _ _ _ aU
  have h1:=he.aR p
  have h2:=he.aR q
  have h3:=he.aR r
  rw[aG,dA]at h1
  rw[e2,dA]at h2
  rw[bP,dA]at h3
  refine dX (cV (Builtin.min_ ts o.type #[.int eb x,.int kf y,.int NB z]) (.int eb (sI z (sI y x))) w (by simp[builtin,h1,h2,h3]) ?_) (aQ.same af (dA.2 rfl) ad)
  simp only[Builtin.min_,List.foldlM_cons,List.foldlM_nil,Builtin.min2,pure_bind,Sem.run_pure,sI]
  rfl
 ·rename_i eb x kf y NB z aU
  obtain⟨p,q,r,rfl,aG,e2,bP⟩:=Sj _ _ _ aU
  have h1:=he.aR p
  have h2:=he.aR q
  have h3:=he.aR r
  rw[aG,dA]at h1
  rw[e2,dA]at h2
  rw[bP,dA]at h3
  refine dX (cV (Builtin.max_ ts o.type #[.int eb x,.int kf y,.int NB z]) (.int eb (wm z (wm y x))) w (by simp[builtin,h1,h2,h3]) ?_) (aQ.same af (dA.2 rfl) ad)
  simp only[Builtin.max_,List.foldlM_cons,List.foldlM_nil,Builtin.max2,pure_bind,Sem.run_pure,wm]
  rfl
 ·rename_i s x aU
  obtain⟨p,q,rfl,rfl,rfl⟩:=Gc _ _ aU
  split at ad
  ·rename_i t u bk hu
   split at ad
   ·rename_i e a6
    split at ad
    ·rename_i bo bytes z cf ng bH
     split at ad
     ·rename_i o5
      split at ad
      case h_2=>cases ad
      rename_i HI ak9 ala bM w4
      simp only[Option.bind_eq_some_iff]at ad
      obtain⟨⟨n,cs⟩,ao,⟨sv,h2⟩,ad,aN⟩:=ad
      have To:=he.aR p
      rw[w4]at To
      unfold c7 at ad
      obtain⟨a7,v,ar,val,ay,bu,bs,b6,cd,cp,eH⟩:=PS (ty:=o.type) bk hu (oF a6) cf ng bH o5 af gG To (he.aR q) ao ad
      have eH:k v ar=some res:=by
       split at eH
       ·simp only[Option.some.injEq,Prod.mk.injEq]at eH
        obtain⟨rfl,rfl⟩:=eH
        exact aN
       ·cases eH
      exact dX (cV (Builtin.append_ ts o.type #[a.eval p,a.eval q]) val ay (by simp[builtin]) bu) (aQ a7 v ar val ay bs b6 cd cp eH)
     ·cases ad
    ·cases ad
   ·cases ad
  ·cases ad
 ·rename_i v l c gZ x aU
  obtain⟨p,q,rfl,aG,rfl⟩:=Gc _ _ aU
  split at ad
  ·rename_i t bk
   split at ad
   ·rename_i e a6
    split at ad
    ·rename_i bo cf
     simp only[Option.bind_eq_some_iff]at ad
     obtain⟨⟨n,cs⟩,ao,ad⟩:=ad
     have bF:=he.aR p
     rw[aG]at bF
     obtain⟨HL,UQ,Tp,cy,dd,dF,gy,ki,jM,pq⟩:=mv bF
     obtain⟨gx,qF,news,Tq,f_,hlen,kx⟩:=IQ af ao (he.aR q)
     have yU:(Builtin.firstCells bo (min n l) (.slice gx n qF)).run P w=.ok (news.take (min n l*bo)).toArray w:=by
      refine Ik (u:=.nilFunc) (w:=w) rfl ?_ ?_ n
      ·rw[List.length_take,hlen]
       exact Nat.min_eq_left (Nat.mul_le_mul_right _ (Nat.min_le_left _ _))
      ·rcases kx with⟨rfl,rfl⟩|⟨b,agi,rfl,kx⟩
       ·exact .inl ⟨by simp,by simp⟩
       ·refine .inr ⟨b,agi,rfl,fun j x hx=>?_⟩
        rw[List.getElem?_take]at hx
        split at hx
        ·exact kx j x hx
        ·cases hx
     simp only at ad
     split at ad
     ·rename_i bH
      rw[bH]at yU
      simp only[Nat.zero_mul,List.take_zero]at yU
      refine dX (cV (Builtin.copy_ ts o.type #[.slice HL l UQ,.slice gx n qF]) (goInt 0) w (by simp[builtin,Tp,Tq]) ?_) (aQ.same af (dA.2 rfl) ad)
      have agj:Nat.min n l=0:=bH
      cases HL<;>simp[Builtin.copy_,bk,run_underlying (oF a6),Builtin.lenOf,hM cf,agj,yU,storeCells]
     ·rename_i bH
      simp only[Option.bind_eq_some_iff]at ad
      obtain⟨ar,hw,ad⟩:=ad
      have wW:=jM (by omega)
      have aV:∃q,HL=some q:=by
       cases DH:v<;>rw[DH]at hw<;>simp only[H.aY,reduceCtorEq]at hw
       rw[DH]at ki
       cases HL with
       |none=>simp[V.bm,V.h_]at ki
       |some q=>exact ⟨q,rfl⟩
      obtain⟨ix,rfl⟩:=aV
      obtain⟨ay,s1,s2,cU⟩:=F3 (P:=P) af hw wW (f_.take (min n l*bo))
      refine dX (cV (Builtin.copy_ ts o.type #[.slice (some ix) l UQ,.slice gx n qF]) (goInt (min n l:Nat)) ay (by simp[builtin,Tp,Tq]) ?_) (aQ ρ _ ar _ ay (Ren.le.refl _) s2 cU (dA.2 rfl) ad)
      have hm:Nat.min n l=min n l:=rfl
      simp only[Builtin.copy_,List.getElem?_toArray,List.getElem?_cons_zero,List.getElem?_cons_succ,bk,Sem.run_bind,run_underlying (oF a6),Result.andThen_ok,Builtin.lenOf,Sem.run_pure,hM cf,hm,yU,s1]
    ·cases ad
   ·cases ad
  ·cases ad
 ·rename_i v l c gZ aU
  obtain⟨x,rfl,ql⟩:=Kp _ aU
  have hx:=he.aR x
  rw[ql]at hx
  split at ad
  ·rename_i t bk
   split at ad
   ·rename_i e a6
    split at ad
    ·rename_i z bH
     obtain⟨gh,eG,gq,rfl⟩:=x5 bH
     obtain⟨p,bg,hu,cy,dd,dF,gy,ki,jM,pq⟩:=mv hx
     simp only[Option.bind_eq_some_iff]at ad
     obtain⟨ar,hw,ad⟩:=ad
     unfold B5 at hw
     split at hw
     ·rename_i aO
      subst aO
      cases hw
      refine dX (cV (Builtin.clear_ ts o.type #[.slice p 0 bg]) undef w (by simp[builtin,hu]) ?_) (aQ.same af ur ad)
      cases p<;>simp[Builtin.clear_,bk,run_underlying (oF a6),undef]
     ·rename_i aO
      have wW:=jM (by omega)
      have aV:∃q,p=some q:=by
       cases DH:v<;>rw[DH]at hw<;>simp only[H.aY,reduceCtorEq]at hw
       rw[DH]at ki
       cases p with
       |none=>simp[V.bm,V.h_]at ki
       |some q=>exact ⟨q,rfl⟩
      obtain⟨q,rfl⟩:=aV
      obtain⟨ay,s1,s2,cU⟩:=F3 (P:=P) af hw wW (Fu gq l)
      refine dX (cV (Builtin.clear_ ts o.type #[.slice (some q) l bg]) undef ay (by simp[builtin,hu]) ?_) (aQ ρ _ ar _ ay (Ren.le.refl _) s2 cU ur ad)
      have aq:l≠0:=aO
      cases l with
      |zero=>exact absurd rfl aq
      |succ l=>simp only[Builtin.clear_,List.getElem?_toArray,List.getElem?_cons_zero,bk,Sem.run_bind,run_underlying (oF a6),Result.andThen_ok,nF eG,Builtin.zeroCells,s1,Sem.run_pure,undef]
    ·cases ad
   ·cases ad
  ·cases ad
 ·cases ad
theorem Qs{t:TypeId}{kk vk:IntKind}(h:isMap P t=some (kk,vk)):∃a b,P.underlying t=some (.map a b)∧P.underlying a=some (.int kk)∧zeroOf P b=some (.int vk 0):=by
 unfold isMap at h
 split at h
 ·rename_i a b hu
  split at h
  ·rename_i aw aH h1 h2
   simp only[Option.some.injEq,Prod.mk.injEq]at h
   obtain⟨rfl,rfl⟩:=h
   exact ⟨a,b,hu,h1,h2⟩
  ·cases h
 ·cases h
def yV(kk vk:IntKind)(p:(Int×Int)×Nat):MapEntry:={key:=.int kk p.1.1,val:=.int vk p.1.2,born:=p.2}
theorem xY(kk vk:IntKind)(es:List (Int×Int)):(mU kk vk es).toList=es.zipIdx.map (yV kk vk):=rfl
theorem O7{kk vk:IntKind}{n:Int}:∀(es:List (Int×Int)) (b j:Nat),Instr.findNow (.int kk) (.int kk n) ((es.zipIdx b).map (yV kk vk)) j=some ((lK n es).map fun i=>(j+i,.int vk ((es[i]?.getD (0,0)).2)))
 |[],b,j=>rfl
 |(a,v)::es,b,j=>by
  simp only[List.zipIdx_cons,List.map_cons,Instr.findNow,yV,Instr.sameNow,if_true,lK]
  by_cases h:n=a
  ·subst h
   simp
  ·rw[if_neg h]
   have aE:(n==a)=false:=by simp[h]
   rw[aE]
   have:=O7 (kk:=kk) (vk:=vk) (n:=n) es (b+1) (j+1)
   simp only[this]
   cases lK n es with
   |none=>rfl
   |some i=>simp[Nat.add_comm,Nat.add_left_comm]
theorem O8{n:Int}:∀(es:List (Int×Int)),getM n es=(lK n es).map fun i=>(es[i]?.getD (0,0)).2
 |[]=>rfl
 |(a,v)::es=>by
  simp only[getM,lK]
  by_cases h:n=a
  ·simp[h]
  ·rw[if_neg h,if_neg h,O8 es]
   cases lK n es<;>simp
theorem PT{n:Int}:∀{es:List (Int×Int)} {i:Nat},lK n es=some i→∃v,es[i]? =some (n,v)
 |[],i,h=>by cases h
 |(a,v)::es,i,h=>by
  simp only[lK]at h
  by_cases aM:n=a
  ·rw[if_pos aM]at h;cases h;exact ⟨v,by simp[aM]⟩
  ·rw[if_neg aM]at h
   cases aa:lK n es with
   |none=>rw[aa]at h;cases h
   |some j=>
    rw[aa]at h
    simp only[Option.map_some,Option.some.injEq]at h
    obtain⟨w,hw⟩:=PT aa
    exact ⟨w,by rw[←h];simpa using hw⟩
theorem O9{n v:Int}:∀(es:List (Int×Int)),iR n v es=match lK n es with|some i=>es.set i (n,v)|none=>es++[(n,v)]
 |[]=>rfl
 |(a,u)::es=>by
  simp only[iR,lK]
  by_cases h:n=a
  ·simp[h]
  ·rw[if_neg h,if_neg h,O9 es]
   cases lK n es<;>simp
theorem VP{kk vk:IntKind}{n v:Int}{es:List (Int×Int)}{i:Nat}:(mU kk vk es).modify i (fun e=>{e with key:=.int kk n,val:=.int vk v})=mU kk vk (es.set i (n,v)):=by
 apply Array.ext'
 rw[xY,Array.toList_modify,xY]
 refine List.ext_getElem? fun j=>?_
 simp only[List.getElem?_modify,List.getElem?_map,List.getElem?_zipIdx,List.getElem?_set]
 by_cases aL:i=j
 ·subst aL
  by_cases aq:i<es.length
  ·simp[aq,yV]
  ·simp[aq]
 ·simp[aL]
theorem Vy{kk vk:IntKind}{n v:Int}{es:List (Int×Int)}:(mU kk vk es).push {key:=.int kk n,val:=.int vk v,born:=es.length}=mU kk vk (es++[(n,v)]):=by
 apply Array.ext'
 rw[Array.toList_push,xY,xY,List.zipIdx_append,List.map_append]
 simp[yV]
theorem RH{kt bM:ai}:∀{es:List (V×V)} {l:List (kt.C×bM.C)},zY kt bM es=some l→es=ho kt bM l
 |[],l,h=>by cases h;rfl
 |(x,y)::es,l,h=>by
  simp only[zY,Option.bind_eq_some_iff,Option.some.injEq]at h
  obtain⟨p,h1,q,h2,b3,h3,rfl⟩:=h
  rw[RH h3]
  simp only[ho,List.map_cons,ai.fu _ _ _ h1,ai.fu _ _ _ h2]
theorem vJ{id:Nat}{kt bM:ai}{l:List (kt.C×bM.C)}(ar:h.cZ id kt bM=some l):h.m id=.cZ (ho kt bM l):=by
 unfold H.cZ at ar
 split at ar
 ·rename_i es hm
  rw[hm,RH ar]
 ·cases ar
theorem Q8{a:TypeId}{kt:ai}(ak:nI P a kt){β:Type}:∀(l:List (kt.C×β)) (us:List (Value×Value)),cm ρ (l.map fun p=>kt.un p.1) (us.map (·.1))→us.map (·.1)=l.map fun p=>kt.c0 p.1
 |[],us,h=>by simpa[cm]using h
 |p::l,[],h=>by simp[cm]at h
 |p::l,u::us,h=>by
  simp only[List.map_cons,cm,List.cons.injEq]at h
  obtain⟨v,cw,⟨rfl,e⟩,h1,h2⟩:=h
  rw[←e]at h2
  simp only[List.map_cons,Sf ak h1,Q8 ak l us h2]
theorem ue (af:Rel base ρ h w){id:Nat}{a:TypeId}{kt bM:ai}(ak:nI P a kt){l:List (kt.C×bM.C)}(hm:h.cZ id kt bM=some l){u:Value}(hu:R ρ (.map (some id)) u):
  ∃b us,u=.map (some b)∧ρ.map id 0=some (b,0)∧w.heap[b]? =some (.map (dR us) us.length)∧us.map (·.1)=l.map (fun p=>kt.c0 p.1)∧cm ρ (l.map fun p=>kt.un p.1) (us.map (·.1))∧cm ρ (l.map fun p=>bM.un p.2) (us.map (·.2)):=by
 obtain⟨b,o,aw,aH,aW,bq⟩:=af.eF.obj _ _ (vJ hm) rfl
 simp only[R]at hu
 rcases hu with⟨e,_⟩|⟨da,c6,x,e,e2,bP⟩
 ·cases e
 ·cases e
  rw[aw]at e2
  cases e2
  simp only[gX,ho,List.map_map]at bq
  obtain⟨us,rfl,cy,dd⟩:=bq
  exact ⟨b,us,bP,aw,aW,Q8 ak l us cy,cy,dd⟩
theorem I6{kt:ai}{β:Type}{x:kt.C}:∀{l:List (kt.C×β)} {i:Nat},gA kt x l=some i→∃p,l[i]? =some p∧kt.er x p.1=true
 |[],i,h=>by cases h
 |p::l,i,h=>by
  simp only[gA]at h
  cases aa:kt.er x p.1 with
  |true=>rw[aa]at h;simp at h;subst h;exact ⟨p,rfl,aa⟩
  |false=>
   rw[aa]at h
   simp only[cond_false,Option.map_eq_some_iff]at h
   obtain⟨j,h1,rfl⟩:=h
   obtain⟨q,h2,h3⟩:=I6 h1
   exact ⟨q,by simpa using h2,h3⟩
theorem ym{t:TypeId}{kt bM:ai}{gh:V}(h:mx P t=some (kt,bM,gh)):∃a b z,P.underlying t=some (.map a b)∧nI P a kt∧lT P b=some bM∧zeroOf P b=some z∧gh=yN z:=by
 unfold mx at h
 split at h
 ·rename_i a b hu
  split at h
  ·rename_i ako akp z h1 h2 h3
   cases h
   exact ⟨a,b,z,hu,WQ h1,h2,h3,rfl⟩
  ·cases h
 ·cases h
theorem J3{kt:ai}{v:V}{x:kt.C}{a:TypeId}{u:Value}(aa:kt.pack v=some x)(ak:nI P a kt)(aU:R ρ v u):u=kt.c0 x:=by
 rw[←ai.fu _ _ _ aa]at aU
 exact Sf ak aU
theorem J4{vs:List V}{us:List Value}{i:Nat}{v:V}{u:Value}(h:cm ρ vs us)(h1:R ρ v u):cm ρ (vs.set i v) (us.set i u):=by
 rw[pR]at h⊢
 refine⟨by simp[h.1],fun j gJ kg aG e2=>?_⟩
 rw[List.getElem?_set]at aG e2
 by_cases aL:i=j
 ·subst aL
  by_cases aq:i<vs.length
  ·rw[if_pos rfl,if_pos aq]at aG
   rw[if_pos rfl,if_pos (by rw[←h.1];exact aq)]at e2
   cases aG;cases e2;exact h1
  ·rw[if_pos rfl,if_neg aq]at aG;cases aG
 ·rw[if_neg aL]at aG e2
  exact h.2 j _ _ aG e2
theorem Q9{vs:List V}{us:List Value}{v:V}{u:Value}(h:cm ρ vs us)(h1:R ρ v u):cm ρ (vs++[v]) (us++[u]):=by
 rw[pR]at h⊢
 refine⟨by simp[h.1],fun j gJ kg aG e2=>?_⟩
 rw[List.getElem?_append]at aG e2
 by_cases aL:j<vs.length
 ·rw[if_pos aL]at aG
  rw[if_pos (by rw[←h.1];exact aL)]at e2
  exact h.2 j _ _ aG e2
 ·rw[if_neg aL]at aG
  rw[if_neg (by rw[←h.1];exact aL),←h.1]at e2
  rcases Nat.eq_zero_or_pos (j-vs.length)with e |e
  ·rw[e]at aG e2;simp at aG e2;subst aG;subst e2;exact h1
  ·rw[List.getElem?_eq_none (by simp;omega)]at aG;cases aG
theorem VQ{o:Oper}(af:Rel base ρ h w){t:TypeId}{r:Option Operand}(ad:(match r with
  |none=>match isMap P t with
   |some (kk,vk)=>k (.map (some h.next)) (h.hP (.dk kk vk []))
   |none=>match mx P t with
    |some _=>k (.map (some h.next)) (h.hP (.cZ []))
    |none=>none
  |some _=>none)=some res)(a8:o.op=.makeMap t r)(aQ:fX base ρ w k res o a next):o.e1 ro P a w next Q:=by
 split at ad
 ·have fin:∀s:Slot,s.isObj=true→(∀a7 b,gX a7 b s (.map #[] 0))→k (.map (some h.next)) (h.hP s)=some res→o.e1 ro P a w next Q:=fun s hV e0 ad=>by
   obtain⟨le,rel⟩:=af.newObj (s:=s) hV none (o:=.map #[] 0) (e0 _ _)
   refine dX (val:=.map (some w.heap.size)) (ay:=w.alloc (.map #[] 0)) ?_ (aQ _ _ _ _ _ le rel ((Below.refl base w).alloc af.aE _) ?_ ad)
   ·simp only[execOp,a8,Option.map_none,Instr.makeMap,Sem.run_bind,run_newObj_alloc,Result.andThen_ok,Sem.run_pure,pure_bind]
   ·simp only[R]
    exact .inr ⟨_,_,_,rfl,Ren.lG _ _ _,rfl⟩
  split at ad
  ·exact fin _ rfl (fun _ _=>by simp only[gX];rfl) ad
  ·split at ad
   ·exact fin (.cZ []) rfl (fun _ _=>by simp only[gX];exact ⟨[],rfl,by simp[cm],by simp[cm]⟩) ad
   ·cases ad
 ·cases ad
theorem JF{id:Nat}{kk vk:IntKind}{es:List (Int×Int)}(ar:h.dk id kk vk=some es):h.m id=.dk kk vk es:=by
 unfold H.dk at ar
 split at ar
 ·rename_i aw v1 Tr hm
  split at ar
  ·rename_i ao
   obtain⟨rfl,rfl⟩:=ao
   cases ar
   exact hm
  ·cases ar
 ·cases ar
theorem Q_(af:Rel base ρ h w){id:Nat}{kk vk:IntKind}{es:List (Int×Int)}(hm:h.m id=.dk kk vk es){u:Value}(hu:R ρ (.map (some id)) u):
  ∃b,u=.map (some b)∧ρ.map id 0=some (b,0)∧w.heap[b]? =some (.map (mU kk vk es) es.length):=by
 obtain⟨b,o,aw,aH,aW,bq⟩:=af.eF.obj _ _ hm rfl
 simp only[R]at hu
 rcases hu with⟨e,_⟩|⟨da,c6,x,e,e2,bP⟩
 ·cases e
 ·cases e
  rw[aw]at e2
  cases e2
  simp only[gX]at bq
  subst bq
  exact ⟨b,bP,aw,aW⟩
theorem NZ{empty:Bool}{a:TypeId}{kk dc:IntKind}{n:Int}(bD:P.underlying a=some (.int kk))(w:World):(Instr.checkKey empty 10000 a (.int dc n)).run P w=.ok () w:=by
 unfold Instr.checkKey
 simp only[Sem.run_bind,run_underlying bD,Result.andThen_ok,Sem.run_pure]
theorem N3{a:TypeId}{kk vk:IntKind}{n:Int}{es:List (Int×Int)}(bD:P.underlying a=some (.int kk))(w:World):(Instr.findKey a (.int kk n) (mU kk vk es).toList).run P w=.ok ((lK n es).map fun i=>(i,.int vk ((es[i]?.getD (0,0)).2))) w:=by
 unfold Instr.findKey
 have:=O7 (kk:=kk) (vk:=vk) (n:=n) es 0 0
 simp only[Sem.run_bind,run_underlying bD,Result.andThen_ok,xY,this,Sem.run_pure,Nat.zero_add]
theorem r9{b n:Nat}{es:Array MapEntry}(h:w.heap[b]? =some (.map es n)):(getObj b).run P w=.ok (.map es n) w:=by simp[getObj,Sem.run,h]
theorem Br{b n:Nat}{es:Array MapEntry}{AH:Obj}(h:w.heap[b]? =some (.map es n)):(setObj b AH).run P w=.ok () (w.putObj b AH):=by simp[setObj,Sem.run,h,World.putObj]
theorem RI{a b:TypeId}{kt bM:ai}(z0:Value)(z:bM.C)(bH:bM.un z=yN z0){l:List (kt.C×bM.C)}{us:List (Value×Value)}(aN:us.map (·.1)=l.map fun p=>kt.c0 p.1)(aU:cm ρ (l.map fun p=>bM.un p.2) (us.map (·.2)))(key:kt.C):
  (gA kt key l=none∧p2 kt z key l=(z,false)∧R ρ (bM.un z) z0)∨∃i u p,gA kt key l=some i∧l[i]? =some p∧us[i]? =some u∧u.1=kt.c0 p.1∧kt.er key p.1=true∧p2 kt z key l=(p.2,true)∧R ρ (bM.un p.2) u.2:=by
 unfold p2
 cases jG:gA kt key l with
 |none=>exact .inl ⟨rfl,rfl,by rw[bH];exact Qn z0⟩
 |some i=>
  obtain⟨q,aV,lZ⟩:=I6 jG
  have hlen:us.length=l.length:=by simpa using congrArg List.length aN
  have hi:i<us.length:=by rw[hlen];exact (List.getElem?_eq_some_iff.1 aV).1
  refine .inr ⟨i,us[i],q,rfl,aV,List.getElem?_eq_getElem hi, ?_,lZ,by simp only[aV];rfl, ?_⟩
  ·have:=congrArg (fun l:List Value=>l[i]?) aN
   simp only[List.getElem?_map,aV,List.getElem?_eq_getElem hi,Option.map_some,Option.some.injEq]at this
   exact this
  ·exact (pR.1 aU).2 i _ _ (by rw[List.getElem?_map,aV];rfl) (by rw[List.getElem?_map,List.getElem?_eq_getElem hi];rfl)
theorem Wb{o:Oper}(af:Rel base ρ h w)(he:du ρ env a){t:TypeId}{m x:Operand}{c:Bool}(ad:(match isMap P t with
  |some (kk,vk)=>match aR env m,aR env x,c with
   |.map r,.int dc n,false=>aJ (dc=kk) (match r with
    |none=>none
    |some id=>(h.dk id kk vk).bind fun es=>k (.int vk ((getM n es).getD 0)) h)
   |_,_,_=>none
  |none=>match mx P t,aR env m with
   |some (kt,bM,gh),.map r=>r.bind fun id=>(kt.pack (aR env x)).bind fun key=>(bM.pack gh).bind fun z=>(my h id kt bM z key).bind fun p=>k (cond c (.tuple [bM.un p.1,.bool p.2]) (bM.un p.1)) h
   |_,_=>none)=some res)(a8:o.op=.lookup t m x c)(aQ:fX base ρ w k res o a next):o.e1 ro P a w next Q:=by
 split at ad
 ·rename_i kk vk g_
  split at ad
  ·rename_i r dc n hm hx
   obtain⟨rfl,ad⟩:=fe ad
   cases r with
   |none=>cases ad
   |some id=>
   simp only[Option.bind_eq_some_iff]at ad
   obtain⟨es,qm,ad⟩:=ad
   obtain⟨cb,c6,t1,t2,t3⟩:=Qs g_
   have h1:=he.aR m
   have h2:=he.aR x
   rw[hm]at h1
   rw[hx,dA]at h2
   obtain⟨b,aG,e2,bP⟩:=Q_ af (JF qm) h1
   refine dX (val:=.int vk ((getM n es).getD 0)) (ay:=w) ?_ (aQ.same af (dA.2 rfl) ad)
   have CV:(getObj b).run P w=.ok (.map (mU dc vk es) es.length) w:=by simp[getObj,Sem.run,bP]
   simp only[execOp,a8,Instr.lookup,h2,aG,Sem.run_bind,run_underlying t1,Result.andThen_ok,CV,Sem.run_pure,NZ t2,N3 t2]
   rw[O8]
   cases lK n es with
   |none=>simp[nF t3]
   |some i=>simp
  ·cases ad
 ·split at ad
  ·rename_i kt bM gh r g_ hm
   simp only[Option.bind_eq_some_iff]at ad
   obtain⟨id,rfl,key,rv,z,bH,p,aa,ad⟩:=ad
   obtain⟨cb,c6,z0,t1,ak,t2,t3,rfl⟩:=ym g_
   have h1:=he.aR m
   have h2:=J3 rv ak (he.aR x)
   rw[hm]at h1
   unfold my at aa
   simp only[Option.map_eq_some_iff]at aa
   obtain⟨l,aq,rfl⟩:=aa
   obtain⟨b,us,aG,e2,bP,eC,lB,nt⟩:=ue af ak aq h1
   have hq:=I5 ak key l us eC w
   have p7:=IP (P:=P) ak (dR us).isEmpty key w
   have fin:∀y ok,p2 kt z key l=(ok:bM.C×Bool)→R ρ (bM.un ok.1) y→(execOp a.eval o).run P w=.ok (.value (if c then .tuple #[y,.bool ok.2]else y)) w→o.e1 ro P a w next Q:=fun y ok h1 h2 h3=>by
    rw[h1]at ad
    refine dX h3 (aQ.same af ?_ ad)
    cases c with
    |false=>exact h2
    |true=>
     simp only[cond_true,if_true,R]
     exact ⟨[y,.bool _],rfl,by simp only[cm];exact ⟨_,_,rfl,h2,_,_,rfl,hk.2 rfl,rfl⟩⟩
   rcases RI (a:=cb) (b:=c6) z0 z (ai.fu _ _ _ bH) eC nt key with⟨dh,cH,fS⟩|⟨i,u,p,dh,cH,fS,_,_,pr,u_⟩
   ·refine fin z0 _ cH fS ?_
    rw[dh]at hq
    simp only[execOp,a8,Instr.lookup,h2,aG,Sem.run_bind,run_underlying t1,Result.andThen_ok,r9 bP,Sem.run_pure,p7,hq,Option.map_none,nF t3]
   ·refine fin u.2 _ pr u_ ?_
    rw[dh]at hq
    simp only[execOp,a8,Instr.lookup,h2,aG,Sem.run_bind,run_underlying t1,Result.andThen_ok,r9 bP,Sem.run_pure,p7,hq,Option.map_some,fS,Option.getD_some]
  ·cases ad
theorem Wc{o:Oper}(af:Rel base ρ h w)(he:du ρ env a){args:Array Operand}{ts:Array TypeId}(a8:o.op=.call {callee:=.builtin .len,args:=args,argTypes:=ts})
  (ad:vN P ts (args.toList.map (aR env)) h k=some res)(aQ:fX base ρ w k res o a next):o.e1 ro P a w next Q:=by
 unfold vN at ad
 split at ad
 ·rename_i t id bk aU
  have hx:∃x,args= #[x]∧aR env x=.map (some id):=by
   obtain⟨l⟩:=args
   simp only at aU
   match l,aU with
   |[x],aU=>exact ⟨x,rfl,by simpa using aU⟩
   |[],aU=>simp at aU
   |_::_::_,aU=>simp at aU
  obtain⟨x,rfl,ql⟩:=hx
  split at ad
  ·rename_i kt bM gh g_
   simp only[Option.bind_eq_some_iff]at ad
   obtain⟨l,aq,ad⟩:=ad
   obtain⟨cb,c6,z0,t1,ak,t2,t3,rfl⟩:=ym g_
   have h1:=he.aR x
   rw[ql]at h1
   obtain⟨b,us,aG,e2,bP,eC,lB,nt⟩:=ue af ak aq h1
   have hlen:us.length=l.length:=by have:=congrArg List.length eC;simpa using this
   refine dX (val:=goInt l.length) (ay:=w) ?_ (aQ.same af (dA.2 rfl) ad)
   simp only[execOp,a8,resolve,Sem.run_bind,Sem.run_pure,Result.andThen_ok,invoke,builtin,List.map_toArray,List.map_cons,List.map_nil,aG]
   simp[Builtin.len_,bk,run_underlying t1,r9 bP,Be,hlen]
  ·cases ad
 ·cases ad
theorem VR{β:Type}{l:List β}{i:Nat}{x:β}:l.modify i (fun _=>x)=l.set i x:=by
 refine List.ext_getElem? fun j=>?_
 rw[List.getElem?_modify,List.getElem?_set]
 by_cases aL:i=j
 ·subst aL
  by_cases hi:i<l.length
  ·simp[hi]
  ·simp[hi]
 ·simp[aL]
theorem Wd{β:Type}{l:List β}{i:Nat}{x:β}{f:β→β}(h:l[i]? =some x)(ak:f x=x):l.modify i f=l:=by
 refine List.ext_getElem? fun j=>?_
 rw[List.getElem?_modify]
 by_cases aL:i=j
 ·subst aL;simp[h,ak]
 ·simp[aL]
theorem We{b:Nat}{o:Obj}(h:w.heap[b]? =some o):w.putObj b o=w:=by
 have:w.heap.setIfInBounds b o=w.heap:=by
  apply Array.ext_getElem?
  intro j
  rw[Array.getElem?_setIfInBounds]
  by_cases aL:b=j
  ·subst aL
   have aE:=(Array.getElem?_eq_some_iff.1 h).1
   simp[aE,h.symm]
  ·simp[aL]
 unfold World.putObj
 rw[this]
theorem VS{us:List (Value×Value)}{n:Nat}(h:n<us.length):(dR us).findIdx? (fun e=>(e.born:Int)==(n:Int))=some n:=by
 rw[Array.findIdx?_eq_some_iff_getElem]
 have aQ:∀i (hi:i<(dR us).size),((dR us)[i]).born=i:=fun i hi=>by
  have hS:i<us.length:=by rw[Be]at hi;exact hi
  have:(dR us)[i]? =some (fV us[i] i):=by rw[E4,List.getElem?_eq_getElem hS];rfl
  rw[Array.getElem?_eq_getElem hi]at this
  rw[Option.some.inj this];rfl
 refine⟨by rw[Be];exact h,by rw[aQ];simp,fun j aL=>?_⟩
 rw[aQ]
 simp
 omega
theorem WY{kt:ai}{β:Type}{l:List (kt.C×β)}{us:List (Value×Value)}(aN:us.map (·.1)=l.map fun p=>kt.c0 p.1)(key:kt.C):
  (gA kt key l=none)∨∃i u p,gA kt key l=some i∧l[i]? =some p∧us[i]? =some u∧u.1=kt.c0 p.1∧kt.er key p.1=true:=by
 cases jG:gA kt key l with
 |none=>exact .inl rfl
 |some i=>
  obtain⟨q,aV,lZ⟩:=I6 jG
  have hlen:us.length=l.length:=by simpa using congrArg List.length aN
  have hi:i<us.length:=by rw[hlen];exact (List.getElem?_eq_some_iff.1 aV).1
  refine .inr ⟨i,us[i],q,rfl,aV,List.getElem?_eq_getElem hi, ?_,lZ⟩
  have:=congrArg (fun l:List Value=>l[i]?) aN
  simp only[List.getElem?_map,aV,List.getElem?_eq_getElem hi,Option.map_some,Option.some.injEq]at this
  exact this
theorem Qt{b:Nat}{kt bM:ai}{l:List (kt.C×bM.C)}{us:List (Value×Value)}(h1:cm ρ (l.map fun p=>kt.un p.1) (us.map (·.1)))(h2:cm ρ (l.map fun p=>bM.un p.2) (us.map (·.2))){x:kt.C}{v:bM.C}{dc y:Value}(hx:R ρ (kt.un x) dc)(aK:R ρ (bM.un v) y):
  gX ρ b (.cZ (ho kt bM (l++[(x,v)]))) (.map (dR (us++[(dc,y)])) (us++[(dc,y)]).length):=by
 simp only[gX,ho,List.map_map]
 exact ⟨_,rfl,by simpa[Function.comp_def]using Q9 h1 hx,by simpa[Function.comp_def]using Q9 h2 aK⟩
theorem ZX{b:Nat}{kt bM:ai}{l:List (kt.C×bM.C)}{us:List (Value×Value)}(h1:cm ρ (l.map fun p=>kt.un p.1) (us.map (·.1)))(h2:cm ρ (l.map fun p=>bM.un p.2) (us.map (·.2))){x:kt.C}{v:bM.C}{dc y:Value}{i:Nat}(hx:R ρ (kt.un x) dc)(aK:R ρ (bM.un v) y):
  gX ρ b (.cZ (ho kt bM (l.set i (x,v)))) (.map (dR (us.set i (dc,y))) us.length):=by
 simp only[gX,ho,List.map_map]
 exact ⟨us.set i (dc,y),by simp,by simpa[List.map_set,Function.comp_def]using J4 h1 hx,by simpa[List.map_set,Function.comp_def]using J4 h2 aK⟩
theorem N7{α β:Type}{l:List (α×β)}{n:Nat}{v:β}:(l.modify n fun p=>(p.1,v)).map (·.1)=l.map (·.1):=by
 refine List.ext_getElem? fun j=>?_
 simp only[List.getElem?_map,List.getElem?_modify]
 by_cases aL:n=j
 ·subst aL;cases l[n]?<;>simp
 ·cases l[j]?<;>simp[aL]
theorem N8{α β γ:Type}{f:β→γ}{l:List (α×β)}{n:Nat}{v:β}:(l.modify n fun p=>(p.1,v)).map (fun p=>f p.2)=(l.map fun p=>f p.2).set n (f v):=by
 refine List.ext_getElem? fun j=>?_
 simp only[List.getElem?_map,List.getElem?_modify,List.getElem?_set,List.length_map]
 by_cases aL:n=j
 ·subst aL
  by_cases hi:n<l.length
  ·simp[hi]
  ·simp[hi]
 ·cases l[j]?<;>simp[aL]
theorem ZY{b:Nat}{kt bM:ai}{l:List (kt.C×bM.C)}{us:List (Value×Value)}(h1:cm ρ (l.map fun p=>kt.un p.1) (us.map (·.1)))(h2:cm ρ (l.map fun p=>bM.un p.2) (us.map (·.2))){v:bM.C}{y:Value}{n:Nat}(aK:R ρ (bM.un v) y):
  gX ρ b (.cZ (ho kt bM (l.modify n fun p=>(p.1,v)))) (.map (dR (us.modify n fun p=>(p.1,y))) us.length):=by
 have aG:(l.modify n fun p=>(p.1,v)).map (fun p=>kt.un p.1)=l.map fun p=>kt.un p.1:=by
  have:=congrArg (List.map kt.un) (N7 (l:=l) (n:=n) (v:=v))
  simpa only[List.map_map,Function.comp_def]using this
 have e2:=N8 (f:=bM.un) (l:=l) (n:=n) (v:=v)
 have bP:=N7 (l:=us) (n:=n) (v:=y)
 have eC:=N8 (f:=fun u:Value=>u) (l:=us) (n:=n) (v:=y)
 refine⟨_,by rw[List.length_modify], ?_, ?_⟩
 ·rw[bP]
  simp only[ho,List.map_map,Function.comp_def,aG]
  exact h1
 ·rw[eC]
  simp only[ho,List.map_map,Function.comp_def,e2]
  exact J4 h2 aK
theorem Vr{o:Oper}(af:Rel base ρ h w)(he:du ρ env a){t:TypeId}{m x y:Operand}(a8:o.op=.mapUpdate t m x y)
  (ad:(match isMap P t with
  |some (kk,vk)=>match aR env m,aR env x,aR env y with
   |.map r,.int dc n,.int qD v=>aJ (dc=kk∧qD=vk) (match r with
    |none=>none
    |some id=>(h.dk id kk vk).bind fun es=>k (.tuple []) (h.put id (.dk kk vk (iR n v es))))
   |_,_,_=>none
  |none=>match mx P t,aR env m with
   |some (kt,bM,_),.map r=>r.bind fun id=>(kt.pack (aR env x)).bind fun key=>(bM.pack (aR env y)).bind fun v=>(p3 h id kt bM key v).bind fun ar=>k (.tuple []) ar
   |_,_=>none)=some res)(aQ:fX base ρ w k res o a next):o.e1 ro P a w next Q:=by
 split at ad
 ·rename_i kk vk g_
  split at ad
  ·rename_i r dc n qD v hm hx aK
   obtain⟨⟨rfl,rfl⟩,ad⟩:=fe ad
   cases r with
   |none=>cases ad
   |some id=>
   simp only[Option.bind_eq_some_iff]at ad
   obtain⟨es,qm,ad⟩:=ad
   obtain⟨cb,c6,t1,t2,t3⟩:=Qs g_
   have h1:=he.aR m
   have h2:=he.aR x
   have h3:=he.aR y
   rw[hm]at h1
   rw[hx,dA]at h2
   rw[aK,dA]at h3
   obtain⟨b,aG,e2,bP⟩:=Q_ af (JF qm) h1
   obtain⟨s1,s2⟩:=af.setObj (bc:=.dk dc qD (iR n v es)) (dL:=.map (mU dc qD (iR n v es)) (iR n v es).length) (JF qm) rfl rfl e2 rfl
   refine Bq (ay:=w.putObj b (.map (mU dc qD (iR n v es)) (iR n v es).length)) ?_ (aQ ρ _ _ undef _ (Ren.le.refl _) s1 s2 ur ad)
   have CV:(getObj b).run P w=.ok (.map (mU dc qD es) es.length) w:=by simp[getObj,Sem.run,bP]
   have ie:∀AH,(setObj b AH).run P w=.ok () (w.putObj b AH):=fun AH=>by simp[setObj,Sem.run,bP,World.putObj]
   simp only[execOp,a8,Instr.mapUpdate,h2,h3,aG,Sem.run_bind,run_underlying t1,Result.andThen_ok,CV,Sem.run_pure,NZ t2,N3 t2]
   rw[O9]
   cases aa:lK n es with
   |none=>
    simp only[Option.map_none,ie,Result.andThen_ok]
    rw[Vy]
    simp
   |some i=>
    obtain⟨u,hu⟩:=PT aa
    have rv:((mU dc qD es)[i]?.map (·.key)).getD (.int dc n)=.int dc n:=by
     have:(mU dc qD es)[i]? =some (yV dc qD ((n,u),i)):=by
      rw[←Array.getElem?_toList,xY,List.getElem?_map,List.getElem?_zipIdx,hu]
      simp
     rw[this];rfl
    simp only[Option.map_some,rv,Instr.keyThatStays,Instr.sameBits,beq_self_eq_true,Bool.and_self,if_true,Sem.run_pure,Sem.run_bind,Result.andThen_ok,ie]
    rw[VP]
    simp
  ·cases ad
 ·split at ad
  ·rename_i kt bM gh r g_ hm
   simp only[Option.bind_eq_some_iff]at ad
   obtain⟨id,rfl,key,rv,v,aU,ar,aa,ad⟩:=ad
   obtain⟨cb,c6,z0,t1,ak,t2,t3,rfl⟩:=ym g_
   have h1:=he.aR m
   have h2:=J3 rv ak (he.aR x)
   have h3:=he.aR y
   rw[←ai.fu _ _ _ aU]at h3
   rw[hm]at h1
   unfold p3 at aa
   simp only[Option.map_eq_some_iff]at aa
   obtain⟨l,aq,rfl⟩:=aa
   obtain⟨b,us,aG,e2,bP,eC,lB,nt⟩:=ue af ak aq h1
   have hq:=I5 ak key l us eC w
   have p7:=IP (P:=P) ak false key w
   have hlen:us.length=l.length:=by simpa using congrArg List.length eC
   unfold uJ at ad
   rcases WY eC key with⟨dh⟩|⟨i,u,p,dh,cH,fS,pr,u_⟩
   ·rw[dh]at hq ad
    simp only at ad
    obtain⟨s1,s2⟩:=af.setObj (bc:=.cZ (ho kt bM (l++[(key,v)]))) (dL:=.map (dR (us++[(kt.c0 key,a.eval y)])) (us++[(kt.c0 key,a.eval y)]).length) (vJ aq) rfl rfl e2 (Qt lB nt (by rw[←h2,ai.fu _ _ _ rv];exact he.aR x) h3)
    refine Bq (ay:=w.putObj b (.map (dR (us++[(kt.c0 key,a.eval y)])) (us++[(kt.c0 key,a.eval y)]).length)) ?_ (aQ ρ _ _ undef _ (Ren.le.refl _) s1 s2 ur ad)
    simp only[execOp,a8,Instr.mapUpdate,h2,aG,Sem.run_bind,run_underlying t1,Result.andThen_ok,r9 bP,Sem.run_pure,p7,hq,Option.map_none,Br bP]
    rw[Oc]
    simp
   ·rw[dh]at hq ad
    simp only at ad
    have hx:=he.aR x
    rw[h2]at hx
    obtain⟨s1,s2⟩:=af.setObj (bc:=.cZ (ho kt bM (l.set i (key,v)))) (dL:=.map (dR (us.set i (kt.c0 key,a.eval y))) us.length) (vJ aq) rfl rfl e2 (ZX lB nt (by rw[ai.fu _ _ _ rv];exact hx) h3)
    refine Bq (ay:=w.putObj b (.map (dR (us.set i (kt.c0 key,a.eval y))) us.length)) ?_ (aQ ρ _ _ undef _ (Ren.le.refl _) s1 s2 ur ad)
    have hold:((dR us)[i]?.map (·.key)).getD (kt.c0 key)=kt.c0 key:=by
     rw[E4,fS]
     simp[fV,pr,←Jn ak u_]
    have wu:∀f:MapEntry→MapEntry,(∀q,f (fV q i)=fV (kt.c0 key,a.eval y) i)→(dR us).modify i f=dR (us.set i (kt.c0 key,a.eval y)):=fun f ak=>by
     rw[Ie (g:=fun _=>(kt.c0 key,a.eval y)) ak,VR]
    simp only[execOp,a8,Instr.mapUpdate,h2,aG,Sem.run_bind,run_underlying t1,Result.andThen_ok,r9 bP,Sem.run_pure,p7,hq,Option.map_some,hold,PO ak,Br bP]
    rw[wu _ (fun q=>rfl)]
  ·cases ad
theorem Vz{o:Oper}(af:Rel base ρ h w)(he:du ρ env a){t:TypeId}{m x:Operand}(a8:o.op=.mapEntry t m x)
  (ad:(match isMap P t with
  |some _=>none
  |none=>match mx P t,aR env m with
   |some (kt,bM,gh),.map r=>r.bind fun id=>(kt.pack (aR env x)).bind fun key=>(bM.pack gh).bind fun z=>(K3 h id kt bM z key).bind fun p=>k (.tuple [bM.un p.1.1,.int .i64 p.1.2]) p.2
   |_,_=>none)=some res)(aQ:fX base ρ w k res o a next):o.e1 ro P a w next Q:=by
 split at ad
 ·cases ad
 ·split at ad
  ·rename_i kt bM gh r g_ hm
   simp only[Option.bind_eq_some_iff]at ad
   obtain⟨id,rfl,key,rv,z,bH,p,aa,ad⟩:=ad
   obtain⟨cb,c6,z0,t1,ak,t2,t3,rfl⟩:=ym g_
   have h1:=he.aR m
   have h2:=J3 rv ak (he.aR x)
   have hx:=he.aR x
   rw[h2]at hx
   rw[hm]at h1
   unfold K3 at aa
   simp only[Option.map_eq_some_iff]at aa
   obtain⟨l,aq,rfl⟩:=aa
   obtain⟨b,us,aG,e2,bP,eC,lB,nt⟩:=ue af ak aq h1
   have hq:=I5 ak key l us eC w
   have p7:=IP (P:=P) ak false key w
   have hlen:us.length=l.length:=by simpa using congrArg List.length eC
   have Ts:∀(v:V) (y:Value) (n:Int),R ρ v y→R ρ (.tuple [v,.int .i64 n]) (.tuple #[y,.int .i64 n]):=fun v y n aU=>by
    simp only[R]
    exact ⟨[y,.int .i64 n],rfl,by simp only[cm];exact ⟨_,_,rfl,aU,_,_,rfl,dA.2 rfl,rfl⟩⟩
   rcases RI (a:=cb) (b:=c6) z0 z (ai.fu _ _ _ bH) eC nt key with⟨dh,cH,fS⟩|⟨i,u,p,dh,cH,fS,pr,u_,alb,ajl⟩
   ·rw[dh]at hq ad
    simp only at ad
    obtain⟨s1,s2⟩:=af.setObj (bc:=.cZ (ho kt bM (l++[(key,z)]))) (dL:=.map (dR (us++[(kt.c0 key,z0)])) (us++[(kt.c0 key,z0)]).length) (vJ aq) rfl rfl e2 (Qt lB nt (by rw[ai.fu _ _ _ rv];exact hx) fS)
    refine dX (val:=.tuple #[z0,.int .i64 (us.length:Int)]) (ay:=w.putObj b (.map (dR (us++[(kt.c0 key,z0)])) (us++[(kt.c0 key,z0)]).length)) ?_ (aQ ρ _ _ _ _ (Ren.le.refl _) s1 s2 (Ts _ _ _ fS) (by rw[hlen];exact ad))
    simp only[execOp,a8,Instr.mapEntry,h2,aG,Sem.run_bind,run_underlying t1,Result.andThen_ok,r9 bP,Sem.run_pure,p7,hq,Option.map_none,nF t3,Br bP]
    rw[Oc]
    simp[goInt]
   ·rw[dh]at hq ad
    simp only[cH,Option.map_some,Option.getD_some]at ad
    have hold:((dR us)[i]?.map (·.key)).getD (kt.c0 key)=kt.c0 key:=by
     rw[E4,fS]
     simp[fV,pr,←Jn ak u_]
    have wu:∀f:MapEntry→MapEntry,(∀q,f (fV q i)=fV (kt.c0 key,q.2) i)→(dR us).modify i f=dR us:=fun f ll=>by
     rw[Ie (g:=fun q=>(kt.c0 key,q.2)) ll,Wd fS (by obtain⟨gi,u7⟩:=u;simp only at pr;rw[pr,←Jn ak u_])]
    have dP:w.putObj b (.map (dR us) us.length)=w:=We bP
    refine dX (val:=.tuple #[u.2,.int .i64 (i:Int)]) (ay:=w) ?_ (aQ.same af (Ts _ _ _ ajl) ad)
    simp only[execOp,a8,Instr.mapEntry,h2,aG,Sem.run_bind,run_underlying t1,Result.andThen_ok,r9 bP,Sem.run_pure,p7,hq,Option.map_some,hold,PO ak,Br bP]
    rw[wu _ (fun q=>rfl),dP,E4,fS]
    simp[goInt,fV]
  ·cases ad
theorem Vg{o:Oper}(af:Rel base ρ h w)(he:du ρ env a){t:TypeId}{m i y:Operand}(a8:o.op=.entryStore t m i y)
  (ad:(match isMap P t with
  |some _=>none
  |none=>match mx P t,aR env m,aR env i with
   |some (kt,bM,_),.map r,.int .i64 i=>r.bind fun id=>(bM.pack (aR env y)).bind fun v=>(gQ h id kt bM i v).bind fun ar=>k (.tuple []) ar
   |_,_,_=>none)=some res)(aQ:fX base ρ w k res o a next):o.e1 ro P a w next Q:=by
 split at ad
 ·cases ad
 ·split at ad
  ·rename_i kt bM gh r j g_ hm hi
   simp only[Option.bind_eq_some_iff]at ad
   obtain⟨id,rfl,v,aU,ar,aa,ad⟩:=ad
   obtain⟨cb,c6,z0,t1,ak,t2,t3,rfl⟩:=ym g_
   have h1:=he.aR m
   have h2:=he.aR i
   have h3:=he.aR y
   rw[←ai.fu _ _ _ aU]at h3
   rw[hm]at h1
   rw[hi,dA]at h2
   unfold gQ at aa
   simp only[Option.bind_eq_some_iff]at aa
   obtain⟨l,aq,aa⟩:=aa
   obtain⟨⟨bu,bs⟩,aa⟩:=fe aa
   cases aa
   obtain⟨b,us,aG,e2,bP,eC,lB,nt⟩:=ue af ak aq h1
   have hlen:us.length=l.length:=by simpa using congrArg List.length eC
   obtain⟨n,rfl⟩:∃n:Nat,j=n:=⟨j.toNat,by omega⟩
   simp only[Int.toNat_natCast]at ad
   have aM:n<us.length:=by omega
   have Mj:(dR us).findIdx? (fun e=>(e.born:Int)==(n:Int))=some n:=VS aM
   have e0:gX ρ b (.cZ (ho kt bM (l.modify n fun p=>(p.1,v)))) (.map (dR (us.modify n fun p=>(p.1,a.eval y))) us.length):=ZY lB nt h3
   obtain⟨s1,s2⟩:=af.setObj (bc:=.cZ (ho kt bM (l.modify n fun p=>(p.1,v)))) (dL:=.map (dR (us.modify n fun p=>(p.1,a.eval y))) us.length) (vJ aq) rfl rfl e2 e0
   refine Bq (ay:=w.putObj b (.map (dR (us.modify n fun p=>(p.1,a.eval y))) us.length)) ?_ (aQ ρ _ _ undef _ (Ren.le.refl _) s1 s2 ur ad)
   have wu:∀f:MapEntry→MapEntry,(∀q,f (fV q n)=fV (q.1,a.eval y) n)→(dR us).modify n f=dR (us.modify n fun p=>(p.1,a.eval y)):=fun f ll=>Ie ll
   have adJ:(asInt (.int .i64 (n:Int)):Sem Int).run P w=.ok (n:Int) w:=by simp[asInt,asIntOf]
   simp only[execOp,a8,Instr.entryStore,h2,aG,adJ,Sem.run_bind,Result.andThen_ok,r9 bP,Sem.run_pure,Mj,Br bP]
   rw[wu _ (fun q=>rfl)]
  ·cases ad
theorem WZ{o:Oper}(af:Rel base ρ h w)(he:du ρ env a){t:TypeId}{m:Operand}(a8:o.op=.range t m)
  (ad:(match isMap P t with
  |some _=>none
  |none=>match mx P t,aR env m with
   |some (kt,bM,_),.map r=>r.bind fun id=>(h.cZ id kt bM).bind fun l=>k (.aa h.next 0 0) (h.hP (.jB id l.length []))
   |_,_=>none)=some res)(aQ:fX base ρ w k res o a next):o.e1 ro P a w next Q:=by
 split at ad
 ·cases ad
 ·split at ad
  ·rename_i kt bM gh r g_ hm
   simp only[Option.bind_eq_some_iff]at ad
   obtain⟨id,rfl,l,aq,ad⟩:=ad
   obtain⟨cb,c6,z0,t1,ak,t2,t3,rfl⟩:=ym g_
   have h1:=he.aR m
   rw[hm]at h1
   obtain⟨b,us,aG,e2,bP,eC,lB,nt⟩:=ue af ak aq h1
   have hlen:us.length=l.length:=by simpa using congrArg List.length eC
   have bS:id≠h.next:=fun e=>by
    have:=vJ aq
    rw[e,af.top h.next (Nat.le_refl _)]at this
    cases this
   obtain⟨le,rel⟩:=af.newObj (s:=.jB id l.length []) rfl none (o:=.mapIter (some b) us.length #[] us.length) (by
    simp only[gX]
    refine⟨b, ?_,by rw[hlen]⟩
    rw[Ren.kq (fun e=>bS e.1)]
    exact e2)
   refine dX (val:=.pointer (some ⟨w.heap.size,0,none⟩)) (ay:=w.alloc (.mapIter (some b) us.length #[] us.length)) ?_ (aQ _ _ _ _ _ le rel ((Below.refl base w).alloc af.aE _) ?_ ad)
   ·simp only[execOp,a8,Instr.range,aG,Sem.run_bind,run_underlying t1,Result.andThen_ok,r9 bP,Sem.run_pure,run_newObj_alloc]
   ·simp only[R]
    exact ⟨_,_,Ren.lG _ _ _,rfl⟩
  ·cases ad
theorem W0{o:Oper}(af:Rel base ρ h w)(he:du ρ env a){x:Operand}(a8:o.op=.entry x)
  (ad:(match o.dst with
  |some d=>match K4 d A.SD with
   |some (kt,bM)=>(K5 h (aR env x) kt bM).bind fun p=>k (.tuple [kt.un p.1,bM.un p.2]) h
   |none=>none
  |none=>none)=some res)(aQ:fX base ρ w k res o a next):o.e1 ro P a w next Q:=by
 split at ad
 ·split at ad
  ·rename_i kt bM _
   simp only[Option.bind_eq_some_iff]at ad
   obtain⟨p,aa,ad⟩:=ad
   unfold K5 at aa
   have hx:=he.aR x
   split at aa
   ·rename_i fZ ql
    rw[ql]at hx
    split at aa
    ·rename_i mid n seen Mn
     simp only[Option.bind_eq_some_iff]at aa
     obtain⟨i,hi,l,aq,aa⟩:=aa
     obtain⟨aM,aa⟩:=fe aa
     simp only[R]at hx
     obtain⟨bi,UR,cy,dd⟩:=hx
     obtain⟨z_,l9,ep,aD,gd,kh⟩:=af.eF.obj _ _ Mn rfl
     rw[ep]at cy
     cases cy
     simp only[gX]at kh
     obtain⟨tG,fo,rfl⟩:=kh
     obtain⟨rH,HM,aw,aH,aW,bq⟩:=af.eF.obj _ _ (vJ aq) rfl
     obtain rfl:rH=tG:=by rw[aw]at fo;exact (Prod.mk.inj (Option.some.inj fo)).1
     simp only[gX,ho,List.map_map]at bq
     obtain⟨us,rfl,bw,bJ⟩:=bq
     have hlen:us.length=l.length:=by have:=bw.length;simpa using this.symm
     have hS:i<us.length:=by rw[hlen];exact (List.getElem?_eq_some_iff.1 aa).1
     have aM:us.length=n:=by rw[hlen,aM]
     ·have adK:seen.toArray=(seen.dropLast.toArray).push i:=by
       obtain⟨s,rfl⟩:=List.getLast?_eq_some_iff.1 hi
       simp
      have e6:fV us[i] i∈(dR us).toList:=by
       rw[qU]
       exact List.mem_map.2 ⟨(us[i],i),List.mem_zipIdx_iff_getElem?.2 (by simp[hS]),rfl⟩
      have abb:((dR us).toList.map (·.born)).Nodup:=by
       rw[qU,List.map_map]
       have:((fun x:MapEntry=>x.born)∘fun p:(Value×Value)×Nat=>fV p.1 p.2)=Prod.snd:=rfl
       rw[this]
       simp[List.zipIdx_eq_zip_range',List.map_snd_zip,List.nodup_range']
      have cV:=run_entry_at (P:=P) w bi rH n seen.dropLast.toArray (dR us) us.length (fV us[i] i) (by rw[gd,adK,aM];rfl) aW e6 abb
      refine dX (val:=.tuple #[us[i].1,us[i].2]) (ay:=w) ?_ (aQ.same af ?_ ad)
      ·simp only[execOp,a8,dd,Sem.run_bind,cV,Result.andThen_ok,Sem.run_pure]
       rfl
      ·simp only[R]
       refine⟨[us[i].1,us[i].2],rfl, ?_⟩
       simp only[cm]
       refine⟨_,_,rfl,(pR.1 bw).2 i _ _ (by rw[List.getElem?_map,aa];rfl) (by rw[List.getElem?_map,List.getElem?_eq_getElem hS];rfl),_,_,rfl,(pR.1 bJ).2 i _ _ (by rw[List.getElem?_map,aa];rfl) (by rw[List.getElem?_map,List.getElem?_eq_getElem hS];rfl),rfl⟩
    ·cases aa
   ·cases aa
  ·cases ad
 ·cases ad
theorem VT{o:Oper}(bt:eT P T)(hG:ob P base ρ T.dg.l8)(af:Rel base ρ h w)(he:du ρ env a){at_:Option Nat}(gG:∀i,at_=some i→h.m i=.fresh∧i<h.next)
  (ad:gO P T A o at_ env h k=some res)(aQ:fX base ρ w k res o a next):o.e1 ro P a w next Q:=by
 unfold gO at ad
 split at ad
 ·rename_i x a8;exact PR af he (.inl a8) ad aQ
 ·rename_i x a8;exact PR af he (.inr a8) ad aQ
 ·rename_i c x y a8;exact XP af he a8 ad aQ
 ·rename_i e a8;exact WR af gG a8 ad aQ
 ·rename_i e x a8;exact Y0 af he gG a8 ad aQ
 ·rename_i t ps a8;exact WS af he a8 ad aQ
 ·rename_i t n ps a8;exact Ve af he gG a8 ad aQ
 ·rename_i t x a8;exact XO af he a8 ad aQ
 ·rename_i t x y a8;exact WT af he a8 ad aQ
 ·rename_i x a8;exact Vw af he a8 ad aQ
 ·rename_i op t x y ea a8;exact WU af he a8 ad aQ
 ·rename_i op t x a8;exact XQ af he a8 ad aQ
 ·rename_i src dst x a8;exact VN af he a8 ad aQ
 ·rename_i f first cs a8
  split at ad
  ·rename_i ak
   have ll:first= #[]:=by apply Array.ext';simpa using ak
   subst ll
   exact Vx af he a8 ad aQ
  ·cases ad
 ·rename_i t l c a8;exact Vm af he gG a8 ad aQ
 ·rename_i t x lo hi ju a8;exact WX af he a8 ad aQ
 ·rename_i t x f a8;exact Vn af he a8 ad aQ
 ·rename_i t x f a8;exact WV af he a8 ad aQ
 ·rename_i t x y a8;exact Vo af he a8 ad aQ
 ·rename_i t x y a8;exact WW af he a8 ad aQ
 ·rename_i x i a8;exact VO af he a8 ad aQ
 ·rename_i t r a8;exact VQ af ad a8 aQ
 ·rename_i t m x c a8;exact Wb af he ad a8 aQ
 ·rename_i t m x y a8;exact Vr af he a8 ad aQ
 ·rename_i t m x a8;exact Vz af he a8 ad aQ
 ·rename_i t m i y a8;exact Vg af he a8 ad aQ
 ·rename_i t m a8;exact WZ af he a8 ad aQ
 ·rename_i x a8;exact W0 af he a8 ad aQ
 ·rename_i c a8
  obtain⟨callee,args,ts⟩:=c
  cases callee with
  |value f=>exact XS bt hG af he a8 ad aQ
  |builtin b=>
   by_cases aE:b=.len
   ·subst aE
    simp only at ad
    cases fQ:(A.wS.any fun t=>o.dst==some t)with
    |false=>rw[fQ]at ad;exact Oq af he gG a8 ad aQ
    |true=>rw[fQ]at ad;exact Wc af he a8 ad aQ
   ·exact Oq af he gG a8 (by cases b<;>first |exact absurd rfl aE|exact ad) aQ
  |invoke _ _=>cases ad
 ·cases ad
end step
end Go.Proofs.YtlphgijokknjhaaGreat.Ev
namespace Go.Proofs.YtlphgijokknjhaaGreat.Ev
open Go Go.RowKit
section nat
variable{P:Program}{T:Table}{A:fw}{α:Type}
theorem kY{p:Prop}[Decidable p]{β γ:Type}(x:Option β)(f:β→Option γ):(aJ p x).bind f=aJ p (x.bind f):=by unfold aJ;split<;>rfl
theorem PU{b:Bool}{β γ:Type}(x y:Option β)(f:β→Option γ):(cond b x y).bind f=cond b (x.bind f) (y.bind f):=by cases b<;>rfl
theorem W1 (op:BinOp)(eb:IntKind)(x:Int)(kf:IntKind)(y:Int)(k:V→Option α):yO op eb x kf y k=(yO op eb x kf y some).bind k:=by
 cases op<;>simp only[yO]<;>(try split)<;>simp[kY]
theorem W2(op:BinOp)(x y:ByteArray)(k:V→Option α):yP op x y k=(yP op x y some).bind k:=by
 cases op<;>simp[yP]
theorem Jp(op:BinOp)(t:TypeId)(x y:V)(k:V→Option α):uI P op t x y k=(uI P op t x y some).bind k:=by
 unfold uI
 split
 ·exact W1 ..
 ·exact W2 ..
 ·cases isBool P t<;>cases op<;>simp
 ·generalize ((isSlice P t).isSome&&_)=g;cases g<;>cases op<;>simp
 ·split
  ·generalize (fits _ _&&fits _ _)=g
   cases g<;>cases op<;>simp[Option.bind_assoc]
  ·rfl
 ·rfl
theorem JG(op:UnOp)(x:V)(k:V→Option α):wQ op x k=(wQ op x some).bind k:=by
 unfold wQ;split<;>simp
theorem OJ(v:Option V)(d:Nat){β:Type}(k:Int→Option α)(f:α→Option β):(pL v d k).bind f=pL v d fun n=>(k n).bind f:=by
 unfold pL;split<;>simp
theorem yf(size:Nat)(v:V)(l c:Nat)(gZ:Bool)(lo hi ju:Option V)(k:V→Option α):ra size v l c gZ lo hi ju k=(ra size v l c gZ lo hi ju some).bind k:=by
 unfold ra
 split
 ·simp[OJ,kY]
 ·split
  ·rfl
  ·simp[OJ,kY]
theorem Wf(t:TypeId)(v:V)(k:V→Option α):BW P t v k=(BW P t v some).bind k:=by
 unfold BW;split<;>simp[Option.bind_assoc]
theorem W3(t:TypeId)(v:V)(k:V→Option α):yQ P t v k=(yQ P t v some).bind k:=by
 unfold yQ;split<;>simp[Option.bind_assoc]
theorem vw(b:Bool)(t:TypeId)(v:V)(k:V→Option α):q_ b P t v k=(q_ b P t v some).bind k:=by
 cases b
 ·exact W3 t v k
 ·exact Wf t v k
theorem Fv(h:H)(at_:Option Nat)(cs:List V)(e g:Nat){β:Type}(k:V→H→Option α)(f:α→Option β):(newAt h at_ cs e g k).bind f=newAt h at_ cs e g fun v h=>(k v h).bind f:=by
 unfold newAt;split<;>rfl
theorem Bs(t:TypeId)(v:V){β:Type}(k:List V→Option α)(f:α→Option β):(mY P t v k).bind f=mY P t v fun cs=>(k cs).bind f:=by
 unfold mY
 split
 ·exact kY ..
 ·split<;>rfl
 ·rfl
theorem W4(ts:Array TypeId)(args:List V)(h:H)(k:V→H→Option α):
  vN P ts args h k=(vN P ts args h fun v h=>some (v,h)).bind fun p=>k p.1 p.2:=by
 unfold vN
 split
 ·split
  ·rw[Option.bind_assoc];rfl
  ·rfl
 ·rfl
theorem Od (b:Builtin)(ts:Array TypeId)(at_:Option Nat)(args:List V)(h:H)(k:V→H→Option α):
  lF P b ts at_ args h k=(lF P b ts at_ args h fun v h=>some (v,h)).bind fun p=>k p.1 p.2:=by
 unfold lF
 split
 ·split
  ·split<;>rfl
  ·rfl
 ·split
  ·rename_i u _
   generalize ((isSlice P u).isSome&&!_)=b
   cases b<;>rfl
  ·rfl
 ·rfl
 ·rfl
 ·rfl
 ·rfl
 ·split
  ·split
   ·split
    ·split
     ·split
      ·simp[Option.bind_assoc]
      ·rfl
     ·rfl
    ·rfl
   ·rfl
  ·rfl
 ·split
  ·split
   ·split
    ·rw[Option.bind_assoc]
     congr 1
     funext c
     split
     ·rfl
     ·simp[Option.bind_assoc]
    ·rfl
   ·rfl
  ·rfl
 ·split
  ·split
   ·split
    ·simp[Option.bind_assoc]
    ·rfl
   ·rfl
  ·rfl
 ·rfl
theorem XT{T:oa}(bt:y4 P T)(v:V)(args:List V)(h:H)(k:V→H→Option α):eE T v args h k=(eE T v args h fun v h=>some (v,h)).bind fun p=>k p.1 p.2:=by
 unfold eE
 split
 ·rename_i g cs
  obtain⟨⟨r,af⟩,_⟩:=bt.1 g (args++cs) h
  rw[af,af]
  cases r<;>simp
 ·rename_i id
  obtain⟨r,af⟩:=bt.2.2 (.hR id::args) h
  rw[af,af]
  cases r<;>simp
 ·rfl
theorem PV{q y:Bool}{T:oa}(bt:y4 P T)(v:V)(args:List V)(h:H)(k:V→H→Option α):m3 q y T v args h k=(m3 q y T v args h fun v h=>some (v,h)).bind fun p=>k p.1 p.2:=by
 cases q with
 |false=>
  cases y with
  |false=>exact XT bt v args h k
  |true=>
   simp only[m3,cond_true,cond_false]
   cases v<;>simp only[Ga,Option.bind_none]
   rename_i g cs
   cases(T.fn g).free with
   |false=>rfl
   |true=>
    obtain⟨⟨r,af⟩,_⟩:=bt.1 g (args++cs) h
    simp only[cond_true]
    rw[af,af]
    cases r<;>simp
 |true=>
  simp only[m3,cond_true]
  cases v<;>simp only[F_,Option.bind_none]
  rename_i g cs
  cases(T.fn g).quiet with
  |false=>rfl
  |true=>
   obtain⟨⟨r,af⟩,_⟩:=bt.1 g (args++cs) h
   simp only[cond_true]
   rw[af,af]
   cases r<;>simp
theorem IT(bt:eT P T)(o:Oper)(at_:Option Nat)(env:Env)(h:H)(k:V→H→Option α):
  gO P T A o at_ env h k=(gO P T A o at_ env h fun v h=>some (v,h)).bind fun p=>k p.1 p.2:=by
 unfold gO
 split
 ·rfl
 ·rfl
 ·split
  ·rfl
  ·rename_i b _ _
   cases b<;>simp
  ·rfl
 ·simp[Option.bind_assoc,Fv]
 ·rw[Bs]
  congr 1;funext cs
  rw[PU]
  simp[Fv]
 ·split
  ·simp[Option.bind_assoc]
  ·rfl
 ·split
  ·split
   ·simp only[Option.bind_assoc,kY]
    congr 1;funext iO
    congr 1;funext cs
    congr 1
    rw[PU]
    simp[Fv]
   ·rfl
  ·rfl
 ·split
  ·simp[Option.bind_assoc]
  ·rfl
 ·split
  ·rw[Bs]
   congr 1;funext vs
   split
   ·simp[Option.bind_assoc]
   ·rfl
  ·rfl
 ·rw[kY];rfl
 ·rw[Jp,Jp (k:=fun v=>some (v,h)),Option.bind_assoc];simp
 ·rw[JG,JG (k:=fun v=>some (v,h)),Option.bind_assoc];simp
 ·rename_i src dst x _
  cases(P.underlying src).isNone
  ·simp only[cond_false]
   split
   ·rfl
   ·split<;>rfl
   ·rfl
  ·rfl
 ·split<;>rfl
 ·split
  ·split
   ·simp[kY,Fv]
   ·rfl
  ·rfl
 ·split
  ·split
   ·split
    ·rw[yf,yf (k:=fun v=>some (v,h)),Option.bind_assoc];simp
    ·rfl
   ·rfl
  ·split
   ·split
    ·rw[kY]
     congr 1
     rw[yf,yf (k:=fun v=>some (v,h)),Option.bind_assoc];simp
    ·rfl
   ·rfl
 ·split
  ·split
   ·rw[kY];rfl
   ·rfl
  ·rfl
 ·split
  ·simp[Option.bind_assoc]
  ·rfl
 ·split
  ·split
   ·split
    ·rw[kY];rfl
    ·rfl
   ·rfl
  ·split
   ·split
    ·rw[kY];rfl
    ·rfl
   ·rfl
 ·split
  ·split
   ·split
    ·rw[kY];simp[Option.bind_assoc]
    ·rfl
   ·rfl
  ·split
   ·rw[kY];rfl
   ·rfl
  ·rfl
 ·split
  ·simp[Option.bind_assoc]
  ·rfl
 ·split
  ·split
   ·rfl
   ·split<;>rfl
  ·rfl
 ·split
  ·split
   ·rw[kY]
    congr 1
    split
    ·rfl
    ·simp[Option.bind_assoc]
   ·rfl
  ·split
   ·simp[Option.bind_assoc]
   ·rfl
 ·split
  ·split
   ·rw[kY]
    congr 1
    split
    ·rfl
    ·simp[Option.bind_assoc]
   ·rfl
  ·split
   ·simp[Option.bind_assoc]
   ·rfl
 ·split
  ·rfl
  ·split
   ·simp[Option.bind_assoc]
   ·rfl
 ·split
  ·rfl
  ·split
   ·simp[Option.bind_assoc]
   ·rfl
 ·split
  ·rfl
  ·split
   ·simp[Option.bind_assoc]
   ·rfl
 ·split
  ·split
   ·simp[Option.bind_assoc]
   ·rfl
  ·rfl
 ·split
  ·rw[PV (bt.at _),PV (bt.at _) (k:=fun v ar=>q_ (A.CU.any fun t=>o.dst==some t) P o.type v fun v=>some (v,ar)),Option.bind_assoc]
   congr 1;funext p
   rw[vw,vw (k:=fun v=>some (v,p.2)),Option.bind_assoc];simp
  ·cases(A.wS.any fun t=>o.dst==some t)with
   |true=>exact W4 ..
   |false=>exact Od ..
  ·exact Od ..
  ·rfl
 ·rfl
end nat
end Go.Proofs.YtlphgijokknjhaaGreat.Ev
